/-
  BacklogKept returns true for every list of operations. No condition.
-/
import Derived.Test.YtoidpcmcbmioiaaRows
import Derived.Test.YtoidpcmcbmioiaaBklI
namespace Go.Proofs.Ytoidpcmcbmioiaa
open Go.Eng Go.RowKit

theorem idxI_any {K : Kn} {Hs : List Hl} {L : List (Vec 32)} {ad : Option Addr} {n c : Nat} {w : World} (a : Vec 32) (hs : Sat K w Hs) [hrd : Rd encV 32 K Hs (.slice ad n c) L] (hn : n ≤ 9223372036854775807) :
    Ret Try.prog 50 #[.slice ad n c, idV a.1] w fun v w' => v = .int .i64 (idxP (fun y => decide (a = y)) L) ∧ Sat K w' Hs := by
  have hln := hrd.len
  have e1 := encV_len a
  refine Ret.enter (n := 19) (args := [.slice ad n c, idV a.1]) Try.func50 rfl rfl ?_
  refine C.keep [(0, _), (1, _)] ⟨rfl, rfl, trivial⟩ ?_
  refine C.seq ?_
  refine C.region ?_
  refine R.sboxA hs rfl rfl ?_
  intro b3 w3 hs
  refine R.ev rfl (E.assign rfl) ?_
  refine R.done ?_
  refine X.keep [(0, _), (3, _)] ⟨rfl, rfl, trivial⟩ ?_
  refine X.next ?_
  refine C.seq ?_
  refine C.seq ?_
  refine C.region ?_
  refine R.ev rfl (E.move rfl) ?_
  refine R.ev rfl (E.lenSl rfl Try.underlying40) ?_
  refine R.ev rfl (E.move rfl) ?_
  refine R.done ?_
  refine X.keep [(0, _), (3, _), (7, _), (8, _)] ⟨rfl, rfl, rfl, rfl, trivial⟩ ?_
  refine X.next ?_
  refine C.block ?_
  refine C.loop  [(0, _), (3, _), (7, _)] (fun k => [(8, .int .i64 (k : Nat))]) (fun k w' => k ≤ n ∧ Sat K w' (row b3 30 (a.1.map ub) :: Hs) ∧ ∀ j, j < k → ∀ y, L[j]? = some y → decide (a = y) = false) (fun k => n - k) (0) ⟨rfl, rfl, rfl, rfl, trivial⟩ ⟨Nat.zero_le _, hs, fun j h => by omega⟩ ?_
  rintro k w1 ⟨hk, hs, hno⟩
  refine C.keep [(0, _), (3, _), (7, _), (8, _)] ⟨rfl, rfl, rfl, rfl, trivial⟩ ?_
  refine C.seq ?_
  refine C.region ?_
  refine R.ev rfl (E.lss rfl rfl) ?_
  refine R.done ?_
  refine X.keep [(0, _), (3, _), (7, _), (8, _), (9, _)] ⟨rfl, rfl, rfl, rfl, rfl, trivial⟩ ?_
  refine X.next ?_
  refine C.seq ?_
  refine C.cdec rfl (fun h9 => ?_) (fun h9 => ?_)
  · obtain ⟨y, bk_y, of_y, hy, my, ly, rfl, Ay⟩ := hs.el (i := k) (ad := ad) (n := n) (c := c) (by omega)
    have ay := Ay _ hs
    refine C.skip ?_
    refine X.next ?_
    refine C.seq ?_
    refine C.block ?_
    refine C.seq ?_
    refine C.region ?_
    refine R.ev rfl (E.move rfl) ?_
    refine R.ev rfl (E.assign rfl) ?_
    refine R.done ?_
    refine X.keep [(0, _), (3, _), (5, _), (7, _), (8, _)] ⟨rfl, rfl, rfl, rfl, rfl, trivial⟩ ?_
    refine X.next ?_
    refine C.seq ?_
    refine C.drawn (SatS hs) ([0, 4], [1, 2, 3, 5]) (by kernel_rfl) ?_
    have hs := hs.drew
    refine D.evP 1 rfl (by kernel_rfl) rfl (fun _ => hs.to) (fun _ => E.move rfl) ?_
    refine D.evP 2 rfl (by kernel_rfl) rfl (fun _ => hs.to) (fun _ => E.move rfl) ?_
    refine D.evP 3 rfl (by kernel_rfl) rfl (fun _ => hs.to) (fun _ => E.indexAddr rfl rfl Try.underlying40 Try.sz30 rfl (by first | omega | decide)) ?_
    refine D.ev 0 rfl (by kernel_rfl) rfl hs.to (fun _ hS => E.loadRowC rfl Try.underlying30 rfl Try.sz30 (by first | exact ⟨hS.ldA, by first | rfl | assumption | exact encV_len _ | exact Enc.len _ | exact len_ub (by assumption)⟩ | exact ⟨hS.ldP rfl, by first | rfl | assumption | exact encV_len _ | exact Enc.len _ | exact len_ub (by assumption)⟩ | exact ⟨hS.ldM rfl rfl, by first | rfl | assumption | exact encV_len _ | exact Enc.len _ | exact len_ub (by assumption)⟩ | exact ⟨hS.ldM (by assumption) (by first | rfl | assumption), by first | rfl | assumption | exact encV_len _ | exact Enc.len _ | exact len_ub (by assumption)⟩ | exact ⟨by assumption, by first | rfl | assumption | exact encV_len _ | exact Enc.len _ | exact len_ub (by assumption)⟩ | exact ⟨(by assumption : ∀ w', Sat _ w' _ → At w' _ _ _) _ hS, by first | rfl | assumption | exact encV_len _ | exact Enc.len _ | exact len_ub (by assumption)⟩ | exact hS.ldp | exact At.partC (by assumption) | exact At.partC ((by assumption : ∀ w', Sat _ w' _ → At w' _ _ _) _ hS))) ?_
    refine D.ev 4 rfl (by kernel_rfl) rfl hs.to (fun _ hS => E.loadRow rfl Try.underlying30 rfl Try.sz30 (Ay _ hS) ly) ?_
    first | refine D.evP 5 rfl (by kernel_rfl) rfl (fun _ => hs.to) (fun _ => E.eqV 10 rfl rfl Try.lv30 rfl Try.underlying30 rfl Try.gd30) ?_ | refine D.evP 5 rfl (by kernel_rfl) rfl (fun _ => hs.to) (fun _ => E.eqId 10 32 rfl rfl Try.lv30 rfl Try.underlying30 rfl Try.gd30 (by assumption) (by assumption)) ?_
    refine D.done rfl (by kernel_rfl) ?_
    refine X.keep [(0, _), (3, _), (5, _), (7, _), (8, _), (16, _)] ⟨rfl, rfl, rfl, rfl, rfl, rfl, trivial⟩ ?_
    refine X.next ?_
    refine C.cbool rfl (fun h16 => ?_) (fun h16 => ?_)
    · refine C.seq ?_
      refine C.region ?_
      refine R.ev rfl (E.move rfl) ?_
      refine R.ev rfl (E.assign rfl) ?_
      refine R.done ?_
      refine X.keep [(4, _)] ⟨rfl, trivial⟩ ?_
      refine X.next ?_
      refine C.ret ?_
      refine X.blockRet ?_
      refine X.thenRet ?_
      refine X.loopRet ?_
      refine X.blockRet ?_
      refine X.thenRet ?_
      refine X.ret1 rfl rfl ?_
      exact ⟨by rw [idxP_some (p := fun y => decide (a = y)) hy h16 hno], hs.to⟩
    · refine C.skip ?_
      refine X.blockNormal ?_
      refine X.next ?_
      refine C.region ?_
      refine R.ev rfl (E.add rfl rfl (by omega) (by omega)) ?_
      refine R.ev rfl (E.move rfl) ?_
      refine R.done ?_
      refine X.keep [(0, _), (3, _), (7, _), (8, _)] ⟨rfl, rfl, rfl, rfl, trivial⟩ ?_
      exact X.again (k + 1) ⟨rfl, rfl, rfl, rfl, trivial⟩ ⟨by omega, hs, idxP_step (p := fun y => decide (a = y)) hy h16 hno⟩ (by omega)
  · refine C.exit ?_
    refine X.thenExit ?_
    refine X.loopExit ?_
    refine X.blockExit ?_
    refine X.next ?_
    refine C.seq ?_
    refine C.region ?_
    refine R.ev rfl (E.assign rfl) ?_
    refine R.done ?_
    refine X.keep [(4, _)] ⟨rfl, trivial⟩ ?_
    refine X.next ?_
    refine C.ret ?_
    refine X.ret1 rfl rfl ?_
    exact ⟨by rw [idxP_none (p := fun y => decide (a = y)) hno (by omega)], hs.to⟩
theorem containsI_any {K : Kn} {Hs : List Hl} {L : List (Vec 32)} {v : Value} {w : World} (a : Vec 32) (hs : Sat K w Hs) [hrd : Rd encV 32 K Hs v L] (hn : L.length ≤ 9223372036854775807) :
    Ret Try.prog 23 #[v, idV a.1] w fun v w' => v = .bool (decide (a ∈ L)) ∧ Sat K w' Hs := by
  obtain ⟨ad, c, rfl, _⟩ := hrd.ex
  have e1 := encV_len a
  refine Ret.enter (n := 9) (args := [.slice ad L.length c, idV a.1]) Try.func23 rfl rfl ?_
  refine C.keep [(0, _), (1, _)] ⟨rfl, rfl, trivial⟩ ?_
  refine C.seq ?_
  refine C.region ?_
  refine R.sboxA hs rfl rfl ?_
  intro b3 w3 hs
  refine R.ev rfl (E.assign rfl) ?_
  refine R.done ?_
  refine X.keep [(0, _), (3, _)] ⟨rfl, rfl, trivial⟩ ?_
  refine X.next ?_
  refine C.seq ?_
  refine C.region ?_
  refine R.ev rfl (E.move rfl) ?_
  refine R.ev rfl (E.loadRowC rfl Try.underlying30 rfl Try.sz30 (by first | exact ⟨hs.ldA, by first | rfl | assumption | exact encV_len _ | exact Enc.len _ | exact len_ub (by assumption)⟩ | exact ⟨hs.ldP rfl, by first | rfl | assumption | exact encV_len _ | exact Enc.len _ | exact len_ub (by assumption)⟩ | exact ⟨hs.ldM rfl rfl, by first | rfl | assumption | exact encV_len _ | exact Enc.len _ | exact len_ub (by assumption)⟩ | exact ⟨hs.ldM (by assumption) (by first | rfl | assumption), by first | rfl | assumption | exact encV_len _ | exact Enc.len _ | exact len_ub (by assumption)⟩ | exact ⟨by assumption, by first | rfl | assumption | exact encV_len _ | exact Enc.len _ | exact len_ub (by assumption)⟩ | exact hs.ldp | exact At.partC (by assumption))) ?_
  refine R.call ⟨_, _, Try.func50, rfl, by kernel_rfl⟩ rfl rfl (idxI_any a hs hn) ?_
  rintro _ w1 ⟨rfl, hs⟩
  refine R.ev rfl ((E.geq rfl rfl).isB (c := decide (a ∈ L)) (by rw [decide_eq_decide, idxP_nonneg_iff]; constructor; rintro ⟨y, hy, h⟩; (have := of_decide_eq_true h; subst this; exact hy); exact fun h => ⟨a, h, by simp⟩)) ?_
  refine R.ev rfl (E.assign rfl) ?_
  refine R.done ?_
  refine X.keep [(4, _)] ⟨rfl, trivial⟩ ?_
  refine X.next ?_
  refine C.ret ?_
  refine X.ret1 rfl rfl ?_
  exact ⟨rfl, hs.to⟩
/-- as long as k operations have been carried out -/
structure KInv (k : Nat) (s : Bk) : Prop where
  wait : s.wait = 2
  has : has (vid 200) s.L = true
  len : s.L.length ≤ k + 1
  ent : ∀ e ∈ s.L, 0 ≤ e.tries ∧ e.tries ≤ k ∧ e.due ≤ 105190559
theorem KInv.up {k : Nat} {s : Bk} (h : KInv k s) : KInv (k + 1) s := ⟨h.wait, h.has, by have := h.len; omega, fun e he => by have := h.ent e he; omega⟩
theorem KInv.off {k : Nat} {s : Bk} (h : KInv k s) (a : Vec 32) : KInv (k + 1) (offS s a) := by
  have := h.up
  unfold offS; split
  · exact ⟨this.wait, this.has, this.len, this.ent⟩
  · exact this
theorem KInv.add {k : Nat} {s : Bk} (h : KInv k s) (a : Vec 32) : KInv (k + 1) (addS s a 6) := by
  have hu := h.up
  rcases add_cases s a 6 (by decide) with ⟨_, _, _, _, e⟩ | ⟨_, h1, h2, h3, e⟩ | ⟨_, _, e⟩ | ⟨_, _, _, e⟩ <;> rw [e]
  · exact ⟨hu.wait, hu.has, hu.len, hu.ent⟩
  · refine ⟨hu.wait, has_iff.2 ?_, by simp; exact h.len, fun x hx => ?_⟩
    · simp only [List.map_append, List.mem_append]; exact .inl (has_iff.1 h.has)
    · rcases List.mem_append.1 hx with hx | hx
      · exact hu.ent x hx
      · simp at hx; subst hx; simp; omega
  · exact hu
  · exact hu
theorem KInv.lat {k : Nat} {s : Bk} (h : KInv k s) : KInv (k + 1) (latS s (vid 200) 7) := by
  have hu := h.up
  unfold latS
  split
  · have e1 : (remS s (vid 200)).L = remL (vid 200) s.L := by simp [remS, h.has]
    have e2 : (remS s (vid 200)).wait = s.wait := by unfold remS; split <;> rfl
    have hl := (remL_sub (vid 200) s.L).length_le
    refine ⟨by rw [e2]; exact h.wait, has_iff.2 (by simp), by simp only [List.length_append, e1, List.length_cons, List.length_nil]; have := h.len; omega, fun x hx => ?_⟩
    rcases List.mem_append.1 hx with hx | hx
    · rw [e1] at hx; exact hu.ent x ((remL_sub _ _).subset hx)
    · simp at hx; subst hx
      have ht : 0 ≤ triesOf s (vid 200) ∧ triesOf s (vid 200) ≤ k := by
        unfold triesOf
        split
        · rename_i e he; have := h.ent e (List.mem_of_find?_eq_some he); omega
        · omega
      simp only [h.wait]; omega
  · exact hu
theorem kept_walk (w : World) (v0 : Value) (a0 : ArgV Try.prog w 22 v0) : Ret Try.prog 4 #[v0] w fun r w' => r = .bool true ∧ Mod [] w w' := by
  obtain ⟨ad, cap, ops, rfl, hc, hcm, hr, hok⟩ := argv_ops a0
  unfold maxLen at hcm
  have hs := Sat.start w
  refine Ret.enter (n := 77) (args := [.slice ad ops.length cap]) Try.func4 rfl rfl ?_
  refine C.keep [(0, _)] ⟨rfl, trivial⟩ ?_
  refine C.seq ?_
  refine C.region ?_
  refine R.ev rfl (E.assign rfl) ?_
  refine R.done ?_
  refine X.keep [(0, _)] ⟨rfl, trivial⟩ ?_
  refine X.next ?_
  refine C.seq ?_
  refine C.seq ?_
  refine C.region ?_
  refine R.call ⟨_, _, Try.func12, rfl, by kernel_rfl⟩ rfl rfl (known_any hs) ?_
  rintro _ w1 ⟨rfl, hs⟩
  refine R.ev rfl (E.notT rfl) ?_
  refine R.ev rfl (E.move rfl) ?_
  refine R.gyes rfl rfl ?_
  refine R.ev rfl (E.move rfl) ?_
  refine R.gyes rfl rfl ?_
  refine R.call ⟨_, _, Try.func13, rfl, by kernel_rfl⟩ rfl rfl (small_any hs (by omega)) ?_
  rintro _ w2 ⟨rfl, hs⟩
  refine R.gyes rfl rfl ?_
  refine R.ev rfl ((E.not rfl).isB (c := !(smallB ops)) rfl) ?_
  refine R.ev rfl (E.pickF rfl rfl) ?_
  refine R.done ?_
  refine X.keep [(0, _), (13, _)] ⟨rfl, rfl, trivial⟩ ?_
  refine X.next ?_
  refine C.cbool rfl (fun h13 => ?_) (fun h13 => ?_)
  · refine C.seq ?_
    refine C.region ?_
    refine R.call ⟨_, _, Try.func12, rfl, by kernel_rfl⟩ rfl rfl (known_any hs) ?_
    rintro _ w2 ⟨rfl, hs⟩
    refine R.ev rfl (E.assign rfl) ?_
    refine R.done ?_
    refine X.keep [(2, _)] ⟨rfl, trivial⟩ ?_
    refine X.next ?_
    refine C.ret ?_
    refine X.thenRet ?_
    refine X.ret1 rfl rfl ?_
    exact ⟨rfl, hs.mod⟩
  · refine C.skip ?_
    refine X.next ?_
    refine C.seq ?_
    refine C.region ?_
    have hsm : smallB ops = true := by simpa using h13
    have hol : ops.length ≤ 40 := by simp [smallB] at hsm; omega
    refine R.call ⟨_, _, Try.func14, rfl, by kernel_rfl⟩ rfl rfl (new_any 100 2 hs) ?_
    rintro _ w4 (⟨h, _⟩ | ⟨_, p, F, rfl, hw, hs⟩)
    · exact absurd h (by decide)
    refine R.ev rfl (E.move rfl) ?_
    refine R.ev rfl (E.extract rfl rfl) ?_
    refine R.ev rfl (E.extract rfl rfl) ?_
    refine R.ev rfl (E.assign rfl) ?_
    refine R.ev rfl (E.assign rfl) ?_
    refine R.done ?_
    refine X.keep [(0, _), (3, _), (4, _)] ⟨rfl, rfl, rfl, trivial⟩ ?_
    refine X.next ?_
    refine C.seq ?_
    refine C.seq ?_
    refine C.region ?_
    refine R.ev rfl (E.move rfl) ?_
    refine R.ev rfl ((E.neq rfl rfl).isF (by decide)) ?_
    refine R.ev rfl (E.move rfl) ?_
    refine R.gyes rfl rfl ?_
    refine R.ev rfl (E.move rfl) ?_
    refine R.gyes rfl rfl ?_
    refine R.ev rfl ((E.buildA rfl Try.underlying30 Try.zr30 Try.sz5 rfl).as (u := .agg (encV (vid 200)).toArray) (by rfl)) ?_
    refine R.gyes rfl rfl ?_
    refine R.call ⟨_, _, Try.func15, rfl, by kernel_rfl⟩ rfl rfl (add_any (vid 200) 5 (hs.front (F := F)) (by decide)) ?_
    rintro _ w5 ⟨rfl, F5, hw5, hs1⟩
    have hs := hs.back (F := F) hs1
    have hw5 : BkL p ⟨100, 2, false, [⟨vid 200, 5, 0⟩], []⟩ F5 := hw5
    refine R.gyes rfl rfl ?_
    refine R.ev rfl ((E.neq rfl rfl).isF (by decide)) ?_
    refine R.ev rfl (E.pickF rfl rfl) ?_
    refine R.done ?_
    refine X.keep [(0, _), (3, _), (26, _)] ⟨rfl, rfl, rfl, trivial⟩ ?_
    refine X.next ?_
    refine C.cfalse rfl ?_
    refine C.skip ?_
    refine X.next ?_
    refine C.seq ?_
    refine C.seq ?_
    refine C.region ?_
    refine R.ev rfl (E.assign rfl) ?_
    refine R.done ?_
    refine X.keep [(0, _), (3, _), (5, _)] ⟨rfl, rfl, rfl, trivial⟩ ?_
    refine X.next ?_
    refine C.block ?_
    refine C.loop (T := Nat × Bk × Hl) [(0, _), (3, _)] (fun (k, _, _) => [(5, .int .i64 (k : Nat))]) (fun (k, s, F') w' => k ≤ ops.length ∧ KInv k s ∧ BkL p s F' ∧ Sat (Kn.of w) w' (F' :: [])) (fun (k, _) => ops.length - k) ((0, ⟨100, 2, false, [⟨vid 200, 5, 0⟩], []⟩, F5)) ⟨rfl, rfl, rfl, trivial⟩ ⟨by omega, ⟨rfl, by decide, by decide, by decide⟩, hw5, hs⟩ ?_
    rintro ⟨k, s, F1⟩ w1 ⟨hk, hinv, hw1, hs⟩
    have hlen := hinv.len
    refine C.keep [(0, _), (3, _), (5, _)] ⟨rfl, rfl, rfl, trivial⟩ ?_
    refine C.seq ?_
    refine C.seq ?_
    refine C.region ?_
    refine R.ev rfl (E.move rfl) ?_
    refine R.ev rfl (E.move rfl) ?_
    refine R.ev rfl (E.lenSl rfl Try.underlying22) ?_
    refine R.ev rfl (E.lss rfl rfl) ?_
    refine R.done ?_
    refine X.keep [(0, _), (3, _), (5, _), (30, _)] ⟨rfl, rfl, rfl, rfl, trivial⟩ ?_
    refine X.next ?_
    refine C.cdec rfl (fun h30 => ?_) (fun h30 => ?_)
    · obtain ⟨y, bk_y, of_y, hy, my, ly, rfl, Ay⟩ := hs.el (i := k) (ad := ad) (n := ops.length) (c := cap) (by omega)
      have ay := Ay _ hs
      have hinv1 := hinv.up
      have hs0 := hs
      have hpost : ∃ s', KInv (k + 1) s' ∧ (s' = s ∨ True) := ⟨s, hinv1, .inl rfl⟩
      refine C.skip ?_
      refine X.next ?_
      refine C.seq ?_
      refine C.block ?_
      refine C.seq ?_
      refine C.region ?_
      refine R.ev rfl (E.move rfl) ?_
      refine R.ev rfl (E.move rfl) ?_
      refine R.ev rfl (E.indexAddr rfl rfl Try.underlying22 Try.sz33 rfl (by first | omega | decide)) ?_
      first | refine R.ev rfl (E.fieldAddr0 1 rfl Try.underlying33 rfl Try.sz29 rfl) ?_ | refine R.ev rfl (E.fieldAddrN 1 rfl Try.underlying33 rfl Try.sz29 rfl) ?_
      refine R.ev rfl (E.loadRowC rfl Try.underlying29 rfl Try.sz29 (by first | exact ⟨hs.ldA, by first | rfl | assumption | exact encV_len _ | exact Enc.len _ | exact len_ub (by assumption)⟩ | exact ⟨hs.ldP rfl, by first | rfl | assumption | exact encV_len _ | exact Enc.len _ | exact len_ub (by assumption)⟩ | exact ⟨hs.ldM rfl rfl, by first | rfl | assumption | exact encV_len _ | exact Enc.len _ | exact len_ub (by assumption)⟩ | exact ⟨hs.ldM (by assumption) (by first | rfl | assumption), by first | rfl | assumption | exact encV_len _ | exact Enc.len _ | exact len_ub (by assumption)⟩ | exact ⟨by assumption, by first | rfl | assumption | exact encV_len _ | exact Enc.len _ | exact len_ub (by assumption)⟩ | exact hs.ldp | exact At.partC (by assumption))) ?_
      refine R.sallocA hs Try.zr30 rfl ?_
      intro b6 w6 hs
      first | refine R.cstoreAll hs rfl rfl Try.sz30 (by first | rfl | assumption | exact encV_len _ | exact Enc.len _ | exact len_ub (by assumption) | simp [*]) (by first | rfl | assumption | exact encV_len _ | exact Enc.len _ | exact len_ub (by assumption) | simp [*]) (by first | assumption | exact OneL.all | exact Enc.one _ | exact ub_all _ | (repeat' (first | refine List.forall_mem_cons.2 ⟨?_, ?_⟩ | exact List.forall_mem_nil _ | rfl | exact OneC.one | exact KRow.oneC' (by assumption)))) ?_ | refine R.cstore hs rfl rfl Try.sz30 (by first | rfl | assumption | exact encV_len _ | exact Enc.len _ | exact len_ub (by assumption) | simp [*]) (by simp [*]) (by first | assumption | exact OneL.all | exact Enc.one _ | exact ub_all _ | (repeat' (first | refine List.forall_mem_cons.2 ⟨?_, ?_⟩ | exact List.forall_mem_nil _ | rfl | exact OneC.one | exact KRow.oneC' (by assumption)))) ?_
      intro w9_6 hs
      try simp only [List.set_cons_zero, List.set_cons_succ] at hs
      refine R.done ?_
      refine X.keep [(0, _), (3, _), (5, _), (6, _)] ⟨rfl, rfl, rfl, rfl, trivial⟩ ?_
      refine X.next ?_
      refine C.seq ?_
      refine C.seq ?_
      refine C.region ?_
      refine R.ev rfl (E.move rfl) ?_
      refine R.ev rfl (E.move rfl) ?_
      refine R.ev rfl (E.indexAddr rfl rfl Try.underlying22 Try.sz33 rfl (by first | omega | decide)) ?_
      first | refine R.ev rfl (E.fieldAddr0 0 rfl Try.underlying33 rfl Try.sz3 rfl) ?_ | refine R.ev rfl (E.fieldAddrN 0 rfl Try.underlying33 rfl Try.sz3 rfl) ?_
      have ay := hs.elAt (b := bk_y) (off := of_y) (n := ops.length) cap hy _ hs
      refine R.ev rfl (E.load1 rfl Try.underlying3 rfl (by first | exact hs.ldc | exact hs.ld rfl | exact hs.ld (by assumption) | exact by assumption | exact At.cellC (by assumption))) ?_
      refine R.done ?_
      refine X.keep [(0, _), (3, _), (5, _), (6, _), (42, _)] ⟨rfl, rfl, rfl, rfl, rfl, trivial⟩ ?_
      refine X.next ?_
      refine C.block ?_
      refine C.seq ?_
      refine C.region ?_
      refine R.ev rfl (E.eql rfl rfl) ?_
      refine R.ev rfl (E.assign rfl) ?_
      refine R.done ?_
      refine X.keep [(0, _), (3, _), (5, _), (6, _), (42, _), (43, _)] ⟨rfl, rfl, rfl, rfl, rfl, rfl, trivial⟩ ?_
      refine X.next ?_
      refine C.cdec rfl (fun h43 => ?_) (fun h43 => ?_)
      · refine C.region ?_
        refine R.ev rfl (E.move rfl) ?_
        refine R.ev rfl ((E.buildA rfl Try.underlying30 Try.zr30 Try.sz5 rfl).as (u := .agg (encV (vid 200)).toArray) (by rfl)) ?_
        refine R.call ⟨_, _, Try.func20, rfl, by kernel_rfl⟩ rfl rfl (offered_any (vid 200) (hs.front (F := F1))) ?_
        rintro _ w12 ⟨rfl, F12, hw12, hs1⟩
        have hs := hs.back (F := F1) hs1
        have hinv2 := hinv.off (vid 200)
        refine R.done ?_
        refine X.keep [(0, _), (3, _), (5, _)] ⟨rfl, rfl, rfl, trivial⟩ ?_
        refine X.blockNormal ?_
        refine X.next ?_
        refine C.seq ?_
        refine C.region ?_
        refine R.ev rfl (E.move rfl) ?_
        refine R.ev rfl ((E.buildA rfl Try.underlying30 Try.zr30 Try.sz5 rfl).as (u := .agg (encV (vid 200)).toArray) (by rfl)) ?_
        refine R.call ⟨_, _, Try.func18, rfl, by kernel_rfl⟩ rfl rfl (has_any (vid 200) hs) ?_
        rintro _ w21 ⟨h21, hs⟩
        rw [hinv2.has] at h21
        subst h21
        refine R.ev rfl (E.notT rfl) ?_
        refine R.done ?_
        refine X.keep [(0, _), (3, _), (5, _), (70, _)] ⟨rfl, rfl, rfl, rfl, trivial⟩ ?_
        refine X.next ?_
        refine C.cfalse rfl ?_
        refine C.skip ?_
        refine X.blockNormal ?_
        refine X.next ?_
        refine C.region ?_
        refine R.ev rfl (E.move rfl) ?_
        refine R.ev rfl (E.add rfl rfl (by omega) (by omega)) ?_
        refine R.ev rfl (E.assign rfl) ?_
        refine R.done ?_
        refine X.keep [(0, _), (3, _), (5, _)] ⟨rfl, rfl, rfl, trivial⟩ ?_
        exact X.again (k + 1, _, _) ⟨rfl, rfl, rfl, trivial⟩ ⟨by omega, hinv2, hw12, hs.to⟩ (by show _ - _ < _ - _; omega)
      · refine C.seq ?_
        refine C.region ?_
        refine R.ev rfl (E.eql rfl rfl) ?_
        refine R.ev rfl (E.assign rfl) ?_
        refine R.done ?_
        refine X.keep [(0, _), (3, _), (5, _), (6, _), (42, _), (48, _)] ⟨rfl, rfl, rfl, rfl, rfl, rfl, trivial⟩ ?_
        refine X.next ?_
        refine C.cdec rfl (fun h48 => ?_) (fun h48 => ?_)
        · refine C.region ?_
          refine R.ev rfl (E.move rfl) ?_
          refine R.call ⟨_, _, Try.func21, rfl, by kernel_rfl⟩ rfl rfl (drop_any (hs.front (F := F1))) ?_
          rintro _ w14 ⟨rfl, F12, hw12, hs1⟩
          have hs := hs.back (F := F1) hs1
          have hinv2 : KInv (k + 1) { s with M := [] } := ⟨hinv1.wait, hinv1.has, hinv1.len, hinv1.ent⟩
          refine R.done ?_
          refine X.keep [(0, _), (3, _), (5, _)] ⟨rfl, rfl, rfl, trivial⟩ ?_
          refine X.blockNormal ?_
          refine X.next ?_
          refine C.seq ?_
          refine C.region ?_
          refine R.ev rfl (E.move rfl) ?_
          refine R.ev rfl ((E.buildA rfl Try.underlying30 Try.zr30 Try.sz5 rfl).as (u := .agg (encV (vid 200)).toArray) (by rfl)) ?_
          refine R.call ⟨_, _, Try.func18, rfl, by kernel_rfl⟩ rfl rfl (has_any (vid 200) hs) ?_
          rintro _ w21 ⟨h21, hs⟩
          rw [hinv2.has] at h21
          subst h21
          refine R.ev rfl (E.notT rfl) ?_
          refine R.done ?_
          refine X.keep [(0, _), (3, _), (5, _), (70, _)] ⟨rfl, rfl, rfl, rfl, trivial⟩ ?_
          refine X.next ?_
          refine C.cfalse rfl ?_
          refine C.skip ?_
          refine X.blockNormal ?_
          refine X.next ?_
          refine C.region ?_
          refine R.ev rfl (E.move rfl) ?_
          refine R.ev rfl (E.add rfl rfl (by omega) (by omega)) ?_
          refine R.ev rfl (E.assign rfl) ?_
          refine R.done ?_
          refine X.keep [(0, _), (3, _), (5, _)] ⟨rfl, rfl, rfl, trivial⟩ ?_
          exact X.again (k + 1, _, _) ⟨rfl, rfl, rfl, trivial⟩ ⟨by omega, hinv2, hw12, hs.to⟩ (by show _ - _ < _ - _; omega)
        · refine C.seq ?_
          refine C.region ?_
          refine R.ev rfl (E.eql rfl rfl) ?_
          refine R.ev rfl (E.assign rfl) ?_
          refine R.done ?_
          refine X.keep [(0, _), (3, _), (5, _), (6, _), (42, _), (52, _)] ⟨rfl, rfl, rfl, rfl, rfl, rfl, trivial⟩ ?_
          refine X.next ?_
          refine C.cdec rfl (fun h52 => ?_) (fun h52 => ?_)
          · refine C.region ?_
            refine R.ev rfl (E.move rfl) ?_
            refine R.ev rfl ((E.buildA rfl Try.underlying30 Try.zr30 Try.sz5 rfl).as (u := .agg (encV (vid 200)).toArray) (by rfl)) ?_
            refine R.call ⟨_, _, Try.func22, rfl, by kernel_rfl⟩ rfl rfl (later_any (vid 200) 7 (hs.front (F := F1)) (by omega) (by rw [hinv.wait]; decide) (fun e he => by have := hinv.ent e he; omega)) ?_
            rintro _ w16 ⟨rfl, F12, hw12, hs1⟩
            have hs := hs.back (F := F1) hs1
            have hinv2 := hinv.lat
            refine R.done ?_
            refine X.keep [(0, _), (3, _), (5, _)] ⟨rfl, rfl, rfl, trivial⟩ ?_
            refine X.blockNormal ?_
            refine X.next ?_
            refine C.seq ?_
            refine C.region ?_
            refine R.ev rfl (E.move rfl) ?_
            refine R.ev rfl ((E.buildA rfl Try.underlying30 Try.zr30 Try.sz5 rfl).as (u := .agg (encV (vid 200)).toArray) (by rfl)) ?_
            refine R.call ⟨_, _, Try.func18, rfl, by kernel_rfl⟩ rfl rfl (has_any (vid 200) hs) ?_
            rintro _ w21 ⟨h21, hs⟩
            rw [hinv2.has] at h21
            subst h21
            refine R.ev rfl (E.notT rfl) ?_
            refine R.done ?_
            refine X.keep [(0, _), (3, _), (5, _), (70, _)] ⟨rfl, rfl, rfl, rfl, trivial⟩ ?_
            refine X.next ?_
            refine C.cfalse rfl ?_
            refine C.skip ?_
            refine X.blockNormal ?_
            refine X.next ?_
            refine C.region ?_
            refine R.ev rfl (E.move rfl) ?_
            refine R.ev rfl (E.add rfl rfl (by omega) (by omega)) ?_
            refine R.ev rfl (E.assign rfl) ?_
            refine R.done ?_
            refine X.keep [(0, _), (3, _), (5, _)] ⟨rfl, rfl, rfl, trivial⟩ ?_
            exact X.again (k + 1, _, _) ⟨rfl, rfl, rfl, trivial⟩ ⟨by omega, hinv2, hw12, hs.to⟩ (by show _ - _ < _ - _; omega)
          · refine C.seq ?_
            refine C.region ?_
            refine R.ev rfl (E.eql rfl rfl) ?_
            refine R.ev rfl (E.assign rfl) ?_
            refine R.done ?_
            refine X.keep [(0, _), (3, _), (5, _), (6, _), (42, _), (57, _)] ⟨rfl, rfl, rfl, rfl, rfl, rfl, trivial⟩ ?_
            refine X.next ?_
            refine C.cdec rfl (fun h57 => ?_) (fun h57 => ?_)
            · refine C.region ?_
              refine R.ev rfl (E.move rfl) ?_
              refine R.ev rfl (E.loadRowC rfl Try.underlying30 rfl Try.sz30 (by first | exact ⟨hs.ldA, by first | rfl | assumption | exact encV_len _ | exact Enc.len _ | exact len_ub (by assumption)⟩ | exact ⟨hs.ldP rfl, by first | rfl | assumption | exact encV_len _ | exact Enc.len _ | exact len_ub (by assumption)⟩ | exact ⟨hs.ldM rfl rfl, by first | rfl | assumption | exact encV_len _ | exact Enc.len _ | exact len_ub (by assumption)⟩ | exact ⟨hs.ldM (by assumption) (by first | rfl | assumption), by first | rfl | assumption | exact encV_len _ | exact Enc.len _ | exact len_ub (by assumption)⟩ | exact ⟨by assumption, by first | rfl | assumption | exact encV_len _ | exact Enc.len _ | exact len_ub (by assumption)⟩ | exact hs.ldp | exact At.partC (by assumption))) ?_
              refine R.call ⟨_, _, Try.func15, rfl, by kernel_rfl⟩ rfl rfl (add_any y.id 6 (hs.front (F := F1)) (by omega)) ?_
              rintro _ w18 ⟨rfl, F12, hw12, hs1⟩
              have hs := hs.back (F := F1) hs1
              have hinv2 := hinv.add y.id
              refine R.done ?_
              refine X.keep [(0, _), (3, _), (5, _)] ⟨rfl, rfl, rfl, trivial⟩ ?_
              refine X.blockNormal ?_
              refine X.next ?_
              refine C.seq ?_
              refine C.region ?_
              refine R.ev rfl (E.move rfl) ?_
              refine R.ev rfl ((E.buildA rfl Try.underlying30 Try.zr30 Try.sz5 rfl).as (u := .agg (encV (vid 200)).toArray) (by rfl)) ?_
              refine R.call ⟨_, _, Try.func18, rfl, by kernel_rfl⟩ rfl rfl (has_any (vid 200) hs) ?_
              rintro _ w21 ⟨h21, hs⟩
              rw [hinv2.has] at h21
              subst h21
              refine R.ev rfl (E.notT rfl) ?_
              refine R.done ?_
              refine X.keep [(0, _), (3, _), (5, _), (70, _)] ⟨rfl, rfl, rfl, rfl, trivial⟩ ?_
              refine X.next ?_
              refine C.cfalse rfl ?_
              refine C.skip ?_
              refine X.blockNormal ?_
              refine X.next ?_
              refine C.region ?_
              refine R.ev rfl (E.move rfl) ?_
              refine R.ev rfl (E.add rfl rfl (by omega) (by omega)) ?_
              refine R.ev rfl (E.assign rfl) ?_
              refine R.done ?_
              refine X.keep [(0, _), (3, _), (5, _)] ⟨rfl, rfl, rfl, trivial⟩ ?_
              exact X.again (k + 1, _, _) ⟨rfl, rfl, rfl, trivial⟩ ⟨by omega, hinv2, hw12, hs.to⟩ (by show _ - _ < _ - _; omega)
            · refine C.seq ?_
              refine C.region ?_
              refine R.ev rfl (E.eql rfl rfl) ?_
              refine R.ev rfl (E.assign rfl) ?_
              refine R.done ?_
              refine X.keep [(0, _), (3, _), (5, _), (6, _), (62, _)] ⟨rfl, rfl, rfl, rfl, rfl, trivial⟩ ?_
              refine X.next ?_
              refine C.cdec rfl (fun h62 => ?_) (fun h62 => ?_)
              · refine C.region ?_
                refine R.ev rfl (E.move rfl) ?_
                refine R.ev rfl (E.loadRowC rfl Try.underlying30 rfl Try.sz30 (by first | exact ⟨hs.ldA, by first | rfl | assumption | exact encV_len _ | exact Enc.len _ | exact len_ub (by assumption)⟩ | exact ⟨hs.ldP rfl, by first | rfl | assumption | exact encV_len _ | exact Enc.len _ | exact len_ub (by assumption)⟩ | exact ⟨hs.ldM rfl rfl, by first | rfl | assumption | exact encV_len _ | exact Enc.len _ | exact len_ub (by assumption)⟩ | exact ⟨hs.ldM (by assumption) (by first | rfl | assumption), by first | rfl | assumption | exact encV_len _ | exact Enc.len _ | exact len_ub (by assumption)⟩ | exact ⟨by assumption, by first | rfl | assumption | exact encV_len _ | exact Enc.len _ | exact len_ub (by assumption)⟩ | exact hs.ldp | exact At.partC (by assumption))) ?_
                refine R.call ⟨_, _, Try.func20, rfl, by kernel_rfl⟩ rfl rfl (offered_any y.id (hs.front (F := F1))) ?_
                rintro _ w20 ⟨rfl, F12, hw12, hs1⟩
                have hs := hs.back (F := F1) hs1
                have hinv2 := hinv.off y.id
                refine R.done ?_
                refine X.keep [(0, _), (3, _), (5, _)] ⟨rfl, rfl, rfl, trivial⟩ ?_
                refine X.blockNormal ?_
                refine X.next ?_
                refine C.seq ?_
                refine C.region ?_
                refine R.ev rfl (E.move rfl) ?_
                refine R.ev rfl ((E.buildA rfl Try.underlying30 Try.zr30 Try.sz5 rfl).as (u := .agg (encV (vid 200)).toArray) (by rfl)) ?_
                refine R.call ⟨_, _, Try.func18, rfl, by kernel_rfl⟩ rfl rfl (has_any (vid 200) hs) ?_
                rintro _ w21 ⟨h21, hs⟩
                rw [hinv2.has] at h21
                subst h21
                refine R.ev rfl (E.notT rfl) ?_
                refine R.done ?_
                refine X.keep [(0, _), (3, _), (5, _), (70, _)] ⟨rfl, rfl, rfl, rfl, trivial⟩ ?_
                refine X.next ?_
                refine C.cfalse rfl ?_
                refine C.skip ?_
                refine X.blockNormal ?_
                refine X.next ?_
                refine C.region ?_
                refine R.ev rfl (E.move rfl) ?_
                refine R.ev rfl (E.add rfl rfl (by omega) (by omega)) ?_
                refine R.ev rfl (E.assign rfl) ?_
                refine R.done ?_
                refine X.keep [(0, _), (3, _), (5, _)] ⟨rfl, rfl, rfl, trivial⟩ ?_
                exact X.again (k + 1, _, _) ⟨rfl, rfl, rfl, trivial⟩ ⟨by omega, hinv2, hw12, hs.to⟩ (by show _ - _ < _ - _; omega)
              · have hinv2 := hinv1
                have hw12 := hw1
                refine C.skip ?_
                refine X.blockNormal ?_
                refine X.next ?_
                refine C.seq ?_
                refine C.region ?_
                refine R.ev rfl (E.move rfl) ?_
                refine R.ev rfl ((E.buildA rfl Try.underlying30 Try.zr30 Try.sz5 rfl).as (u := .agg (encV (vid 200)).toArray) (by rfl)) ?_
                refine R.call ⟨_, _, Try.func18, rfl, by kernel_rfl⟩ rfl rfl (has_any (vid 200) hs) ?_
                rintro _ w21 ⟨h21, hs⟩
                rw [hinv2.has] at h21
                subst h21
                refine R.ev rfl (E.notT rfl) ?_
                refine R.done ?_
                refine X.keep [(0, _), (3, _), (5, _), (70, _)] ⟨rfl, rfl, rfl, rfl, trivial⟩ ?_
                refine X.next ?_
                refine C.cfalse rfl ?_
                refine C.skip ?_
                refine X.blockNormal ?_
                refine X.next ?_
                refine C.region ?_
                refine R.ev rfl (E.move rfl) ?_
                refine R.ev rfl (E.add rfl rfl (by omega) (by omega)) ?_
                refine R.ev rfl (E.assign rfl) ?_
                refine R.done ?_
                refine X.keep [(0, _), (3, _), (5, _)] ⟨rfl, rfl, rfl, trivial⟩ ?_
                exact X.again (k + 1, _, _) ⟨rfl, rfl, rfl, trivial⟩ ⟨by omega, hinv2, hw12, hs.to⟩ (by show _ - _ < _ - _; omega)
    · refine C.exit ?_
      refine X.thenExit ?_
      refine X.loopExit ?_
      refine X.blockExit ?_
      refine X.next ?_
      refine C.seq ?_
      refine C.region ?_
      refine R.ev rfl (E.move rfl) ?_
      refine R.call ⟨_, _, Try.func21, rfl, by kernel_rfl⟩ rfl rfl (drop_any (hs.front (F := F1))) ?_
      rintro _ w23 ⟨rfl, F23, hw23, hs1⟩
      have hs := hs.back (F := F1) hs1
      refine R.done ?_
      refine X.keep [(3, _)] ⟨rfl, trivial⟩ ?_
      refine X.next ?_
      refine C.seq ?_
      refine C.region ?_
      refine R.ev rfl (E.move rfl) ?_
      refine R.call ⟨_, _, Try.func24, rfl, by kernel_rfl⟩ rfl rfl (next_any 105190559 1000 hs (by simp only; omega)) ?_
      rintro v24 w24 ⟨F24, r24, hs⟩
      refine R.ev rfl ((E.buildA rfl Try.underlying30 Try.zr30 Try.sz5 rfl).as (u := .agg (encV (vid 200)).toArray) (by rfl)) ?_
      refine R.call ⟨_, _, Try.func23, rfl, by kernel_rfl⟩ rfl rfl (containsI_any (vid 200) hs (by have := nxtL_le (s := { s with M := [] }) 105190559 1000 s.L; simp only at this ⊢; omega)) ?_
      rintro _ w24 ⟨rfl, hs⟩
      refine R.ev rfl (E.assign rfl) ?_
      refine R.done ?_
      refine X.keep [(2, _)] ⟨rfl, trivial⟩ ?_
      refine X.next ?_
      refine C.ret ?_
      refine X.ret1 rfl rfl ?_
      refine ⟨?_, hs.mod⟩
      congr 1
      rw [decide_eq_true_iff]
      have hf : s.L.filter (nxt { s with M := [] } 105190559) = s.L := by
        rw [List.filter_eq_self]
        intro e he
        have := hinv.ent e he
        simp [nxt, Bk.out, this.2.2]
      show vid 200 ∈ nxtL { s with M := [] } 105190559 1000 s.L
      unfold nxtL
      rw [hf, List.take_of_length_le (by simp; omega)]
      exact has_iff.1 hinv.has

namespace backlogKept
open Go.ChangeShapes Go.WideShapes Go.ChangeAt Go.RowKit
open Go.ChangeMaps (open_string shut_string)
set_option linter.unusedVariables false

theorem own : ownKnob Try.prog.godebug = none := by kernel_rfl
theorem laidOut : laidOutB Try.prog = true := by kernel_rfl
set_option maxRecDepth 100000 in
theorem lifted (os : Os) (started : os.Started) (H : Type) (enc : TypeId × Value → H) :
    ReturnsInHanded {} Try.checked os 4 .any (Rows.backlogKeptSpec.pre6 enc Try.prog Try.f4 Rows.backlogKeptRow.domain false) (Rows.backlogKeptSpec.post enc Try.prog Try.f4 false true false false) := by
  refine returnsInHanded_of_change (C := Try.checked) own started (by kernel_rfl) Try.func4
    (ChangeSpec.witness6 (enc := enc) (C := Try.checked) false ⟨#[], #[.slice none 0 0], []⟩ 8 (by kernel_rfl) (by kernel_rfl) (by kernel_rfl) (by kernel_rfl)) ?_
  intro W base args ds gs before hval0 hW hcnd _
  have hval : ∀ (j : Nat) t v, Try.f4.params[j]? = some t → args[j]? = some v → Value.okWide Try.prog W .any base t v := hval0
  have hW' := hW
  obtain ⟨p, q, hA0, hV, rfl, hfz, hnd⟩ := hW
  have hA : DataW.TrodAll enc Try.prog W 0 (fun _ => true) true Try.f4.params.toList args.toList ds p := hA0
  rw [Try.params4] at hA hval
  obtain ⟨v0, vs0, d0, ds0, p0, q0, hargs, rfl, rfl, h0, r0⟩ := trodAll_cons hA
  obtain ⟨rfl, rfl, rfl⟩ := trodAll_nil r0
  obtain rfl : args = #[v0] := by cases args; simp_all
  obtain ⟨rfl, rfl⟩ := trodVars_none hV
  have lt0 : ∀ x ∈ p0, x.block < W.heap.size := by obtain ⟨m, hm⟩ := h0; exact DataW.trod_lt m _ _ _ hm
  have a0 := Eng.argv_of (hval 0 22 v0 rfl rfl) h0
  clear hA0 hval0
  refine Calls.mono (kept_walk W v0 a0) fun e W' ⟨v, he, hv, hm⟩ => ?_
  subst he
  subst hv
  have bel := hm.below
  exact ⟨_, rfl, _, _, _, [], _, [], hW', trodAll_mk1 (shut_bool Try.underlying4 _), (trodAll_cons_mk (Below.trod laidOut (by kernel_rfl) (of_decide_eq_true (by kernel_rfl)) h0 bel lt0) trodAll_mk0), rfl, bel.frame _, fun h => by cases h⟩

theorem over : Rows.backlogKeptRow.holds Try.pinned (OpenSpec.ofChange Rows.backlogKeptSpec) :=
  OpenClaim.holds_of_wide 4 Try.f4 rfl rfl rfl rfl rfl rfl rfl ⟨rfl, rfl, rfl, rfl, rfl⟩ rfl rfl rfl rfl rfl (by kernel_rfl) Try.func4 (by kernel_rfl)
    (of_decide_eq_true (by kernel_rfl)) (by unfold Func.isWrapper; first | (rw [if_pos (by decide +kernel)]; kernel_rfl) | (rw [if_neg (by decide +kernel)]; exact ⟨rfl, rfl⟩))
    (fun os started H enc _ => lifted os started H enc)
end backlogKept
/-- the statement -/
theorem backlogKept_holds : Rows.BacklogKeptSaid := backlogKept.over
#print axioms backlogKept_holds
end Go.Proofs.Ytoidpcmcbmioiaa
