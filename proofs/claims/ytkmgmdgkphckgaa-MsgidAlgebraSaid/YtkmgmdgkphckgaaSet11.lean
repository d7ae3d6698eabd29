/-
  package msgid: sets of identities; the reference's.
-/
import Derived.Test.YtkmgmdgkphckgaaSortK
import Derived.Test.YtkmgmdgkphckgaaOrd
import Derived.Test.YtkmgmdgkphckgaaRef11
namespace Go.Proofs.Ytkmgmdgkphckgaa
open Go.Eng Go.RowKit

theorem cloneI_any {K : Kn} {Hs : List Hl} {L : List (Vec 32)} {ad : Option Addr} {n c : Nat} {w : World} (hs : Sat K w Hs) [hrd : Rd (encV (m := 32)) 32 K Hs (.slice ad n c) L] (hn : n ≤ 1000000) :
    Ret Try.prog 50 #[.slice ad n c] w fun v w' => ∃ F, RowL 23 (encV (m := 32)) 32 v L F ∧ Sat K w' (F :: Hs) := by
  have hln := hrd.len
  refine Ret.enter (n := 8) (args := [.slice ad n c]) Try.func50 rfl rfl ?_
  refine C.keep [(0, _)] ⟨rfl, trivial⟩ ?_
  refine C.seq ?_
  refine C.region ?_
  refine R.ev rfl (E.assign rfl) ?_
  refine R.done ?_
  refine X.keep [(0, _)] ⟨rfl, trivial⟩ ?_
  refine X.next ?_
  refine C.seq ?_
  refine C.seq ?_
  refine C.region ?_
  refine R.ev rfl (E.move rfl) ?_
  refine R.ev rfl (E.eqlNilS rfl rfl Try.underlying45) ?_
  refine R.done ?_
  refine X.keep [(0, _), (4, _)] ⟨rfl, rfl, trivial⟩ ?_
  refine X.next ?_
  refine C.cbool rfl (fun h4 => ?_) (fun h4 => ?_)
  · refine C.seq ?_
    refine C.region ?_
    refine R.ev rfl (E.assign rfl) ?_
    refine R.done ?_
    refine X.keep [(2, _)] ⟨rfl, trivial⟩ ?_
    refine X.next ?_
    refine C.ret ?_
    refine X.thenRet ?_
    refine X.ret1 rfl rfl ?_
    have hL : L = [] := by
      by_cases hL : L = []
      · exact hL
      · obtain ⟨b, off, rfl, _⟩ := (hrd.sl _ hs).at_ hL
        simp at h4
    subst hL
    exact ⟨[], RowL.nil _ _ _, hs.nil⟩
  · refine C.skip ?_
    refine X.next ?_
    refine C.seq ?_
    refine C.region ?_
    refine R.sbuild0 (enc := (encV (m := 32))) hs Try.underlying45 Try.sz23 rfl ?_
    intro v5 w5 F5 r5 nn5 hs
    refine R.ev rfl (E.move rfl) ?_
    refine R.cappSl hs rfl rfl Try.underlying45 Try.by23 (by rfl) rfl (by decide) (by first | omega | (simp only [List.length_append, List.length_cons, List.length_nil] at *; omega)) (by first | omega | (simp only [List.length_append, List.length_cons, List.length_nil] at *; omega)) ?_
    intro v7 w7 F7 r7 hs
    refine R.ev rfl (E.assign rfl) ?_
    refine R.done ?_
    refine X.keep [(2, _)] ⟨rfl, trivial⟩ ?_
    refine X.next ?_
    refine C.ret ?_
    refine X.ret1 rfl rfl ?_
    exact ⟨F7, by simpa using r7, hs⟩
theorem idxI_any {K : Kn} {Hs : List Hl} {L : List (Vec 32)} {ad : Option Addr} {n c : Nat} {w : World} (a : Vec 32) (hs : Sat K w Hs) [hrd : Rd encV 32 K Hs (.slice ad n c) L] (hn : n ≤ 9223372036854775807) :
    Ret Try.prog 66 #[.slice ad n c, idV a.1] w fun v w' => v = .int .i64 (idxP (fun y => decide (a = y)) L) ∧ Sat K w' Hs := by
  have hln := hrd.len
  have e1 := encV_len a
  refine Ret.enter (n := 19) (args := [.slice ad n c, idV a.1]) Try.func66 rfl rfl ?_
  refine C.keep [(0, _), (1, _)] ⟨rfl, rfl, trivial⟩ ?_
  refine C.seq ?_
  refine C.region ?_
  refine R.sboxA hs rfl rfl ?_
  intro b3 w3 hs
  refine R.ev rfl (E.assign rfl) ?_
  refine R.done ?_
  refine X.keep [(0, _), (3, _)] ⟨rfl, rfl, trivial⟩ ?_
  refine X.next ?_
  refine C.seq ?_
  refine C.seq ?_
  refine C.region ?_
  refine R.ev rfl (E.move rfl) ?_
  refine R.ev rfl (E.lenSl rfl Try.underlying45) ?_
  refine R.ev rfl (E.move rfl) ?_
  refine R.done ?_
  refine X.keep [(0, _), (3, _), (7, _), (8, _)] ⟨rfl, rfl, rfl, rfl, trivial⟩ ?_
  refine X.next ?_
  refine C.block ?_
  refine C.loop  [(0, _), (3, _), (7, _)] (fun k => [(8, .int .i64 (k : Nat))]) (fun k w' => k ≤ n ∧ Sat K w' (row b3 23 (a.1.map ub) :: Hs) ∧ ∀ j, j < k → ∀ y, L[j]? = some y → decide (a = y) = false) (fun k => n - k) (0) ⟨rfl, rfl, rfl, rfl, trivial⟩ ⟨Nat.zero_le _, hs, fun j h => by omega⟩ ?_
  rintro k w1 ⟨hk, hs, hno⟩
  refine C.keep [(0, _), (3, _), (7, _), (8, _)] ⟨rfl, rfl, rfl, rfl, trivial⟩ ?_
  refine C.seq ?_
  refine C.region ?_
  refine R.ev rfl (E.lss rfl rfl) ?_
  refine R.done ?_
  refine X.keep [(0, _), (3, _), (7, _), (8, _), (9, _)] ⟨rfl, rfl, rfl, rfl, rfl, trivial⟩ ?_
  refine X.next ?_
  refine C.seq ?_
  refine C.cdec rfl (fun h9 => ?_) (fun h9 => ?_)
  · obtain ⟨y, bk_y, of_y, hy, my, ly, rfl, Ay⟩ := hs.el (i := k) (ad := ad) (n := n) (c := c) (by omega)
    have ay := Ay _ hs
    refine C.skip ?_
    refine X.next ?_
    refine C.seq ?_
    refine C.block ?_
    refine C.seq ?_
    refine C.region ?_
    refine R.ev rfl (E.move rfl) ?_
    refine R.ev rfl (E.assign rfl) ?_
    refine R.done ?_
    refine X.keep [(0, _), (3, _), (5, _), (7, _), (8, _)] ⟨rfl, rfl, rfl, rfl, rfl, trivial⟩ ?_
    refine X.next ?_
    refine C.seq ?_
    refine C.drawn (SatS hs) ([0, 4], [1, 2, 3, 5]) (by kernel_rfl) ?_
    have hs := hs.drew
    refine D.evP 1 rfl (by kernel_rfl) rfl (fun _ => hs.to) (fun _ => E.move rfl) ?_
    refine D.evP 2 rfl (by kernel_rfl) rfl (fun _ => hs.to) (fun _ => E.move rfl) ?_
    refine D.evP 3 rfl (by kernel_rfl) rfl (fun _ => hs.to) (fun _ => E.indexAddr rfl rfl Try.underlying45 Try.sz23 rfl (by first | omega | decide)) ?_
    refine D.ev 0 rfl (by kernel_rfl) rfl hs.to (fun _ hS => E.loadRowC rfl Try.underlying23 rfl Try.sz23 (by first | exact ⟨hS.ldA, by first | rfl | assumption | exact encV_len _ | exact Enc.len _ | exact len_ub (by assumption)⟩ | exact ⟨hS.ldP rfl, by first | rfl | assumption | exact encV_len _ | exact Enc.len _ | exact len_ub (by assumption)⟩ | exact ⟨hS.ldM rfl rfl, by first | rfl | assumption | exact encV_len _ | exact Enc.len _ | exact len_ub (by assumption)⟩ | exact ⟨hS.ldM (by assumption) (by first | rfl | assumption), by first | rfl | assumption | exact encV_len _ | exact Enc.len _ | exact len_ub (by assumption)⟩ | exact ⟨by assumption, by first | rfl | assumption | exact encV_len _ | exact Enc.len _ | exact len_ub (by assumption)⟩ | exact ⟨(by assumption : ∀ w', Sat _ w' _ → At w' _ _ _) _ hS, by first | rfl | assumption | exact encV_len _ | exact Enc.len _ | exact len_ub (by assumption)⟩ | exact hS.ldp | exact At.partC (by assumption) | exact At.partC ((by assumption : ∀ w', Sat _ w' _ → At w' _ _ _) _ hS))) ?_
    refine D.ev 4 rfl (by kernel_rfl) rfl hs.to (fun _ hS => E.loadRow rfl Try.underlying23 rfl Try.sz23 (Ay _ hS) ly) ?_
    first | refine D.evP 5 rfl (by kernel_rfl) rfl (fun _ => hs.to) (fun _ => E.eqV 10 rfl rfl Try.lv23 rfl Try.underlying23 rfl Try.gd23) ?_ | refine D.evP 5 rfl (by kernel_rfl) rfl (fun _ => hs.to) (fun _ => E.eqId 10 32 rfl rfl Try.lv23 rfl Try.underlying23 rfl Try.gd23 (by assumption) (by assumption)) ?_
    refine D.done rfl (by kernel_rfl) ?_
    refine X.keep [(0, _), (3, _), (5, _), (7, _), (8, _), (16, _)] ⟨rfl, rfl, rfl, rfl, rfl, rfl, trivial⟩ ?_
    refine X.next ?_
    refine C.cbool rfl (fun h16 => ?_) (fun h16 => ?_)
    · refine C.seq ?_
      refine C.region ?_
      refine R.ev rfl (E.move rfl) ?_
      refine R.ev rfl (E.assign rfl) ?_
      refine R.done ?_
      refine X.keep [(4, _)] ⟨rfl, trivial⟩ ?_
      refine X.next ?_
      refine C.ret ?_
      refine X.blockRet ?_
      refine X.thenRet ?_
      refine X.loopRet ?_
      refine X.blockRet ?_
      refine X.thenRet ?_
      refine X.ret1 rfl rfl ?_
      exact ⟨by rw [idxP_some (p := fun y => decide (a = y)) hy h16 hno], hs.to⟩
    · refine C.skip ?_
      refine X.blockNormal ?_
      refine X.next ?_
      refine C.region ?_
      refine R.ev rfl (E.add rfl rfl (by omega) (by omega)) ?_
      refine R.ev rfl (E.move rfl) ?_
      refine R.done ?_
      refine X.keep [(0, _), (3, _), (7, _), (8, _)] ⟨rfl, rfl, rfl, rfl, trivial⟩ ?_
      exact X.again (k + 1) ⟨rfl, rfl, rfl, rfl, trivial⟩ ⟨by omega, hs, idxP_step (p := fun y => decide (a = y)) hy h16 hno⟩ (by omega)
  · refine C.exit ?_
    refine X.thenExit ?_
    refine X.loopExit ?_
    refine X.blockExit ?_
    refine X.next ?_
    refine C.seq ?_
    refine C.region ?_
    refine R.ev rfl (E.assign rfl) ?_
    refine R.done ?_
    refine X.keep [(4, _)] ⟨rfl, trivial⟩ ?_
    refine X.next ?_
    refine C.ret ?_
    refine X.ret1 rfl rfl ?_
    exact ⟨by rw [idxP_none (p := fun y => decide (a = y)) hno (by omega)], hs.to⟩
theorem conI_any {K : Kn} {Hs : List Hl} {L : List (Vec 32)} {v : Value} {w : World} (a : Vec 32) (hs : Sat K w Hs) [hrd : Rd encV 32 K Hs v L] (hn : L.length ≤ 9223372036854775807) :
    Ret Try.prog 49 #[v, idV a.1] w fun v w' => v = .bool (decide (a ∈ L)) ∧ Sat K w' Hs := by
  obtain ⟨ad, c, rfl, _⟩ := hrd.ex
  have e1 := encV_len a
  refine Ret.enter (n := 9) (args := [.slice ad L.length c, idV a.1]) Try.func49 rfl rfl ?_
  refine C.keep [(0, _), (1, _)] ⟨rfl, rfl, trivial⟩ ?_
  refine C.seq ?_
  refine C.region ?_
  refine R.sboxA hs rfl rfl ?_
  intro b3 w3 hs
  refine R.ev rfl (E.assign rfl) ?_
  refine R.done ?_
  refine X.keep [(0, _), (3, _)] ⟨rfl, rfl, trivial⟩ ?_
  refine X.next ?_
  refine C.seq ?_
  refine C.region ?_
  refine R.ev rfl (E.move rfl) ?_
  refine R.ev rfl (E.loadRowC rfl Try.underlying23 rfl Try.sz23 (by first | exact ⟨hs.ldA, by first | rfl | assumption | exact encV_len _ | exact Enc.len _ | exact len_ub (by assumption)⟩ | exact ⟨hs.ldP rfl, by first | rfl | assumption | exact encV_len _ | exact Enc.len _ | exact len_ub (by assumption)⟩ | exact ⟨hs.ldM rfl rfl, by first | rfl | assumption | exact encV_len _ | exact Enc.len _ | exact len_ub (by assumption)⟩ | exact ⟨hs.ldM (by assumption) (by first | rfl | assumption), by first | rfl | assumption | exact encV_len _ | exact Enc.len _ | exact len_ub (by assumption)⟩ | exact ⟨by assumption, by first | rfl | assumption | exact encV_len _ | exact Enc.len _ | exact len_ub (by assumption)⟩ | exact hs.ldp | exact At.partC (by assumption))) ?_
  refine R.call ⟨_, _, Try.func66, rfl, by kernel_rfl⟩ rfl rfl (idxI_any a hs hn) ?_
  rintro _ w1 ⟨rfl, hs⟩
  refine R.ev rfl ((E.geq rfl rfl).isB (c := decide (a ∈ L)) (by rw [decide_eq_decide, idxP_nonneg_iff]; constructor; rintro ⟨y, hy, h⟩; (have := of_decide_eq_true h; subst this; exact hy); exact fun h => ⟨a, h, by simp⟩)) ?_
  refine R.ev rfl (E.assign rfl) ?_
  refine R.done ?_
  refine X.keep [(4, _)] ⟨rfl, trivial⟩ ?_
  refine X.next ?_
  refine C.ret ?_
  refine X.ret1 rfl rfl ?_
  exact ⟨rfl, hs.to⟩
theorem compactI_any {K : Kn} {F : Hl} {Rs : List Hl} {L : List (Vec 32)} {v : Value} {w : World} (hs : Sat K w (F :: Rs)) [hr : RowL 23 encV 32 v L F] (hn : L.length ≤ 1000000) :
    Ret Try.prog 52 #[v] w fun v' w' => ∃ F', RowL 23 encV 32 v' (compactL L) F' ∧ Sat K w' (F' :: Rs) := by
  obtain ⟨ad, cp, rfl, hc, hcm, had⟩ := hr.val
  refine Ret.enter (n := 61) (args := [.slice ad L.length cp]) Try.func52 rfl rfl ?_
  refine C.keep [(0, _)] ⟨rfl, trivial⟩ ?_
  refine C.seq ?_
  refine C.region ?_
  refine R.ev rfl (E.assign rfl) ?_
  refine R.done ?_
  refine X.keep [(0, _)] ⟨rfl, trivial⟩ ?_
  refine X.next ?_
  refine C.seq ?_
  refine C.seq ?_
  refine C.region ?_
  refine R.ev rfl (E.move rfl) ?_
  refine R.ev rfl (E.lenSl rfl Try.underlying45) ?_
  refine R.ev rfl (E.lss rfl rfl) ?_
  refine R.done ?_
  refine X.keep [(0, _), (8, _)] ⟨rfl, rfl, trivial⟩ ?_
  refine X.next ?_
  refine C.cdec rfl (fun h8 => ?_) (fun h8 => ?_)
  · refine C.seq ?_
    refine C.region ?_
    refine R.ev rfl (E.move rfl) ?_
    refine R.ev rfl (E.assign rfl) ?_
    refine R.done ?_
    refine X.keep [(2, _)] ⟨rfl, trivial⟩ ?_
    refine X.next ?_
    refine C.ret ?_
    refine X.thenRet ?_
    refine X.ret1 rfl rfl ?_
    exact ⟨F, by rw [compactL_short (by omega)]; exact hr, hs⟩
  · refine C.skip ?_
    refine X.next ?_
    refine C.seq ?_
    refine C.seq ?_
    refine C.region ?_
    obtain ⟨b, rfl⟩ := had (by intro e; rw [e] at h8; simp at h8)
    refine R.ev rfl ((E.assign rfl).as (u := .int .i64 ((1 : Nat) : Int)) rfl) ?_
    refine R.done ?_
    refine X.keep [(0, _), (3, _)] ⟨rfl, rfl, trivial⟩ ?_
    refine X.next ?_
    refine C.block ?_
    refine C.loop  [(0, _)] (fun i => [(3, .int .i64 (i : Nat))]) (fun i w' => 1 ≤ i ∧ i ≤ L.length ∧ compactL (L.take i) = L.take i ∧ Sat K w' (F :: Rs)) (fun i => L.length - i) (1) ⟨rfl, rfl, trivial⟩ ⟨by omega, by omega, compactL_short (by rw [List.length_take]; omega), hs⟩ ?_
    rintro i w1 ⟨hi1, hiL, hco, hs⟩
    refine C.keep [(0, _), (3, _)] ⟨rfl, rfl, trivial⟩ ?_
    refine C.seq ?_
    refine C.seq ?_
    refine C.region ?_
    refine R.ev rfl (E.move rfl) ?_
    refine R.ev rfl (E.move rfl) ?_
    refine R.ev rfl (E.lenSl rfl Try.underlying45) ?_
    refine R.ev rfl (E.lss rfl rfl) ?_
    refine R.done ?_
    refine X.keep [(0, _), (3, _), (13, _)] ⟨rfl, rfl, rfl, trivial⟩ ?_
    refine X.next ?_
    refine C.cdec rfl (fun h13 => ?_) (fun h13 => ?_)
    · obtain ⟨y, hy⟩ : ∃ y, L[i]? = some y := ⟨_, List.getElem?_eq_getElem (by omega)⟩
      obtain ⟨z, hz⟩ : ∃ z, L[i - 1]? = some z := ⟨_, List.getElem?_eq_getElem (by omega)⟩
      have Ay := Sat.elAt (Hs := F :: Rs) (b := b) (off := 0) (n := L.length) cp hs hy
      have Az := Sat.elAt (Hs := F :: Rs) (b := b) (off := 0) (n := L.length) cp hs hz
      have hcs := compactL_at hi1 hy hz
      refine C.skip ?_
      refine X.next ?_
      refine C.seq ?_
      refine C.block ?_
      refine C.seq ?_
      refine C.drawn (SatS hs) ([3, 8], [0, 1, 2, 4, 5, 6, 7, 9]) (by kernel_rfl) ?_
      have hs := hs.drew
      refine D.evP 0 rfl (by kernel_rfl) rfl (fun _ => hs.to) (fun _ => E.move rfl) ?_
      refine D.evP 1 rfl (by kernel_rfl) rfl (fun _ => hs.to) (fun _ => E.move rfl) ?_
      refine D.evP 2 rfl (by kernel_rfl) rfl (fun _ => hs.to) (fun _ => E.indexAddr rfl rfl Try.underlying45 Try.sz23 rfl (by first | omega | decide)) ?_
      refine D.evP 4 rfl (by kernel_rfl) rfl (fun _ => hs.to) (fun _ => E.move rfl) ?_
      refine D.evP 5 rfl (by kernel_rfl) rfl (fun _ => hs.to) (fun _ => E.move rfl) ?_
      refine D.evP 6 rfl (by kernel_rfl) rfl (fun _ => hs.to) (fun _ => (E.sub rfl rfl (by omega) (by omega)).isI (c := ((i - 1 : Nat) : Int)) (by omega)) ?_
      refine D.evP 7 rfl (by kernel_rfl) rfl (fun _ => hs.to) (fun _ => E.indexAddr rfl rfl Try.underlying45 Try.sz23 rfl (by first | omega | decide)) ?_
      refine D.ev 3 rfl (by kernel_rfl) rfl hs.to (fun _ hS => E.loadRowC rfl Try.underlying23 rfl Try.sz23 ⟨Ay _ hS, Enc.len _⟩) ?_
      refine D.ev 8 rfl (by kernel_rfl) rfl hs.to (fun _ hS => E.loadRowC rfl Try.underlying23 rfl Try.sz23 ⟨Az _ hS, Enc.len _⟩) ?_
      refine D.evP 9 rfl (by kernel_rfl) rfl (fun _ => hs.to) (fun _ => (E.eqV 10 rfl rfl Try.lv23 rfl Try.underlying23 rfl Try.gd23)) ?_
      refine D.done rfl (by kernel_rfl) ?_
      refine X.keep [(0, _), (3, _), (25, _)] ⟨rfl, rfl, rfl, trivial⟩ ?_
      refine X.next ?_
      refine C.cdec rfl (fun h25 => ?_) (fun h25 => ?_)
      · rw [if_pos h25, hco] at hcs
        refine C.seq ?_
        refine C.region ?_
        refine R.ev rfl (E.move rfl) ?_
        refine R.ev rfl (E.move rfl) ?_
        refine R.ev rfl ((E.sliceLs (a := i) rfl rfl Try.underlying45 Try.sz23 rfl (by omega)).as (u := .slice (some ⟨b, i * 32, none⟩) (L.length - i) (cp - i)) (by rw [subAd, if_neg (by omega), Option.map_some, add_at, Nat.zero_add])) ?_
        refine R.ev rfl (E.assign rfl) ?_
        refine R.done ?_
        refine X.keep [(0, _), (3, _), (4, _)] ⟨rfl, rfl, rfl, trivial⟩ ?_
        refine X.next ?_
        refine C.seq ?_
        refine C.seq ?_
        refine C.region ?_
        refine R.ev rfl ((E.assign rfl).as (u := .int .i64 ((1 : Nat) : Int)) rfl) ?_
        refine R.done ?_
        refine X.keep [(0, _), (3, _), (4, _), (5, _)] ⟨rfl, rfl, rfl, rfl, trivial⟩ ?_
        refine X.next ?_
        refine C.block ?_
        refine C.loop (T := Nat × Nat × List (Vec 32) × Hl) [(0, _), (4, _)] (fun (q, k, _, _) => [(3, .int .i64 (q : Nat)), (5, .int .i64 (k : Nat))]) (fun (q, k, M, F1) w' => 1 ≤ k ∧ i + k ≤ L.length ∧ q < i + k ∧ M.length = L.length ∧ M.take q = compactL (L.take (i + k)) ∧ M.drop q = L.drop q ∧ RowL 23 encV 32 (.slice (some ⟨b, 0, none⟩) L.length cp) M F1 ∧ Sat K w' (F1 :: Rs)) (fun (_, k, _, _) => L.length - (i + k)) ((i, 1, L, F)) ⟨rfl, rfl, rfl, rfl, trivial⟩ ⟨by omega, by omega, by omega, rfl, hcs.symm, rfl, hr, hs⟩ ?_
        rintro ⟨q, k, M, F1⟩ w2 ⟨hk1, hkL, hqk, hML, htk, hdr, r1, hs⟩
        refine C.keep [(0, _), (3, _), (4, _), (5, _)] ⟨rfl, rfl, rfl, rfl, trivial⟩ ?_
        refine C.seq ?_
        refine C.seq ?_
        refine C.region ?_
        refine R.ev rfl (E.move rfl) ?_
        refine R.ev rfl (E.move rfl) ?_
        refine R.ev rfl (E.lenSl rfl Try.underlying45) ?_
        refine R.ev rfl (E.lss rfl rfl) ?_
        refine R.done ?_
        refine X.keep [(0, _), (3, _), (4, _), (5, _), (32, _)] ⟨rfl, rfl, rfl, rfl, rfl, trivial⟩ ?_
        refine X.next ?_
        refine C.cdec rfl (fun h32 => ?_) (fun h32 => ?_)
        · obtain ⟨y2, hy2⟩ : ∃ y, L[i + k]? = some y := ⟨_, List.getElem?_eq_getElem (by omega)⟩
          obtain ⟨z2, hz2⟩ : ∃ z, L[i + k - 1]? = some z := ⟨_, List.getElem?_eq_getElem (by omega)⟩
          have hMy : M[i + k]? = some y2 := by rw [← hy2]; exact drop_get hdr (by omega)
          have hMz : M[i + k - 1]? = some z2 := by rw [← hz2]; exact drop_get hdr (by omega)
          have A1 := Sat.elAt (Hs := F1 :: Rs) (b := b) (off := 0) (n := L.length) cp hs hMy
          have A2 := Sat.elAt (Hs := F1 :: Rs) (b := b) (off := 0) (n := L.length) cp hs hMz
          rw [show 0 + (i + k) * 32 = i * 32 + k * 32 by omega] at A1
          rw [show 0 + (i + k - 1) * 32 = i * 32 + (k - 1) * 32 by omega] at A2
          have hcs2 := compactL_at (by omega) hy2 hz2
          rw [← htk] at hcs2
          have hle : y2 = y2 := rfl
          refine C.skip ?_
          refine X.next ?_
          refine C.seq ?_
          refine C.block ?_
          refine C.seq ?_
          refine C.drawn (SatS hs) ([3, 8], [0, 1, 2, 4, 5, 6, 7, 9]) (by kernel_rfl) ?_
          have hs := hs.drew
          refine D.evP 0 rfl (by kernel_rfl) rfl (fun _ => hs.to) (fun _ => E.move rfl) ?_
          refine D.evP 1 rfl (by kernel_rfl) rfl (fun _ => hs.to) (fun _ => E.move rfl) ?_
          refine D.evP 2 rfl (by kernel_rfl) rfl (fun _ => hs.to) (fun _ => E.indexAddr rfl rfl Try.underlying45 Try.sz23 rfl (by first | omega | decide)) ?_
          refine D.evP 4 rfl (by kernel_rfl) rfl (fun _ => hs.to) (fun _ => E.move rfl) ?_
          refine D.evP 5 rfl (by kernel_rfl) rfl (fun _ => hs.to) (fun _ => E.move rfl) ?_
          refine D.evP 6 rfl (by kernel_rfl) rfl (fun _ => hs.to) (fun _ => (E.sub rfl rfl (by omega) (by omega)).isI (c := ((k - 1 : Nat) : Int)) (by omega)) ?_
          refine D.evP 7 rfl (by kernel_rfl) rfl (fun _ => hs.to) (fun _ => E.indexAddr rfl rfl Try.underlying45 Try.sz23 rfl (by first | omega | decide)) ?_
          refine D.ev 3 rfl (by kernel_rfl) rfl hs.to (fun _ hS => E.loadRowC rfl Try.underlying23 rfl Try.sz23 ⟨A1 _ hS, Enc.len _⟩) ?_
          refine D.ev 8 rfl (by kernel_rfl) rfl hs.to (fun _ hS => E.loadRowC rfl Try.underlying23 rfl Try.sz23 ⟨A2 _ hS, Enc.len _⟩) ?_
          refine D.evP 9 rfl (by kernel_rfl) rfl (fun _ => hs.to) (fun _ => (E.neV 10 rfl rfl Try.lv23 rfl Try.underlying23 rfl Try.gd23)) ?_
          refine D.done rfl (by kernel_rfl) ?_
          refine X.keep [(0, _), (3, _), (4, _), (5, _), (44, _)] ⟨rfl, rfl, rfl, rfl, rfl, trivial⟩ ?_
          refine X.next ?_
          refine C.cdec rfl (fun h44 => ?_) (fun h44 => ?_)
          · rw [if_neg h44] at hcs2
            have hMq : M[q]? = some M[q] := List.getElem?_eq_getElem (by omega)
            refine C.seq ?_
            refine C.region ?_
            refine R.ev rfl (E.move rfl) ?_
            refine R.ev rfl (E.move rfl) ?_
            refine R.ev rfl (E.move rfl) ?_
            refine R.ev rfl (E.move rfl) ?_
            refine R.ev rfl (E.indexAddr rfl rfl Try.underlying45 Try.sz23 rfl (by first | omega | decide)) ?_
            refine R.ev rfl (E.loadRowC rfl Try.underlying23 rfl Try.sz23 ⟨A1 _ hs, Enc.len _⟩) ?_
            refine R.ev rfl (E.indexAddr rfl rfl Try.underlying45 Try.sz23 rfl (by first | omega | decide)) ?_
            refine R.ssetE q y2 hs r1 rfl rfl Try.sz23 hMq (Enc.len _) (by omega) (Enc.one _) ?_
            intro w12 F12 r12 hs
            refine R.done ?_
            refine X.keep [(0, _), (3, _), (4, _), (5, _)] ⟨rfl, rfl, rfl, rfl, trivial⟩ ?_
            refine X.next ?_
            refine C.region ?_
            refine R.ev rfl (E.move rfl) ?_
            refine R.ev rfl ((E.add rfl rfl (by omega) (by omega)).isI (c := ((q + 1 : Nat) : Int)) (by omega)) ?_
            refine R.ev rfl (E.assign rfl) ?_
            refine R.done ?_
            refine X.keep [(0, _), (3, _), (4, _), (5, _)] ⟨rfl, rfl, rfl, rfl, trivial⟩ ?_
            refine X.blockNormal ?_
            refine X.next ?_
            refine C.region ?_
            refine R.ev rfl (E.move rfl) ?_
            refine R.ev rfl ((E.add rfl rfl (by omega) (by omega)).isI (c := ((k + 1 : Nat) : Int)) (by omega)) ?_
            refine R.ev rfl (E.assign rfl) ?_
            refine R.done ?_
            refine X.keep [(0, _), (3, _), (4, _), (5, _)] ⟨rfl, rfl, rfl, rfl, trivial⟩ ?_
            first
              | exact X.again (q + 1, k + 1, M.set q y2, F12) ⟨rfl, rfl, rfl, rfl, trivial⟩ ⟨by omega, by omega, by omega, by simpa using hML, by rw [take_set_snoc (by omega), ← Nat.add_assoc, hcs2], by rw [List.drop_set_of_lt (by omega), drop_succ_eq hdr], r12, hs⟩ (by show _ - _ < _ - _; omega)
              | exact X.again (q, k + 1, M, F1) ⟨rfl, rfl, rfl, rfl, trivial⟩ ⟨by omega, by omega, by omega, hML, by rw [← Nat.add_assoc, hcs2], hdr, r1, hs⟩ (by show _ - _ < _ - _; omega)
          · rw [if_pos (Decidable.not_not.1 h44)] at hcs2
            refine C.skip ?_
            refine X.blockNormal ?_
            refine X.next ?_
            refine C.region ?_
            refine R.ev rfl (E.move rfl) ?_
            refine R.ev rfl ((E.add rfl rfl (by omega) (by omega)).isI (c := ((k + 1 : Nat) : Int)) (by omega)) ?_
            refine R.ev rfl (E.assign rfl) ?_
            refine R.done ?_
            refine X.keep [(0, _), (3, _), (4, _), (5, _)] ⟨rfl, rfl, rfl, rfl, trivial⟩ ?_
            first
              | exact X.again (q + 1, k + 1, M.set q y2, F12) ⟨rfl, rfl, rfl, rfl, trivial⟩ ⟨by omega, by omega, by omega, by simpa using hML, by rw [take_set_snoc (by omega), ← Nat.add_assoc, hcs2], by rw [List.drop_set_of_lt (by omega), drop_succ_eq hdr], r12, hs⟩ (by show _ - _ < _ - _; omega)
              | exact X.again (q, k + 1, M, F1) ⟨rfl, rfl, rfl, rfl, trivial⟩ ⟨by omega, by omega, by omega, hML, by rw [← Nat.add_assoc, hcs2], hdr, r1, hs⟩ (by show _ - _ < _ - _; omega)
        · refine C.exit ?_
          refine X.thenExit ?_
          refine X.loopExit ?_
          refine X.blockExit ?_
          refine X.next ?_
          refine C.seq ?_
          refine C.region ?_
          refine R.ev rfl (E.move rfl) ?_
          refine R.ev rfl (E.move rfl) ?_
          refine R.ev rfl ((E.sliceLs (a := q) rfl rfl Try.underlying45 Try.sz23 rfl (by omega)).as (u := .slice (some (if cp = q then ⟨b, 0, none⟩ else (⟨b, 0, none⟩ : Addr).add (q * 32))) (L.length - q) (cp - q)) (by simp only [subAd]; split <;> rfl)) ?_
          have hjn : i + k = L.length := by omega
          have hpre := r1.pre (i := q) (by omega)
          refine R.sclear (q := q * 32) hs hpre rfl Try.underlying45 Try.zr23 (by rfl) (by rfl) ?_ ?_ ?_ (by decide) ?_
          · intro _
            rw [if_neg (by omega), add_at]
            simp
          · simp; omega
          · have : q + (L.length - q) ≤ cp := by omega
            have := Nat.mul_le_mul_right 32 this
            omega
          intro w6 F6 r6 hs
          refine R.done ?_
          refine X.keep [(0, _), (3, _)] ⟨rfl, rfl, trivial⟩ ?_
          refine X.next ?_
          refine C.seq ?_
          refine C.region ?_
          refine R.ev rfl (E.move rfl) ?_
          refine R.ev rfl (E.move rfl) ?_
          refine R.ev rfl (E.sliceH rfl rfl Try.underlying45 Try.sz23 rfl (by omega)) ?_
          refine R.ev rfl (E.assign rfl) ?_
          refine R.done ?_
          refine X.keep [(2, _)] ⟨rfl, trivial⟩ ?_
          refine X.next ?_
          refine C.ret ?_
          refine X.blockRet ?_
          refine X.thenRet ?_
          refine X.loopRet ?_
          refine X.blockRet ?_
          refine X.thenRet ?_
          refine X.ret1 rfl rfl ?_
          refine ⟨F6, ?_, hs⟩
          rw [htk, hjn, List.take_length] at r6
          exact r6
      · rw [if_neg h25, hco] at hcs
        refine C.skip ?_
        refine X.blockNormal ?_
        refine X.next ?_
        refine C.region ?_
        refine R.ev rfl (E.move rfl) ?_
        refine R.ev rfl ((E.add rfl rfl (by omega) (by omega)).isI (c := ((i + 1 : Nat) : Int)) (by omega)) ?_
        refine R.ev rfl (E.assign rfl) ?_
        refine R.done ?_
        refine X.keep [(0, _), (3, _)] ⟨rfl, rfl, trivial⟩ ?_
        exact X.again (i + 1) ⟨rfl, rfl, trivial⟩ ⟨by omega, by omega, by rw [hcs, take_snoc hy], hs⟩ (by omega)
    · refine C.exit ?_
      refine X.thenExit ?_
      refine X.loopExit ?_
      refine X.blockExit ?_
      refine X.next ?_
      refine C.seq ?_
      refine C.region ?_
      refine R.ev rfl (E.move rfl) ?_
      refine R.ev rfl (E.assign rfl) ?_
      refine R.done ?_
      refine X.keep [(2, _)] ⟨rfl, trivial⟩ ?_
      refine X.next ?_
      refine C.ret ?_
      refine X.ret1 rfl rfl ?_
      exact ⟨F, by rw [show i = L.length by omega, List.take_length] at hco; rw [hco]; exact hr, hs⟩
theorem equal_any {K : Kn} {Hs : List Hl} {L M : List (Vec 32)} {v v' : Value} {w : World} (hs : Sat K w Hs) [h1 : Rd encV 32 K Hs v L] [h2 : Rd encV 32 K Hs v' M] (hn : L.length ≤ 9223372036854775807) :
    Ret Try.prog 31 #[v, v'] w fun v w' => v = .bool (decide (L = M)) ∧ Sat K w' Hs := by
  obtain ⟨ad, c, rfl, _⟩ := h1.ex
  obtain ⟨ad', c', rfl, _⟩ := h2.ex
  refine Ret.enter (n := 26) (args := [.slice ad L.length c, .slice ad' M.length c']) Try.func31 rfl rfl ?_
  refine C.keep [(0, _), (1, _)] ⟨rfl, rfl, trivial⟩ ?_
  refine C.seq ?_
  refine C.region ?_
  refine R.ev rfl (E.assign rfl) ?_
  refine R.done ?_
  refine X.keep [(0, _), (1, _)] ⟨rfl, rfl, trivial⟩ ?_
  refine X.next ?_
  refine C.seq ?_
  refine C.seq ?_
  refine C.region ?_
  refine R.ev rfl (E.move rfl) ?_
  refine R.ev rfl (E.lenSl rfl Try.underlying45) ?_
  refine R.ev rfl (E.move rfl) ?_
  refine R.ev rfl (E.lenSl rfl Try.underlying50) ?_
  refine R.ev rfl (E.neq rfl rfl) ?_
  refine R.done ?_
  refine X.keep [(0, _), (1, _), (10, _)] ⟨rfl, rfl, rfl, trivial⟩ ?_
  refine X.next ?_
  refine C.cdec rfl (fun h10 => ?_) (fun h10 => ?_)
  · refine C.seq ?_
    refine C.region ?_
    refine R.ev rfl (E.assign rfl) ?_
    refine R.done ?_
    refine X.keep [(4, _)] ⟨rfl, trivial⟩ ?_
    refine X.next ?_
    refine C.ret ?_
    refine X.thenRet ?_
    refine X.ret1 rfl rfl ?_
    exact ⟨by rw [decide_eq_false]; intro e; rw [e] at h10; omega, hs⟩
  · refine C.skip ?_
    refine X.next ?_
    refine C.seq ?_
    refine C.seq ?_
    refine C.region ?_
    refine R.ev rfl (E.assign rfl) ?_
    refine R.done ?_
    refine X.keep [(0, _), (1, _), (5, _)] ⟨rfl, rfl, rfl, trivial⟩ ?_
    refine X.next ?_
    refine C.block ?_
    refine C.loop  [(0, _), (1, _)] (fun k => [(5, .int .i64 (k : Nat))]) (fun k w' => k ≤ L.length ∧ Sat K w' Hs ∧ L.take k = M.take k) (fun k => L.length - k) (0) ⟨rfl, rfl, rfl, trivial⟩ ⟨Nat.zero_le _, hs, rfl⟩ ?_
    rintro k w1 ⟨hk, hs, htk⟩
    refine C.keep [(0, _), (1, _), (5, _)] ⟨rfl, rfl, rfl, trivial⟩ ?_
    refine C.seq ?_
    refine C.seq ?_
    refine C.region ?_
    refine R.ev rfl (E.move rfl) ?_
    refine R.ev rfl (E.move rfl) ?_
    refine R.ev rfl (E.lenSl rfl Try.underlying45) ?_
    refine R.ev rfl (E.lss rfl rfl) ?_
    refine R.done ?_
    refine X.keep [(0, _), (1, _), (5, _), (14, _)] ⟨rfl, rfl, rfl, rfl, trivial⟩ ?_
    refine X.next ?_
    refine C.cdec rfl (fun h14 => ?_) (fun h14 => ?_)
    · obtain ⟨y, bk_y, of_y, hy, my, ly, rfl, Ay⟩ := hs.el (i := k) (ad := ad) (n := L.length) (c := c) (by omega)
      have ay := Ay _ hs
      obtain ⟨z, bk_z, of_z, hz, mz, lz, rfl, Az⟩ := hs.el (i := k) (ad := ad') (n := M.length) (c := c') (by omega)
      have az := Az _ hs
      refine C.skip ?_
      refine X.next ?_
      refine C.seq ?_
      refine C.block ?_
      refine C.seq ?_
      refine C.drawn (SatS hs) ([3, 7], [0, 1, 2, 4, 5, 6, 8]) (by kernel_rfl) ?_
      have hs := hs.drew
      refine D.evP 0 rfl (by kernel_rfl) rfl (fun _ => hs.to) (fun _ => E.move rfl) ?_
      refine D.evP 1 rfl (by kernel_rfl) rfl (fun _ => hs.to) (fun _ => E.move rfl) ?_
      refine D.evP 2 rfl (by kernel_rfl) rfl (fun _ => hs.to) (fun _ => E.indexAddr rfl rfl Try.underlying45 Try.sz23 rfl (by first | omega | decide)) ?_
      refine D.evP 4 rfl (by kernel_rfl) rfl (fun _ => hs.to) (fun _ => E.move rfl) ?_
      refine D.evP 5 rfl (by kernel_rfl) rfl (fun _ => hs.to) (fun _ => E.move rfl) ?_
      refine D.evP 6 rfl (by kernel_rfl) rfl (fun _ => hs.to) (fun _ => E.indexAddr rfl rfl Try.underlying50 Try.sz30 rfl (by first | omega | decide)) ?_
      refine D.ev 3 rfl (by kernel_rfl) rfl hs.to (fun _ hS => E.loadRow rfl Try.underlying23 rfl Try.sz23 (Ay _ hS) ly) ?_
      refine D.ev 7 rfl (by kernel_rfl) rfl hs.to (fun _ hS => E.loadRow rfl Try.underlying30 rfl Try.sz30 (Az _ hS) lz) ?_
      refine D.evP 8 rfl (by kernel_rfl) rfl (fun _ => hs.to) (fun _ => (E.neV 10 rfl rfl Try.lv30 rfl Try.underlying30 rfl Try.gd30).isB (c := decide (y ≠ z)) rfl) ?_
      refine D.done rfl (by kernel_rfl) ?_
      refine X.keep [(0, _), (1, _), (5, _), (25, _)] ⟨rfl, rfl, rfl, rfl, trivial⟩ ?_
      refine X.next ?_
      refine C.cdec rfl (fun h25 => ?_) (fun h25 => ?_)
      · refine C.seq ?_
        refine C.region ?_
        refine R.ev rfl (E.assign rfl) ?_
        refine R.done ?_
        refine X.keep [(4, _)] ⟨rfl, trivial⟩ ?_
        refine X.next ?_
        refine C.ret ?_
        refine X.blockRet ?_
        refine X.thenRet ?_
        refine X.loopRet ?_
        refine X.blockRet ?_
        refine X.thenRet ?_
        refine X.ret1 rfl rfl ?_
        exact ⟨by rw [decide_eq_false]; intro e; rw [e, hz] at hy; exact h25 (by simpa using hy.symm), hs⟩
      · refine C.skip ?_
        refine X.blockNormal ?_
        refine X.next ?_
        refine C.region ?_
        refine R.ev rfl (E.move rfl) ?_
        refine R.ev rfl (E.add rfl rfl (by omega) (by omega)) ?_
        refine R.ev rfl (E.assign rfl) ?_
        refine R.done ?_
        refine X.keep [(0, _), (1, _), (5, _)] ⟨rfl, rfl, rfl, trivial⟩ ?_
        exact X.again (k + 1) ⟨rfl, rfl, rfl, trivial⟩ ⟨by omega, hs, by rw [take_snoc hy, take_snoc hz, htk, Decidable.not_not.1 h25]⟩ (by omega)
    · refine C.exit ?_
      refine X.thenExit ?_
      refine X.loopExit ?_
      refine X.blockExit ?_
      refine X.next ?_
      refine C.seq ?_
      refine C.region ?_
      refine R.ev rfl (E.assign rfl) ?_
      refine R.done ?_
      refine X.keep [(4, _)] ⟨rfl, trivial⟩ ?_
      refine X.next ?_
      refine C.ret ?_
      refine X.ret1 rfl rfl ?_
      exact ⟨by rw [decide_eq_true]; rw [← List.take_length (l := L), ← List.take_length (l := M), show M.length = L.length by omega]; rwa [show k = L.length by omega] at htk, hs⟩
variable {K : Kn} {Hs Rs : List Hl} {F : Hl} {w : World} {v va vb : Value} {A B L : List (Vec 32)}
abbrev cmpI (x y : Vec 32) : Int := cmpL x.1 y.1
theorem cmp_ok : idCmp K Rs 19 [] [] ltV :=
  ⟨⟨_, _, Try.func19, rfl, by kernel_rfl⟩, fun x y w1 _ _ hs => (compare_any x.1 y.1 w1 x.2 y.2).mono fun _ _ ⟨e, m⟩ => ⟨_, e, rfl, hs.keep m⟩⟩
theorem set_any (hs : Sat K w Hs) [hrd : Rd encV 32 K Hs v L] (hn : L.length ≤ 1000) : Ret Try.prog 30 #[v] w fun r w' => ∃ L' F', RowL 23 encV 32 r L' F' ∧ SS ltV L' ∧ (∀ x, x ∈ L' ↔ x ∈ L) ∧ L'.length ≤ L.length ∧ Sat K w' (F' :: Hs) := by
  obtain ⟨ad, c, rfl, _⟩ := hrd.ex
  refine Ret.enter (n := 10) (args := [.slice ad L.length c]) Try.func30 rfl rfl ?_
  refine C.keep [(0, _)] ⟨rfl, trivial⟩ ?_
  refine C.seq ?_
  refine C.region ?_
  refine R.ev rfl (E.assign rfl) ?_
  refine R.done ?_
  refine X.keep [(0, _)] ⟨rfl, trivial⟩ ?_
  refine X.next ?_
  refine C.seq ?_
  refine C.region ?_
  refine R.ev rfl (E.move rfl) ?_
  refine R.call ⟨_, _, Try.func50, rfl, by kernel_rfl⟩ rfl rfl (cloneI_any hs (by omega)) ?_
  rintro v5 w1 ⟨F1, r1, hs⟩
  refine R.ev rfl (E.assign rfl) ?_
  refine R.done ?_
  refine X.keep [(3, _)] ⟨rfl, trivial⟩ ?_
  refine X.next ?_
  refine C.seq ?_
  refine C.region ?_
  refine R.ev rfl (E.move rfl) ?_
  refine R.call ⟨_, _, Try.func51, rfl, by kernel_rfl⟩ rfl rfl (idsort_any cmp_ok ltV_swo hs (by omega)) ?_
  rintro _ w2 ⟨L2, F2, r2, hp, hso, hs⟩
  have hl2 := hp.length_eq
  refine R.done ?_
  refine X.keep [(3, _)] ⟨rfl, trivial⟩ ?_
  refine X.next ?_
  refine C.seq ?_
  refine C.region ?_
  refine R.ev rfl (E.move rfl) ?_
  refine R.call ⟨_, _, Try.func52, rfl, by kernel_rfl⟩ rfl rfl (compactI_any (L := L2) hs (by omega)) ?_
  rintro v9 w3 ⟨F3, r3, hs⟩
  refine R.ev rfl (E.assign rfl) ?_
  refine R.done ?_
  refine X.keep [(2, _)] ⟨rfl, trivial⟩ ?_
  refine X.next ?_
  refine C.ret ?_
  refine X.ret1 rfl rfl ?_
  exact ⟨compactL L2, F3, r3, compactL_ss ltV_swo ltV_tot hso, fun x => by rw [compactL_mem, hp.mem_iff], by have := compactL_len L2; omega, hs⟩
theorem merge_any {kid : FuncId} {kp : Bool → Bool → Bool} (hk : Callable Try.prog kid) (hkf : ∀ (p q : Bool) (w1 : World) (Hs1 : List Hl), Sat K w1 Hs1 → Ret Try.prog kid #[.bool p, .bool q] w1 fun r w' => r = .bool (kp p q) ∧ Sat K w' Hs1)
    (hs : Sat K w Hs) [ha : KRow encV 32 K va A] [hb : KRow encV 32 K vb B] (hn : A.length + B.length ≤ 1000) :
    Ret Try.prog 53 #[va, vb, .func (.func 19) #[] #[], .func (.func kid) #[] #[]] w fun r w' => ∃ F', RowL 23 encV 32 r (mergeL cmpI kp A B) F' ∧ Sat K w' (F' :: Hs) := by
  refine Ret.enter (n := 61) (args := [va, vb, .func (.func 19) #[] #[], .func (.func kid) #[] #[]]) Try.func53 rfl rfl ?_
  refine C.keep [(0, _), (1, _), (2, _), (3, _)] ⟨rfl, rfl, rfl, rfl, trivial⟩ ?_
  refine C.seq ?_
  refine C.region ?_
  refine R.ev rfl (E.assign rfl) ?_
  refine R.done ?_
  refine X.keep [(0, _), (1, _), (2, _), (3, _)] ⟨rfl, rfl, rfl, rfl, trivial⟩ ?_
  refine X.next ?_
  refine C.seq ?_
  refine C.region ?_
  refine R.ev rfl (E.assign rfl) ?_
  refine R.done ?_
  refine X.keep [(0, _), (1, _), (2, _), (3, _), (9, _)] ⟨rfl, rfl, rfl, rfl, rfl, trivial⟩ ?_
  refine X.next ?_
  refine C.seq ?_
  refine C.block ?_
  refine C.loop (T := Value × Value × List (Vec 32) × List (Vec 32) × List (Vec 32) × Value × Hl) [(2, _), (3, _)] (fun (va, vb, _, _, _, vl, _) => [(0, va), (1, vb), (9, vl)]) (fun (va, vb, A1, B1, out, vl, G) w' => KRow encV 32 K va A1 ∧ KRow encV 32 K vb B1 ∧ RowL 23 encV 32 vl out G ∧ out ++ mergeL cmpI kp A1 B1 = mergeL cmpI kp A B ∧ out.length + A1.length + B1.length ≤ 1000 ∧ Sat K w' (G :: Hs)) (fun (_, _, A1, B1, _) => A1.length + B1.length) ((va, vb, A, B, [], .slice none 0 0, [])) ⟨rfl, rfl, rfl, rfl, rfl, trivial⟩ ⟨ha, hb, RowL.nil _ _ _, rfl, by simpa using hn, hs.nil⟩ ?_
  rintro ⟨va, vb, A1, B1, out, vl, G1⟩ w1 ⟨ka, kb, r1, he, hlen, hs⟩
  obtain ⟨ada, ca, rfl, _⟩ := ka.ex
  obtain ⟨adb, cb, rfl, _⟩ := kb.ex
  refine C.keep [(0, _), (1, _), (2, _), (3, _), (9, _)] ⟨rfl, rfl, rfl, rfl, rfl, trivial⟩ ?_
  refine C.seq ?_
  refine C.seq ?_
  refine C.cut [(0, _), (1, _), (2, _), (3, _), (9, _)] (fun (_ : Unit) => [(19, .bool (decide ((0 : Int) < (A1.length : Int)) || decide ((0 : Int) < (B1.length : Int))))]) (fun _ w' => Sat K w' (G1 :: Hs)) ⟨rfl, rfl, rfl, rfl, rfl, trivial⟩ ?_ ?_
  · refine C.region ?_
    refine R.ev rfl (E.move rfl) ?_
    refine R.ev rfl (E.lenSl rfl Try.underlying45) ?_
    refine R.ev rfl (E.gtr rfl rfl) ?_
    refine R.ev rfl (E.move rfl) ?_
    refine R.split 15 rfl (fun h15 => ?_) (fun h15 => ?_)
    · refine R.gskip rfl rfl rfl ?_
      refine R.gskip rfl rfl rfl ?_
      refine R.gskip rfl rfl rfl ?_
      refine R.ev rfl (E.pickT rfl rfl) ?_
      refine R.done ?_
      refine X.keep [(0, _), (1, _), (2, _), (3, _), (9, _), (19, _)] ⟨rfl, rfl, rfl, rfl, rfl, rfl, trivial⟩ ?_
      refine X.cut (()) ⟨lkV rfl ?_, rfl, rfl, rfl, rfl, rfl, trivial⟩ ?_
      · rw [h15]; rfl
      exact hs
    · refine R.gyes rfl rfl ?_
      refine R.ev rfl (E.move rfl) ?_
      refine R.gyes rfl rfl ?_
      refine R.ev rfl (E.lenSl rfl Try.underlying45) ?_
      refine R.gyes rfl rfl ?_
      refine R.ev rfl (E.gtr rfl rfl) ?_
      refine R.ev rfl (E.pickF rfl rfl) ?_
      refine R.done ?_
      refine X.keep [(0, _), (1, _), (2, _), (3, _), (9, _), (19, _)] ⟨rfl, rfl, rfl, rfl, rfl, rfl, trivial⟩ ?_
      refine X.cut (()) ⟨lkV rfl ?_, rfl, rfl, rfl, rfl, rfl, trivial⟩ ?_
      · rw [h15]; rfl
      exact hs
  · rintro _ w2 hs
    refine X.keep [(0, _), (1, _), (2, _), (3, _), (9, _), (19, _)] ⟨rfl, rfl, rfl, rfl, rfl, rfl, trivial⟩ ?_
    refine X.next ?_
    refine C.cbool rfl (fun h19 => ?_) (fun h19 => ?_)
    · have hne : 0 < A1.length + B1.length := by simp at h19; omega
      refine C.skip ?_
      refine X.next ?_
      refine C.block ?_
      refine C.seq ?_
      refine C.region ?_
      refine R.ev rfl (E.assign rfl) ?_
      refine R.done ?_
      refine X.keep [(0, _), (1, _), (2, _), (3, _), (9, _)] ⟨rfl, rfl, rfl, rfl, rfl, trivial⟩ ?_
      refine X.next ?_
      refine C.seq ?_
      refine C.block ?_
      refine C.seq ?_
      refine C.region ?_
      refine R.ev rfl (E.move rfl) ?_
      refine R.ev rfl (E.lenSl rfl Try.underlying45) ?_
      refine R.ev rfl (E.eql rfl rfl) ?_
      refine R.ev rfl (E.assign rfl) ?_
      refine R.done ?_
      refine X.keep [(0, _), (1, _), (2, _), (3, _), (9, _), (28, _)] ⟨rfl, rfl, rfl, rfl, rfl, rfl, trivial⟩ ?_
      refine X.next ?_
      refine C.cut [(0, _), (1, _), (2, _), (3, _), (9, _)] (fun (o : Int) => [(10, .int .i64 o)]) (fun o w' => o = ordM cmpI A1 B1 ∧ Sat K w' (G1 :: Hs)) ⟨rfl, rfl, rfl, rfl, rfl, trivial⟩ ?_ ?_
      · refine C.cdec rfl (fun h28 => ?_) (fun h28 => ?_)
        · refine C.region ?_
          refine R.ev rfl (E.assign rfl) ?_
          refine R.done ?_
          refine X.keep [(0, _), (1, _), (2, _), (3, _), (9, _), (10, _)] ⟨rfl, rfl, rfl, rfl, rfl, rfl, trivial⟩ ?_
          first
            | exact X.cut ((cmpI x y)) ⟨lkV rfl rfl, rfl, rfl, rfl, rfl, rfl, trivial⟩ ⟨ord_two hx hy, hs⟩
            | exact X.cut ((1 : Int)) ⟨lkV rfl rfl, rfl, rfl, rfl, rfl, rfl, trivial⟩ ⟨ord_one (by omega) (by omega), hs⟩
            | exact X.cut ((-1 : Int)) ⟨lkV rfl rfl, rfl, rfl, rfl, rfl, rfl, trivial⟩ ⟨ord_neg (by omega), hs⟩
        · refine C.seq ?_
          refine C.region ?_
          refine R.ev rfl (E.move rfl) ?_
          refine R.ev rfl (E.lenSl rfl Try.underlying45) ?_
          refine R.ev rfl (E.eql rfl rfl) ?_
          refine R.ev rfl (E.assign rfl) ?_
          refine R.done ?_
          refine X.keep [(0, _), (1, _), (2, _), (3, _), (9, _), (32, _)] ⟨rfl, rfl, rfl, rfl, rfl, rfl, trivial⟩ ?_
          refine X.next ?_
          refine C.cdec rfl (fun h32 => ?_) (fun h32 => ?_)
          · refine C.region ?_
            refine R.ev rfl (E.assign rfl) ?_
            refine R.done ?_
            refine X.keep [(0, _), (1, _), (2, _), (3, _), (9, _), (10, _)] ⟨rfl, rfl, rfl, rfl, rfl, rfl, trivial⟩ ?_
            first
              | exact X.cut ((cmpI x y)) ⟨lkV rfl rfl, rfl, rfl, rfl, rfl, rfl, trivial⟩ ⟨ord_two hx hy, hs⟩
              | exact X.cut ((1 : Int)) ⟨lkV rfl rfl, rfl, rfl, rfl, rfl, rfl, trivial⟩ ⟨ord_one (by omega) (by omega), hs⟩
              | exact X.cut ((-1 : Int)) ⟨lkV rfl rfl, rfl, rfl, rfl, rfl, rfl, trivial⟩ ⟨ord_neg (by omega), hs⟩
          · refine C.drawn (SatS hs) ([3, 6], [0, 1, 2, 4, 5, 8]) (by kernel_rfl) ?_
            have hs := hs.drew
            obtain ⟨x, bx, ox, hx, _, _, rfl, Ax⟩ := hs.el (i := 0) (ad := ada) (n := A1.length) (c := ca) (by omega)
            obtain ⟨y, by1, oy, hy, _, _, rfl, Ay⟩ := hs.el (i := 0) (ad := adb) (n := B1.length) (c := cb) (by omega)
            refine D.evP 0 rfl (by kernel_rfl) rfl (fun _ => hs.to) (fun _ => E.move rfl) ?_
            refine D.evP 1 rfl (by kernel_rfl) rfl (fun _ => hs.to) (fun _ => E.move rfl) ?_
            refine D.evP 2 rfl (by kernel_rfl) rfl (fun _ => hs.to) (fun _ => E.indexAddr (i := 0) rfl rfl Try.underlying45 Try.sz23 rfl (by omega)) ?_
            refine D.evP 4 rfl (by kernel_rfl) rfl (fun _ => hs.to) (fun _ => E.move rfl) ?_
            refine D.evP 5 rfl (by kernel_rfl) rfl (fun _ => hs.to) (fun _ => E.indexAddr (i := 0) rfl rfl Try.underlying45 Try.sz23 rfl (by omega)) ?_
            refine D.ev 3 rfl (by kernel_rfl) rfl hs.to (fun _ hS => E.loadRowC rfl Try.underlying23 rfl Try.sz23 ⟨Ax _ hS, Enc.len _⟩) ?_
            refine D.ev 6 rfl (by kernel_rfl) rfl hs.to (fun _ hS => E.loadRowC rfl Try.underlying23 rfl Try.sz23 ⟨Ay _ hS, Enc.len _⟩) ?_
            refine D.act 7 rfl (by kernel_rfl) ?_
            refine R.callV (first := []) (cap := []) ⟨_, _, Try.func19, rfl, by kernel_rfl⟩ rfl rfl rfl (compare_any x.1 y.1 _ x.2 y.2) ?_
            rintro _ w4 ⟨rfl, m4⟩
            have hs := hs.keep m4
            refine D.backT (by kernel_rfl) ?_
            refine D.evP 8 rfl (by kernel_rfl) rfl (np (by kernel_rfl)) (fun _ => E.assign rfl) ?_
            refine D.done rfl (by kernel_rfl) ?_
            refine X.keep [(0, _), (1, _), (2, _), (3, _), (9, _), (10, _)] ⟨rfl, rfl, rfl, rfl, rfl, rfl, trivial⟩ ?_
            first
              | exact X.cut ((cmpI x y)) ⟨lkV rfl rfl, rfl, rfl, rfl, rfl, rfl, trivial⟩ ⟨ord_two hx hy, hs⟩
              | exact X.cut ((1 : Int)) ⟨lkV rfl rfl, rfl, rfl, rfl, rfl, rfl, trivial⟩ ⟨ord_one (by omega) (by omega), hs⟩
              | exact X.cut ((-1 : Int)) ⟨lkV rfl rfl, rfl, rfl, rfl, rfl, rfl, trivial⟩ ⟨ord_neg (by omega), hs⟩
      · rintro o w3 ⟨ho, hs⟩
        refine X.keep [(0, _), (1, _), (2, _), (3, _), (9, _), (10, _)] ⟨rfl, rfl, rfl, rfl, rfl, rfl, trivial⟩ ?_
        refine X.blockNormal ?_
        refine X.next ?_
        refine C.seq ?_
        refine C.region ?_
        rcases ordM_cases (kp := kp) hne ho with ⟨ho, x, A2, rfl, hmg⟩ | ⟨ho, x, A2, y, B2, rfl, rfl, hmg⟩ | ⟨ho, y, B2, rfl, hmg⟩
        · refine R.sallocA hs Try.zr23 rfl ?_
          intro b11 w11 hs
          refine R.done ?_
          refine X.keep [(0, _), (1, _), (2, _), (3, _), (9, _), (10, _), (11, _)] ⟨rfl, rfl, rfl, rfl, rfl, rfl, rfl, trivial⟩ ?_
          refine X.next ?_
          refine C.seq ?_
          refine C.seq ?_
          refine C.region ?_
          refine R.ev rfl (E.move rfl) ?_
          refine R.ev rfl ((E.leq rfl rfl).isT (by omega)) ?_
          refine R.done ?_
          refine X.keep [(0, _), (1, _), (2, _), (3, _), (9, _), (10, _), (11, _), (37, _)] ⟨rfl, rfl, rfl, rfl, rfl, rfl, rfl, rfl, trivial⟩ ?_
          refine X.next ?_
          refine C.ctrue rfl ?_
          refine C.drawn (SatS hs) ([2], [0, 1, 3, 4, 6]) (by kernel_rfl) ?_
          have hs := hs.drew
          obtain ⟨x', bx, ox, hx, _, _, rfl, Ax⟩ := hs.el (i := 0) (ad := ada) (n := (x :: A2).length) (c := ca) (by simp)
          obtain rfl : x = x' := by simpa using hx
          have ka2 := ka.behind (i := 1) (by simp)
          refine D.evP 0 rfl (by kernel_rfl) rfl (fun _ => hs.to) (fun _ => E.move rfl) ?_
          refine D.evP 1 rfl (by kernel_rfl) rfl (fun _ => hs.to) (fun _ => E.indexAddr (i := 0) rfl rfl Try.underlying45 Try.sz23 rfl (by simp)) ?_
          refine D.evP 3 rfl (by kernel_rfl) rfl (fun _ => hs.to) (fun _ => E.move rfl) ?_
          refine D.evP 4 rfl (by kernel_rfl) rfl (fun _ => hs.to) (fun _ => E.sliceLs (a := 1) rfl rfl Try.underlying45 Try.sz23 rfl (by simp)) ?_
          refine D.ev 2 rfl (by kernel_rfl) rfl hs.to (fun _ hS => E.loadRowC rfl Try.underlying23 rfl Try.sz23 ⟨Ax _ hS, Enc.len _⟩) ?_
          refine D.act 5 rfl (by kernel_rfl) ?_
          first | refine R.cstoreAll hs rfl rfl Try.sz23 (by first | rfl | assumption | exact encV_len _ | exact Enc.len _ | exact len_ub (by assumption) | simp [*]) (by first | rfl | assumption | exact encV_len _ | exact Enc.len _ | exact len_ub (by assumption) | simp [*]) (by first | assumption | exact OneL.all | exact Enc.one _ | exact ub_all _ | (repeat' (first | refine List.forall_mem_cons.2 ⟨?_, ?_⟩ | exact List.forall_mem_nil _ | rfl | exact OneC.one | exact KRow.oneC' (by assumption)))) ?_ | refine R.cstore hs rfl rfl Try.sz23 (by first | rfl | assumption | exact encV_len _ | exact Enc.len _ | exact len_ub (by assumption) | simp [*]) (by simp [*]) (by first | assumption | exact OneL.all | exact Enc.one _ | exact ub_all _ | (repeat' (first | refine List.forall_mem_cons.2 ⟨?_, ?_⟩ | exact List.forall_mem_nil _ | rfl | exact OneC.one | exact KRow.oneC' (by assumption)))) ?_
          intro w11_5 hs
          try simp only [List.set_cons_zero, List.set_cons_succ] at hs
          refine D.backT (by kernel_rfl) ?_
          refine D.evP 6 rfl (by kernel_rfl) rfl (np (by kernel_rfl)) (fun _ => E.assign rfl) ?_
          refine D.done rfl (by kernel_rfl) ?_
          refine X.keep [(0, _), (1, _), (2, _), (3, _), (9, _), (10, _), (11, _)] ⟨rfl, rfl, rfl, rfl, rfl, rfl, rfl, trivial⟩ ?_
          refine X.next ?_
          refine C.seq ?_
          refine C.seq ?_
          refine C.region ?_
          refine R.ev rfl (E.move rfl) ?_
          refine R.ev rfl ((E.geq rfl rfl).isF (by omega)) ?_
          refine R.done ?_
          refine X.keep [(0, _), (1, _), (2, _), (3, _), (9, _), (10, _), (11, _), (44, _)] ⟨rfl, rfl, rfl, rfl, rfl, rfl, rfl, rfl, trivial⟩ ?_
          refine X.next ?_
          refine C.cfalse rfl ?_
          refine C.skip ?_
          refine X.next ?_
          refine C.seq ?_
          refine C.region ?_
          refine R.ev rfl (E.move rfl) ?_
          refine R.ev rfl (E.move rfl) ?_
          refine R.ev rfl ((E.leq rfl rfl).isT (by omega)) ?_
          refine R.ev rfl (E.move rfl) ?_
          refine R.ev rfl ((E.geq rfl rfl).isF (by omega)) ?_
          refine R.callV (first := []) (cap := []) hk rfl rfl rfl (hkf _ _ _ _ hs) ?_
          rintro _ w14 ⟨rfl, hs⟩
          simp only [List.length_cons] at hlen
          refine R.done ?_
          refine X.keep [(0, _), (1, _), (2, _), (3, _), (9, _), (11, _), (55, _)] ⟨rfl, rfl, rfl, rfl, rfl, rfl, rfl, trivial⟩ ?_
          refine X.next ?_
          refine C.cbool rfl (fun h55 => ?_) (fun h55 => ?_)
          · refine C.region ?_
            refine R.ev rfl (E.move rfl) ?_
            refine R.ev rfl (E.loadRowC rfl Try.underlying23 rfl Try.sz23 (by first | exact ⟨hs.ldA, by first | rfl | assumption | exact encV_len _ | exact Enc.len _ | exact len_ub (by assumption)⟩ | exact ⟨hs.ldP rfl, by first | rfl | assumption | exact encV_len _ | exact Enc.len _ | exact len_ub (by assumption)⟩ | exact ⟨hs.ldM rfl rfl, by first | rfl | assumption | exact encV_len _ | exact Enc.len _ | exact len_ub (by assumption)⟩ | exact ⟨hs.ldM (by assumption) (by first | rfl | assumption), by first | rfl | assumption | exact encV_len _ | exact Enc.len _ | exact len_ub (by assumption)⟩ | exact ⟨by assumption, by first | rfl | assumption | exact encV_len _ | exact Enc.len _ | exact len_ub (by assumption)⟩ | exact hs.ldp | exact At.partC (by assumption))) ?_
            refine R.buildSliceA rfl Try.underlying45 Try.sz23 Try.zr23 rfl (by first | rfl | assumption | exact encV_len _ | exact Enc.len _ | simp [*]) (by decide) (by decide) ?_
            intro b58 w58 n58
            have hs := hs.new n58
            refine R.capp1 (x) hs rfl rfl Try.underlying45 Try.by23 (by rfl) rfl (by first | exact hs.ldA | exact hs.ldP rfl | exact by assumption) (by decide) (by first | omega | (simp only [List.length_append, List.length_cons, List.length_nil] at *; omega)) (by first | omega | (simp only [List.length_append, List.length_cons, List.length_nil] at *; omega)) ?_
            intro v59 w59 F59 r59 hs
            refine R.ev rfl (E.assign rfl) ?_
            refine R.done ?_
            refine X.keep [(0, _), (1, _), (2, _), (3, _), (9, _)] ⟨rfl, rfl, rfl, rfl, rfl, trivial⟩ ?_
            refine X.blockNormal ?_
            first
              | exact X.again (_, _, A2, B1, out ++ [x], v59, F59) ⟨rfl, rfl, rfl, rfl, rfl, trivial⟩ ⟨ka2, kb, r59, by rw [← he, hmg, if_pos h55]; simp, by simp; omega, hs.to⟩ (by simp)
              | exact X.again (_, _, A2, B1, out, vl, G1) ⟨rfl, rfl, rfl, rfl, rfl, trivial⟩ ⟨ka2, kb, r1, by rw [← he, hmg, if_neg (by rw [h55]; exact Bool.false_ne_true)]; rfl, by omega, hs.to⟩ (by simp)
          · refine C.skip ?_
            refine X.blockNormal ?_
            first
              | exact X.again (_, _, A2, B1, out ++ [x], v59, F59) ⟨rfl, rfl, rfl, rfl, rfl, trivial⟩ ⟨ka2, kb, r59, by rw [← he, hmg, if_pos h55]; simp, by simp; omega, hs.to⟩ (by simp)
              | exact X.again (_, _, A2, B1, out, vl, G1) ⟨rfl, rfl, rfl, rfl, rfl, trivial⟩ ⟨ka2, kb, r1, by rw [← he, hmg, if_neg (by rw [h55]; exact Bool.false_ne_true)]; rfl, by omega, hs.to⟩ (by simp)
        · refine R.sallocA hs Try.zr23 rfl ?_
          intro b11 w11 hs
          refine R.done ?_
          refine X.keep [(0, _), (1, _), (2, _), (3, _), (9, _), (10, _), (11, _)] ⟨rfl, rfl, rfl, rfl, rfl, rfl, rfl, trivial⟩ ?_
          refine X.next ?_
          refine C.seq ?_
          refine C.seq ?_
          refine C.region ?_
          refine R.ev rfl (E.move rfl) ?_
          refine R.ev rfl ((E.leq rfl rfl).isT (by omega)) ?_
          refine R.done ?_
          refine X.keep [(0, _), (1, _), (2, _), (3, _), (9, _), (10, _), (11, _), (37, _)] ⟨rfl, rfl, rfl, rfl, rfl, rfl, rfl, rfl, trivial⟩ ?_
          refine X.next ?_
          refine C.ctrue rfl ?_
          refine C.drawn (SatS hs) ([2], [0, 1, 3, 4, 6]) (by kernel_rfl) ?_
          have hs := hs.drew
          obtain ⟨x', bx, ox, hx, _, _, rfl, Ax⟩ := hs.el (i := 0) (ad := ada) (n := (x :: A2).length) (c := ca) (by simp)
          obtain rfl : x = x' := by simpa using hx
          have ka2 := ka.behind (i := 1) (by simp)
          refine D.evP 0 rfl (by kernel_rfl) rfl (fun _ => hs.to) (fun _ => E.move rfl) ?_
          refine D.evP 1 rfl (by kernel_rfl) rfl (fun _ => hs.to) (fun _ => E.indexAddr (i := 0) rfl rfl Try.underlying45 Try.sz23 rfl (by simp)) ?_
          refine D.evP 3 rfl (by kernel_rfl) rfl (fun _ => hs.to) (fun _ => E.move rfl) ?_
          refine D.evP 4 rfl (by kernel_rfl) rfl (fun _ => hs.to) (fun _ => E.sliceLs (a := 1) rfl rfl Try.underlying45 Try.sz23 rfl (by simp)) ?_
          refine D.ev 2 rfl (by kernel_rfl) rfl hs.to (fun _ hS => E.loadRowC rfl Try.underlying23 rfl Try.sz23 ⟨Ax _ hS, Enc.len _⟩) ?_
          refine D.act 5 rfl (by kernel_rfl) ?_
          first | refine R.cstoreAll hs rfl rfl Try.sz23 (by first | rfl | assumption | exact encV_len _ | exact Enc.len _ | exact len_ub (by assumption) | simp [*]) (by first | rfl | assumption | exact encV_len _ | exact Enc.len _ | exact len_ub (by assumption) | simp [*]) (by first | assumption | exact OneL.all | exact Enc.one _ | exact ub_all _ | (repeat' (first | refine List.forall_mem_cons.2 ⟨?_, ?_⟩ | exact List.forall_mem_nil _ | rfl | exact OneC.one | exact KRow.oneC' (by assumption)))) ?_ | refine R.cstore hs rfl rfl Try.sz23 (by first | rfl | assumption | exact encV_len _ | exact Enc.len _ | exact len_ub (by assumption) | simp [*]) (by simp [*]) (by first | assumption | exact OneL.all | exact Enc.one _ | exact ub_all _ | (repeat' (first | refine List.forall_mem_cons.2 ⟨?_, ?_⟩ | exact List.forall_mem_nil _ | rfl | exact OneC.one | exact KRow.oneC' (by assumption)))) ?_
          intro w11_5 hs
          try simp only [List.set_cons_zero, List.set_cons_succ] at hs
          refine D.backT (by kernel_rfl) ?_
          refine D.evP 6 rfl (by kernel_rfl) rfl (np (by kernel_rfl)) (fun _ => E.assign rfl) ?_
          refine D.done rfl (by kernel_rfl) ?_
          refine X.keep [(0, _), (1, _), (2, _), (3, _), (9, _), (10, _), (11, _)] ⟨rfl, rfl, rfl, rfl, rfl, rfl, rfl, trivial⟩ ?_
          refine X.next ?_
          refine C.seq ?_
          refine C.seq ?_
          refine C.region ?_
          refine R.ev rfl (E.move rfl) ?_
          refine R.ev rfl ((E.geq rfl rfl).isT (by omega)) ?_
          refine R.done ?_
          refine X.keep [(0, _), (1, _), (2, _), (3, _), (9, _), (10, _), (11, _), (44, _)] ⟨rfl, rfl, rfl, rfl, rfl, rfl, rfl, rfl, trivial⟩ ?_
          refine X.next ?_
          refine C.ctrue rfl ?_
          refine C.drawn (SatS hs) ([2], [0, 1, 3, 4, 6]) (by kernel_rfl) ?_
          have hs := hs.drew
          obtain ⟨y', by1, oy, hy, _, _, rfl, Ay⟩ := hs.el (i := 0) (ad := adb) (n := (y :: B2).length) (c := cb) (by simp)
          obtain rfl : y = y' := by simpa using hy
          have kb2 := kb.behind (i := 1) (by simp)
          refine D.evP 0 rfl (by kernel_rfl) rfl (fun _ => hs.to) (fun _ => E.move rfl) ?_
          refine D.evP 1 rfl (by kernel_rfl) rfl (fun _ => hs.to) (fun _ => E.indexAddr (i := 0) rfl rfl Try.underlying45 Try.sz23 rfl (by simp)) ?_
          refine D.evP 3 rfl (by kernel_rfl) rfl (fun _ => hs.to) (fun _ => E.move rfl) ?_
          refine D.evP 4 rfl (by kernel_rfl) rfl (fun _ => hs.to) (fun _ => E.sliceLs (a := 1) rfl rfl Try.underlying45 Try.sz23 rfl (by simp)) ?_
          refine D.ev 2 rfl (by kernel_rfl) rfl hs.to (fun _ hS => E.loadRowC rfl Try.underlying23 rfl Try.sz23 ⟨Ay _ hS, Enc.len _⟩) ?_
          refine D.act 5 rfl (by kernel_rfl) ?_
          first | refine R.cstoreAll hs rfl rfl Try.sz23 (by first | rfl | assumption | exact encV_len _ | exact Enc.len _ | exact len_ub (by assumption) | simp [*]) (by first | rfl | assumption | exact encV_len _ | exact Enc.len _ | exact len_ub (by assumption) | simp [*]) (by first | assumption | exact OneL.all | exact Enc.one _ | exact ub_all _ | (repeat' (first | refine List.forall_mem_cons.2 ⟨?_, ?_⟩ | exact List.forall_mem_nil _ | rfl | exact OneC.one | exact KRow.oneC' (by assumption)))) ?_ | refine R.cstore hs rfl rfl Try.sz23 (by first | rfl | assumption | exact encV_len _ | exact Enc.len _ | exact len_ub (by assumption) | simp [*]) (by simp [*]) (by first | assumption | exact OneL.all | exact Enc.one _ | exact ub_all _ | (repeat' (first | refine List.forall_mem_cons.2 ⟨?_, ?_⟩ | exact List.forall_mem_nil _ | rfl | exact OneC.one | exact KRow.oneC' (by assumption)))) ?_
          intro w13_5 hs
          try simp only [List.set_cons_zero, List.set_cons_succ] at hs
          refine D.backT (by kernel_rfl) ?_
          refine D.evP 6 rfl (by kernel_rfl) rfl (np (by kernel_rfl)) (fun _ => E.assign rfl) ?_
          refine D.done rfl (by kernel_rfl) ?_
          refine X.keep [(0, _), (1, _), (2, _), (3, _), (9, _), (10, _), (11, _)] ⟨rfl, rfl, rfl, rfl, rfl, rfl, rfl, trivial⟩ ?_
          refine X.next ?_
          refine C.seq ?_
          refine C.region ?_
          refine R.ev rfl (E.move rfl) ?_
          refine R.ev rfl (E.move rfl) ?_
          refine R.ev rfl ((E.leq rfl rfl).isT (by omega)) ?_
          refine R.ev rfl (E.move rfl) ?_
          refine R.ev rfl ((E.geq rfl rfl).isT (by omega)) ?_
          refine R.callV (first := []) (cap := []) hk rfl rfl rfl (hkf _ _ _ _ hs) ?_
          rintro _ w14 ⟨rfl, hs⟩
          simp only [List.length_cons] at hlen
          refine R.done ?_
          refine X.keep [(0, _), (1, _), (2, _), (3, _), (9, _), (11, _), (55, _)] ⟨rfl, rfl, rfl, rfl, rfl, rfl, rfl, trivial⟩ ?_
          refine X.next ?_
          refine C.cbool rfl (fun h55 => ?_) (fun h55 => ?_)
          · refine C.region ?_
            refine R.ev rfl (E.move rfl) ?_
            refine R.ev rfl (E.loadRowC rfl Try.underlying23 rfl Try.sz23 (by first | exact ⟨hs.ldA, by first | rfl | assumption | exact encV_len _ | exact Enc.len _ | exact len_ub (by assumption)⟩ | exact ⟨hs.ldP rfl, by first | rfl | assumption | exact encV_len _ | exact Enc.len _ | exact len_ub (by assumption)⟩ | exact ⟨hs.ldM rfl rfl, by first | rfl | assumption | exact encV_len _ | exact Enc.len _ | exact len_ub (by assumption)⟩ | exact ⟨hs.ldM (by assumption) (by first | rfl | assumption), by first | rfl | assumption | exact encV_len _ | exact Enc.len _ | exact len_ub (by assumption)⟩ | exact ⟨by assumption, by first | rfl | assumption | exact encV_len _ | exact Enc.len _ | exact len_ub (by assumption)⟩ | exact hs.ldp | exact At.partC (by assumption))) ?_
            refine R.buildSliceA rfl Try.underlying45 Try.sz23 Try.zr23 rfl (by first | rfl | assumption | exact encV_len _ | exact Enc.len _ | simp [*]) (by decide) (by decide) ?_
            intro b58 w58 n58
            have hs := hs.new n58
            refine R.capp1 (y) hs rfl rfl Try.underlying45 Try.by23 (by rfl) rfl (by first | exact hs.ldA | exact hs.ldP rfl | exact by assumption) (by decide) (by first | omega | (simp only [List.length_append, List.length_cons, List.length_nil] at *; omega)) (by first | omega | (simp only [List.length_append, List.length_cons, List.length_nil] at *; omega)) ?_
            intro v59 w59 F59 r59 hs
            refine R.ev rfl (E.assign rfl) ?_
            refine R.done ?_
            refine X.keep [(0, _), (1, _), (2, _), (3, _), (9, _)] ⟨rfl, rfl, rfl, rfl, rfl, trivial⟩ ?_
            refine X.blockNormal ?_
            first
              | exact X.again (_, _, A2, B2, out ++ [y], v59, F59) ⟨rfl, rfl, rfl, rfl, rfl, trivial⟩ ⟨ka2, kb2, r59, by rw [← he, hmg, if_pos h55]; simp, by simp; omega, hs.to⟩ (by simp; omega)
              | exact X.again (_, _, A2, B2, out, vl, G1) ⟨rfl, rfl, rfl, rfl, rfl, trivial⟩ ⟨ka2, kb2, r1, by rw [← he, hmg, if_neg (by rw [h55]; exact Bool.false_ne_true)]; rfl, by omega, hs.to⟩ (by simp; omega)
          · refine C.skip ?_
            refine X.blockNormal ?_
            first
              | exact X.again (_, _, A2, B2, out ++ [y], v59, F59) ⟨rfl, rfl, rfl, rfl, rfl, trivial⟩ ⟨ka2, kb2, r59, by rw [← he, hmg, if_pos h55]; simp, by simp; omega, hs.to⟩ (by simp; omega)
              | exact X.again (_, _, A2, B2, out, vl, G1) ⟨rfl, rfl, rfl, rfl, rfl, trivial⟩ ⟨ka2, kb2, r1, by rw [← he, hmg, if_neg (by rw [h55]; exact Bool.false_ne_true)]; rfl, by omega, hs.to⟩ (by simp; omega)
        · refine R.sallocA hs Try.zr23 rfl ?_
          intro b11 w11 hs
          refine R.done ?_
          refine X.keep [(0, _), (1, _), (2, _), (3, _), (9, _), (10, _), (11, _)] ⟨rfl, rfl, rfl, rfl, rfl, rfl, rfl, trivial⟩ ?_
          refine X.next ?_
          refine C.seq ?_
          refine C.seq ?_
          refine C.region ?_
          refine R.ev rfl (E.move rfl) ?_
          refine R.ev rfl ((E.leq rfl rfl).isF (by omega)) ?_
          refine R.done ?_
          refine X.keep [(0, _), (1, _), (2, _), (3, _), (9, _), (10, _), (11, _), (37, _)] ⟨rfl, rfl, rfl, rfl, rfl, rfl, rfl, rfl, trivial⟩ ?_
          refine X.next ?_
          refine C.cfalse rfl ?_
          refine C.skip ?_
          refine X.next ?_
          refine C.seq ?_
          refine C.seq ?_
          refine C.region ?_
          refine R.ev rfl (E.move rfl) ?_
          refine R.ev rfl ((E.geq rfl rfl).isT (by omega)) ?_
          refine R.done ?_
          refine X.keep [(0, _), (1, _), (2, _), (3, _), (9, _), (10, _), (11, _), (44, _)] ⟨rfl, rfl, rfl, rfl, rfl, rfl, rfl, rfl, trivial⟩ ?_
          refine X.next ?_
          refine C.ctrue rfl ?_
          refine C.drawn (SatS hs) ([2], [0, 1, 3, 4, 6]) (by kernel_rfl) ?_
          have hs := hs.drew
          obtain ⟨y', by1, oy, hy, _, _, rfl, Ay⟩ := hs.el (i := 0) (ad := adb) (n := (y :: B2).length) (c := cb) (by simp)
          obtain rfl : y = y' := by simpa using hy
          have kb2 := kb.behind (i := 1) (by simp)
          refine D.evP 0 rfl (by kernel_rfl) rfl (fun _ => hs.to) (fun _ => E.move rfl) ?_
          refine D.evP 1 rfl (by kernel_rfl) rfl (fun _ => hs.to) (fun _ => E.indexAddr (i := 0) rfl rfl Try.underlying45 Try.sz23 rfl (by simp)) ?_
          refine D.evP 3 rfl (by kernel_rfl) rfl (fun _ => hs.to) (fun _ => E.move rfl) ?_
          refine D.evP 4 rfl (by kernel_rfl) rfl (fun _ => hs.to) (fun _ => E.sliceLs (a := 1) rfl rfl Try.underlying45 Try.sz23 rfl (by simp)) ?_
          refine D.ev 2 rfl (by kernel_rfl) rfl hs.to (fun _ hS => E.loadRowC rfl Try.underlying23 rfl Try.sz23 ⟨Ay _ hS, Enc.len _⟩) ?_
          refine D.act 5 rfl (by kernel_rfl) ?_
          first | refine R.cstoreAll hs rfl rfl Try.sz23 (by first | rfl | assumption | exact encV_len _ | exact Enc.len _ | exact len_ub (by assumption) | simp [*]) (by first | rfl | assumption | exact encV_len _ | exact Enc.len _ | exact len_ub (by assumption) | simp [*]) (by first | assumption | exact OneL.all | exact Enc.one _ | exact ub_all _ | (repeat' (first | refine List.forall_mem_cons.2 ⟨?_, ?_⟩ | exact List.forall_mem_nil _ | rfl | exact OneC.one | exact KRow.oneC' (by assumption)))) ?_ | refine R.cstore hs rfl rfl Try.sz23 (by first | rfl | assumption | exact encV_len _ | exact Enc.len _ | exact len_ub (by assumption) | simp [*]) (by simp [*]) (by first | assumption | exact OneL.all | exact Enc.one _ | exact ub_all _ | (repeat' (first | refine List.forall_mem_cons.2 ⟨?_, ?_⟩ | exact List.forall_mem_nil _ | rfl | exact OneC.one | exact KRow.oneC' (by assumption)))) ?_
          intro w13_5 hs
          try simp only [List.set_cons_zero, List.set_cons_succ] at hs
          refine D.backT (by kernel_rfl) ?_
          refine D.evP 6 rfl (by kernel_rfl) rfl (np (by kernel_rfl)) (fun _ => E.assign rfl) ?_
          refine D.done rfl (by kernel_rfl) ?_
          refine X.keep [(0, _), (1, _), (2, _), (3, _), (9, _), (10, _), (11, _)] ⟨rfl, rfl, rfl, rfl, rfl, rfl, rfl, trivial⟩ ?_
          refine X.next ?_
          refine C.seq ?_
          refine C.region ?_
          refine R.ev rfl (E.move rfl) ?_
          refine R.ev rfl (E.move rfl) ?_
          refine R.ev rfl ((E.leq rfl rfl).isF (by omega)) ?_
          refine R.ev rfl (E.move rfl) ?_
          refine R.ev rfl ((E.geq rfl rfl).isT (by omega)) ?_
          refine R.callV (first := []) (cap := []) hk rfl rfl rfl (hkf _ _ _ _ hs) ?_
          rintro _ w14 ⟨rfl, hs⟩
          simp only [List.length_cons] at hlen
          refine R.done ?_
          refine X.keep [(0, _), (1, _), (2, _), (3, _), (9, _), (11, _), (55, _)] ⟨rfl, rfl, rfl, rfl, rfl, rfl, rfl, trivial⟩ ?_
          refine X.next ?_
          refine C.cbool rfl (fun h55 => ?_) (fun h55 => ?_)
          · refine C.region ?_
            refine R.ev rfl (E.move rfl) ?_
            refine R.ev rfl (E.loadRowC rfl Try.underlying23 rfl Try.sz23 (by first | exact ⟨hs.ldA, by first | rfl | assumption | exact encV_len _ | exact Enc.len _ | exact len_ub (by assumption)⟩ | exact ⟨hs.ldP rfl, by first | rfl | assumption | exact encV_len _ | exact Enc.len _ | exact len_ub (by assumption)⟩ | exact ⟨hs.ldM rfl rfl, by first | rfl | assumption | exact encV_len _ | exact Enc.len _ | exact len_ub (by assumption)⟩ | exact ⟨hs.ldM (by assumption) (by first | rfl | assumption), by first | rfl | assumption | exact encV_len _ | exact Enc.len _ | exact len_ub (by assumption)⟩ | exact ⟨by assumption, by first | rfl | assumption | exact encV_len _ | exact Enc.len _ | exact len_ub (by assumption)⟩ | exact hs.ldp | exact At.partC (by assumption))) ?_
            refine R.buildSliceA rfl Try.underlying45 Try.sz23 Try.zr23 rfl (by first | rfl | assumption | exact encV_len _ | exact Enc.len _ | simp [*]) (by decide) (by decide) ?_
            intro b58 w58 n58
            have hs := hs.new n58
            refine R.capp1 (y) hs rfl rfl Try.underlying45 Try.by23 (by rfl) rfl (by first | exact hs.ldA | exact hs.ldP rfl | exact by assumption) (by decide) (by first | omega | (simp only [List.length_append, List.length_cons, List.length_nil] at *; omega)) (by first | omega | (simp only [List.length_append, List.length_cons, List.length_nil] at *; omega)) ?_
            intro v59 w59 F59 r59 hs
            refine R.ev rfl (E.assign rfl) ?_
            refine R.done ?_
            refine X.keep [(0, _), (1, _), (2, _), (3, _), (9, _)] ⟨rfl, rfl, rfl, rfl, rfl, trivial⟩ ?_
            refine X.blockNormal ?_
            first
              | exact X.again (_, _, A1, B2, out ++ [y], v59, F59) ⟨rfl, rfl, rfl, rfl, rfl, trivial⟩ ⟨ka, kb2, r59, by rw [← he, hmg, if_pos h55]; simp, by simp; omega, hs.to⟩ (by simp)
              | exact X.again (_, _, A1, B2, out, vl, G1) ⟨rfl, rfl, rfl, rfl, rfl, trivial⟩ ⟨ka, kb2, r1, by rw [← he, hmg, if_neg (by rw [h55]; exact Bool.false_ne_true)]; rfl, by omega, hs.to⟩ (by simp)
          · refine C.skip ?_
            refine X.blockNormal ?_
            first
              | exact X.again (_, _, A1, B2, out ++ [y], v59, F59) ⟨rfl, rfl, rfl, rfl, rfl, trivial⟩ ⟨ka, kb2, r59, by rw [← he, hmg, if_pos h55]; simp, by simp; omega, hs.to⟩ (by simp)
              | exact X.again (_, _, A1, B2, out, vl, G1) ⟨rfl, rfl, rfl, rfl, rfl, trivial⟩ ⟨ka, kb2, r1, by rw [← he, hmg, if_neg (by rw [h55]; exact Bool.false_ne_true)]; rfl, by omega, hs.to⟩ (by simp)
    · have hz : A1.length = 0 ∧ B1.length = 0 := by simp at h19; simpa using h19
      refine C.exit ?_
      refine X.thenExit ?_
      refine X.loopExit ?_
      refine X.blockExit ?_
      refine X.next ?_
      refine C.seq ?_
      refine C.region ?_
      refine R.ev rfl (E.move rfl) ?_
      refine R.ev rfl (E.assign rfl) ?_
      refine R.done ?_
      refine X.keep [(8, _)] ⟨rfl, trivial⟩ ?_
      refine X.next ?_
      refine C.ret ?_
      refine X.ret1 rfl rfl ?_
      have e1 := List.length_eq_zero_iff.1 hz.1
      have e2 := List.length_eq_zero_iff.1 hz.2
      subst e1 e2
      rw [mergeL, List.append_nil] at he
      exact ⟨G1, by rw [← he]; exact r1, hs⟩
theorem cmpI_z (x y : Vec 32) : cmpI x y = 0 ↔ x = y := by rw [cmpI, cmpL_zero, Subtype.ext_iff]
theorem cmpI_n (x y : Vec 32) : cmpI x y < 0 ↔ ltV x y = true := by simp [ltV]
theorem cmpI_p (x y : Vec 32) : 0 < cmpI x y ↔ ltV y x = true := by rw [← cmpI_n, cmpI, cmpI, cmpL_neg x.1 y.1]; omega
/-- a set that was made: in order, its elements, how many at most -/
def SetPost (K : Kn) (Hs : List Hl) (m : Vec 32 → Prop) (n : Nat) (r : Value) (w' : World) : Prop := ∃ K' L' F', KLe K K' ∧ RowL 23 encV 32 r L' F' ∧ SS ltV L' ∧ (∀ x, x ∈ L' ↔ m x) ∧ L'.length ≤ n ∧ Sat K' w' (F' :: Hs)
theorem mergeL_le {cmp : Vec 32 → Vec 32 → Int} {kp : Bool → Bool → Bool} : ∀ (A B : List (Vec 32)), (mergeL cmp kp A B).length ≤ A.length + B.length
  | [], [] => by simp [mergeL]
  | a :: A, [] => by have := mergeL_le (cmp := cmp) (kp := kp) A []; rw [mergeL, List.length_append]; split <;> simp at * <;> omega
  | [], b :: B => by have := mergeL_le (cmp := cmp) (kp := kp) [] B; rw [mergeL, List.length_append]; split <;> simp at * <;> omega
  | a :: A, b :: B => by
    have h1 := mergeL_le (cmp := cmp) (kp := kp) A (b :: B)
    have h2 := mergeL_le (cmp := cmp) (kp := kp) A B
    have h3 := mergeL_le (cmp := cmp) (kp := kp) (a :: A) B
    simp only [List.length_cons] at *
    rw [mergeL]
    split
    · rw [List.length_append]; split <;> simp only [List.length_cons, List.length_nil] at * <;> omega
    · split
      · rw [List.length_append]; split <;> simp only [List.length_cons, List.length_nil] at * <;> omega
      · rw [List.length_append]; split <;> simp only [List.length_cons, List.length_nil] at * <;> omega
termination_by A B => A.length + B.length
theorem union1_any (p q : Bool) (w1 : World) (Hs1 : List Hl) (hs : Sat K w1 Hs1) : Ret Try.prog 54 #[.bool p, .bool q] w1 fun r w' => r = .bool (p || q) ∧ Sat K w' Hs1 := by
  refine Ret.enter (n := 9) (args := [.bool p, .bool q]) Try.func54 rfl rfl ?_
  refine C.keep [(0, _), (1, _)] ⟨rfl, rfl, trivial⟩ ?_
  refine C.seq ?_
  refine C.region ?_
  refine R.ev rfl (E.assign rfl) ?_
  refine R.done ?_
  refine X.keep [(0, _), (1, _)] ⟨rfl, rfl, trivial⟩ ?_
  refine X.next ?_
  refine C.seq ?_
  refine C.region ?_
  refine R.ev rfl (E.move rfl) ?_
  refine R.ev rfl (E.move rfl) ?_
  refine R.split 6 rfl (fun h6 => ?_) (fun h6 => ?_)
  · refine R.gskip rfl rfl rfl ?_
    refine R.ev rfl (E.pickT rfl rfl) ?_
    refine R.ev rfl (E.assign rfl) ?_
    refine R.done ?_
    refine X.keep [(4, _)] ⟨rfl, trivial⟩ ?_
    refine X.next ?_
    refine C.ret ?_
    refine X.ret1 rfl rfl ?_
    exact ⟨by simp_all, hs⟩
  · refine R.gyes rfl rfl ?_
    refine R.ev rfl (E.move rfl) ?_
    refine R.ev rfl (E.pickF rfl rfl) ?_
    refine R.ev rfl (E.assign rfl) ?_
    refine R.done ?_
    refine X.keep [(4, _)] ⟨rfl, trivial⟩ ?_
    refine X.next ?_
    refine C.ret ?_
    refine X.ret1 rfl rfl ?_
    exact ⟨by simp_all, hs⟩
theorem minus1_any (p q : Bool) (w1 : World) (Hs1 : List Hl) (hs : Sat K w1 Hs1) : Ret Try.prog 55 #[.bool p, .bool q] w1 fun r w' => r = .bool (p && !q) ∧ Sat K w' Hs1 := by
  refine Ret.enter (n := 10) (args := [.bool p, .bool q]) Try.func55 rfl rfl ?_
  refine C.keep [(0, _), (1, _)] ⟨rfl, rfl, trivial⟩ ?_
  refine C.seq ?_
  refine C.region ?_
  refine R.ev rfl (E.assign rfl) ?_
  refine R.done ?_
  refine X.keep [(0, _), (1, _)] ⟨rfl, rfl, trivial⟩ ?_
  refine X.next ?_
  refine C.seq ?_
  refine C.region ?_
  refine R.ev rfl (E.move rfl) ?_
  refine R.ev rfl (E.move rfl) ?_
  refine R.split 6 rfl (fun h6 => ?_) (fun h6 => ?_)
  · refine R.gyes rfl rfl ?_
    refine R.ev rfl (E.move rfl) ?_
    refine R.gyes rfl rfl ?_
    refine R.ev rfl (E.not rfl) ?_
    refine R.ev rfl (E.pickT rfl rfl) ?_
    refine R.ev rfl (E.assign rfl) ?_
    refine R.done ?_
    refine X.keep [(4, _)] ⟨rfl, trivial⟩ ?_
    refine X.next ?_
    refine C.ret ?_
    refine X.ret1 rfl rfl ?_
    exact ⟨by simp_all, hs⟩
  · refine R.gskip rfl rfl rfl ?_
    refine R.gskip rfl rfl rfl ?_
    refine R.ev rfl (E.pickF rfl rfl) ?_
    refine R.ev rfl (E.assign rfl) ?_
    refine R.done ?_
    refine X.keep [(4, _)] ⟨rfl, trivial⟩ ?_
    refine X.next ?_
    refine C.ret ?_
    refine X.ret1 rfl rfl ?_
    exact ⟨by simp_all, hs⟩
theorem both1_any (p q : Bool) (w1 : World) (Hs1 : List Hl) (hs : Sat K w1 Hs1) : Ret Try.prog 56 #[.bool p, .bool q] w1 fun r w' => r = .bool (p && q) ∧ Sat K w' Hs1 := by
  refine Ret.enter (n := 9) (args := [.bool p, .bool q]) Try.func56 rfl rfl ?_
  refine C.keep [(0, _), (1, _)] ⟨rfl, rfl, trivial⟩ ?_
  refine C.seq ?_
  refine C.region ?_
  refine R.ev rfl (E.assign rfl) ?_
  refine R.done ?_
  refine X.keep [(0, _), (1, _)] ⟨rfl, rfl, trivial⟩ ?_
  refine X.next ?_
  refine C.seq ?_
  refine C.region ?_
  refine R.ev rfl (E.move rfl) ?_
  refine R.ev rfl (E.move rfl) ?_
  refine R.split 6 rfl (fun h6 => ?_) (fun h6 => ?_)
  · refine R.gyes rfl rfl ?_
    refine R.ev rfl (E.move rfl) ?_
    refine R.ev rfl (E.pickT rfl rfl) ?_
    refine R.ev rfl (E.assign rfl) ?_
    refine R.done ?_
    refine X.keep [(4, _)] ⟨rfl, trivial⟩ ?_
    refine X.next ?_
    refine C.ret ?_
    refine X.ret1 rfl rfl ?_
    exact ⟨by simp_all, hs⟩
  · refine R.gskip rfl rfl rfl ?_
    refine R.ev rfl (E.pickF rfl rfl) ?_
    refine R.ev rfl (E.assign rfl) ?_
    refine R.done ?_
    refine X.keep [(4, _)] ⟨rfl, trivial⟩ ?_
    refine X.next ?_
    refine C.ret ?_
    refine X.ret1 rfl rfl ?_
    exact ⟨by simp_all, hs⟩
theorem union_any (hs : Sat K w Hs) [ha : Rd encV 32 K Hs va A] [hb : Rd encV 32 K Hs vb B] (hn : A.length + B.length ≤ 500) : Ret Try.prog 33 #[va, vb] w (SetPost K Hs (fun x => x ∈ A ∨ x ∈ B) (A.length + B.length)) := by
  refine Ret.enter (n := 10) (args := [va, vb]) Try.func33 rfl rfl ?_
  refine C.keep [(0, _), (1, _)] ⟨rfl, rfl, trivial⟩ ?_
  refine C.seq ?_
  refine C.region ?_
  refine R.ev rfl (E.assign rfl) ?_
  refine R.done ?_
  refine X.keep [(0, _), (1, _)] ⟨rfl, rfl, trivial⟩ ?_
  refine X.next ?_
  refine C.seq ?_
  refine C.region ?_
  refine R.ev rfl (E.move rfl) ?_
  refine R.call ⟨_, _, Try.func30, rfl, by kernel_rfl⟩ rfl rfl (set_any (L := A) hs (by omega)) ?_
  rintro v1 w1 ⟨A1, F1, r1, s1, m1, n1, hs⟩
  refine R.ev rfl (E.move rfl) ?_
  refine R.call ⟨_, _, Try.func30, rfl, by kernel_rfl⟩ rfl rfl (set_any (L := B) hs (by omega)) ?_
  rintro v2 w2 ⟨B1, F2, r2, s2, m2, n2, hs⟩
  obtain ⟨K1, k1, q2, hs⟩ := r2.freezeK hs
  obtain ⟨K2, k2, q1, hs⟩ := r1.freezeK hs
  refine R.call ⟨_, _, Try.func53, rfl, by kernel_rfl⟩ rfl rfl (merge_any (K := K2) (A := A1) (B := B1) (kp := fun p q => p || q) ⟨_, _, Try.func54, rfl, by kernel_rfl⟩ union1_any hs (by omega)) ?_
  rintro v3 w3 ⟨F3, r3, hs⟩
  refine R.ev rfl (E.assign rfl) ?_
  refine R.done ?_
  refine X.keep [(4, _)] ⟨rfl, trivial⟩ ?_
  refine X.next ?_
  refine C.ret ?_
  refine X.ret1 rfl rfl ?_
  refine ⟨K2, _, F3, k1.trans k2, r3, mergeL_ss ltV_swo cmpI_n cmpI_z cmpI_p A1 B1 s1 s2, fun x => ?_, by have := mergeL_le (cmp := cmpI) (kp := fun p q => p || q) A1 B1; omega, hs⟩
  rw [mergeL_mem ltV_swo cmpI_n cmpI_z cmpI_p A1 B1 s1 s2, m1, m2]
  by_cases h1 : x ∈ A <;> by_cases h2 : x ∈ B <;> simp [h1, h2]
theorem minus_any (hs : Sat K w Hs) [ha : Rd encV 32 K Hs va A] [hb : Rd encV 32 K Hs vb B] (hn : A.length + B.length ≤ 500) : Ret Try.prog 34 #[va, vb] w (SetPost K Hs (fun x => x ∈ A ∧ x ∉ B) A.length) := by
  refine Ret.enter (n := 10) (args := [va, vb]) Try.func34 rfl rfl ?_
  refine C.keep [(0, _), (1, _)] ⟨rfl, rfl, trivial⟩ ?_
  refine C.seq ?_
  refine C.region ?_
  refine R.ev rfl (E.assign rfl) ?_
  refine R.done ?_
  refine X.keep [(0, _), (1, _)] ⟨rfl, rfl, trivial⟩ ?_
  refine X.next ?_
  refine C.seq ?_
  refine C.region ?_
  refine R.ev rfl (E.move rfl) ?_
  refine R.call ⟨_, _, Try.func30, rfl, by kernel_rfl⟩ rfl rfl (set_any (L := A) hs (by omega)) ?_
  rintro v1 w1 ⟨A1, F1, r1, s1, m1, n1, hs⟩
  refine R.ev rfl (E.move rfl) ?_
  refine R.call ⟨_, _, Try.func30, rfl, by kernel_rfl⟩ rfl rfl (set_any (L := B) hs (by omega)) ?_
  rintro v2 w2 ⟨B1, F2, r2, s2, m2, n2, hs⟩
  obtain ⟨K1, k1, q2, hs⟩ := r2.freezeK hs
  obtain ⟨K2, k2, q1, hs⟩ := r1.freezeK hs
  refine R.call ⟨_, _, Try.func53, rfl, by kernel_rfl⟩ rfl rfl (merge_any (K := K2) (A := A1) (B := B1) (kp := fun p q => p && !q) ⟨_, _, Try.func55, rfl, by kernel_rfl⟩ minus1_any hs (by omega)) ?_
  rintro v3 w3 ⟨F3, r3, hs⟩
  refine R.ev rfl (E.assign rfl) ?_
  refine R.done ?_
  refine X.keep [(4, _)] ⟨rfl, trivial⟩ ?_
  refine X.next ?_
  refine C.ret ?_
  refine X.ret1 rfl rfl ?_
  have hss := mergeL_ss (kp := fun p q => p && !q) ltV_swo cmpI_n cmpI_z cmpI_p A1 B1 s1 s2
  have hmm : ∀ x, x ∈ mergeL cmpI (fun p q => p && !q) A1 B1 ↔ x ∈ A ∧ x ∉ B := by
    intro x
    rw [mergeL_mem ltV_swo cmpI_n cmpI_z cmpI_p A1 B1 s1 s2, m1, m2]
    by_cases h1 : x ∈ A <;> by_cases h2 : x ∈ B <;> simp [h1, h2]
  exact ⟨K2, _, F3, k1.trans k2, r3, hss, hmm, nodup_len (hss.nodup ltV_swo) (fun x hx => ((hmm x).1 hx).1), hs⟩
theorem both_any (hs : Sat K w Hs) [ha : Rd encV 32 K Hs va A] [hb : Rd encV 32 K Hs vb B] (hn : A.length + B.length ≤ 500) : Ret Try.prog 36 #[va, vb] w (SetPost K Hs (fun x => x ∈ A ∧ x ∈ B) A.length) := by
  refine Ret.enter (n := 10) (args := [va, vb]) Try.func36 rfl rfl ?_
  refine C.keep [(0, _), (1, _)] ⟨rfl, rfl, trivial⟩ ?_
  refine C.seq ?_
  refine C.region ?_
  refine R.ev rfl (E.assign rfl) ?_
  refine R.done ?_
  refine X.keep [(0, _), (1, _)] ⟨rfl, rfl, trivial⟩ ?_
  refine X.next ?_
  refine C.seq ?_
  refine C.region ?_
  refine R.ev rfl (E.move rfl) ?_
  refine R.call ⟨_, _, Try.func30, rfl, by kernel_rfl⟩ rfl rfl (set_any (L := A) hs (by omega)) ?_
  rintro v1 w1 ⟨A1, F1, r1, s1, m1, n1, hs⟩
  refine R.ev rfl (E.move rfl) ?_
  refine R.call ⟨_, _, Try.func30, rfl, by kernel_rfl⟩ rfl rfl (set_any (L := B) hs (by omega)) ?_
  rintro v2 w2 ⟨B1, F2, r2, s2, m2, n2, hs⟩
  obtain ⟨K1, k1, q2, hs⟩ := r2.freezeK hs
  obtain ⟨K2, k2, q1, hs⟩ := r1.freezeK hs
  refine R.call ⟨_, _, Try.func53, rfl, by kernel_rfl⟩ rfl rfl (merge_any (K := K2) (A := A1) (B := B1) (kp := fun p q => p && q) ⟨_, _, Try.func56, rfl, by kernel_rfl⟩ both1_any hs (by omega)) ?_
  rintro v3 w3 ⟨F3, r3, hs⟩
  refine R.ev rfl (E.assign rfl) ?_
  refine R.done ?_
  refine X.keep [(4, _)] ⟨rfl, trivial⟩ ?_
  refine X.next ?_
  refine C.ret ?_
  refine X.ret1 rfl rfl ?_
  have hss := mergeL_ss (kp := fun p q => p && q) ltV_swo cmpI_n cmpI_z cmpI_p A1 B1 s1 s2
  have hmm : ∀ x, x ∈ mergeL cmpI (fun p q => p && q) A1 B1 ↔ x ∈ A ∧ x ∈ B := by
    intro x
    rw [mergeL_mem ltV_swo cmpI_n cmpI_z cmpI_p A1 B1 s1 s2, m1, m2]
    by_cases h1 : x ∈ A <;> by_cases h2 : x ∈ B <;> simp [h1, h2]
  exact ⟨K2, _, F3, k1.trans k2, r3, hss, hmm, nodup_len (hss.nodup ltV_swo) (fun x hx => ((hmm x).1 hx).1), hs⟩
theorem has11_any (a : Vec 32) (hs : Sat K w Hs) [hrd : Rd encV 32 K Hs v L] (hn : L.length ≤ 1000) : Ret Try.prog 29 #[v, idV a.1] w fun r w' => r = .bool (decide (a ∈ L)) ∧ Sat K w' Hs := by
  have e1 := encV_len a
  refine Ret.enter (n := 8) (args := [v, idV a.1]) Try.func29 rfl rfl ?_
  refine C.keep [(0, _), (1, _)] ⟨rfl, rfl, trivial⟩ ?_
  refine C.seq ?_
  refine C.region ?_
  refine R.sboxA hs rfl rfl ?_
  intro b3 w3 hs
  refine R.ev rfl (E.assign rfl) ?_
  refine R.done ?_
  refine X.keep [(0, _), (3, _)] ⟨rfl, rfl, trivial⟩ ?_
  refine X.next ?_
  refine C.seq ?_
  refine C.region ?_
  refine R.ev rfl (E.move rfl) ?_
  refine R.ev rfl (E.loadRowC rfl Try.underlying23 rfl Try.sz23 (by first | exact ⟨hs.ldA, by first | rfl | assumption | exact encV_len _ | exact Enc.len _ | exact len_ub (by assumption)⟩ | exact ⟨hs.ldP rfl, by first | rfl | assumption | exact encV_len _ | exact Enc.len _ | exact len_ub (by assumption)⟩ | exact ⟨hs.ldM rfl rfl, by first | rfl | assumption | exact encV_len _ | exact Enc.len _ | exact len_ub (by assumption)⟩ | exact ⟨hs.ldM (by assumption) (by first | rfl | assumption), by first | rfl | assumption | exact encV_len _ | exact Enc.len _ | exact len_ub (by assumption)⟩ | exact ⟨by assumption, by first | rfl | assumption | exact encV_len _ | exact Enc.len _ | exact len_ub (by assumption)⟩ | exact hs.ldp | exact At.partC (by assumption))) ?_
  refine R.call ⟨_, _, Try.func49, rfl, by kernel_rfl⟩ rfl rfl (conI_any (L := L) a hs (by omega)) ?_
  rintro _ w1 ⟨rfl, hs⟩
  refine R.ev rfl (E.assign rfl) ?_
  refine R.done ?_
  refine X.keep [(4, _)] ⟨rfl, trivial⟩ ?_
  refine X.next ?_
  refine C.ret ?_
  refine X.ret1 rfl rfl ?_
  exact ⟨rfl, hs.to⟩
/-! the reference -/
theorem rhas_any (a : Vec 32) (hs : Sat K w Hs) [hrd : Rd encV 32 K Hs v L] (hn : L.length ≤ 1000) : Ret Try.prog 28 #[v, idV a.1] w fun r w' => r = .bool (decide (a ∈ L)) ∧ Sat K w' Hs := by
  obtain ⟨ad, c, rfl, _⟩ := hrd.ex
  have e1 := encV_len a
  refine Ret.enter (n := 18) (args := [.slice ad L.length c, idV a.1]) Try.func28 rfl rfl ?_
  refine C.keep [(0, _), (1, _)] ⟨rfl, rfl, trivial⟩ ?_
  refine C.seq ?_
  refine C.region ?_
  refine R.sboxA hs rfl rfl ?_
  intro b3 w3 hs
  refine R.ev rfl (E.assign rfl) ?_
  refine R.done ?_
  refine X.keep [(0, _), (3, _)] ⟨rfl, rfl, trivial⟩ ?_
  refine X.next ?_
  refine C.seq ?_
  refine C.seq ?_
  refine C.region ?_
  refine R.ev rfl (E.assign rfl) ?_
  refine R.done ?_
  refine X.keep [(0, _), (3, _), (5, _)] ⟨rfl, rfl, rfl, trivial⟩ ?_
  refine X.next ?_
  refine C.block ?_
  refine C.loop  [(0, _), (3, _)] (fun k => [(5, .int .i64 (k : Nat))]) (fun k w' => k ≤ L.length ∧ a ∉ L.take k ∧ Sat K w' (row b3 30 (a.1.map ub) :: Hs)) (fun k => L.length - k) (0) ⟨rfl, rfl, rfl, trivial⟩ ⟨Nat.zero_le _, by simp, hs⟩ ?_
  rintro k w1 ⟨hk, hno, hs⟩
  refine C.keep [(0, _), (3, _), (5, _)] ⟨rfl, rfl, rfl, trivial⟩ ?_
  refine C.seq ?_
  refine C.seq ?_
  refine C.region ?_
  refine R.ev rfl (E.move rfl) ?_
  refine R.ev rfl (E.move rfl) ?_
  refine R.ev rfl (E.lenSl rfl Try.underlying50) ?_
  refine R.ev rfl (E.lss rfl rfl) ?_
  refine R.done ?_
  refine X.keep [(0, _), (3, _), (5, _), (9, _)] ⟨rfl, rfl, rfl, rfl, trivial⟩ ?_
  refine X.next ?_
  refine C.cdec rfl (fun h9 => ?_) (fun h9 => ?_)
  · obtain ⟨y, bk_y, of_y, hy, my, ly, rfl, Ay⟩ := hs.el (i := k) (ad := ad) (n := L.length) (c := c) (by omega)
    have ay := Ay _ hs
    refine C.skip ?_
    refine X.next ?_
    refine C.seq ?_
    refine C.block ?_
    refine C.seq ?_
    refine C.drawn (SatS hs) ([3, 4], [0, 1, 2, 5]) (by kernel_rfl) ?_
    have hs := hs.drew
    refine D.evP 0 rfl (by kernel_rfl) rfl (fun _ => hs.to) (fun _ => E.move rfl) ?_
    refine D.evP 1 rfl (by kernel_rfl) rfl (fun _ => hs.to) (fun _ => E.move rfl) ?_
    refine D.evP 2 rfl (by kernel_rfl) rfl (fun _ => hs.to) (fun _ => E.indexAddr rfl rfl Try.underlying50 Try.sz30 rfl (by first | omega | decide)) ?_
    refine D.ev 3 rfl (by kernel_rfl) rfl hs.to (fun _ hS => E.loadRowC rfl Try.underlying30 rfl Try.sz30 ⟨Ay _ hS, Enc.len _⟩) ?_
    refine D.ev 4 rfl (by kernel_rfl) rfl hs.to (fun _ hS => E.loadRowC rfl Try.underlying30 rfl Try.sz30 (by first | exact ⟨hS.ldA, by first | rfl | assumption | exact encV_len _ | exact Enc.len _ | exact len_ub (by assumption)⟩ | exact ⟨hS.ldP rfl, by first | rfl | assumption | exact encV_len _ | exact Enc.len _ | exact len_ub (by assumption)⟩ | exact ⟨hS.ldM rfl rfl, by first | rfl | assumption | exact encV_len _ | exact Enc.len _ | exact len_ub (by assumption)⟩ | exact ⟨hS.ldM (by assumption) (by first | rfl | assumption), by first | rfl | assumption | exact encV_len _ | exact Enc.len _ | exact len_ub (by assumption)⟩ | exact ⟨by assumption, by first | rfl | assumption | exact encV_len _ | exact Enc.len _ | exact len_ub (by assumption)⟩ | exact ⟨(by assumption : ∀ w', Sat _ w' _ → At w' _ _ _) _ hS, by first | rfl | assumption | exact encV_len _ | exact Enc.len _ | exact len_ub (by assumption)⟩ | exact hS.ldp | exact At.partC (by assumption) | exact At.partC ((by assumption : ∀ w', Sat _ w' _ → At w' _ _ _) _ hS))) ?_
    refine D.evP 5 rfl (by kernel_rfl) rfl (fun _ => hs.to) (fun _ => (E.eqV 10 (a := y) (b := a) rfl rfl Try.lv30 rfl Try.underlying30 rfl Try.gd30)) ?_
    refine D.done rfl (by kernel_rfl) ?_
    refine X.keep [(0, _), (3, _), (5, _), (17, _)] ⟨rfl, rfl, rfl, rfl, trivial⟩ ?_
    refine X.next ?_
    refine C.cdec rfl (fun h17 => ?_) (fun h17 => ?_)
    · refine C.seq ?_
      refine C.region ?_
      refine R.ev rfl (E.assign rfl) ?_
      refine R.done ?_
      refine X.keep [(4, _)] ⟨rfl, trivial⟩ ?_
      refine X.next ?_
      refine C.ret ?_
      refine X.blockRet ?_
      refine X.thenRet ?_
      refine X.loopRet ?_
      refine X.blockRet ?_
      refine X.thenRet ?_
      refine X.ret1 rfl rfl ?_
      exact ⟨by rw [decide_eq_true]; rw [← h17]; exact my, hs.to⟩
    · refine C.skip ?_
      refine X.blockNormal ?_
      refine X.next ?_
      refine C.region ?_
      refine R.ev rfl (E.move rfl) ?_
      refine R.ev rfl (E.add rfl rfl (by omega) (by omega)) ?_
      refine R.ev rfl (E.assign rfl) ?_
      refine R.done ?_
      refine X.keep [(0, _), (3, _), (5, _)] ⟨rfl, rfl, rfl, trivial⟩ ?_
      exact X.again (k + 1) ⟨rfl, rfl, rfl, trivial⟩ ⟨by omega, by rw [take_snoc hy]; simp only [List.mem_append, List.mem_singleton, not_or]; exact ⟨hno, fun e => h17 e.symm⟩, hs⟩ (by omega)
  · refine C.exit ?_
    refine X.thenExit ?_
    refine X.loopExit ?_
    refine X.blockExit ?_
    refine X.next ?_
    refine C.seq ?_
    refine C.region ?_
    refine R.ev rfl (E.assign rfl) ?_
    refine R.done ?_
    refine X.keep [(4, _)] ⟨rfl, trivial⟩ ?_
    refine X.next ?_
    refine C.ret ?_
    refine X.ret1 rfl rfl ?_
    exact ⟨by rw [decide_eq_false]; rwa [show k = L.length by omega, List.take_length] at hno, hs.to⟩
theorem ltV_cmp (x y : Vec 32) : decide (cmpL x.1 y.1 < 0) = ltV x y := rfl
theorem rset_any (hs : Sat K w Hs) [hrd : Rd encV 32 K Hs v L] (hn : L.length ≤ 1000) : Ret Try.prog 32 #[v] w fun r w' => ∃ L' F', RowL 30 encV 32 r L' F' ∧ SS ltV L' ∧ (∀ x, x ∈ L' ↔ x ∈ L) ∧ Sat K w' (F' :: Hs) := by
  obtain ⟨ad, c, rfl, _⟩ := hrd.ex
  refine Ret.enter (n := 52) (args := [.slice ad L.length c]) Try.func32 rfl rfl ?_
  refine C.keep [(0, _)] ⟨rfl, trivial⟩ ?_
  refine C.seq ?_
  refine C.region ?_
  refine R.ev rfl (E.assign rfl) ?_
  refine R.done ?_
  refine X.keep [(0, _)] ⟨rfl, trivial⟩ ?_
  refine X.next ?_
  refine C.seq ?_
  refine C.region ?_
  refine R.ev rfl (E.assign rfl) ?_
  refine R.done ?_
  refine X.keep [(0, _), (3, _)] ⟨rfl, rfl, trivial⟩ ?_
  refine X.next ?_
  refine C.seq ?_
  refine C.seq ?_
  refine C.region ?_
  refine R.ev rfl (E.assign rfl) ?_
  refine R.done ?_
  refine X.keep [(0, _), (3, _), (4, _)] ⟨rfl, rfl, rfl, trivial⟩ ?_
  refine X.next ?_
  refine C.block ?_
  refine C.loop (T := Nat × List (Vec 32) × Value × Hl) [(0, _)] (fun (k, _, vo, _) => [(3, vo), (4, .int .i64 (k : Nat))]) (fun (k, O, vo, G) w' => k ≤ L.length ∧ RowL 30 encV 32 vo O G ∧ SS ltV O ∧ (∀ x, x ∈ O ↔ x ∈ L.take k) ∧ O.length ≤ k ∧ Sat K w' (G :: Hs)) (fun (k, _) => L.length - k) ((0, [], .slice none 0 0, [])) ⟨rfl, rfl, rfl, trivial⟩ ⟨by omega, RowL.nil _ _ _, by simp [SS], by simp, by simp, hs.nil⟩ ?_
  rintro ⟨k, O, vo, G1⟩ w1 ⟨hk, r1, hss, hmem, hOl, hs⟩
  obtain ⟨ado, co, rfl, hco, _, hado⟩ := r1.val
  refine C.keep [(0, _), (3, _), (4, _)] ⟨rfl, rfl, rfl, trivial⟩ ?_
  refine C.seq ?_
  refine C.seq ?_
  refine C.region ?_
  refine R.ev rfl (E.move rfl) ?_
  refine R.ev rfl (E.move rfl) ?_
  refine R.ev rfl (E.lenSl rfl Try.underlying50) ?_
  refine R.ev rfl (E.lss rfl rfl) ?_
  refine R.done ?_
  refine X.keep [(0, _), (3, _), (4, _), (9, _)] ⟨rfl, rfl, rfl, rfl, trivial⟩ ?_
  refine X.next ?_
  refine C.cdec rfl (fun h9 => ?_) (fun h9 => ?_)
  · obtain ⟨y, bk_y, of_y, hy, my, ly, rfl, Ay⟩ := hs.el (i := k) (ad := ad) (n := L.length) (c := c) (by omega)
    have ay := Ay _ hs
    have htk := take_snoc hy
    refine C.skip ?_
    refine X.next ?_
    refine C.seq ?_
    refine C.block ?_
    refine C.seq ?_
    refine C.seq ?_
    refine C.region ?_
    refine R.ev rfl (E.move rfl) ?_
    refine R.ev rfl (E.move rfl) ?_
    refine R.ev rfl (E.move rfl) ?_
    refine R.ev rfl (E.indexAddr rfl rfl Try.underlying50 Try.sz30 rfl (by first | omega | decide)) ?_
    refine R.ev rfl (E.loadRowC rfl Try.underlying30 rfl Try.sz30 ⟨Ay _ hs, Enc.len _⟩) ?_
    refine R.call ⟨_, _, Try.func28, rfl, by kernel_rfl⟩ rfl rfl (rhas_any (L := O) y hs (by omega)) ?_
    rintro _ w5 ⟨rfl, hs⟩
    refine R.done ?_
    refine X.keep [(0, _), (3, _), (4, _), (17, _)] ⟨rfl, rfl, rfl, rfl, trivial⟩ ?_
    refine X.next ?_
    refine C.cdec rfl (fun h17 => ?_) (fun h17 => ?_)
    · refine C.exit ?_
      refine X.thenExit ?_
      refine X.blockExit ?_
      refine X.next ?_
      refine C.region ?_
      refine R.ev rfl (E.move rfl) ?_
      refine R.ev rfl (E.add rfl rfl (by omega) (by omega)) ?_
      refine R.ev rfl (E.assign rfl) ?_
      refine R.done ?_
      refine X.keep [(0, _), (3, _), (4, _)] ⟨rfl, rfl, rfl, trivial⟩ ?_
      first
        | exact X.again (k + 1, O, .slice ado O.length co, G1) ⟨rfl, rfl, rfl, trivial⟩ ⟨by omega, r1, hss, fun x => by rw [htk, List.mem_append, List.mem_singleton, hmem]; exact ⟨.inl, fun h => h.elim id (fun e => e ▸ (hmem _).1 h17)⟩, by omega, hs⟩ (by show _ - _ < _ - _; omega)
        | exact X.again (k + 1, _, v50, F50) ⟨rfl, rfl, rfl, trivial⟩ ⟨by omega, r50, ins_ss ltV_swo ltV_tot hss h17 hb1 hstop, fun x => by rw [ins_mem, htk, List.mem_append, List.mem_singleton, hmem]; exact Or.comm, by simp [hj]; omega, hs.to⟩ (by show _ - _ < _ - _; omega)
    · refine C.skip ?_
      refine X.next ?_
      refine C.seq ?_
      refine C.region ?_
      refine R.ev rfl (E.assign rfl) ?_
      refine R.done ?_
      refine X.keep [(0, _), (3, _), (4, _), (5, _)] ⟨rfl, rfl, rfl, rfl, trivial⟩ ?_
      refine X.next ?_
      refine C.seq ?_
      refine C.block ?_
      refine C.loop  [(0, _), (3, _), (4, _)] (fun j => [(5, .int .i64 (j : Nat))]) (fun j w' => j ≤ O.length ∧ (∀ i, i < j → ∀ x, O[i]? = some x → ltV x y = true) ∧ Sat K w' (G1 :: Hs)) (fun j => O.length - j) (0) ⟨rfl, rfl, rfl, rfl, trivial⟩ ⟨by omega, fun i h => by omega, hs⟩ ?_
      rintro j w6 ⟨hj, hb1, hs⟩
      refine C.keep [(0, _), (3, _), (4, _), (5, _)] ⟨rfl, rfl, rfl, rfl, trivial⟩ ?_
      refine C.seq ?_
      refine C.seq ?_
      refine C.cut [(0, _), (3, _), (4, _), (5, _)] (fun (q : Bool) => [(33, .bool q)]) (fun q w' => (q = true → ∃ x, O[j]? = some x ∧ ltV x y = true) ∧ (q = false → ∀ x, O[j]? = some x → ltV x y = false) ∧ Sat K w' (G1 :: Hs)) ⟨rfl, rfl, rfl, rfl, trivial⟩ ?_ ?_
      · refine C.drawn (SatS hs) ([8, 12], [0, 1, 2, 3, 4, 5, 6, 7, 9, 10, 11, 14, 15]) (by kernel_rfl) ?_
        have hs := hs.drew
        refine D.evP 0 rfl (by kernel_rfl) rfl (fun _ => hs.to) (fun _ => E.move rfl) ?_
        refine D.evP 1 rfl (by kernel_rfl) rfl (fun _ => hs.to) (fun _ => E.move rfl) ?_
        refine D.evP 2 rfl (by kernel_rfl) rfl (fun _ => hs.to) (fun _ => E.lenSl rfl Try.underlying50) ?_
        refine D.evP 3 rfl (by kernel_rfl) rfl (fun _ => hs.to) (fun _ => E.lss rfl rfl) ?_
        refine D.evP 4 rfl (by kernel_rfl) rfl (fun _ => hs.to) (fun _ => E.move rfl) ?_
        refine D.split 22 rfl (fun h22 => ?_) (fun h22 => ?_)
        · have h22' := of_decide_eq_true h22
          obtain ⟨z, hz⟩ : ∃ z, O[j]? = some z := ⟨_, List.getElem?_eq_getElem (by omega)⟩
          obtain ⟨bo, rfl⟩ := hado (by intro e; rw [e] at hz; simp at hz)
          have Az := Sat.elAt (Hs := G1 :: Hs) (b := bo) (off := 0) (n := O.length) co hs hz
          refine D.evPG 5 rfl (by kernel_rfl) rfl rfl rfl (fun _ => hs.to) (fun _ => E.move rfl) ?_
          refine D.evPG 6 rfl (by kernel_rfl) rfl rfl rfl (fun _ => hs.to) (fun _ => E.move rfl) ?_
          refine D.evPG 7 rfl (by kernel_rfl) rfl rfl rfl (fun _ => hs.to) (fun _ => E.indexAddr rfl rfl Try.underlying50 Try.sz30 rfl (by first | omega | decide)) ?_
          refine D.evPG 9 rfl (by kernel_rfl) rfl rfl rfl (fun _ => hs.to) (fun _ => E.move rfl) ?_
          refine D.evPG 10 rfl (by kernel_rfl) rfl rfl rfl (fun _ => hs.to) (fun _ => E.move rfl) ?_
          refine D.evPG 11 rfl (by kernel_rfl) rfl rfl rfl (fun _ => hs.to) (fun _ => E.indexAddr rfl rfl Try.underlying50 Try.sz30 rfl (by first | omega | decide)) ?_
          refine D.evG 8 rfl (by kernel_rfl) rfl rfl rfl hs.to (fun _ hS => E.loadRowC rfl Try.underlying30 rfl Try.sz30 ⟨Az _ hS, Enc.len _⟩) ?_
          refine D.evG 12 rfl (by kernel_rfl) rfl rfl rfl hs.to (fun _ hS => E.loadRowC rfl Try.underlying30 rfl Try.sz30 ⟨Ay _ hS, Enc.len _⟩) ?_
          refine D.act 13 rfl (by kernel_rfl) ?_
          refine R.gyes rfl rfl ?_
          refine R.call ⟨_, _, Try.func20, rfl, by kernel_rfl⟩ rfl rfl (refCompare_any z.1 y.1 _ z.2 y.2) ?_
          rintro _ w8 ⟨rfl, m8⟩
          have hs := hs.keep m8
          refine D.backT (by kernel_rfl) ?_
          refine D.evPG 14 rfl (by kernel_rfl) rfl rfl rfl (np (by kernel_rfl)) (fun _ => E.lss rfl rfl) ?_
          refine D.evP 15 rfl (by kernel_rfl) rfl (np (by kernel_rfl)) (fun _ => E.pickT rfl rfl) ?_
          refine D.done rfl (by kernel_rfl) ?_
          refine X.keep [(0, _), (3, _), (4, _), (5, _), (33, _)] ⟨rfl, rfl, rfl, rfl, rfl, trivial⟩ ?_
          first
            | exact X.cut ((ltV z y)) ⟨lkV rfl rfl, rfl, rfl, rfl, rfl, trivial⟩ ⟨fun h => ⟨z, hz, h⟩, fun h x hx => by rw [hz] at hx; simp at hx; rw [← hx]; exact h, hs⟩
            | exact X.cut (false) ⟨lkV rfl rfl, rfl, rfl, rfl, rfl, trivial⟩ ⟨fun h => Bool.noConfusion h, fun _ x hx => by have := (List.getElem?_eq_some_iff.1 hx).1; have := of_decide_eq_false h22; omega, hs⟩
        · refine D.skipP 5 rfl (by kernel_rfl) rfl rfl rfl (fun _ => hs.to) ?_
          refine D.skipP 6 rfl (by kernel_rfl) rfl rfl rfl (fun _ => hs.to) ?_
          refine D.skipP 7 rfl (by kernel_rfl) rfl rfl rfl (fun _ => hs.to) ?_
          refine D.skipP 9 rfl (by kernel_rfl) rfl rfl rfl (fun _ => hs.to) ?_
          refine D.skipP 10 rfl (by kernel_rfl) rfl rfl rfl (fun _ => hs.to) ?_
          refine D.skipP 11 rfl (by kernel_rfl) rfl rfl rfl (fun _ => hs.to) ?_
          refine D.skip 8 rfl (by kernel_rfl) rfl rfl rfl hs.to ?_
          refine D.skip 12 rfl (by kernel_rfl) rfl rfl rfl hs.to ?_
          refine D.act 13 rfl (by kernel_rfl) ?_
          refine R.gskip rfl rfl rfl ?_
          refine D.backT (by kernel_rfl) ?_
          refine D.skipP 14 rfl (by kernel_rfl) rfl rfl rfl (np (by kernel_rfl)) ?_
          refine D.evP 15 rfl (by kernel_rfl) rfl (np (by kernel_rfl)) (fun _ => E.pickF rfl rfl) ?_
          refine D.done rfl (by kernel_rfl) ?_
          refine X.keep [(0, _), (3, _), (4, _), (5, _), (33, _)] ⟨rfl, rfl, rfl, rfl, rfl, trivial⟩ ?_
          first
            | exact X.cut ((ltV z y)) ⟨lkV rfl rfl, rfl, rfl, rfl, rfl, trivial⟩ ⟨fun h => ⟨z, hz, h⟩, fun h x hx => by rw [hz] at hx; simp at hx; rw [← hx]; exact h, hs⟩
            | exact X.cut (false) ⟨lkV rfl rfl, rfl, rfl, rfl, rfl, trivial⟩ ⟨fun h => Bool.noConfusion h, fun _ x hx => by have := (List.getElem?_eq_some_iff.1 hx).1; have := of_decide_eq_false h22; omega, hs⟩
      · rintro q w7 ⟨hqT, hqF, hs⟩
        refine X.keep [(0, _), (3, _), (4, _), (5, _), (33, _)] ⟨rfl, rfl, rfl, rfl, rfl, trivial⟩ ?_
        refine X.next ?_
        refine C.cbool rfl (fun h33 => ?_) (fun h33 => ?_)
        · obtain ⟨z, hz, hzl⟩ := hqT h33
          refine C.skip ?_
          refine X.next ?_
          refine C.block ?_
          refine C.region ?_
          refine R.ev rfl (E.move rfl) ?_
          refine R.ev rfl ((E.add rfl rfl (by omega) (by omega)).isI (c := ((j + 1 : Nat) : Int)) (by omega)) ?_
          refine R.ev rfl (E.assign rfl) ?_
          refine R.done ?_
          refine X.keep [(0, _), (3, _), (4, _), (5, _)] ⟨rfl, rfl, rfl, rfl, trivial⟩ ?_
          refine X.blockNormal ?_
          exact X.again (j + 1) ⟨rfl, rfl, rfl, rfl, trivial⟩ ⟨by have := (List.getElem?_eq_some_iff.1 hz).1; omega, fun i hi x hx => by rcases Nat.lt_or_ge i j with h | h; exact hb1 i h x hx; (rw [show i = j by omega, hz] at hx; simp at hx; rw [← hx]; exact hzl), hs⟩ (by have := (List.getElem?_eq_some_iff.1 hz).1; omega)
        · have hstop := hqF h33
          refine C.exit ?_
          refine X.thenExit ?_
          refine X.loopExit ?_
          refine X.blockExit ?_
          refine X.next ?_
          refine C.drawn (SatS hs) ([8], [1, 2, 3, 5, 6, 7, 11, 12, 13, 15]) (by kernel_rfl) ?_
          have hs := hs.drew
          refine D.evP 1 rfl (by kernel_rfl) rfl (fun _ => hs.to) (fun _ => E.move rfl) ?_
          refine D.evP 2 rfl (by kernel_rfl) rfl (fun _ => hs.to) (fun _ => E.move rfl) ?_
          refine D.evP 3 rfl (by kernel_rfl) rfl (fun _ => hs.to) (fun _ => E.sliceH rfl rfl Try.underlying50 Try.sz30 rfl (by omega)) ?_
          refine D.evP 5 rfl (by kernel_rfl) rfl (fun _ => hs.to) (fun _ => E.move rfl) ?_
          refine D.evP 6 rfl (by kernel_rfl) rfl (fun _ => hs.to) (fun _ => E.move rfl) ?_
          refine D.evP 7 rfl (by kernel_rfl) rfl (fun _ => hs.to) (fun _ => E.indexAddr rfl rfl Try.underlying50 Try.sz30 rfl (by first | omega | decide)) ?_
          refine D.evP 11 rfl (by kernel_rfl) rfl (fun _ => hs.to) (fun _ => E.move rfl) ?_
          refine D.evP 12 rfl (by kernel_rfl) rfl (fun _ => hs.to) (fun _ => E.move rfl) ?_
          refine D.evP 13 rfl (by kernel_rfl) rfl (fun _ => hs.to) (fun _ => E.sliceLs (a := j) rfl rfl Try.underlying50 Try.sz30 rfl (by omega)) ?_
          refine D.ev 8 rfl (by kernel_rfl) rfl hs.to (fun _ hS => E.loadRowC rfl Try.underlying30 rfl Try.sz30 ⟨Ay _ hS, Enc.len _⟩) ?_
          refine D.act2 0 9 rfl rfl (by kernel_rfl) ?_ ?_
          · have k1 : Rd encV 32 K (G1 :: Hs) (.slice ado j co) (O.take j) := Rd.preO (m := O.length) hj
            have k2 : Rd encV 32 K (G1 :: Hs) (.slice (subAd ado co j 32) (O.length - j) (co - j)) (O.drop j) := Rd.sufO (m := O.length) hj
            have hl1 : (O.take j).length = j := by rw [List.length_take]; omega
            have hl2 : (O.drop j).length = O.length - j := List.length_drop
            refine R.sbuild0 (enc := (encV (m := 32))) hs Try.underlying50 Try.sz30 rfl ?_
            intro v36 w36 F36 r36 nn36 hs
            refine D.back hs.to ?_
            refine D.act2 4 9 rfl rfl (by kernel_rfl) ?_ ?_
            · refine R.cappSl hs rfl rfl Try.underlying50 Try.by30 (by rfl) rfl (by decide) (by first | omega | (simp only [List.length_append, List.length_cons, List.length_nil] at *; omega)) (by first | omega | (simp only [List.length_append, List.length_cons, List.length_nil] at *; omega)) ?_
              intro v40 w40 F40 r40 hs
              rw [List.nil_append] at r40
              refine D.back hs.to ?_
              refine D.act 9 rfl (by kernel_rfl) ?_
              refine R.buildSliceA rfl Try.underlying50 Try.sz30 Try.zr30 rfl (by first | rfl | assumption | exact encV_len _ | exact Enc.len _ | simp [*]) (by decide) (by decide) ?_
              intro b45 w45 n45
              have hs := hs.new n45
              refine D.backT (by kernel_rfl) ?_
              refine D.act 10 rfl (by kernel_rfl) ?_
              refine R.capp1 (y) hs rfl rfl Try.underlying50 Try.by30 (by rfl) rfl (by first | exact hs.ldA | exact hs.ldP rfl | exact by assumption) (by decide) (by first | omega | (simp only [List.length_append, List.length_cons, List.length_nil] at *; omega)) (by first | omega | (simp only [List.length_append, List.length_cons, List.length_nil] at *; omega)) ?_
              intro v46 w46 F46 r46 hs
              refine D.backT (by kernel_rfl) ?_
              refine D.act 14 rfl (by kernel_rfl) ?_
              refine R.cappSl hs rfl rfl Try.underlying50 Try.by30 (by rfl) rfl (by decide) (by first | omega | (simp only [List.length_append, List.length_cons, List.length_nil] at *; omega)) (by first | omega | (simp only [List.length_append, List.length_cons, List.length_nil] at *; omega)) ?_
              intro v50 w50 F50 r50 hs
              refine D.backT (by kernel_rfl) ?_
              refine D.evP 15 rfl (by kernel_rfl) rfl (np (by kernel_rfl)) (fun _ => E.assign rfl) ?_
              refine D.done rfl (by kernel_rfl) ?_
              refine X.keep [(0, _), (3, _), (4, _)] ⟨rfl, rfl, rfl, trivial⟩ ?_
              refine X.blockNormal ?_
              refine X.next ?_
              refine C.region ?_
              refine R.ev rfl (E.move rfl) ?_
              refine R.ev rfl (E.add rfl rfl (by omega) (by omega)) ?_
              refine R.ev rfl (E.assign rfl) ?_
              refine R.done ?_
              refine X.keep [(0, _), (3, _), (4, _)] ⟨rfl, rfl, rfl, trivial⟩ ?_
              first
                | exact X.again (k + 1, O, .slice ado O.length co, G1) ⟨rfl, rfl, rfl, trivial⟩ ⟨by omega, r1, hss, fun x => by rw [htk, List.mem_append, List.mem_singleton, hmem]; exact ⟨.inl, fun h => h.elim id (fun e => e ▸ (hmem _).1 h17)⟩, by omega, hs⟩ (by show _ - _ < _ - _; omega)
                | exact X.again (k + 1, _, v50, F50) ⟨rfl, rfl, rfl, trivial⟩ ⟨by omega, r50, ins_ss ltV_swo ltV_tot hss h17 hb1 hstop, fun x => by rw [ins_mem, htk, List.mem_append, List.mem_singleton, hmem]; exact Or.comm, by simp [hj]; omega, hs.to⟩ (by show _ - _ < _ - _; omega)
            · refine R.buildSliceA rfl Try.underlying50 Try.sz30 Try.zr30 rfl (by first | rfl | assumption | exact encV_len _ | exact Enc.len _ | simp [*]) (by decide) (by decide) ?_
              intro b45 w45 n45
              have hs := hs.new n45
              refine D.backT (by kernel_rfl) ?_
              refine D.act 4 rfl (by kernel_rfl) ?_
              refine R.cappSl hs rfl rfl Try.underlying50 Try.by30 (by rfl) rfl (by decide) (by first | omega | (simp only [List.length_append, List.length_cons, List.length_nil] at *; omega)) (by first | omega | (simp only [List.length_append, List.length_cons, List.length_nil] at *; omega)) ?_
              intro v40 w40 F40 r40 hs
              rw [List.nil_append] at r40
              refine D.backT (by kernel_rfl) ?_
              refine D.act 10 rfl (by kernel_rfl) ?_
              refine R.capp1 (y) hs rfl rfl Try.underlying50 Try.by30 (by rfl) rfl (by first | exact hs.ldA | exact hs.ldP rfl | exact by assumption) (by decide) (by first | omega | (simp only [List.length_append, List.length_cons, List.length_nil] at *; omega)) (by first | omega | (simp only [List.length_append, List.length_cons, List.length_nil] at *; omega)) ?_
              intro v46 w46 F46 r46 hs
              refine D.backT (by kernel_rfl) ?_
              refine D.act 14 rfl (by kernel_rfl) ?_
              refine R.cappSl hs rfl rfl Try.underlying50 Try.by30 (by rfl) rfl (by decide) (by first | omega | (simp only [List.length_append, List.length_cons, List.length_nil] at *; omega)) (by first | omega | (simp only [List.length_append, List.length_cons, List.length_nil] at *; omega)) ?_
              intro v50 w50 F50 r50 hs
              refine D.backT (by kernel_rfl) ?_
              refine D.evP 15 rfl (by kernel_rfl) rfl (np (by kernel_rfl)) (fun _ => E.assign rfl) ?_
              refine D.done rfl (by kernel_rfl) ?_
              refine X.keep [(0, _), (3, _), (4, _)] ⟨rfl, rfl, rfl, trivial⟩ ?_
              refine X.blockNormal ?_
              refine X.next ?_
              refine C.region ?_
              refine R.ev rfl (E.move rfl) ?_
              refine R.ev rfl (E.add rfl rfl (by omega) (by omega)) ?_
              refine R.ev rfl (E.assign rfl) ?_
              refine R.done ?_
              refine X.keep [(0, _), (3, _), (4, _)] ⟨rfl, rfl, rfl, trivial⟩ ?_
              first
                | exact X.again (k + 1, O, .slice ado O.length co, G1) ⟨rfl, rfl, rfl, trivial⟩ ⟨by omega, r1, hss, fun x => by rw [htk, List.mem_append, List.mem_singleton, hmem]; exact ⟨.inl, fun h => h.elim id (fun e => e ▸ (hmem _).1 h17)⟩, by omega, hs⟩ (by show _ - _ < _ - _; omega)
                | exact X.again (k + 1, _, v50, F50) ⟨rfl, rfl, rfl, trivial⟩ ⟨by omega, r50, ins_ss ltV_swo ltV_tot hss h17 hb1 hstop, fun x => by rw [ins_mem, htk, List.mem_append, List.mem_singleton, hmem]; exact Or.comm, by simp [hj]; omega, hs.to⟩ (by show _ - _ < _ - _; omega)
          · refine R.buildSliceA rfl Try.underlying50 Try.sz30 Try.zr30 rfl (by first | rfl | assumption | exact encV_len _ | exact Enc.len _ | simp [*]) (by decide) (by decide) ?_
            intro b45 w45 n45
            have hs := hs.new n45
            refine D.backT (by kernel_rfl) ?_
            have k1 : Rd encV 32 K (G1 :: Hs) (.slice ado j co) (O.take j) := Rd.preO (m := O.length) hj
            have k2 : Rd encV 32 K (G1 :: Hs) (.slice (subAd ado co j 32) (O.length - j) (co - j)) (O.drop j) := Rd.sufO (m := O.length) hj
            have hl1 : (O.take j).length = j := by rw [List.length_take]; omega
            have hl2 : (O.drop j).length = O.length - j := List.length_drop
            refine D.act 0 rfl (by kernel_rfl) ?_
            refine R.sbuild0 (enc := (encV (m := 32))) hs Try.underlying50 Try.sz30 rfl ?_
            intro v36 w36 F36 r36 nn36 hs
            refine D.backT (by kernel_rfl) ?_
            refine D.act 4 rfl (by kernel_rfl) ?_
            refine R.cappSl hs rfl rfl Try.underlying50 Try.by30 (by rfl) rfl (by decide) (by first | omega | (simp only [List.length_append, List.length_cons, List.length_nil] at *; omega)) (by first | omega | (simp only [List.length_append, List.length_cons, List.length_nil] at *; omega)) ?_
            intro v40 w40 F40 r40 hs
            rw [List.nil_append] at r40
            refine D.backT (by kernel_rfl) ?_
            refine D.act 10 rfl (by kernel_rfl) ?_
            refine R.capp1 (y) hs rfl rfl Try.underlying50 Try.by30 (by rfl) rfl (by first | exact hs.ldA | exact hs.ldP rfl | exact by assumption) (by decide) (by first | omega | (simp only [List.length_append, List.length_cons, List.length_nil] at *; omega)) (by first | omega | (simp only [List.length_append, List.length_cons, List.length_nil] at *; omega)) ?_
            intro v46 w46 F46 r46 hs
            refine D.backT (by kernel_rfl) ?_
            refine D.act 14 rfl (by kernel_rfl) ?_
            refine R.cappSl hs rfl rfl Try.underlying50 Try.by30 (by rfl) rfl (by decide) (by first | omega | (simp only [List.length_append, List.length_cons, List.length_nil] at *; omega)) (by first | omega | (simp only [List.length_append, List.length_cons, List.length_nil] at *; omega)) ?_
            intro v50 w50 F50 r50 hs
            refine D.backT (by kernel_rfl) ?_
            refine D.evP 15 rfl (by kernel_rfl) rfl (np (by kernel_rfl)) (fun _ => E.assign rfl) ?_
            refine D.done rfl (by kernel_rfl) ?_
            refine X.keep [(0, _), (3, _), (4, _)] ⟨rfl, rfl, rfl, trivial⟩ ?_
            refine X.blockNormal ?_
            refine X.next ?_
            refine C.region ?_
            refine R.ev rfl (E.move rfl) ?_
            refine R.ev rfl (E.add rfl rfl (by omega) (by omega)) ?_
            refine R.ev rfl (E.assign rfl) ?_
            refine R.done ?_
            refine X.keep [(0, _), (3, _), (4, _)] ⟨rfl, rfl, rfl, trivial⟩ ?_
            first
              | exact X.again (k + 1, O, .slice ado O.length co, G1) ⟨rfl, rfl, rfl, trivial⟩ ⟨by omega, r1, hss, fun x => by rw [htk, List.mem_append, List.mem_singleton, hmem]; exact ⟨.inl, fun h => h.elim id (fun e => e ▸ (hmem _).1 h17)⟩, by omega, hs⟩ (by show _ - _ < _ - _; omega)
              | exact X.again (k + 1, _, v50, F50) ⟨rfl, rfl, rfl, trivial⟩ ⟨by omega, r50, ins_ss ltV_swo ltV_tot hss h17 hb1 hstop, fun x => by rw [ins_mem, htk, List.mem_append, List.mem_singleton, hmem]; exact Or.comm, by simp [hj]; omega, hs.to⟩ (by show _ - _ < _ - _; omega)
  · refine C.exit ?_
    refine X.thenExit ?_
    refine X.loopExit ?_
    refine X.blockExit ?_
    refine X.next ?_
    refine C.seq ?_
    refine C.region ?_
    refine R.ev rfl (E.move rfl) ?_
    refine R.ev rfl (E.assign rfl) ?_
    refine R.done ?_
    refine X.keep [(2, _)] ⟨rfl, trivial⟩ ?_
    refine X.next ?_
    refine C.ret ?_
    refine X.ret1 rfl rfl ?_
    exact ⟨O, G1, r1, hss, fun x => by rw [hmem, show k = L.length by omega, List.take_length], hs⟩
end Go.Proofs.Ytkmgmdgkphckgaa
