/-
  package bulletinlaw36: many operations; the window shows the model's state.
-/
import Derived.Test.YtajbclcpkgenbaaDoorWinP
namespace Go.Proofs.YtajbclcpkgenbaaDoor
open Go.Eng Go.RowKit

/-! the plain law -/
structure Inv (sz : Int) (L : List Off) : Prop where
  size : isSz sz = true
  nd : (L.map Off.id).Nodup
theorem setOut_ids (a : Vec 32) (n : Int) : ∀ (L : List Off), (setOut a n L).map Off.id = L.map Off.id
  | [] => rfl
  | o :: L => by
    unfold setOut
    split
    · rfl
    · simp [setOut_ids a n L]
theorem setOut_len (a : Vec 32) (n : Int) (L : List Off) : (setOut a n L).length = L.length := by
  have := congrArg List.length (setOut_ids a n L); simpa using this
theorem pInv {sz : Int} {L : List Off} (o : Op36) (h : Inv sz L) : Inv (pS sz o) (pL sz L o) := by
  have hk := kd_lt o
  unfold pS pL
  match hkd : kd o with
  | 0 =>
    simp only
    refine ⟨h.size, ?_⟩
    unfold offerL
    split
    · rename_i he
      rw [List.map_append, List.nodup_append]
      refine ⟨h.nd, by simp, ?_⟩
      intro a ha b hb hab
      simp at hb
      subst hab hb
      obtain ⟨z, hz, hzi⟩ := List.mem_map.1 ha
      have : has o.id L = true := List.any_eq_true.2 ⟨z, hz, by simpa using hzi⟩
      unfold offerE at he
      rw [this] at he
      split at he <;> simp at he
    · exact h.nd
  | 1 =>
    simp only
    refine ⟨h.size, ?_⟩
    unfold answerL
    split
    · rw [setOut_ids]; exact h.nd
    · exact h.nd
  | 2 => exact ⟨h.size, h.nd.sublist ((List.dropWhile_sublist _).map _)⟩
  | 3 => exact ⟨h.size, h.nd.sublist ((List.filter_sublist).map _)⟩
  | k + 4 =>
    refine ⟨?_, h.nd⟩
    show isSz (resizeS sz o.n) = true
    unfold resizeS
    split
    · assumption
    · exact h.size
theorem pL_len (sz : Int) (L : List Off) (o : Op36) : (pL sz L o).length ≤ L.length + 1 := by
  have hk := kd_lt o
  unfold pL
  match hkd : kd o with
  | 0 => simp only; unfold offerL; split <;> simp
  | 1 => simp only; unfold answerL; split <;> simp [setOut_len]
  | 2 => exact Nat.le_succ_of_le (List.dropWhile_sublist _).length_le
  | 3 => exact Nat.le_succ_of_le (List.length_filter_le _ _)
  | k + 4 => exact Nat.le_succ _
theorem pR_len (L : List Off) (o : Op36) : (pR L o).length ≤ L.length := by
  have := idxN_le L
  unfold pR
  split
  · simpa [idxN] using this
  · simp
theorem pD_len (L : List Off) (o : Op36) : (pD L o).length ≤ L.length := by
  have h1 := outsL_len L
  have h2 := cnt_le L
  unfold pD
  split
  · omega
  · simp
def run (s : Int × List Off) (ops : List Op36) : Int × List Off := ops.foldl (fun s o => (pS s.1 o, pL s.1 s.2 o)) s
theorem run_snoc {s : Int × List Off} {ops : List Op36} {k : Nat} {o : Op36} (h : ops[k]? = some o) : run s (ops.take (k + 1)) = (pS (run s (ops.take k)).1 o, pL (run s (ops.take k)).1 (run s (ops.take k)).2 o) := by
  rw [take_snoc h, run, List.foldl_append]; rfl
theorem run_inv {s : Int × List Off} (h : Inv s.1 s.2) : ∀ (ops : List Op36), Inv (run s ops).1 (run s ops).2 := by
  intro ops
  induction ops generalizing s with
  | nil => exact h
  | cons o ops ih => exact ih (s := (pS s.1 o, pL s.1 s.2 o)) (pInv o h)
theorem run_len : ∀ (ops : List Op36) (s : Int × List Off), (run s ops).2.length ≤ s.2.length + ops.length
  | [], s => by simp [run]
  | o :: ops, s => by
    have := run_len ops (pS s.1 o, pL s.1 s.2 o)
    have h2 := pL_len s.1 s.2 o
    simp only [List.length_cons]
    show (run (pS s.1 o, pL s.1 s.2 o) ops).2.length ≤ _
    simp only at this
    omega
theorem find_nodup {L : List Off} {k : Nat} {y : Off} (h : L[k]? = some y) (hn : (L.map Off.id).Nodup) : L.find? (isId y.id) = some y := by
  refine find_at h (by simp) ?_
  intro j hj z hz
  have : z.id ≠ y.id := by
    intro e
    have h1 : (L.map Off.id)[j]? = some y.id := by simp [hz, e]
    have h2 : (L.map Off.id)[k]? = some y.id := by simp [h]
    obtain ⟨l1, e1⟩ := List.getElem?_eq_some_iff.1 h1
    obtain ⟨l2, e2⟩ := List.getElem?_eq_some_iff.1 h2
    exact (List.pairwise_iff_getElem.1 hn) j k l1 l2 hj (by rw [e1, e2])
  simpa using this

variable {K : Kn} {Hs Rs : List Hl} {F : Hl} {w : World} {p : Nat} {sz : Int} {L : List Off}
theorem same_any {v : Value} (hs : Sat K w Hs) [hw : WinIn p sz L Hs] [hr : KRow encO 34 K v L] (hL : L.length ≤ 1000000) (hi : Inv sz L) : Ret Tryd.prog 30 #[ptr p, .agg #[.int .i64 sz, v]] w fun r w' => r = .bool true ∧ Sat K w' Hs := by
  obtain ⟨ad, cap, rfl, hsl, hc⟩ := hr.ex
  have hz1 : 1 ≤ sz ∧ sz ≤ 64 := by simpa [isSz] using hi.size
  have hcl := cnt_le L
  have hol := outsL_len L
  refine Ret.enter (n := 71) (args := [ptr p, .agg #[.int .i64 sz, .slice ad L.length cap]]) Tryd.func30 rfl rfl ?_
  refine C.keep [(0, _), (1, _)] ⟨rfl, rfl, trivial⟩ ?_
  refine C.seq ?_
  refine C.region ?_
  refine R.sboxA hs rfl rfl ?_
  intro b3 w3 hs
  refine R.ev rfl (E.assign rfl) ?_
  refine R.done ?_
  refine X.keep [(0, _), (3, _)] ⟨rfl, rfl, trivial⟩ ?_
  refine X.next ?_
  refine C.seq ?_
  refine C.seq ?_
  refine C.cut [(0, _), (3, _)] (fun (_ : Unit) => [(40, .bool false)]) (fun _ w' => Sat K w' (row b3 58 [.int .i64 sz, .slice ad L.length cap] :: Hs)) ⟨rfl, rfl, trivial⟩ ?_ ?_
  · refine C.drawn (SatS hs) ([3, 9, 16, 25, 26], [0, 2, 4, 5, 6, 8, 10, 11, 12, 13, 14, 19, 20, 21, 22, 24, 28, 29, 30, 31, 32]) (by kernel_rfl) ?_
    have hs := hs.drew
    refine D.evP 0 rfl (by kernel_rfl) rfl (fun _ => hs.to) (fun _ => E.move rfl) ?_
    first | refine D.evP 2 rfl (by kernel_rfl) rfl (fun _ => hs.to) (fun _ => E.fieldAddr0 0 rfl Tryd.underlying58 rfl Tryd.sz3 rfl) ?_ | refine D.evP 2 rfl (by kernel_rfl) rfl (fun _ => hs.to) (fun _ => E.fieldAddrN 0 rfl Tryd.underlying58 rfl Tryd.sz3 rfl) ?_
    refine D.ev 3 rfl (by kernel_rfl) rfl hs.to (fun _ hS => E.load1 rfl Tryd.underlying3 rfl (by first | exact hS.ldc | exact hS.ld rfl | exact hS.ld (by assumption) | exact by assumption | exact At.cellC (by assumption) | exact At.cellC ((by assumption : ∀ w', Sat _ w' _ → At w' _ _ _) _ hS) | exact (by assumption : ∀ w', Sat _ w' _ → World.cell? w' _ = some _) _ hS)) ?_
    refine D.act 1 rfl (by kernel_rfl) ?_
    refine R.call ⟨_, _, Tryd.func22, rfl, by kernel_rfl⟩ rfl rfl (size_any hs) ?_
    rintro _ w11 ⟨rfl, hs⟩
    refine D.back hs.to ?_
    refine D.evP 4 rfl (by kernel_rfl) rfl (fun _ => hs.to) (fun _ => (E.neq rfl rfl).isF (by simp)) ?_
    refine D.evP 5 rfl (by kernel_rfl) rfl (fun _ => hs.to) (fun _ => E.move rfl) ?_
    refine D.evPG 6 rfl (by kernel_rfl) rfl rfl rfl (fun _ => hs.to) (fun _ => E.move rfl) ?_
    first | refine D.evPG 8 rfl (by kernel_rfl) rfl rfl rfl (fun _ => hs.to) (fun _ => E.fieldAddr0 1 rfl Tryd.underlying58 rfl Tryd.sz56 rfl) ?_ | refine D.evPG 8 rfl (by kernel_rfl) rfl rfl rfl (fun _ => hs.to) (fun _ => E.fieldAddrN 1 rfl Tryd.underlying58 rfl Tryd.sz56 rfl) ?_
    refine D.evG 9 rfl (by kernel_rfl) rfl rfl rfl hs.to (fun _ hS => E.load1 rfl Tryd.underlying56 rfl (by first | exact hS.ldc | exact hS.ld rfl | exact hS.ld (by assumption) | exact by assumption | exact At.cellC (by assumption) | exact At.cellC ((by assumption : ∀ w', Sat _ w' _ → At w' _ _ _) _ hS) | exact (by assumption : ∀ w', Sat _ w' _ → World.cell? w' _ = some _) _ hS)) ?_
    refine D.evPG 10 rfl (by kernel_rfl) rfl rfl rfl (fun _ => hs.to) (fun _ => E.lenSl rfl Tryd.underlying56) ?_
    refine D.act 7 rfl (by kernel_rfl) ?_
    refine R.gyes rfl rfl ?_
    refine R.call ⟨_, _, Tryd.func20, rfl, by kernel_rfl⟩ rfl rfl (len_any hs) ?_
    rintro _ w17 ⟨rfl, hs⟩
    refine D.back hs.to ?_
    refine D.evPG 11 rfl (by kernel_rfl) rfl rfl rfl (fun _ => hs.to) (fun _ => (E.neq rfl rfl).isF (by simp)) ?_
    refine D.evP 12 rfl (by kernel_rfl) rfl (fun _ => hs.to) (fun _ => E.pickF rfl rfl) ?_
    refine D.evP 13 rfl (by kernel_rfl) rfl (fun _ => hs.to) (fun _ => E.move rfl) ?_
    refine D.evPG 14 rfl (by kernel_rfl) rfl rfl rfl (fun _ => hs.to) (fun _ => E.move rfl) ?_
    refine D.evG 16 rfl (by kernel_rfl) rfl rfl rfl hs.to (fun _ hS => E.loadRowC rfl Tryd.underlying58 rfl Tryd.sz58 (by first | exact ⟨hS.ldA, by first | rfl | assumption | exact encV_len _ | exact Enc.len _ | exact len_ub (by assumption)⟩ | exact ⟨hS.ldP rfl, by first | rfl | assumption | exact encV_len _ | exact Enc.len _ | exact len_ub (by assumption)⟩ | exact ⟨hS.ldM rfl rfl, by first | rfl | assumption | exact encV_len _ | exact Enc.len _ | exact len_ub (by assumption)⟩ | exact ⟨hS.ldM (by assumption) (by first | rfl | assumption), by first | rfl | assumption | exact encV_len _ | exact Enc.len _ | exact len_ub (by assumption)⟩ | exact ⟨by assumption, by first | rfl | assumption | exact encV_len _ | exact Enc.len _ | exact len_ub (by assumption)⟩ | exact ⟨(by assumption : ∀ w', Sat _ w' _ → At w' _ _ _) _ hS, by first | rfl | assumption | exact encV_len _ | exact Enc.len _ | exact len_ub (by assumption)⟩ | exact hS.ldp | exact At.partC (by assumption) | exact At.partC ((by assumption : ∀ w', Sat _ w' _ → At w' _ _ _) _ hS))) ?_
    refine D.act 15 rfl (by kernel_rfl) ?_
    refine R.gyes rfl rfl ?_
    refine R.call ⟨_, _, Tryd.func15, rfl, by kernel_rfl⟩ rfl rfl (outstanding_any hs hL) ?_
    rintro v15 w15 ⟨F15, r15, hs⟩
    refine D.back hs.to ?_
    refine D.act 17 rfl (by kernel_rfl) ?_
    refine R.gyes rfl rfl ?_
    refine R.call ⟨_, _, Tryd.func28, rfl, by kernel_rfl⟩ rfl rfl (mouts_any (sz := sz) (L := L) hs hL) ?_
    rintro v17 w17 ⟨F17, r17, hs⟩
    refine D.back hs.to ?_
    refine D.act 18 rfl (by kernel_rfl) ?_
    refine R.gyes rfl rfl ?_
    refine R.call ⟨_, _, Tryd.func27, rfl, by kernel_rfl⟩ rfl rfl (ids_any (L := outsL L) (M := outsL L) hs (by omega)) ?_
    rintro _ w18 ⟨h18, hs⟩
    rw [decide_eq_true rfl] at h18
    subst h18
    refine D.back hs.to ?_
    refine D.evPG 19 rfl (by kernel_rfl) rfl rfl rfl (fun _ => hs.to) (fun _ => E.notT rfl) ?_
    refine D.evP 20 rfl (by kernel_rfl) rfl (fun _ => hs.to) (fun _ => E.pickF rfl rfl) ?_
    refine D.evP 21 rfl (by kernel_rfl) rfl (fun _ => hs.to) (fun _ => E.move rfl) ?_
    refine D.evPG 22 rfl (by kernel_rfl) rfl rfl rfl (fun _ => hs.to) (fun _ => E.move rfl) ?_
    first | refine D.evPG 24 rfl (by kernel_rfl) rfl rfl rfl (fun _ => hs.to) (fun _ => E.fieldAddr0 0 rfl Tryd.underlying58 rfl Tryd.sz3 rfl) ?_ | refine D.evPG 24 rfl (by kernel_rfl) rfl rfl rfl (fun _ => hs.to) (fun _ => E.fieldAddrN 0 rfl Tryd.underlying58 rfl Tryd.sz3 rfl) ?_
    refine D.evG 25 rfl (by kernel_rfl) rfl rfl rfl hs.to (fun _ hS => E.load1 rfl Tryd.underlying3 rfl (by first | exact hS.ldc | exact hS.ld rfl | exact hS.ld (by assumption) | exact by assumption | exact At.cellC (by assumption) | exact At.cellC ((by assumption : ∀ w', Sat _ w' _ → At w' _ _ _) _ hS) | exact (by assumption : ∀ w', Sat _ w' _ → World.cell? w' _ = some _) _ hS)) ?_
    refine D.evG 26 rfl (by kernel_rfl) rfl rfl rfl hs.to (fun _ hS => E.loadRowC rfl Tryd.underlying58 rfl Tryd.sz58 (by first | exact ⟨hS.ldA, by first | rfl | assumption | exact encV_len _ | exact Enc.len _ | exact len_ub (by assumption)⟩ | exact ⟨hS.ldP rfl, by first | rfl | assumption | exact encV_len _ | exact Enc.len _ | exact len_ub (by assumption)⟩ | exact ⟨hS.ldM rfl rfl, by first | rfl | assumption | exact encV_len _ | exact Enc.len _ | exact len_ub (by assumption)⟩ | exact ⟨hS.ldM (by assumption) (by first | rfl | assumption), by first | rfl | assumption | exact encV_len _ | exact Enc.len _ | exact len_ub (by assumption)⟩ | exact ⟨by assumption, by first | rfl | assumption | exact encV_len _ | exact Enc.len _ | exact len_ub (by assumption)⟩ | exact ⟨(by assumption : ∀ w', Sat _ w' _ → At w' _ _ _) _ hS, by first | rfl | assumption | exact encV_len _ | exact Enc.len _ | exact len_ub (by assumption)⟩ | exact hS.ldp | exact At.partC (by assumption) | exact At.partC ((by assumption : ∀ w', Sat _ w' _ → At w' _ _ _) _ hS))) ?_
    refine D.act 23 rfl (by kernel_rfl) ?_
    refine R.gyes rfl rfl ?_
    refine R.call ⟨_, _, Tryd.func23, rfl, by kernel_rfl⟩ rfl rfl (room_any hs hi.size) ?_
    rintro _ w23 ⟨rfl, hs⟩
    refine D.back hs.to ?_
    refine D.act 27 rfl (by kernel_rfl) ?_
    refine R.gyes rfl rfl ?_
    refine R.call ⟨_, _, Tryd.func28, rfl, by kernel_rfl⟩ rfl rfl (mouts_any (sz := sz) (L := L) hs hL) ?_
    rintro v27 w27 ⟨F27, r27, hs⟩
    obtain ⟨ad27, cap27, rfl, _⟩ := r27.val
    refine D.back hs.to ?_
    refine D.evPG 28 rfl (by kernel_rfl) rfl rfl rfl (fun _ => hs.to) (fun _ => E.lenSl rfl Tryd.underlying33) ?_
    refine D.evPG 29 rfl (by kernel_rfl) rfl rfl rfl (fun _ => hs.to) (fun _ => E.sub rfl rfl (by omega) (by omega)) ?_
    refine D.evPG 30 rfl (by kernel_rfl) rfl rfl rfl (fun _ => hs.to) (fun _ => E.max2 rfl rfl) ?_
    refine D.evPG 31 rfl (by kernel_rfl) rfl rfl rfl (fun _ => hs.to) (fun _ => (E.neq rfl rfl).isF (by simp [hol])) ?_
    refine D.evP 32 rfl (by kernel_rfl) rfl (fun _ => hs.to) (fun _ => E.pickF rfl rfl) ?_
    refine D.done rfl (by kernel_rfl) ?_
    refine X.keep [(0, _), (3, _), (40, _)] ⟨rfl, rfl, rfl, trivial⟩ ?_
    refine X.cut (()) ⟨lkV rfl ?_, rfl, rfl, trivial⟩ ?_
    · rfl
    · exact hs.to
  · rintro _ w1 hs
    refine X.keep [(0, _), (3, _), (40, _)] ⟨rfl, rfl, rfl, trivial⟩ ?_
    refine X.next ?_
    refine C.cfalse rfl ?_
    refine C.skip ?_
    refine X.next ?_
    refine C.seq ?_
    refine C.seq ?_
    refine C.region ?_
    refine R.ev rfl (E.assign rfl) ?_
    refine R.done ?_
    refine X.keep [(0, _), (3, _), (5, _)] ⟨rfl, rfl, rfl, trivial⟩ ?_
    refine X.next ?_
    refine C.block ?_
    refine C.loop  [(0, _), (3, _)] (fun k => [(5, .int .i64 (k : Nat))]) (fun k w' => k ≤ L.length ∧ Sat K w' (row b3 58 [.int .i64 sz, .slice ad L.length cap] :: Hs)) (fun k => L.length - k) (0) ⟨rfl, rfl, rfl, trivial⟩ ⟨Nat.zero_le _, hs⟩ ?_
    rintro k w1 ⟨hk, hs⟩
    refine C.keep [(0, _), (3, _), (5, _)] ⟨rfl, rfl, rfl, trivial⟩ ?_
    refine C.seq ?_
    refine C.seq ?_
    refine C.region ?_
    refine R.ev rfl (E.move rfl) ?_
    first | refine R.ev rfl (E.fieldAddr0 1 rfl Tryd.underlying58 rfl Tryd.sz56 rfl) ?_ | refine R.ev rfl (E.fieldAddrN 1 rfl Tryd.underlying58 rfl Tryd.sz56 rfl) ?_
    refine R.ev rfl (E.load1 rfl Tryd.underlying56 rfl (by first | exact hs.ldc | exact hs.ld rfl | exact hs.ld (by assumption) | exact by assumption | exact At.cellC (by assumption))) ?_
    refine R.ev rfl (E.lenSl rfl Tryd.underlying56) ?_
    refine R.ev rfl (E.lss rfl rfl) ?_
    refine R.done ?_
    refine X.keep [(0, _), (3, _), (5, _), (45, _)] ⟨rfl, rfl, rfl, rfl, trivial⟩ ?_
    refine X.next ?_
    refine C.cdec rfl (fun h45 => ?_) (fun h45 => ?_)
    · obtain ⟨y, bk_y, of_y, hy, my, ly, rfl, Ay⟩ := hs.el (i := k) (ad := ad) (n := L.length) (c := cap) (by omega)
      have ay := Ay _ hs
      refine C.skip ?_
      refine X.next ?_
      refine C.seq ?_
      refine C.block ?_
      refine C.seq ?_
      refine C.region ?_
      refine R.ev rfl (E.move rfl) ?_
      first | refine R.ev rfl (E.fieldAddr0 1 rfl Tryd.underlying58 rfl Tryd.sz56 rfl) ?_ | refine R.ev rfl (E.fieldAddrN 1 rfl Tryd.underlying58 rfl Tryd.sz56 rfl) ?_
      refine R.ev rfl (E.load1 rfl Tryd.underlying56 rfl (by first | exact hs.ldc | exact hs.ld rfl | exact hs.ld (by assumption) | exact by assumption | exact At.cellC (by assumption))) ?_
      refine R.ev rfl (E.move rfl) ?_
      refine R.ev rfl (E.indexAddr rfl rfl Tryd.underlying56 Tryd.sz73 rfl (by first | omega | decide)) ?_
      first | refine R.ev rfl (E.fieldAddr0 0 rfl Tryd.underlying73 rfl Tryd.sz37 rfl) ?_ | refine R.ev rfl (E.fieldAddrN 0 rfl Tryd.underlying73 rfl Tryd.sz37 rfl) ?_
      refine R.ev rfl (E.loadRowC rfl Tryd.underlying37 rfl Tryd.sz37 (by first | exact ⟨hs.ldA, by first | rfl | assumption | exact encV_len _ | exact Enc.len _ | exact len_ub (by assumption)⟩ | exact ⟨hs.ldP rfl, by first | rfl | assumption | exact encV_len _ | exact Enc.len _ | exact len_ub (by assumption)⟩ | exact ⟨hs.ldM rfl rfl, by first | rfl | assumption | exact encV_len _ | exact Enc.len _ | exact len_ub (by assumption)⟩ | exact ⟨hs.ldM (by assumption) (by first | rfl | assumption), by first | rfl | assumption | exact encV_len _ | exact Enc.len _ | exact len_ub (by assumption)⟩ | exact ⟨by assumption, by first | rfl | assumption | exact encV_len _ | exact Enc.len _ | exact len_ub (by assumption)⟩ | exact hs.ldp | exact At.partC (by assumption))) ?_
      refine R.call ⟨_, _, Tryd.func31, rfl, by kernel_rfl⟩ rfl rfl (outcome_any y.id hs) ?_
      rintro _ w6 ⟨rfl, hs⟩
      rw [find_nodup hy hi.nd]
      refine R.ev rfl (E.move rfl) ?_
      refine R.ev rfl (E.extract rfl rfl) ?_
      refine R.ev rfl (E.extract rfl rfl) ?_
      refine R.ev rfl (E.assign rfl) ?_
      refine R.ev rfl (E.assign rfl) ?_
      refine R.done ?_
      refine X.keep [(0, _), (3, _), (5, _), (6, _), (7, _)] ⟨rfl, rfl, rfl, rfl, rfl, trivial⟩ ?_
      refine X.next ?_
      refine C.seq ?_
      refine C.region ?_
      refine R.ev rfl (E.move rfl) ?_
      refine R.ev rfl (E.notT rfl) ?_
      refine R.ev rfl (E.move rfl) ?_
      refine R.gyes rfl rfl ?_
      refine R.ev rfl (E.move rfl) ?_
      refine R.gyes rfl rfl ?_
      first | refine R.ev rfl (E.fieldAddr0 1 rfl Tryd.underlying58 rfl Tryd.sz56 rfl) ?_ | refine R.ev rfl (E.fieldAddrN 1 rfl Tryd.underlying58 rfl Tryd.sz56 rfl) ?_
      refine R.gyes rfl rfl ?_
      have ay := Ay _ hs
      refine R.ev rfl (E.load1 rfl Tryd.underlying56 rfl (by first | exact hs.ldc | exact hs.ld rfl | exact hs.ld (by assumption) | exact by assumption | exact At.cellC (by assumption))) ?_
      refine R.gyes rfl rfl ?_
      refine R.ev rfl (E.move rfl) ?_
      refine R.gyes rfl rfl ?_
      refine R.ev rfl (E.indexAddr rfl rfl Tryd.underlying56 Tryd.sz73 rfl (by first | omega | decide)) ?_
      refine R.gyes rfl rfl ?_
      first | refine R.ev rfl (E.fieldAddr0 33 rfl Tryd.underlying73 rfl Tryd.sz3 rfl) ?_ | refine R.ev rfl (E.fieldAddrN 33 rfl Tryd.underlying73 rfl Tryd.sz3 rfl) ?_
      refine R.gyes rfl rfl ?_
      refine R.ev rfl (E.load1 rfl Tryd.underlying3 rfl (by first | exact hs.ldc | exact hs.ld rfl | exact hs.ld (by assumption) | exact by assumption | exact At.cellC (by assumption))) ?_
      refine R.gyes rfl rfl ?_
      refine R.ev rfl ((E.neq rfl rfl).isF (by simp)) ?_
      refine R.ev rfl (E.pickF rfl rfl) ?_
      refine R.done ?_
      refine X.keep [(0, _), (3, _), (5, _), (70, _)] ⟨rfl, rfl, rfl, rfl, trivial⟩ ?_
      refine X.next ?_
      refine C.cfalse rfl ?_
      refine C.skip ?_
      refine X.blockNormal ?_
      refine X.next ?_
      refine C.region ?_
      refine R.ev rfl (E.move rfl) ?_
      refine R.ev rfl (E.add rfl rfl (by omega) (by omega)) ?_
      refine R.ev rfl (E.assign rfl) ?_
      refine R.done ?_
      refine X.keep [(0, _), (3, _), (5, _)] ⟨rfl, rfl, rfl, trivial⟩ ?_
      exact X.again (k + 1) ⟨rfl, rfl, rfl, trivial⟩ ⟨by omega, hs.to⟩ (by omega)
    · refine C.exit ?_
      refine X.thenExit ?_
      refine X.loopExit ?_
      refine X.blockExit ?_
      refine X.next ?_
      refine C.seq ?_
      refine C.region ?_
      refine R.ev rfl (E.assign rfl) ?_
      refine R.done ?_
      refine X.keep [(4, _)] ⟨rfl, trivial⟩ ?_
      refine X.next ?_
      refine C.ret ?_
      refine X.ret1 rfl rfl ?_
      exact ⟨rfl, hs.to⟩
end Go.Proofs.YtajbclcpkgenbaaDoor
