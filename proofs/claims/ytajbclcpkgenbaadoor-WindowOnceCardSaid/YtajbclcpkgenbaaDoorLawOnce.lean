/-
  WindowOnce returns true for every number and every list of operations. No condition but the listed table (tied to the program's text).
-/
import Derived.Test.YtajbclcpkgenbaaDoorWinB
import Derived.Test.YtajbclcpkgenbaaDoorMapOps
namespace Go.Proofs.YtajbclcpkgenbaaDoor
open Go.Eng Go.RowKit

abbrev ekI (a : Vec 32) : Value := .agg (encV a).toArray
abbrev evN (i : Int) : Value := .int .i64 i
instance : KeyEnc Tryd.prog 37 ekI := KeyEnc.of (enc := encV) Tryd.lv37 (by decide) Tryd.underlying37 rfl (fun a => fitsN a.2) cellsEq_vec
instance : ZeroEnc Tryd.prog 3 evN 0 := ⟨Tryd.zr3⟩
instance {o : Res} : CellOf (encR o) 32 (.int .i64 o.out) := ⟨by simp [encR, o.id.2]⟩
instance {o : Res} : PartOf (encR o) 0 32 (o.id.1.map ub) := PartOf.mk' (c1 := []) rfl rfl (encV_len _)
abbrev PMap := List (Vec 32 × Int)
def PL (M : PMap) (b : Vec 32) : Int := (lkM M b).getD 0
structure PW (M : PMap) (ids : List (Vec 32)) (last : Int) (i : Nat) : Prop where
  pw : (ids.map (PL M)).Pairwise (· < ·)
  rg : ∀ b ∈ ids, last < PL M b ∧ PL M b < i
  ll : last < i
theorem PW.sub {M : PMap} {ids ids' : List (Vec 32)} {last : Int} {i : Nat} (h : PW M ids last i) (k : ids'.Sublist ids) : PW M ids' last (i + 1) :=
  ⟨h.pw.sublist (k.map _), fun b hb => by have := h.rg b (k.subset hb); omega, by have := h.ll; omega⟩
theorem PW.put {M : PMap} {ids : List (Vec 32)} {last : Int} {i : Nat} {a : Vec 32} (h : PW M ids last i) (ha : a ∉ ids) : PW (putM a (i : Int) M) (ids ++ [a]) last (i + 1) := by
  have e1 : ∀ b ∈ ids, PL (putM a (i : Int) M) b = PL M b := fun b hb => by
    unfold PL; rw [lkM_put, if_neg (by rintro rfl; exact ha hb)]
  have e2 : PL (putM a (i : Int) M) a = i := by unfold PL; rw [lkM_put, if_pos rfl]; rfl
  have e3 : ids.map (PL (putM a (i : Int) M)) = ids.map (PL M) := List.map_congr_left e1
  refine ⟨?_, ?_, by have := h.ll; omega⟩
  · rw [List.map_append, e3, List.pairwise_append]
    refine ⟨h.pw, by simp, ?_⟩
    intro x hx y hy
    obtain ⟨b, hb, rfl⟩ := List.mem_map.1 hx
    simp [e2] at hy; subst hy
    exact (h.rg b hb).2
  · intro b hb
    rcases List.mem_append.1 hb with hb | hb
    · rw [e1 b hb]; have := h.rg b hb; omega
    · simp at hb; subst hb; rw [e2]; have := h.ll; omega
theorem PW.pop {M : PMap} {x : Vec 32} {ids : List (Vec 32)} {last : Int} {i : Nat} (h : PW M (x :: ids) last i) : last < PL M x ∧ PW M ids (PL M x) i := by
  have h1 := h.pw
  simp only [List.map_cons, List.pairwise_cons] at h1
  refine ⟨(h.rg x (by simp)).1, h1.2, fun b hb => ⟨h1.1 _ (List.mem_map.2 ⟨b, hb, rfl⟩), (h.rg b (by simp [hb])).2⟩, (h.rg x (by simp)).2⟩
theorem PW.popR {M : PMap} {x : Res} {L : List Res} {R : List (Vec 32)} {j : Nat} {last : Int} {i : Nat} (h : PW M ((L.drop j).map Res.id ++ R) last i) (hx : L[j]? = some x) : last < PL M x.id ∧ PW M ((L.drop (j + 1)).map Res.id ++ R) (PL M x.id) i := by
  obtain ⟨h1, h2⟩ := List.getElem?_eq_some_iff.1 hx
  rw [List.drop_eq_getElem_cons h1, h2] at h
  exact PW.pop (by simpa using h)
def okOffer (sz : Int) (L : List Off) (o : Op36) : Prop := kd o = 0 ∧ pE sz L o = 0
theorem stepA {sz : Int} {L : List Off} {o : Op36} (h : okOffer sz L o) : pR L o = [] ∧ pD L o = [] ∧ pL sz L o = L ++ [⟨o.id, o.n, 0⟩] ∧ o.id ∉ L.map Off.id := by
  obtain ⟨h1, h2⟩ := h
  have h3 : offerE sz L o.id o.n = 0 := by simpa only [pE, h1] using h2
  refine ⟨by simp only [pR, h1], by simp only [pD, h1], by simp only [pL, h1, offerL, h3, if_true], ?_⟩
  intro hm
  obtain ⟨z, hz, hzi⟩ := List.mem_map.1 hm
  have : has o.id L = true := List.any_eq_true.2 ⟨z, hz, by simpa using hzi⟩
  unfold offerE at h3
  rw [this] at h3
  split at h3 <;> simp at h3
theorem filt_len (L : List Off) : (filtL L).length + (outsL L).length = L.length := by
  unfold outsL filtL
  induction L with
  | nil => rfl
  | cons o L ih => cases h : o.outs <;> simp [List.filter_cons, h] at ih ⊢ <;> omega
theorem stepB {sz : Int} {L : List Off} {o : Op36} (h : ¬ okOffer sz L o) : ((pR L o).map Res.id ++ (pL sz L o).map Off.id).Sublist (L.map Off.id) ∧ (pR L o).length + (pD L o).length + (pL sz L o).length = L.length := by
  have hk := kd_lt o
  unfold okOffer at h
  unfold pR pD pL
  unfold pE at h
  match hkd : kd o with
  | 0 =>
    simp only [hkd, true_and] at h
    simp [offerL, h]
  | 1 =>
    simp only; unfold answerL
    split
    · simp [setOut_ids, setOut_len]
    · simp
  | 2 =>
    have e : L.map Off.id = (fin L).map Off.id ++ (unfin L).map Off.id := by rw [← List.map_append]; unfold fin unfin; rw [List.takeWhile_append_dropWhile]
    have e2 : ((fin L).map resO).map Res.id = (fin L).map Off.id := by simp [Function.comp_def, resO]
    simp only
    rw [e2, ← e]
    refine ⟨List.Sublist.refl _, ?_⟩
    have := congrArg List.length e
    simp at this ⊢; omega
  | 3 =>
    simp only
    refine ⟨by simpa [filtL] using (List.filter_sublist (l := L) (p := fun o => !o.outs)).map Off.id, ?_⟩
    have := filt_len L
    simp; omega
  | q + 4 => simp
theorem notOk {sz : Int} {L : List Off} {o : Op36} (h : decide (((kd o : Nat) : Int) = 0) = false) : ¬ okOffer sz L o := by rintro ⟨q1, q2⟩; rw [q1] at h; simp at h
theorem outR {L : List Off} {o : Op36} {x : Res} (h : x ∈ pR L o) : 2 ≤ x.out ∧ x.out ≤ 5 := by
  unfold pR at h
  split at h
  · obtain ⟨z, hz, rfl⟩ := List.mem_map.1 h
    have h1 : (!z.outs) = true := by
      have : ∀ (l : List Off), z ∈ l.takeWhile (fun o => !o.outs) → (!z.outs) = true := by
        intro l
        induction l with
        | nil => intro h; simp at h
        | cons a l ih =>
          intro h
          rw [List.takeWhile_cons] at h
          split at h
          · rcases List.mem_cons.1 h with rfl | h
            · assumption
            · exact ih h
          · simp at h
      exact this L hz
    have h2 := z.out.2
    simp [Off.outs] at h1
    simp [resO]; omega
  · simp at h
theorem once_walk (w : World) (hC : HasChg (Kn.of w)) (v0 : Value) (a0 : ArgV Tryd.prog w 3 v0) (v1 : Value) (a1 : ArgV Tryd.prog w 49 v1) : Ret Tryd.prog 6 #[v0, v1] w fun r w' => r = .bool true ∧ Mod [] w w' := by
  obtain ⟨n, rfl, _⟩ := argv_int a0 Tryd.underlying3
  obtain ⟨ad, cap, ops, rfl, hc, hcm, hr⟩ := argv_ops a1
  unfold maxLen at hcm
  have hs := Sat.start w
  have hz := sz0_is n
  have hz1 : 1 ≤ sz0 n ∧ sz0 n ≤ 64 := by simpa [isSz] using hz
  have hu0 := u64_nonneg n
  have hm := Int.emod_nonneg (IntKind.u64.wrap n) (show (64 : Int) ≠ 0 by decide)
  have hm2 := Int.emod_lt_of_pos (IntKind.u64.wrap n) (show (0 : Int) < 64 by decide)
  refine Ret.enter (n := 123) (args := [.int .i64 n, .slice ad ops.length cap]) Tryd.func6 rfl rfl ?_
  refine C.keep [(0, _), (1, _)] ⟨rfl, rfl, trivial⟩ ?_
  refine C.seq ?_
  refine C.region ?_
  refine R.ev rfl (E.assign rfl) ?_
  refine R.done ?_
  refine X.keep [(0, _), (1, _)] ⟨rfl, rfl, trivial⟩ ?_
  refine X.next ?_
  refine C.seq ?_
  refine C.seq ?_
  refine C.region ?_
  refine R.call ⟨_, _, Tryd.func12, rfl, by kernel_rfl⟩ rfl rfl (known_any hs) ?_
  rintro _ w1 ⟨rfl, hs⟩
  refine R.ev rfl (E.notT rfl) ?_
  refine R.ev rfl (E.move rfl) ?_
  refine R.gyes rfl rfl ?_
  refine R.ev rfl (E.move rfl) ?_
  refine R.gyes rfl rfl ?_
  refine R.ev rfl (E.lenSl rfl Tryd.underlying49) ?_
  refine R.gyes rfl rfl ?_
  refine R.ev rfl (E.gtr rfl rfl) ?_
  refine R.ev rfl (E.pickF rfl rfl) ?_
  refine R.done ?_
  refine X.keep [(0, _), (1, _), (22, _)] ⟨rfl, rfl, rfl, trivial⟩ ?_
  refine X.next ?_
  refine C.cdec rfl (fun h22 => ?_) (fun h22 => ?_)
  · refine C.seq ?_
    refine C.region ?_
    refine R.call ⟨_, _, Tryd.func12, rfl, by kernel_rfl⟩ rfl rfl (known_any hs) ?_
    rintro _ w2 ⟨rfl, hs⟩
    refine R.ev rfl (E.assign rfl) ?_
    refine R.done ?_
    refine X.keep [(4, _)] ⟨rfl, trivial⟩ ?_
    refine X.next ?_
    refine C.ret ?_
    refine X.thenRet ?_
    refine X.ret1 rfl rfl ?_
    exact ⟨rfl, hs.mod⟩
  · refine C.skip ?_
    refine X.next ?_
    refine C.seq ?_
    refine C.region ?_
    refine R.ev rfl (E.move rfl) ?_
    refine R.ev rfl (E.conv rfl Tryd.underlying3 Tryd.underlying29) ?_
    refine R.ev rfl (E.rem rfl rfl (by omega) (by omega)) ?_
    refine R.ev rfl ((E.conv rfl Tryd.underlying29 Tryd.underlying3).isI (c := IntKind.u64.wrap n % 64) (wrap_i64 (by omega) (by omega))) ?_
    refine R.ev rfl ((E.add rfl rfl (by omega) (by omega)).isI (c := sz0 n) rfl) ?_
    refine R.ev rfl (E.assign rfl) ?_
    refine R.done ?_
    refine X.keep [(0, _), (1, _)] ⟨rfl, rfl, trivial⟩ ?_
    refine X.next ?_
    refine C.seq ?_
    refine C.region ?_
    refine R.ev rfl (E.move rfl) ?_
    refine R.call ⟨_, _, Tryd.func13, rfl, by kernel_rfl⟩ rfl rfl (new_any (sz0 n) hs) ?_
    rintro _ w2 (⟨h, _⟩ | ⟨_, p, F, rfl, hw, hs⟩)
    · rw [hz] at h; cases h
    refine R.ev rfl (E.move rfl) ?_
    refine R.ev rfl (E.extract rfl rfl) ?_
    refine R.ev rfl (E.extract rfl rfl) ?_
    refine R.ev rfl (E.assign rfl) ?_
    refine R.ev rfl (E.assign rfl) ?_
    refine R.done ?_
    refine X.keep [(1, _), (5, _), (6, _)] ⟨rfl, rfl, rfl, trivial⟩ ?_
    refine X.next ?_
    refine C.seq ?_
    refine C.seq ?_
    refine C.region ?_
    refine R.ev rfl (E.move rfl) ?_
    refine R.ev rfl ((E.neq rfl rfl).isF (by simp)) ?_
    refine R.done ?_
    refine X.keep [(1, _), (5, _), (35, _)] ⟨rfl, rfl, rfl, trivial⟩ ?_
    refine X.next ?_
    refine C.cfalse rfl ?_
    refine C.skip ?_
    refine X.next ?_
    refine C.seq ?_
    refine C.region ?_
    refine R.ev rfl (E.assign rfl) ?_
    refine R.ev rfl (E.assign rfl) ?_
    refine R.done ?_
    refine X.keep [(1, _), (5, _), (7, _), (8, _)] ⟨rfl, rfl, rfl, rfl, trivial⟩ ?_
    refine X.next ?_
    refine C.seq ?_
    refine C.region ?_
    refine R.cmake hs Tryd.underlying55 (evN) rfl ?_
    intro v36 w36 F36 m36 hs
    refine R.ev rfl (E.assign rfl) ?_
    refine R.done ?_
    refine X.keep [(1, _), (5, _), (7, _), (8, _), (9, _)] ⟨rfl, rfl, rfl, rfl, rfl, trivial⟩ ?_
    refine X.next ?_
    refine C.seq ?_
    refine C.region ?_
    refine R.ev rfl (E.assign rfl) ?_
    refine R.done ?_
    refine X.keep [(1, _), (5, _), (7, _), (8, _), (9, _), (10, _)] ⟨rfl, rfl, rfl, rfl, rfl, rfl, trivial⟩ ?_
    refine X.next ?_
    refine C.seq ?_
    refine C.seq ?_
    refine C.region ?_
    refine R.ev rfl (E.assign rfl) ?_
    refine R.done ?_
    refine X.keep [(1, _), (5, _), (7, _), (8, _), (9, _), (10, _), (11, _)] ⟨rfl, rfl, rfl, rfl, rfl, rfl, rfl, trivial⟩ ?_
    refine X.next ?_
    refine C.block ?_
    refine C.loop (T := Nat × Kn × (Int × List Off) × Hl × PMap × Hl × Nat × Nat × Int) [(1, _), (5, _), (9, _)] (fun (k, _, _, _, _, _, made, back, last) => [(7, .int .i64 (made : Nat)), (8, .int .i64 (back : Nat)), (10, .int .i64 last), (11, .int .i64 (k : Nat))]) (fun (k, K1, st, F', M, G', made, back, last) w' => k ≤ ops.length ∧ KLe (Kn.of w) K1 ∧ st.2.length ≤ k ∧ made ≤ k ∧ made = back + st.2.length ∧ PW M (st.2.map Off.id) last k ∧ Win p st.1 st.2 F' ∧ MapL ekI evN v36 M G' ∧ Sat K1 w' (G' :: F' :: [])) (fun (k, _) => ops.length - k) ((0, Kn.of w, (sz0 n, []), F, [], F36, 0, 0, -1)) ⟨rfl, rfl, rfl, rfl, rfl, rfl, rfl, trivial⟩ ⟨by omega, KLe.refl _, by simp, by omega, by simp, ⟨by simp, by simp, by simp⟩, hw, m36, hs⟩ ?_
    rintro ⟨k, K1, st, F1, M, G1, made, back, last⟩ w1 ⟨hk, hk1, hlen, hmk, hmb, hpw, hw1, hmm, hs⟩
    refine C.keep [(1, _), (5, _), (7, _), (8, _), (9, _), (10, _), (11, _)] ⟨rfl, rfl, rfl, rfl, rfl, rfl, rfl, trivial⟩ ?_
    refine C.seq ?_
    refine C.seq ?_
    refine C.region ?_
    refine R.ev rfl (E.move rfl) ?_
    refine R.ev rfl (E.move rfl) ?_
    refine R.ev rfl (E.lenSl rfl Tryd.underlying49) ?_
    refine R.ev rfl (E.lss rfl rfl) ?_
    refine R.done ?_
    refine X.keep [(1, _), (5, _), (7, _), (8, _), (9, _), (10, _), (11, _), (40, _)] ⟨rfl, rfl, rfl, rfl, rfl, rfl, rfl, rfl, trivial⟩ ?_
    refine X.next ?_
    refine C.cdec rfl (fun h40 => ?_) (fun h40 => ?_)
    · obtain ⟨y, bk_y, of_y, hy, my, ly, rfl, Ay⟩ := hs.el (i := k) (ad := ad) (n := ops.length) (c := cap) (by omega)
      have ay := Ay _ hs
      have hpl := pL_len st.1 st.2 y
      have hko : ((y.kind.toNat : Int) % 5) = (kd y : Nat) := by unfold kd; omega
      refine C.skip ?_
      refine X.next ?_
      refine C.seq ?_
      refine C.block ?_
      refine C.seq ?_
      refine C.region ?_
      refine R.ev rfl (E.move rfl) ?_
      refine R.ev rfl (E.move rfl) ?_
      refine R.ev rfl (E.move rfl) ?_
      refine R.ev rfl (E.indexAddr rfl rfl Tryd.underlying49 Tryd.sz51 rfl (by first | omega | decide)) ?_
      refine R.ev rfl (E.loadRowC rfl Tryd.underlying51 rfl Tryd.sz51 (by first | exact ⟨hs.ldA, by first | rfl | assumption | exact encV_len _ | exact Enc.len _ | exact len_ub (by assumption)⟩ | exact ⟨hs.ldP rfl, by first | rfl | assumption | exact encV_len _ | exact Enc.len _ | exact len_ub (by assumption)⟩ | exact ⟨hs.ldM rfl rfl, by first | rfl | assumption | exact encV_len _ | exact Enc.len _ | exact len_ub (by assumption)⟩ | exact ⟨hs.ldM (by assumption) (by first | rfl | assumption), by first | rfl | assumption | exact encV_len _ | exact Enc.len _ | exact len_ub (by assumption)⟩ | exact ⟨by assumption, by first | rfl | assumption | exact encV_len _ | exact Enc.len _ | exact len_ub (by assumption)⟩ | exact hs.ldp | exact At.partC (by assumption))) ?_
      refine R.call ⟨_, _, Tryd.func24, rfl, by kernel_rfl⟩ rfl rfl (perform_any y (hs.front (F := F1)) (by omega)) ?_
      rintro _ w9 ⟨K2, v91, v92, F2, rfl, hk2, hr91, hr92, hw2, hs1⟩
      have hs := hs.back (F := F1) hs1
      replace Ay := hs.elAt (b := bk_y) (off := of_y) (n := ops.length) (cap) hy
      have ay := Ay _ hs
      obtain ⟨ad91, cap91, rfl, _⟩ := hr91.ex
      obtain ⟨ad92, cap92, rfl, _⟩ := hr92.ex
      have hRl := pR_len st.2 y
      have hDl := pD_len st.2 y
      refine R.ev rfl (E.move rfl) ?_
      refine R.ev rfl (E.extract rfl rfl) ?_
      refine R.ev rfl (E.extract rfl rfl) ?_
      refine R.ev rfl (E.extract rfl rfl) ?_
      refine R.ev rfl (E.assign rfl) ?_
      refine R.ev rfl (E.assign rfl) ?_
      refine R.ev rfl (E.assign rfl) ?_
      refine R.done ?_
      refine X.keep [(1, _), (5, _), (7, _), (8, _), (9, _), (10, _), (11, _), (12, _), (13, _), (14, _)] ⟨rfl, rfl, rfl, rfl, rfl, rfl, rfl, rfl, rfl, rfl, trivial⟩ ?_
      refine X.next ?_
      refine C.seq ?_
      refine C.seq ?_
      refine C.region ?_
      refine R.ev rfl (E.move rfl) ?_
      refine R.ev rfl (E.move rfl) ?_
      refine R.ev rfl (E.indexAddr rfl rfl Tryd.underlying49 Tryd.sz51 rfl (by first | omega | decide)) ?_
      refine R.ev rfl ((E.fieldAddrN 0 rfl Tryd.underlying51 rfl Tryd.sz5 rfl)) ?_
      refine R.ev rfl (E.load1 rfl Tryd.underlying5 rfl (by first | exact hs.ldc | exact hs.ld rfl | exact hs.ld (by assumption) | exact by assumption | exact At.cellC (by assumption))) ?_
      refine R.ev rfl ((E.rem rfl rfl (by decide) (by omega)).isI (c := (kd y : Nat)) hko) ?_
      refine R.ev rfl (E.eql rfl rfl) ?_
      refine R.ev rfl (E.move rfl) ?_
      refine R.split 60 rfl (fun h60 => ?_) (fun h60 => ?_)
      · refine R.gyes rfl rfl ?_
        refine R.ev rfl (E.move rfl) ?_
        refine R.gyes rfl rfl ?_
        refine R.ev rfl (E.eql rfl rfl) ?_
        refine R.ev rfl (E.pickT rfl rfl) ?_
        refine R.done ?_
        refine X.keep [(1, _), (5, _), (7, _), (8, _), (9, _), (10, _), (11, _), (13, _), (14, _), (63, _)] ⟨rfl, rfl, rfl, rfl, rfl, rfl, rfl, rfl, rfl, rfl, trivial⟩ ?_
        refine X.next ?_
        refine C.cbool rfl (fun h63 => ?_) (fun h63 => ?_)
        · have hA : okOffer st.1 st.2 y := ⟨by simpa using h60, by simpa using h63⟩
          obtain ⟨eR, eD, eL, eN⟩ := stepA hA
          have hq := hpw.put eN
          refine C.seq ?_
          refine C.region ?_
          refine R.ev rfl (E.move rfl) ?_
          refine R.ev rfl (E.move rfl) ?_
          refine R.ev rfl (E.move rfl) ?_
          refine R.ev rfl (E.indexAddr rfl rfl Tryd.underlying49 Tryd.sz51 rfl (by first | omega | decide)) ?_
          first | refine R.ev rfl (E.fieldAddr0 1 rfl Tryd.underlying51 rfl Tryd.sz37 rfl) ?_ | refine R.ev rfl (E.fieldAddrN 1 rfl Tryd.underlying51 rfl Tryd.sz37 rfl) ?_
          refine R.ev rfl (E.loadRowC rfl Tryd.underlying37 rfl Tryd.sz37 (by first | exact ⟨hs.ldA, by first | rfl | assumption | exact encV_len _ | exact Enc.len _ | exact len_ub (by assumption)⟩ | exact ⟨hs.ldP rfl, by first | rfl | assumption | exact encV_len _ | exact Enc.len _ | exact len_ub (by assumption)⟩ | exact ⟨hs.ldM rfl rfl, by first | rfl | assumption | exact encV_len _ | exact Enc.len _ | exact len_ub (by assumption)⟩ | exact ⟨hs.ldM (by assumption) (by first | rfl | assumption), by first | rfl | assumption | exact encV_len _ | exact Enc.len _ | exact len_ub (by assumption)⟩ | exact ⟨by assumption, by first | rfl | assumption | exact encV_len _ | exact Enc.len _ | exact len_ub (by assumption)⟩ | exact hs.ldp | exact At.partC (by assumption))) ?_
          refine R.ev rfl (E.move rfl) ?_
          refine R.cput (y.id) ((k : Int)) hs rfl rfl rfl Tryd.underlying55 (by rfl) (by rfl) ?_
          intro w157 G2 hmm hs
          have hfin : ∃ made' M2, made' = made + 1 ∧ M2 = putM y.id (k : Int) M := ⟨_, _, rfl, rfl⟩
          refine R.done ?_
          refine X.keep [(1, _), (5, _), (7, _), (8, _), (9, _), (10, _), (11, _), (13, _), (14, _)] ⟨rfl, rfl, rfl, rfl, rfl, rfl, rfl, rfl, rfl, trivial⟩ ?_
          refine X.next ?_
          refine C.region ?_
          refine R.ev rfl (E.move rfl) ?_
          refine R.ev rfl (E.add rfl rfl (by omega) (by omega)) ?_
          refine R.ev rfl (E.assign rfl) ?_
          refine R.done ?_
          refine X.keep [(1, _), (5, _), (7, _), (8, _), (9, _), (10, _), (11, _), (13, _), (14, _)] ⟨rfl, rfl, rfl, rfl, rfl, rfl, rfl, rfl, rfl, trivial⟩ ?_
          refine X.next ?_
          refine C.seq ?_
          refine C.seq ?_
          refine C.region ?_
          try (have hB := notOk (sz := st.1) (L := st.2) h60; obtain ⟨eS, eC⟩ := stepB hB; have hq := hpw.sub eS)
          refine R.ev rfl (E.assign rfl) ?_
          refine R.done ?_
          refine X.keep [(1, _), (5, _), (7, _), (8, _), (9, _), (10, _), (11, _), (13, _), (14, _), (15, _)] ⟨rfl, rfl, rfl, rfl, rfl, rfl, rfl, rfl, rfl, rfl, trivial⟩ ?_
          refine X.next ?_
          refine C.block ?_
          refine C.loop (T := Nat × Nat × Int) [(1, _), (5, _), (7, _), (9, _), (11, _), (13, _), (14, _)] (fun (j, bk, last) => [(8, .int .i64 (bk : Nat)), (10, .int .i64 last), (15, .int .i64 (j : Nat))]) (fun (j, bk, last) w' => j ≤ (pR st.2 y).length ∧ bk = back + j ∧ PW _ (((pR st.2 y).drop j).map Res.id ++ (pL st.1 st.2 y).map Off.id) last (k + 1) ∧ Sat K2 w' (_ :: F2 :: [])) (fun (j, _) => (pR st.2 y).length - j) ((0, back, last)) ⟨rfl, rfl, rfl, rfl, rfl, rfl, rfl, rfl, rfl, rfl, trivial⟩ ⟨by omega, by omega, by first | (rw [eR, eL, List.drop_nil, List.map_nil, List.nil_append, List.map_append]; exact hq) | exact hq, hs⟩ ?_
          rintro ⟨j, bk, last1⟩ w17 ⟨hj, hbk, hpw1, hs⟩
          refine C.keep [(1, _), (5, _), (7, _), (8, _), (9, _), (10, _), (11, _), (13, _), (14, _), (15, _)] ⟨rfl, rfl, rfl, rfl, rfl, rfl, rfl, rfl, rfl, rfl, trivial⟩ ?_
          refine C.seq ?_
          refine C.seq ?_
          refine C.region ?_
          refine R.ev rfl (E.move rfl) ?_
          refine R.ev rfl (E.move rfl) ?_
          refine R.ev rfl (E.lenSl rfl Tryd.underlying30) ?_
          refine R.ev rfl (E.lss rfl rfl) ?_
          refine R.done ?_
          refine X.keep [(1, _), (5, _), (7, _), (8, _), (9, _), (10, _), (11, _), (13, _), (14, _), (15, _), (76, _)] ⟨rfl, rfl, rfl, rfl, rfl, rfl, rfl, rfl, rfl, rfl, rfl, trivial⟩ ?_
          refine X.next ?_
          refine C.cdec rfl (fun h76 => ?_) (fun h76 => ?_)
          · obtain ⟨x, bk_x, of_x, hx, mx, lx, rfl, Ax⟩ := hs.el (i := j) (ad := ad91) (n := (pR st.2 y).length) (c := cap91) (by omega)
            have ax := Ax _ hs
            have hox := outR mx
            obtain ⟨hgt, hpw3⟩ := hpw1.popR hx
            refine C.skip ?_
            refine X.next ?_
            refine C.seq ?_
            refine C.block ?_
            refine C.seq ?_
            refine C.seq ?_
            refine C.region ?_
            refine R.ev rfl (E.move rfl) ?_
            refine R.ev rfl (E.move rfl) ?_
            refine R.ev rfl (E.move rfl) ?_
            refine R.ev rfl (E.indexAddr rfl rfl Tryd.underlying30 Tryd.sz43 rfl (by first | omega | decide)) ?_
            first | refine R.ev rfl (E.fieldAddr0 0 rfl Tryd.underlying43 rfl Tryd.sz37 rfl) ?_ | refine R.ev rfl (E.fieldAddrN 0 rfl Tryd.underlying43 rfl Tryd.sz37 rfl) ?_
            refine R.ev rfl (E.loadRowC rfl Tryd.underlying37 rfl Tryd.sz37 (by first | exact ⟨hs.ldA, by first | rfl | assumption | exact encV_len _ | exact Enc.len _ | exact len_ub (by assumption)⟩ | exact ⟨hs.ldP rfl, by first | rfl | assumption | exact encV_len _ | exact Enc.len _ | exact len_ub (by assumption)⟩ | exact ⟨hs.ldM rfl rfl, by first | rfl | assumption | exact encV_len _ | exact Enc.len _ | exact len_ub (by assumption)⟩ | exact ⟨hs.ldM (by assumption) (by first | rfl | assumption), by first | rfl | assumption | exact encV_len _ | exact Enc.len _ | exact len_ub (by assumption)⟩ | exact ⟨by assumption, by first | rfl | assumption | exact encV_len _ | exact Enc.len _ | exact len_ub (by assumption)⟩ | exact hs.ldp | exact At.partC (by assumption))) ?_
            refine R.ev rfl ((E.lookupD hs rfl rfl Tryd.underlying55 x.id (by rfl)).as (u := .int .i64 (PL _ x.id)) rfl) ?_
            refine R.ev rfl (E.move rfl) ?_
            refine R.ev rfl ((E.leq rfl rfl).isF (by omega)) ?_
            refine R.ev rfl (E.move rfl) ?_
            refine R.gyes rfl rfl ?_
            refine R.ev rfl (E.move rfl) ?_
            refine R.gyes rfl rfl ?_
            refine R.ev rfl (E.move rfl) ?_
            refine R.gyes rfl rfl ?_
            refine R.ev rfl (E.indexAddr rfl rfl Tryd.underlying30 Tryd.sz43 rfl (by first | omega | decide)) ?_
            refine R.gyes rfl rfl ?_
            first | refine R.ev rfl (E.fieldAddr0 32 rfl Tryd.underlying43 rfl Tryd.sz3 rfl) ?_ | refine R.ev rfl (E.fieldAddrN 32 rfl Tryd.underlying43 rfl Tryd.sz3 rfl) ?_
            refine R.gyes rfl rfl ?_
            refine R.ev rfl (E.load1 rfl Tryd.underlying3 rfl (by first | exact hs.ldc | exact hs.ld rfl | exact hs.ld (by assumption) | exact by assumption | exact At.cellC (by assumption))) ?_
            refine R.gyes rfl rfl ?_
            refine R.ev rfl ((E.lss rfl rfl).isF (by omega)) ?_
            refine R.ev rfl (E.pickF rfl rfl) ?_
            refine R.ev rfl (E.move rfl) ?_
            refine R.gyes rfl rfl ?_
            refine R.ev rfl (E.move rfl) ?_
            refine R.gyes rfl rfl ?_
            refine R.ev rfl (E.move rfl) ?_
            refine R.gyes rfl rfl ?_
            refine R.ev rfl (E.indexAddr rfl rfl Tryd.underlying30 Tryd.sz43 rfl (by first | omega | decide)) ?_
            refine R.gyes rfl rfl ?_
            first | refine R.ev rfl (E.fieldAddr0 32 rfl Tryd.underlying43 rfl Tryd.sz3 rfl) ?_ | refine R.ev rfl (E.fieldAddrN 32 rfl Tryd.underlying43 rfl Tryd.sz3 rfl) ?_
            refine R.gyes rfl rfl ?_
            refine R.ev rfl (E.load1 rfl Tryd.underlying3 rfl (by first | exact hs.ldc | exact hs.ld rfl | exact hs.ld (by assumption) | exact by assumption | exact At.cellC (by assumption))) ?_
            refine R.gyes rfl rfl ?_
            refine R.ev rfl ((E.gtr rfl rfl).isF (by omega)) ?_
            refine R.ev rfl (E.pickF rfl rfl) ?_
            refine R.done ?_
            refine X.keep [(1, _), (5, _), (7, _), (8, _), (9, _), (11, _), (13, _), (14, _), (15, _), (103, _)] ⟨rfl, rfl, rfl, rfl, rfl, rfl, rfl, rfl, rfl, rfl, trivial⟩ ?_
            refine X.next ?_
            refine C.cfalse rfl ?_
            refine C.skip ?_
            refine X.next ?_
            refine C.seq ?_
            refine C.region ?_
            refine R.ev rfl (E.move rfl) ?_
            refine R.ev rfl (E.move rfl) ?_
            refine R.ev rfl (E.move rfl) ?_
            refine R.ev rfl (E.indexAddr rfl rfl Tryd.underlying30 Tryd.sz43 rfl (by first | omega | decide)) ?_
            first | refine R.ev rfl (E.fieldAddr0 0 rfl Tryd.underlying43 rfl Tryd.sz37 rfl) ?_ | refine R.ev rfl (E.fieldAddrN 0 rfl Tryd.underlying43 rfl Tryd.sz37 rfl) ?_
            refine R.ev rfl (E.loadRowC rfl Tryd.underlying37 rfl Tryd.sz37 (by first | exact ⟨hs.ldA, by first | rfl | assumption | exact encV_len _ | exact Enc.len _ | exact len_ub (by assumption)⟩ | exact ⟨hs.ldP rfl, by first | rfl | assumption | exact encV_len _ | exact Enc.len _ | exact len_ub (by assumption)⟩ | exact ⟨hs.ldM rfl rfl, by first | rfl | assumption | exact encV_len _ | exact Enc.len _ | exact len_ub (by assumption)⟩ | exact ⟨hs.ldM (by assumption) (by first | rfl | assumption), by first | rfl | assumption | exact encV_len _ | exact Enc.len _ | exact len_ub (by assumption)⟩ | exact ⟨by assumption, by first | rfl | assumption | exact encV_len _ | exact Enc.len _ | exact len_ub (by assumption)⟩ | exact hs.ldp | exact At.partC (by assumption))) ?_
            refine R.ev rfl ((E.lookupD hs rfl rfl Tryd.underlying55 x.id (by rfl)).as (u := .int .i64 (PL _ x.id)) rfl) ?_
            refine R.ev rfl (E.assign rfl) ?_
            refine R.done ?_
            refine X.keep [(1, _), (5, _), (7, _), (8, _), (9, _), (10, _), (11, _), (13, _), (14, _), (15, _)] ⟨rfl, rfl, rfl, rfl, rfl, rfl, rfl, rfl, rfl, rfl, trivial⟩ ?_
            refine X.next ?_
            refine C.region ?_
            refine R.ev rfl (E.move rfl) ?_
            refine R.ev rfl (E.add rfl rfl (by omega) (by omega)) ?_
            refine R.ev rfl (E.assign rfl) ?_
            refine R.done ?_
            refine X.keep [(1, _), (5, _), (7, _), (8, _), (9, _), (10, _), (11, _), (13, _), (14, _), (15, _)] ⟨rfl, rfl, rfl, rfl, rfl, rfl, rfl, rfl, rfl, rfl, trivial⟩ ?_
            refine X.blockNormal ?_
            refine X.next ?_
            refine C.region ?_
            refine R.ev rfl (E.move rfl) ?_
            refine R.ev rfl (E.add rfl rfl (by omega) (by omega)) ?_
            refine R.ev rfl (E.assign rfl) ?_
            refine R.done ?_
            refine X.keep [(1, _), (5, _), (7, _), (8, _), (9, _), (10, _), (11, _), (13, _), (14, _), (15, _)] ⟨rfl, rfl, rfl, rfl, rfl, rfl, rfl, rfl, rfl, rfl, trivial⟩ ?_
            exact X.again (j + 1, bk + 1, _) ⟨rfl, rfl, rfl, rfl, rfl, rfl, rfl, rfl, rfl, rfl, trivial⟩ ⟨by omega, by omega, hpw3, hs⟩ (by show _ - _ < _ - _; omega)
          · refine C.exit ?_
            refine X.thenExit ?_
            refine X.loopExit ?_
            refine X.blockExit ?_
            refine X.next ?_
            refine C.seq ?_
            refine C.region ?_
            have hje : j = (pR st.2 y).length := by omega
            rw [hje, List.drop_length, List.map_nil, List.nil_append] at hpw1
            refine R.ev rfl (E.move rfl) ?_
            refine R.ev rfl (E.move rfl) ?_
            refine R.ev rfl (E.lenSl rfl Tryd.underlying33) ?_
            refine R.ev rfl (E.add rfl rfl (by omega) (by omega)) ?_
            refine R.ev rfl (E.assign rfl) ?_
            refine R.done ?_
            refine X.keep [(1, _), (5, _), (7, _), (8, _), (9, _), (10, _), (11, _)] ⟨rfl, rfl, rfl, rfl, rfl, rfl, rfl, trivial⟩ ?_
            refine X.next ?_
            refine C.seq ?_
            refine C.region ?_
            refine R.ev rfl (E.move rfl) ?_
            refine R.ev rfl (E.move rfl) ?_
            refine R.ev rfl (E.move rfl) ?_
            refine R.call ⟨_, _, Tryd.func20, rfl, by kernel_rfl⟩ rfl rfl (len_any hs) ?_
            rintro _ w25 ⟨rfl, hs⟩
            refine R.ev rfl (E.add rfl rfl (by omega) (by omega)) ?_
            refine R.ev rfl ((E.neq rfl rfl).isF (by first | (rw [eD, eL]; rw [eR] at hje; simp only [List.length_append, List.length_cons, List.length_nil] at hje ⊢; omega) | omega)) ?_
            refine R.done ?_
            refine X.keep [(1, _), (5, _), (7, _), (8, _), (9, _), (10, _), (11, _), (122, _)] ⟨rfl, rfl, rfl, rfl, rfl, rfl, rfl, rfl, trivial⟩ ?_
            refine X.next ?_
            refine C.cfalse rfl ?_
            refine C.skip ?_
            refine X.blockNormal ?_
            refine X.next ?_
            refine C.region ?_
            refine R.ev rfl (E.move rfl) ?_
            refine R.ev rfl (E.add rfl rfl (by omega) (by omega)) ?_
            refine R.ev rfl (E.assign rfl) ?_
            refine R.done ?_
            refine X.keep [(1, _), (5, _), (7, _), (8, _), (9, _), (10, _), (11, _)] ⟨rfl, rfl, rfl, rfl, rfl, rfl, rfl, trivial⟩ ?_
            first
              | exact X.again (k + 1, K2, (pS st.1 y, pL st.1 st.2 y), F2, _, _, made + 1, bk + (pD st.2 y).length, last1) ⟨rfl, rfl, rfl, rfl, rfl, rfl, rfl, trivial⟩ ⟨by omega, hk1.trans hk2, by simp only; omega, by omega, by rw [eD]; simp only [eL]; rw [eR] at hje; simp only [List.length_append, List.length_cons, List.length_nil] at hje ⊢; omega, hpw1, hw2, hmm, hs⟩ (by show _ - _ < _ - _; omega)
              | exact X.again (k + 1, K2, (pS st.1 y, pL st.1 st.2 y), F2, _, _, made, bk + (pD st.2 y).length, last1) ⟨rfl, rfl, rfl, rfl, rfl, rfl, rfl, trivial⟩ ⟨by omega, hk1.trans hk2, by simp only; omega, by omega, by simp only; omega, hpw1, hw2, hmm, hs⟩ (by show _ - _ < _ - _; omega)
        · have hB : ¬ okOffer st.1 st.2 y := by rintro ⟨q1, q2⟩; first | (rw [q1] at h60; simp at h60; done) | (rw [q2] at h63; simp at h63)
          obtain ⟨eS, eC⟩ := stepB hB
          have hq := hpw.sub eS
          refine C.skip ?_
          refine X.next ?_
          refine C.seq ?_
          refine C.seq ?_
          refine C.region ?_
          try (have hB := notOk (sz := st.1) (L := st.2) h60; obtain ⟨eS, eC⟩ := stepB hB; have hq := hpw.sub eS)
          refine R.ev rfl (E.assign rfl) ?_
          refine R.done ?_
          refine X.keep [(1, _), (5, _), (7, _), (8, _), (9, _), (10, _), (11, _), (13, _), (14, _), (15, _)] ⟨rfl, rfl, rfl, rfl, rfl, rfl, rfl, rfl, rfl, rfl, trivial⟩ ?_
          refine X.next ?_
          refine C.block ?_
          refine C.loop (T := Nat × Nat × Int) [(1, _), (5, _), (7, _), (9, _), (11, _), (13, _), (14, _)] (fun (j, bk, last) => [(8, .int .i64 (bk : Nat)), (10, .int .i64 last), (15, .int .i64 (j : Nat))]) (fun (j, bk, last) w' => j ≤ (pR st.2 y).length ∧ bk = back + j ∧ PW _ (((pR st.2 y).drop j).map Res.id ++ (pL st.1 st.2 y).map Off.id) last (k + 1) ∧ Sat K2 w' (_ :: F2 :: [])) (fun (j, _) => (pR st.2 y).length - j) ((0, back, last)) ⟨rfl, rfl, rfl, rfl, rfl, rfl, rfl, rfl, rfl, rfl, trivial⟩ ⟨by omega, by omega, by first | (rw [eR, eL, List.drop_nil, List.map_nil, List.nil_append, List.map_append]; exact hq) | exact hq, hs⟩ ?_
          rintro ⟨j, bk, last1⟩ w17 ⟨hj, hbk, hpw1, hs⟩
          refine C.keep [(1, _), (5, _), (7, _), (8, _), (9, _), (10, _), (11, _), (13, _), (14, _), (15, _)] ⟨rfl, rfl, rfl, rfl, rfl, rfl, rfl, rfl, rfl, rfl, trivial⟩ ?_
          refine C.seq ?_
          refine C.seq ?_
          refine C.region ?_
          refine R.ev rfl (E.move rfl) ?_
          refine R.ev rfl (E.move rfl) ?_
          refine R.ev rfl (E.lenSl rfl Tryd.underlying30) ?_
          refine R.ev rfl (E.lss rfl rfl) ?_
          refine R.done ?_
          refine X.keep [(1, _), (5, _), (7, _), (8, _), (9, _), (10, _), (11, _), (13, _), (14, _), (15, _), (76, _)] ⟨rfl, rfl, rfl, rfl, rfl, rfl, rfl, rfl, rfl, rfl, rfl, trivial⟩ ?_
          refine X.next ?_
          refine C.cdec rfl (fun h76 => ?_) (fun h76 => ?_)
          · obtain ⟨x, bk_x, of_x, hx, mx, lx, rfl, Ax⟩ := hs.el (i := j) (ad := ad91) (n := (pR st.2 y).length) (c := cap91) (by omega)
            have ax := Ax _ hs
            have hox := outR mx
            obtain ⟨hgt, hpw3⟩ := hpw1.popR hx
            refine C.skip ?_
            refine X.next ?_
            refine C.seq ?_
            refine C.block ?_
            refine C.seq ?_
            refine C.seq ?_
            refine C.region ?_
            refine R.ev rfl (E.move rfl) ?_
            refine R.ev rfl (E.move rfl) ?_
            refine R.ev rfl (E.move rfl) ?_
            refine R.ev rfl (E.indexAddr rfl rfl Tryd.underlying30 Tryd.sz43 rfl (by first | omega | decide)) ?_
            first | refine R.ev rfl (E.fieldAddr0 0 rfl Tryd.underlying43 rfl Tryd.sz37 rfl) ?_ | refine R.ev rfl (E.fieldAddrN 0 rfl Tryd.underlying43 rfl Tryd.sz37 rfl) ?_
            refine R.ev rfl (E.loadRowC rfl Tryd.underlying37 rfl Tryd.sz37 (by first | exact ⟨hs.ldA, by first | rfl | assumption | exact encV_len _ | exact Enc.len _ | exact len_ub (by assumption)⟩ | exact ⟨hs.ldP rfl, by first | rfl | assumption | exact encV_len _ | exact Enc.len _ | exact len_ub (by assumption)⟩ | exact ⟨hs.ldM rfl rfl, by first | rfl | assumption | exact encV_len _ | exact Enc.len _ | exact len_ub (by assumption)⟩ | exact ⟨hs.ldM (by assumption) (by first | rfl | assumption), by first | rfl | assumption | exact encV_len _ | exact Enc.len _ | exact len_ub (by assumption)⟩ | exact ⟨by assumption, by first | rfl | assumption | exact encV_len _ | exact Enc.len _ | exact len_ub (by assumption)⟩ | exact hs.ldp | exact At.partC (by assumption))) ?_
            refine R.ev rfl ((E.lookupD hs rfl rfl Tryd.underlying55 x.id (by rfl)).as (u := .int .i64 (PL _ x.id)) rfl) ?_
            refine R.ev rfl (E.move rfl) ?_
            refine R.ev rfl ((E.leq rfl rfl).isF (by omega)) ?_
            refine R.ev rfl (E.move rfl) ?_
            refine R.gyes rfl rfl ?_
            refine R.ev rfl (E.move rfl) ?_
            refine R.gyes rfl rfl ?_
            refine R.ev rfl (E.move rfl) ?_
            refine R.gyes rfl rfl ?_
            refine R.ev rfl (E.indexAddr rfl rfl Tryd.underlying30 Tryd.sz43 rfl (by first | omega | decide)) ?_
            refine R.gyes rfl rfl ?_
            first | refine R.ev rfl (E.fieldAddr0 32 rfl Tryd.underlying43 rfl Tryd.sz3 rfl) ?_ | refine R.ev rfl (E.fieldAddrN 32 rfl Tryd.underlying43 rfl Tryd.sz3 rfl) ?_
            refine R.gyes rfl rfl ?_
            refine R.ev rfl (E.load1 rfl Tryd.underlying3 rfl (by first | exact hs.ldc | exact hs.ld rfl | exact hs.ld (by assumption) | exact by assumption | exact At.cellC (by assumption))) ?_
            refine R.gyes rfl rfl ?_
            refine R.ev rfl ((E.lss rfl rfl).isF (by omega)) ?_
            refine R.ev rfl (E.pickF rfl rfl) ?_
            refine R.ev rfl (E.move rfl) ?_
            refine R.gyes rfl rfl ?_
            refine R.ev rfl (E.move rfl) ?_
            refine R.gyes rfl rfl ?_
            refine R.ev rfl (E.move rfl) ?_
            refine R.gyes rfl rfl ?_
            refine R.ev rfl (E.indexAddr rfl rfl Tryd.underlying30 Tryd.sz43 rfl (by first | omega | decide)) ?_
            refine R.gyes rfl rfl ?_
            first | refine R.ev rfl (E.fieldAddr0 32 rfl Tryd.underlying43 rfl Tryd.sz3 rfl) ?_ | refine R.ev rfl (E.fieldAddrN 32 rfl Tryd.underlying43 rfl Tryd.sz3 rfl) ?_
            refine R.gyes rfl rfl ?_
            refine R.ev rfl (E.load1 rfl Tryd.underlying3 rfl (by first | exact hs.ldc | exact hs.ld rfl | exact hs.ld (by assumption) | exact by assumption | exact At.cellC (by assumption))) ?_
            refine R.gyes rfl rfl ?_
            refine R.ev rfl ((E.gtr rfl rfl).isF (by omega)) ?_
            refine R.ev rfl (E.pickF rfl rfl) ?_
            refine R.done ?_
            refine X.keep [(1, _), (5, _), (7, _), (8, _), (9, _), (11, _), (13, _), (14, _), (15, _), (103, _)] ⟨rfl, rfl, rfl, rfl, rfl, rfl, rfl, rfl, rfl, rfl, trivial⟩ ?_
            refine X.next ?_
            refine C.cfalse rfl ?_
            refine C.skip ?_
            refine X.next ?_
            refine C.seq ?_
            refine C.region ?_
            refine R.ev rfl (E.move rfl) ?_
            refine R.ev rfl (E.move rfl) ?_
            refine R.ev rfl (E.move rfl) ?_
            refine R.ev rfl (E.indexAddr rfl rfl Tryd.underlying30 Tryd.sz43 rfl (by first | omega | decide)) ?_
            first | refine R.ev rfl (E.fieldAddr0 0 rfl Tryd.underlying43 rfl Tryd.sz37 rfl) ?_ | refine R.ev rfl (E.fieldAddrN 0 rfl Tryd.underlying43 rfl Tryd.sz37 rfl) ?_
            refine R.ev rfl (E.loadRowC rfl Tryd.underlying37 rfl Tryd.sz37 (by first | exact ⟨hs.ldA, by first | rfl | assumption | exact encV_len _ | exact Enc.len _ | exact len_ub (by assumption)⟩ | exact ⟨hs.ldP rfl, by first | rfl | assumption | exact encV_len _ | exact Enc.len _ | exact len_ub (by assumption)⟩ | exact ⟨hs.ldM rfl rfl, by first | rfl | assumption | exact encV_len _ | exact Enc.len _ | exact len_ub (by assumption)⟩ | exact ⟨hs.ldM (by assumption) (by first | rfl | assumption), by first | rfl | assumption | exact encV_len _ | exact Enc.len _ | exact len_ub (by assumption)⟩ | exact ⟨by assumption, by first | rfl | assumption | exact encV_len _ | exact Enc.len _ | exact len_ub (by assumption)⟩ | exact hs.ldp | exact At.partC (by assumption))) ?_
            refine R.ev rfl ((E.lookupD hs rfl rfl Tryd.underlying55 x.id (by rfl)).as (u := .int .i64 (PL _ x.id)) rfl) ?_
            refine R.ev rfl (E.assign rfl) ?_
            refine R.done ?_
            refine X.keep [(1, _), (5, _), (7, _), (8, _), (9, _), (10, _), (11, _), (13, _), (14, _), (15, _)] ⟨rfl, rfl, rfl, rfl, rfl, rfl, rfl, rfl, rfl, rfl, trivial⟩ ?_
            refine X.next ?_
            refine C.region ?_
            refine R.ev rfl (E.move rfl) ?_
            refine R.ev rfl (E.add rfl rfl (by omega) (by omega)) ?_
            refine R.ev rfl (E.assign rfl) ?_
            refine R.done ?_
            refine X.keep [(1, _), (5, _), (7, _), (8, _), (9, _), (10, _), (11, _), (13, _), (14, _), (15, _)] ⟨rfl, rfl, rfl, rfl, rfl, rfl, rfl, rfl, rfl, rfl, trivial⟩ ?_
            refine X.blockNormal ?_
            refine X.next ?_
            refine C.region ?_
            refine R.ev rfl (E.move rfl) ?_
            refine R.ev rfl (E.add rfl rfl (by omega) (by omega)) ?_
            refine R.ev rfl (E.assign rfl) ?_
            refine R.done ?_
            refine X.keep [(1, _), (5, _), (7, _), (8, _), (9, _), (10, _), (11, _), (13, _), (14, _), (15, _)] ⟨rfl, rfl, rfl, rfl, rfl, rfl, rfl, rfl, rfl, rfl, trivial⟩ ?_
            exact X.again (j + 1, bk + 1, _) ⟨rfl, rfl, rfl, rfl, rfl, rfl, rfl, rfl, rfl, rfl, trivial⟩ ⟨by omega, by omega, hpw3, hs⟩ (by show _ - _ < _ - _; omega)
          · refine C.exit ?_
            refine X.thenExit ?_
            refine X.loopExit ?_
            refine X.blockExit ?_
            refine X.next ?_
            refine C.seq ?_
            refine C.region ?_
            have hje : j = (pR st.2 y).length := by omega
            rw [hje, List.drop_length, List.map_nil, List.nil_append] at hpw1
            refine R.ev rfl (E.move rfl) ?_
            refine R.ev rfl (E.move rfl) ?_
            refine R.ev rfl (E.lenSl rfl Tryd.underlying33) ?_
            refine R.ev rfl (E.add rfl rfl (by omega) (by omega)) ?_
            refine R.ev rfl (E.assign rfl) ?_
            refine R.done ?_
            refine X.keep [(1, _), (5, _), (7, _), (8, _), (9, _), (10, _), (11, _)] ⟨rfl, rfl, rfl, rfl, rfl, rfl, rfl, trivial⟩ ?_
            refine X.next ?_
            refine C.seq ?_
            refine C.region ?_
            refine R.ev rfl (E.move rfl) ?_
            refine R.ev rfl (E.move rfl) ?_
            refine R.ev rfl (E.move rfl) ?_
            refine R.call ⟨_, _, Tryd.func20, rfl, by kernel_rfl⟩ rfl rfl (len_any hs) ?_
            rintro _ w25 ⟨rfl, hs⟩
            refine R.ev rfl (E.add rfl rfl (by omega) (by omega)) ?_
            refine R.ev rfl ((E.neq rfl rfl).isF (by first | (rw [eD, eL]; rw [eR] at hje; simp only [List.length_append, List.length_cons, List.length_nil] at hje ⊢; omega) | omega)) ?_
            refine R.done ?_
            refine X.keep [(1, _), (5, _), (7, _), (8, _), (9, _), (10, _), (11, _), (122, _)] ⟨rfl, rfl, rfl, rfl, rfl, rfl, rfl, rfl, trivial⟩ ?_
            refine X.next ?_
            refine C.cfalse rfl ?_
            refine C.skip ?_
            refine X.blockNormal ?_
            refine X.next ?_
            refine C.region ?_
            refine R.ev rfl (E.move rfl) ?_
            refine R.ev rfl (E.add rfl rfl (by omega) (by omega)) ?_
            refine R.ev rfl (E.assign rfl) ?_
            refine R.done ?_
            refine X.keep [(1, _), (5, _), (7, _), (8, _), (9, _), (10, _), (11, _)] ⟨rfl, rfl, rfl, rfl, rfl, rfl, rfl, trivial⟩ ?_
            first
              | exact X.again (k + 1, K2, (pS st.1 y, pL st.1 st.2 y), F2, _, _, made + 1, bk + (pD st.2 y).length, last1) ⟨rfl, rfl, rfl, rfl, rfl, rfl, rfl, trivial⟩ ⟨by omega, hk1.trans hk2, by simp only; omega, by omega, by rw [eD]; simp only [eL]; rw [eR] at hje; simp only [List.length_append, List.length_cons, List.length_nil] at hje ⊢; omega, hpw1, hw2, hmm, hs⟩ (by show _ - _ < _ - _; omega)
              | exact X.again (k + 1, K2, (pS st.1 y, pL st.1 st.2 y), F2, _, _, made, bk + (pD st.2 y).length, last1) ⟨rfl, rfl, rfl, rfl, rfl, rfl, rfl, trivial⟩ ⟨by omega, hk1.trans hk2, by simp only; omega, by omega, by simp only; omega, hpw1, hw2, hmm, hs⟩ (by show _ - _ < _ - _; omega)
      · refine R.gskip rfl rfl rfl ?_
        refine R.gskip rfl rfl rfl ?_
        refine R.ev rfl (E.pickF rfl rfl) ?_
        refine R.done ?_
        refine X.keep [(1, _), (5, _), (7, _), (8, _), (9, _), (10, _), (11, _), (13, _), (14, _), (63, _)] ⟨rfl, rfl, rfl, rfl, rfl, rfl, rfl, rfl, rfl, rfl, trivial⟩ ?_
        refine X.next ?_
        refine C.cfalse rfl ?_
        refine C.skip ?_
        refine X.next ?_
        refine C.seq ?_
        refine C.seq ?_
        refine C.region ?_
        try (have hB := notOk (sz := st.1) (L := st.2) h60; obtain ⟨eS, eC⟩ := stepB hB; have hq := hpw.sub eS)
        refine R.ev rfl (E.assign rfl) ?_
        refine R.done ?_
        refine X.keep [(1, _), (5, _), (7, _), (8, _), (9, _), (10, _), (11, _), (13, _), (14, _), (15, _)] ⟨rfl, rfl, rfl, rfl, rfl, rfl, rfl, rfl, rfl, rfl, trivial⟩ ?_
        refine X.next ?_
        refine C.block ?_
        refine C.loop (T := Nat × Nat × Int) [(1, _), (5, _), (7, _), (9, _), (11, _), (13, _), (14, _)] (fun (j, bk, last) => [(8, .int .i64 (bk : Nat)), (10, .int .i64 last), (15, .int .i64 (j : Nat))]) (fun (j, bk, last) w' => j ≤ (pR st.2 y).length ∧ bk = back + j ∧ PW _ (((pR st.2 y).drop j).map Res.id ++ (pL st.1 st.2 y).map Off.id) last (k + 1) ∧ Sat K2 w' (_ :: F2 :: [])) (fun (j, _) => (pR st.2 y).length - j) ((0, back, last)) ⟨rfl, rfl, rfl, rfl, rfl, rfl, rfl, rfl, rfl, rfl, trivial⟩ ⟨by omega, by omega, by first | (rw [eR, eL, List.drop_nil, List.map_nil, List.nil_append, List.map_append]; exact hq) | exact hq, hs⟩ ?_
        rintro ⟨j, bk, last1⟩ w17 ⟨hj, hbk, hpw1, hs⟩
        refine C.keep [(1, _), (5, _), (7, _), (8, _), (9, _), (10, _), (11, _), (13, _), (14, _), (15, _)] ⟨rfl, rfl, rfl, rfl, rfl, rfl, rfl, rfl, rfl, rfl, trivial⟩ ?_
        refine C.seq ?_
        refine C.seq ?_
        refine C.region ?_
        refine R.ev rfl (E.move rfl) ?_
        refine R.ev rfl (E.move rfl) ?_
        refine R.ev rfl (E.lenSl rfl Tryd.underlying30) ?_
        refine R.ev rfl (E.lss rfl rfl) ?_
        refine R.done ?_
        refine X.keep [(1, _), (5, _), (7, _), (8, _), (9, _), (10, _), (11, _), (13, _), (14, _), (15, _), (76, _)] ⟨rfl, rfl, rfl, rfl, rfl, rfl, rfl, rfl, rfl, rfl, rfl, trivial⟩ ?_
        refine X.next ?_
        refine C.cdec rfl (fun h76 => ?_) (fun h76 => ?_)
        · obtain ⟨x, bk_x, of_x, hx, mx, lx, rfl, Ax⟩ := hs.el (i := j) (ad := ad91) (n := (pR st.2 y).length) (c := cap91) (by omega)
          have ax := Ax _ hs
          have hox := outR mx
          obtain ⟨hgt, hpw3⟩ := hpw1.popR hx
          refine C.skip ?_
          refine X.next ?_
          refine C.seq ?_
          refine C.block ?_
          refine C.seq ?_
          refine C.seq ?_
          refine C.region ?_
          refine R.ev rfl (E.move rfl) ?_
          refine R.ev rfl (E.move rfl) ?_
          refine R.ev rfl (E.move rfl) ?_
          refine R.ev rfl (E.indexAddr rfl rfl Tryd.underlying30 Tryd.sz43 rfl (by first | omega | decide)) ?_
          first | refine R.ev rfl (E.fieldAddr0 0 rfl Tryd.underlying43 rfl Tryd.sz37 rfl) ?_ | refine R.ev rfl (E.fieldAddrN 0 rfl Tryd.underlying43 rfl Tryd.sz37 rfl) ?_
          refine R.ev rfl (E.loadRowC rfl Tryd.underlying37 rfl Tryd.sz37 (by first | exact ⟨hs.ldA, by first | rfl | assumption | exact encV_len _ | exact Enc.len _ | exact len_ub (by assumption)⟩ | exact ⟨hs.ldP rfl, by first | rfl | assumption | exact encV_len _ | exact Enc.len _ | exact len_ub (by assumption)⟩ | exact ⟨hs.ldM rfl rfl, by first | rfl | assumption | exact encV_len _ | exact Enc.len _ | exact len_ub (by assumption)⟩ | exact ⟨hs.ldM (by assumption) (by first | rfl | assumption), by first | rfl | assumption | exact encV_len _ | exact Enc.len _ | exact len_ub (by assumption)⟩ | exact ⟨by assumption, by first | rfl | assumption | exact encV_len _ | exact Enc.len _ | exact len_ub (by assumption)⟩ | exact hs.ldp | exact At.partC (by assumption))) ?_
          refine R.ev rfl ((E.lookupD hs rfl rfl Tryd.underlying55 x.id (by rfl)).as (u := .int .i64 (PL _ x.id)) rfl) ?_
          refine R.ev rfl (E.move rfl) ?_
          refine R.ev rfl ((E.leq rfl rfl).isF (by omega)) ?_
          refine R.ev rfl (E.move rfl) ?_
          refine R.gyes rfl rfl ?_
          refine R.ev rfl (E.move rfl) ?_
          refine R.gyes rfl rfl ?_
          refine R.ev rfl (E.move rfl) ?_
          refine R.gyes rfl rfl ?_
          refine R.ev rfl (E.indexAddr rfl rfl Tryd.underlying30 Tryd.sz43 rfl (by first | omega | decide)) ?_
          refine R.gyes rfl rfl ?_
          first | refine R.ev rfl (E.fieldAddr0 32 rfl Tryd.underlying43 rfl Tryd.sz3 rfl) ?_ | refine R.ev rfl (E.fieldAddrN 32 rfl Tryd.underlying43 rfl Tryd.sz3 rfl) ?_
          refine R.gyes rfl rfl ?_
          refine R.ev rfl (E.load1 rfl Tryd.underlying3 rfl (by first | exact hs.ldc | exact hs.ld rfl | exact hs.ld (by assumption) | exact by assumption | exact At.cellC (by assumption))) ?_
          refine R.gyes rfl rfl ?_
          refine R.ev rfl ((E.lss rfl rfl).isF (by omega)) ?_
          refine R.ev rfl (E.pickF rfl rfl) ?_
          refine R.ev rfl (E.move rfl) ?_
          refine R.gyes rfl rfl ?_
          refine R.ev rfl (E.move rfl) ?_
          refine R.gyes rfl rfl ?_
          refine R.ev rfl (E.move rfl) ?_
          refine R.gyes rfl rfl ?_
          refine R.ev rfl (E.indexAddr rfl rfl Tryd.underlying30 Tryd.sz43 rfl (by first | omega | decide)) ?_
          refine R.gyes rfl rfl ?_
          first | refine R.ev rfl (E.fieldAddr0 32 rfl Tryd.underlying43 rfl Tryd.sz3 rfl) ?_ | refine R.ev rfl (E.fieldAddrN 32 rfl Tryd.underlying43 rfl Tryd.sz3 rfl) ?_
          refine R.gyes rfl rfl ?_
          refine R.ev rfl (E.load1 rfl Tryd.underlying3 rfl (by first | exact hs.ldc | exact hs.ld rfl | exact hs.ld (by assumption) | exact by assumption | exact At.cellC (by assumption))) ?_
          refine R.gyes rfl rfl ?_
          refine R.ev rfl ((E.gtr rfl rfl).isF (by omega)) ?_
          refine R.ev rfl (E.pickF rfl rfl) ?_
          refine R.done ?_
          refine X.keep [(1, _), (5, _), (7, _), (8, _), (9, _), (11, _), (13, _), (14, _), (15, _), (103, _)] ⟨rfl, rfl, rfl, rfl, rfl, rfl, rfl, rfl, rfl, rfl, trivial⟩ ?_
          refine X.next ?_
          refine C.cfalse rfl ?_
          refine C.skip ?_
          refine X.next ?_
          refine C.seq ?_
          refine C.region ?_
          refine R.ev rfl (E.move rfl) ?_
          refine R.ev rfl (E.move rfl) ?_
          refine R.ev rfl (E.move rfl) ?_
          refine R.ev rfl (E.indexAddr rfl rfl Tryd.underlying30 Tryd.sz43 rfl (by first | omega | decide)) ?_
          first | refine R.ev rfl (E.fieldAddr0 0 rfl Tryd.underlying43 rfl Tryd.sz37 rfl) ?_ | refine R.ev rfl (E.fieldAddrN 0 rfl Tryd.underlying43 rfl Tryd.sz37 rfl) ?_
          refine R.ev rfl (E.loadRowC rfl Tryd.underlying37 rfl Tryd.sz37 (by first | exact ⟨hs.ldA, by first | rfl | assumption | exact encV_len _ | exact Enc.len _ | exact len_ub (by assumption)⟩ | exact ⟨hs.ldP rfl, by first | rfl | assumption | exact encV_len _ | exact Enc.len _ | exact len_ub (by assumption)⟩ | exact ⟨hs.ldM rfl rfl, by first | rfl | assumption | exact encV_len _ | exact Enc.len _ | exact len_ub (by assumption)⟩ | exact ⟨hs.ldM (by assumption) (by first | rfl | assumption), by first | rfl | assumption | exact encV_len _ | exact Enc.len _ | exact len_ub (by assumption)⟩ | exact ⟨by assumption, by first | rfl | assumption | exact encV_len _ | exact Enc.len _ | exact len_ub (by assumption)⟩ | exact hs.ldp | exact At.partC (by assumption))) ?_
          refine R.ev rfl ((E.lookupD hs rfl rfl Tryd.underlying55 x.id (by rfl)).as (u := .int .i64 (PL _ x.id)) rfl) ?_
          refine R.ev rfl (E.assign rfl) ?_
          refine R.done ?_
          refine X.keep [(1, _), (5, _), (7, _), (8, _), (9, _), (10, _), (11, _), (13, _), (14, _), (15, _)] ⟨rfl, rfl, rfl, rfl, rfl, rfl, rfl, rfl, rfl, rfl, trivial⟩ ?_
          refine X.next ?_
          refine C.region ?_
          refine R.ev rfl (E.move rfl) ?_
          refine R.ev rfl (E.add rfl rfl (by omega) (by omega)) ?_
          refine R.ev rfl (E.assign rfl) ?_
          refine R.done ?_
          refine X.keep [(1, _), (5, _), (7, _), (8, _), (9, _), (10, _), (11, _), (13, _), (14, _), (15, _)] ⟨rfl, rfl, rfl, rfl, rfl, rfl, rfl, rfl, rfl, rfl, trivial⟩ ?_
          refine X.blockNormal ?_
          refine X.next ?_
          refine C.region ?_
          refine R.ev rfl (E.move rfl) ?_
          refine R.ev rfl (E.add rfl rfl (by omega) (by omega)) ?_
          refine R.ev rfl (E.assign rfl) ?_
          refine R.done ?_
          refine X.keep [(1, _), (5, _), (7, _), (8, _), (9, _), (10, _), (11, _), (13, _), (14, _), (15, _)] ⟨rfl, rfl, rfl, rfl, rfl, rfl, rfl, rfl, rfl, rfl, trivial⟩ ?_
          exact X.again (j + 1, bk + 1, _) ⟨rfl, rfl, rfl, rfl, rfl, rfl, rfl, rfl, rfl, rfl, trivial⟩ ⟨by omega, by omega, hpw3, hs⟩ (by show _ - _ < _ - _; omega)
        · refine C.exit ?_
          refine X.thenExit ?_
          refine X.loopExit ?_
          refine X.blockExit ?_
          refine X.next ?_
          refine C.seq ?_
          refine C.region ?_
          have hje : j = (pR st.2 y).length := by omega
          rw [hje, List.drop_length, List.map_nil, List.nil_append] at hpw1
          refine R.ev rfl (E.move rfl) ?_
          refine R.ev rfl (E.move rfl) ?_
          refine R.ev rfl (E.lenSl rfl Tryd.underlying33) ?_
          refine R.ev rfl (E.add rfl rfl (by omega) (by omega)) ?_
          refine R.ev rfl (E.assign rfl) ?_
          refine R.done ?_
          refine X.keep [(1, _), (5, _), (7, _), (8, _), (9, _), (10, _), (11, _)] ⟨rfl, rfl, rfl, rfl, rfl, rfl, rfl, trivial⟩ ?_
          refine X.next ?_
          refine C.seq ?_
          refine C.region ?_
          refine R.ev rfl (E.move rfl) ?_
          refine R.ev rfl (E.move rfl) ?_
          refine R.ev rfl (E.move rfl) ?_
          refine R.call ⟨_, _, Tryd.func20, rfl, by kernel_rfl⟩ rfl rfl (len_any hs) ?_
          rintro _ w25 ⟨rfl, hs⟩
          refine R.ev rfl (E.add rfl rfl (by omega) (by omega)) ?_
          refine R.ev rfl ((E.neq rfl rfl).isF (by first | (rw [eD, eL]; rw [eR] at hje; simp only [List.length_append, List.length_cons, List.length_nil] at hje ⊢; omega) | omega)) ?_
          refine R.done ?_
          refine X.keep [(1, _), (5, _), (7, _), (8, _), (9, _), (10, _), (11, _), (122, _)] ⟨rfl, rfl, rfl, rfl, rfl, rfl, rfl, rfl, trivial⟩ ?_
          refine X.next ?_
          refine C.cfalse rfl ?_
          refine C.skip ?_
          refine X.blockNormal ?_
          refine X.next ?_
          refine C.region ?_
          refine R.ev rfl (E.move rfl) ?_
          refine R.ev rfl (E.add rfl rfl (by omega) (by omega)) ?_
          refine R.ev rfl (E.assign rfl) ?_
          refine R.done ?_
          refine X.keep [(1, _), (5, _), (7, _), (8, _), (9, _), (10, _), (11, _)] ⟨rfl, rfl, rfl, rfl, rfl, rfl, rfl, trivial⟩ ?_
          first
            | exact X.again (k + 1, K2, (pS st.1 y, pL st.1 st.2 y), F2, _, _, made + 1, bk + (pD st.2 y).length, last1) ⟨rfl, rfl, rfl, rfl, rfl, rfl, rfl, trivial⟩ ⟨by omega, hk1.trans hk2, by simp only; omega, by omega, by rw [eD]; simp only [eL]; rw [eR] at hje; simp only [List.length_append, List.length_cons, List.length_nil] at hje ⊢; omega, hpw1, hw2, hmm, hs⟩ (by show _ - _ < _ - _; omega)
            | exact X.again (k + 1, K2, (pS st.1 y, pL st.1 st.2 y), F2, _, _, made, bk + (pD st.2 y).length, last1) ⟨rfl, rfl, rfl, rfl, rfl, rfl, rfl, trivial⟩ ⟨by omega, hk1.trans hk2, by simp only; omega, by omega, by simp only; omega, hpw1, hw2, hmm, hs⟩ (by show _ - _ < _ - _; omega)
    · refine C.exit ?_
      refine X.thenExit ?_
      refine X.loopExit ?_
      refine X.blockExit ?_
      refine X.next ?_
      refine C.seq ?_
      refine C.region ?_
      refine R.ev rfl (E.assign rfl) ?_
      refine R.done ?_
      refine X.keep [(4, _)] ⟨rfl, trivial⟩ ?_
      refine X.next ?_
      refine C.ret ?_
      refine X.ret1 rfl rfl ?_
      exact ⟨rfl, (hs.less hk1.le).mod⟩

namespace windowOnce
open Go.ChangeShapes Go.WideShapes Go.ChangeAt Go.RowKit
open Go.ChangeMaps (open_string shut_string)
set_option linter.unusedVariables false

theorem own : ownKnob Tryd.prog.godebug = none := by kernel_rfl
theorem laidOut : laidOutB Tryd.prog = true := by kernel_rfl
theorem door_met (os : Os) (args : Array Value) : laidMetH Tryd.prog Rows.windowOnceRow.laid ((World.doorLaid Tryd.prog 400 os).forCall (fun _ _ => 0) ⟨#[], args, []⟩).memory :=
  laidMetH_of_parts3 (fuel := 8) (laidMet_of_run' 8 (by kernel_rfl) (by kernel_rfl)) (by kernel_rfl) (by kernel_rfl)
set_option maxRecDepth 100000 in
theorem lifted (os : Os) (started : os.Started) (H : Type) (enc : TypeId × Value → H) :
    ReturnsInHanded {} Tryd.checked os 6 .any (fun w args => (Rows.windowOnceSpec.pre enc Tryd.prog Tryd.f6 [] false w args ∧ laidMetH Tryd.prog Rows.windowOnceRow.laid w) ∧ sizedMet enc Tryd.prog Tryd.f6 (OpenSpec.ofChange Rows.windowOnceSpec) false w args)
      (Rows.windowOnceSpec.post enc Tryd.prog Tryd.f6 false true false false) := by
  refine returnsInHanded_of_change_and (C := Tryd.checked) (X := fun w _ => laidMetH Tryd.prog Rows.windowOnceRow.laid w) (fun _ _ _ hh h => h.of_heap hh) own started (by kernel_rfl) Tryd.func6
    (ChangeSpec.witness_shaped (enc := enc) (C := Tryd.checked) (os := os) (X := fun w _ => laidMetH Tryd.prog Rows.windowOnceRow.laid w) false (World.doorLaid Tryd.prog 400 os) #[.int .i64 0, .slice none 0 0] 8 rfl (World.shaped_of_RefB (by kernel_rfl) (by kernel_rfl)) (by kernel_rfl) (by kernel_rfl) (by kernel_rfl) (door_met os _)) ?_
  intro W base args ds gs before hval0 hW _ _ hL _
  have hval : ∀ (j : Nat) t v, Tryd.f6.params[j]? = some t → args[j]? = some v → Value.okWide Tryd.prog W .any base t v := hval0
  have hW' := hW
  obtain ⟨p, q, hA0, hV, rfl, hfz, hnd⟩ := hW
  have hA : DataW.TrodAll enc Tryd.prog W 0 (fun _ => true) true Tryd.f6.params.toList args.toList ds p := hA0
  rw [Tryd.params6] at hA hval
  obtain ⟨v0, vs0, d0, ds0, p0, q0, hargs, rfl, rfl, h0, r0⟩ := trodAll_cons hA
  obtain ⟨v1, vs1, d1, ds1, p1, q1, rfl, rfl, rfl, h1, r1⟩ := trodAll_cons r0
  obtain ⟨rfl, rfl, rfl⟩ := trodAll_nil r1
  obtain rfl : args = #[v0, v1] := by cases args; simp_all
  obtain ⟨rfl, rfl⟩ := trodVars_none hV
  have lt0 : ∀ x ∈ p0, x.block < W.heap.size := by obtain ⟨m, hm⟩ := h0; exact DataW.trod_lt m _ _ _ hm
  have a0 := Eng.argv_of (hval 0 3 v0 rfl rfl) h0
  have lt1 : ∀ x ∈ p1, x.block < W.heap.size := by obtain ⟨m, hm⟩ := h1; exact DataW.trod_lt m _ _ _ hm
  have a1 := Eng.argv_of (hval 1 49 v1 rfl rfl) h1
  clear hA0 hval0
  refine Calls.mono (once_walk W (laid_chg hL) v0 a0 v1 a1) fun e W' ⟨v, he, hv, hm⟩ => ?_
  subst he
  subst hv
  have bel := hm.below
  exact ⟨_, rfl, _, _, _, [], _, [], hW', trodAll_mk1 (shut_bool Tryd.underlying4 _), (trodAll_cons_mk (Below.trod laidOut (by kernel_rfl) (of_decide_eq_true (by kernel_rfl)) h0 bel lt0) (trodAll_cons_mk (Below.trod laidOut (by kernel_rfl) (of_decide_eq_true (by kernel_rfl)) h1 bel lt1) trodAll_mk0)), rfl, bel.frame _, fun h => by cases h⟩

theorem over : Rows.windowOnceRow.holds Tryd.pinned (OpenSpec.ofChange Rows.windowOnceSpec) :=
  OpenClaim.holds_of_wide 6 Tryd.f6 rfl rfl rfl rfl rfl rfl rfl ⟨rfl, rfl, rfl, rfl, rfl⟩ rfl rfl rfl rfl rfl (by kernel_rfl) Tryd.func6 (by kernel_rfl)
    (of_decide_eq_true (by kernel_rfl)) (by unfold Func.isWrapper; first | (rw [if_pos (by decide +kernel)]; kernel_rfl) | (rw [if_neg (by decide +kernel)]; exact ⟨rfl, rfl⟩))
    (fun os started H enc _ => lifted os started H enc)
end windowOnce
/-- the statement: the tied card -/
theorem windowOnce_holds : Rows.WindowOnceCardSaid :=
  Claim7.holds_tied_plain_at .later [] [.data] true (true, "528cf9756be51d7108a31d58a47078c1c4b59c91fa320a11aaba2c24a43b3e31") false
    windowOnce.over (fun _ h => by cases h) (by kernel_rfl) (fun _ h => by cases h) windowOnce_row_tie rfl ⟨rfl, rfl⟩ (by kernel_rfl) rfl
    (fun f fn hf hfn => by
      obtain rfl : f = 6 := Option.some.inj ((show Tryd.prog.funcNamed "bulletin/bulletinlaw36.WindowOnce" = some 6 by kernel_rfl).symm.trans hf) |>.symm
      obtain rfl : fn = Tryd.f6 := (Option.some.inj (Tryd.func6.symm.trans hfn)).symm
      exact ⟨by kernel_rfl, fun j t ht => by
        rw [Tryd.params6] at ht
        have ht := List.mem_of_getElem? (by simpa using ht)
        have key : ∀ t ∈ ([3, 49] : List TypeId), Tryd.prog.wantsStandIn t = false := by
          intro t ht
          simp only [List.mem_cons, List.not_mem_nil, or_false] at ht
          rcases ht with rfl | rfl <;> kernel_rfl
        exact key t (by simpa using ht)⟩)
    (by kernel_rfl)
#print axioms windowOnce_holds
end Go.Proofs.YtajbclcpkgenbaaDoor
