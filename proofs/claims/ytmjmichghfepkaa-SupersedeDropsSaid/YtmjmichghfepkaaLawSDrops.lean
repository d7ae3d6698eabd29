/-
  SupersedeDrops returns true for every input. No condition.
-/
import Derived.Test.YtmjmichghfepkaaRows
import Derived.Test.YtmjmichghfepkaaSupU
namespace Go.Proofs.Ytmjmichghfepkaa
open Go.Eng Go.RowKit Go.Sort

theorem drops_wd {L L' : List RR} {t x : RR} (hn : (L.map RR.id).Nodup) (hp : L'.Perm L) (hx : x ∈ L) (hxt : x.id ≠ t.id) (ht : t ∈ L) (h1 : valid x t = false) (h2 : outd t x = false) : wdId (delL t.id L) x.id = wdId L' x.id := by
  have hn' : (L'.map RR.id).Nodup := (hp.map RR.id).nodup_iff.2 hn
  have hd : ((delL t.id L).map RR.id).Nodup := hn.sublist ((delL_sub L).map _)
  rw [wdId, wdId, findR hd ((delL_mem hn).2 ⟨hx, hxt⟩) rfl, findR hn' (hp.mem_iff.2 hx) rfl]
  simp only
  rw [Bool.eq_iff_iff, wd_iff, wd_iff]
  constructor
  · rintro ⟨y, hy, h⟩
    exact ⟨y, hp.mem_iff.2 ((delL_mem hn).1 hy).1, h⟩
  · rintro ⟨y, hy, h⟩
    have hyL := hp.mem_iff.1 hy
    refine ⟨y, (delL_mem hn).2 ⟨hyL, fun e => ?_⟩, h⟩
    have := id_inj hn hyL ht e
    subst this
    rcases h with h | h
    · rw [h1] at h; cases h
    · rw [h2] at h; cases h
theorem drops_walk (w : World) (v0 : Value) (a0 : ArgV Try.prog w 22 v0) (v1 : Value) (a1 : ArgV Try.prog w 5 v1) : Ret Try.prog 9 #[v0, v1] w fun r w' => r = .bool true ∧ Mod [] w w' := by
  obtain ⟨ad, cap, L, rfl, hc, hcm, hr⟩ := argv_rs a0
  obtain ⟨q, rfl⟩ := argv_u8 a1 Try.underlying5
  unfold maxLen at hcm
  have hq := q.toNat_lt
  have hs := Sat.start w
  refine Ret.enter (n := 117) (args := [.slice ad L.length cap, ub q]) Try.func9 rfl rfl ?_
  refine C.keep [(0, _), (1, _)] ⟨rfl, rfl, trivial⟩ ?_
  refine C.seq ?_
  refine C.region ?_
  refine R.ev rfl (E.assign rfl) ?_
  refine R.done ?_
  refine X.keep [(0, _), (1, _)] ⟨rfl, rfl, trivial⟩ ?_
  refine X.next ?_
  refine C.seq ?_
  refine C.region ?_
  refine R.ev rfl (E.move rfl) ?_
  refine R.call ⟨_, _, Try.func13, rfl, by kernel_rfl⟩ rfl rfl (rows_any (L := L) hs (by omega)) ?_
  rintro _ w1 ⟨K1, v1, F1, A, rfl, hk1, r1, hA, hG, hs⟩
  have hAl : A.length ≤ 24 := by have := congrArg List.length hA; rw [List.length_map, List.length_take] at this; omega
  obtain ⟨K1', hk1', rr1, hs⟩ := r1.freezeK hs
  have hG := hG.mono hk1'
  have hk1 := hk1.trans hk1'
  obtain ⟨ad1, cap1, rfl, _⟩ := rr1.ex
  refine R.ev rfl (E.move rfl) ?_
  refine R.ev rfl (E.extract rfl rfl) ?_
  refine R.ev rfl (E.extract rfl rfl) ?_
  refine R.ev rfl (E.assign rfl) ?_
  refine R.ev rfl (E.assign rfl) ?_
  refine R.done ?_
  refine X.keep [(1, _), (5, _)] ⟨rfl, rfl, trivial⟩ ?_
  refine X.next ?_
  refine C.seq ?_
  refine C.seq ?_
  refine C.region ?_
  refine R.call ⟨_, _, Try.func16, rfl, by kernel_rfl⟩ rfl rfl (known_any hs) ?_
  rintro _ w2 ⟨rfl, hs⟩
  refine R.ev rfl (E.notT rfl) ?_
  refine R.ev rfl (E.move rfl) ?_
  refine R.gyes rfl rfl ?_
  refine R.ev rfl (E.move rfl) ?_
  refine R.gyes rfl rfl ?_
  refine R.ev rfl (E.lenSl rfl Try.underlying27) ?_
  refine R.gyes rfl rfl ?_
  refine R.ev rfl (E.eql rfl rfl) ?_
  refine R.ev rfl (E.pickF rfl rfl) ?_
  refine R.done ?_
  refine X.keep [(1, _), (5, _), (24, _)] ⟨rfl, rfl, rfl, trivial⟩ ?_
  refine X.next ?_
  refine C.cdec rfl (fun h24 => ?_) (fun h24 => ?_)
  · refine C.seq ?_
    refine C.region ?_
    refine R.call ⟨_, _, Try.func16, rfl, by kernel_rfl⟩ rfl rfl (known_any hs) ?_
    rintro _ w3 ⟨rfl, hs⟩
    refine R.ev rfl (E.assign rfl) ?_
    refine R.done ?_
    refine X.keep [(4, _)] ⟨rfl, trivial⟩ ?_
    refine X.next ?_
    refine C.ret ?_
    refine X.thenRet ?_
    refine X.ret1 rfl rfl ?_
    exact ⟨rfl, (hs.less hk1.le).mod⟩
  · refine C.skip ?_
    refine X.next ?_
    refine C.seq ?_
    refine C.region ?_
    have hA0 : 0 < A.length := by omega
    refine R.ev rfl (E.move rfl) ?_
    refine R.call ⟨_, _, Try.func26, rfl, by kernel_rfl⟩ rfl rfl (set_any (A := A) hG (by omega) hs) ?_
    rintro _ w4 ⟨K4, p, M, F4, L', ok, rfl, hk4, hI, hGM, hw, hok, hs⟩
    have hG := hG.mono hk4
    refine R.ev rfl (E.move rfl) ?_
    refine R.ev rfl (E.extract rfl rfl) ?_
    refine R.ev rfl (E.extract rfl rfl) ?_
    refine R.ev rfl (E.assign rfl) ?_
    refine R.ev rfl (E.assign rfl) ?_
    refine R.done ?_
    refine X.keep [(1, _), (5, _), (7, _), (8, _)] ⟨rfl, rfl, rfl, rfl, trivial⟩ ?_
    refine X.next ?_
    refine C.seq ?_
    refine C.region ?_
    refine R.ev rfl (E.move rfl) ?_
    refine R.ev rfl ((E.conv rfl Try.underlying5 Try.underlying3).isI (c := (q.toNat : Int)) (wrap_i64 (by omega) (by omega))) ?_
    refine R.ev rfl (E.move rfl) ?_
    refine R.ev rfl (E.lenSl rfl Try.underlying27) ?_
    refine R.ev rfl ((E.rem rfl rfl (by omega) (by omega)).isI (c := ((q.toNat % A.length : Nat) : Int)) (Int.natCast_emod _ _).symm) ?_
    have hat : q.toNat % A.length < A.length := Nat.mod_lt _ hA0
    generalize q.toNat % A.length = at_ at hat ⊢
    obtain ⟨t, bk, of, ht, mt, lt, rfl, At_⟩ := (hs.to (Hs := [])).el (i := at_) (ad := ad1) (n := A.length) (c := cap1) hat
    refine R.ev rfl (E.assign rfl) ?_
    refine R.done ?_
    refine X.keep [(5, _), (7, _), (8, _), (9, _)] ⟨rfl, rfl, rfl, rfl, trivial⟩ ?_
    refine X.next ?_
    refine C.seq ?_
    refine C.seq ?_
    refine C.region ?_
    refine R.ev rfl (E.assign rfl) ?_
    refine R.done ?_
    refine X.keep [(5, _), (7, _), (8, _), (9, _), (10, _)] ⟨rfl, rfl, rfl, rfl, rfl, trivial⟩ ?_
    refine X.next ?_
    refine C.block ?_
    refine C.loop  [(5, _), (7, _), (8, _), (9, _)] (fun i => [(10, .int .i64 (i : Nat))]) (fun i w' => i ≤ A.length ∧ (∀ j y, j < i → j ≠ at_ → A[j]? = some y → valid y.x t.x = false ∧ outd t.x y.x = false) ∧ Sat K4 w' (F4 :: [])) (fun i => A.length - i) (0) ⟨rfl, rfl, rfl, rfl, rfl, trivial⟩ ⟨Nat.zero_le _, fun j y h => by omega, hs.to⟩ ?_
    rintro i w5 ⟨hi, hno, hs⟩
    refine C.keep [(5, _), (7, _), (8, _), (9, _), (10, _)] ⟨rfl, rfl, rfl, rfl, rfl, trivial⟩ ?_
    refine C.seq ?_
    refine C.seq ?_
    refine C.region ?_
    refine R.ev rfl (E.move rfl) ?_
    refine R.ev rfl (E.move rfl) ?_
    refine R.ev rfl (E.lenSl rfl Try.underlying27) ?_
    refine R.ev rfl (E.lss rfl rfl) ?_
    refine R.ev rfl (E.move rfl) ?_
    refine R.split 40 rfl (fun h40 => ?_) (fun h40 => ?_)
    · refine R.gyes rfl rfl ?_
      refine R.ev rfl (E.move rfl) ?_
      refine R.ev rfl (E.pickT rfl rfl) ?_
      refine R.done ?_
      refine X.keep [(5, _), (7, _), (8, _), (9, _), (10, _), (42, _)] ⟨rfl, rfl, rfl, rfl, rfl, rfl, trivial⟩ ?_
      refine X.next ?_
      refine C.cbool rfl (fun h42 => ?_) (fun h42 => ?_)
      · refine C.skip ?_
        refine X.next ?_
        refine C.seq ?_
        refine C.block ?_
        refine C.seq ?_
        refine C.drawn (SatS hs) ([7, 11, 17, 21], [0, 1, 2, 3, 4, 5, 6, 8, 9, 10, 13, 14, 15, 16, 18, 19, 20, 23, 24]) (by kernel_rfl) ?_
        have hs := hs.drew
        have hil : i < A.length := by have := of_decide_eq_true h40; omega
        obtain ⟨y, hy⟩ : ∃ y, A[i]? = some y := ⟨_, List.getElem?_eq_getElem hil⟩
        have my : y ∈ A := List.mem_of_getElem? hy
        have Ay := (hs.to (Hs := [])).elAt (b := bk) (off := of) (n := A.length) cap1 hy
        refine D.evP 0 rfl (by kernel_rfl) rfl (fun _ => hs.to) (fun _ => E.move rfl) ?_
        refine D.evP 1 rfl (by kernel_rfl) rfl (fun _ => hs.to) (fun _ => E.move rfl) ?_
        refine D.evP 2 rfl (by kernel_rfl) rfl (fun _ => hs.to) (fun _ => E.neq rfl rfl) ?_
        refine D.evP 3 rfl (by kernel_rfl) rfl (fun _ => hs.to) (fun _ => E.move rfl) ?_
        refine D.split 48 rfl (fun h48 => ?_) (fun h48 => ?_)
        · refine D.evPG 4 rfl (by kernel_rfl) rfl rfl rfl (fun _ => hs.to) (fun _ => E.move rfl) ?_
          refine D.evPG 5 rfl (by kernel_rfl) rfl rfl rfl (fun _ => hs.to) (fun _ => E.move rfl) ?_
          refine D.evPG 6 rfl (by kernel_rfl) rfl rfl rfl (fun _ => hs.to) (fun _ => E.indexAddr (i := i) rfl rfl Try.underlying27 Try.sz42 rfl (by omega)) ?_
          refine D.evPG 8 rfl (by kernel_rfl) rfl rfl rfl (fun _ => hs.to) (fun _ => E.move rfl) ?_
          refine D.evPG 9 rfl (by kernel_rfl) rfl rfl rfl (fun _ => hs.to) (fun _ => E.move rfl) ?_
          refine D.evPG 10 rfl (by kernel_rfl) rfl rfl rfl (fun _ => hs.to) (fun _ => E.indexAddr (i := at_) rfl rfl Try.underlying27 Try.sz42 rfl (by omega)) ?_
          refine D.evG 7 rfl (by kernel_rfl) rfl rfl rfl hs.to (fun _ hS => E.loadRow rfl Try.underlying42 rfl Try.sz42 (Ay _ hS.to) (Enc.len _)) ?_
          refine D.evG 11 rfl (by kernel_rfl) rfl rfl rfl hs.to (fun _ hS => E.loadRow rfl Try.underlying42 rfl Try.sz42 (At_ _ hS.to) (Enc.len _)) ?_
          refine D.act 12 rfl (by kernel_rfl) ?_
          refine R.gyes rfl rfl ?_
          refine R.call ⟨_, _, Try.func17, rfl, by kernel_rfl⟩ rfl rfl (valid_any (hG y my) (hG t mt) hs) ?_
          rintro _ w912 ⟨rfl, hs⟩
          refine D.back hs.to ?_
          refine D.evPG 13 rfl (by kernel_rfl) rfl rfl rfl (fun _ => hs.to) (fun _ => E.move rfl) ?_
          refine D.split 58 rfl (fun h58 => ?_) (fun h58 => ?_)
          · refine D.skipP 14 rfl (by kernel_rfl) rfl rfl rfl (fun _ => hs.to) ?_
            refine D.skipP 15 rfl (by kernel_rfl) rfl rfl rfl (fun _ => hs.to) ?_
            refine D.skipP 16 rfl (by kernel_rfl) rfl rfl rfl (fun _ => hs.to) ?_
            refine D.skipP 18 rfl (by kernel_rfl) rfl rfl rfl (fun _ => hs.to) ?_
            refine D.skipP 19 rfl (by kernel_rfl) rfl rfl rfl (fun _ => hs.to) ?_
            refine D.skipP 20 rfl (by kernel_rfl) rfl rfl rfl (fun _ => hs.to) ?_
            refine D.skip 17 rfl (by kernel_rfl) rfl rfl rfl hs.to ?_
            refine D.skip 21 rfl (by kernel_rfl) rfl rfl rfl hs.to ?_
            refine D.act 22 rfl (by kernel_rfl) ?_
            refine R.gskip rfl rfl rfl ?_
            refine D.backT (by kernel_rfl) ?_
            refine D.evPG 23 rfl (by kernel_rfl) rfl rfl rfl (np (by kernel_rfl)) (fun _ => E.pickT rfl rfl) ?_
            refine D.evP 24 rfl (by kernel_rfl) rfl (np (by kernel_rfl)) (fun _ => E.pickT rfl rfl) ?_
            refine D.done rfl (by kernel_rfl) ?_
            refine X.keep [(5, _), (7, _), (8, _), (9, _), (10, _), (69, _)] ⟨rfl, rfl, rfl, rfl, rfl, rfl, trivial⟩ ?_
            refine X.next ?_
            refine C.ctrue rfl ?_
            refine C.seq ?_
            refine C.region ?_
            refine R.ev rfl (E.assign rfl) ?_
            refine R.done ?_
            refine X.keep [(4, _)] ⟨rfl, trivial⟩ ?_
            refine X.next ?_
            refine C.ret ?_
            refine X.blockRet ?_
            refine X.thenRet ?_
            refine X.loopRet ?_
            refine X.blockRet ?_
            refine X.thenRet ?_
            refine X.ret1 rfl rfl ?_
            exact ⟨rfl, (hs.less (hk1.trans hk4).le).mod⟩
          · refine D.evPG 14 rfl (by kernel_rfl) rfl rfl rfl (fun _ => hs.to) (fun _ => E.move rfl) ?_
            refine D.evPG 15 rfl (by kernel_rfl) rfl rfl rfl (fun _ => hs.to) (fun _ => E.move rfl) ?_
            refine D.evPG 16 rfl (by kernel_rfl) rfl rfl rfl (fun _ => hs.to) (fun _ => E.indexAddr (i := at_) rfl rfl Try.underlying27 Try.sz42 rfl (by omega)) ?_
            refine D.evPG 18 rfl (by kernel_rfl) rfl rfl rfl (fun _ => hs.to) (fun _ => E.move rfl) ?_
            refine D.evPG 19 rfl (by kernel_rfl) rfl rfl rfl (fun _ => hs.to) (fun _ => E.move rfl) ?_
            refine D.evPG 20 rfl (by kernel_rfl) rfl rfl rfl (fun _ => hs.to) (fun _ => E.indexAddr (i := i) rfl rfl Try.underlying27 Try.sz42 rfl (by omega)) ?_
            refine D.evG 17 rfl (by kernel_rfl) rfl rfl rfl hs.to (fun _ hS => E.loadRow rfl Try.underlying42 rfl Try.sz42 (At_ _ hS.to) (Enc.len _)) ?_
            refine D.evG 21 rfl (by kernel_rfl) rfl rfl rfl hs.to (fun _ hS => E.loadRow rfl Try.underlying42 rfl Try.sz42 (Ay _ hS.to) (Enc.len _)) ?_
            refine D.act 22 rfl (by kernel_rfl) ?_
            refine R.gyes rfl rfl ?_
            refine R.call ⟨_, _, Try.func20, rfl, by kernel_rfl⟩ rfl rfl (outd_any (hG t mt) (hG y my) hs) ?_
            rintro _ w922 ⟨rfl, hs⟩
            refine D.backT (by kernel_rfl) ?_
            refine D.evPG 23 rfl (by kernel_rfl) rfl rfl rfl (np (by kernel_rfl)) (fun _ => E.pickF rfl rfl) ?_
            refine D.evP 24 rfl (by kernel_rfl) rfl (np (by kernel_rfl)) (fun _ => E.pickT rfl rfl) ?_
            refine D.done rfl (by kernel_rfl) ?_
            refine X.keep [(5, _), (7, _), (8, _), (9, _), (10, _), (69, _)] ⟨rfl, rfl, rfl, rfl, rfl, rfl, trivial⟩ ?_
            refine X.next ?_
            refine C.cbool rfl (fun h69 => ?_) (fun h69 => ?_)
            · refine C.seq ?_
              refine C.region ?_
              refine R.ev rfl (E.assign rfl) ?_
              refine R.done ?_
              refine X.keep [(4, _)] ⟨rfl, trivial⟩ ?_
              refine X.next ?_
              refine C.ret ?_
              refine X.blockRet ?_
              refine X.thenRet ?_
              refine X.loopRet ?_
              refine X.blockRet ?_
              refine X.thenRet ?_
              refine X.ret1 rfl rfl ?_
              exact ⟨rfl, (hs.less (hk1.trans hk4).le).mod⟩
            · refine C.skip ?_
              refine X.blockNormal ?_
              refine X.next ?_
              refine C.region ?_
              refine R.ev rfl (E.move rfl) ?_
              refine R.ev rfl (E.add rfl rfl (by omega) (by omega)) ?_
              refine R.ev rfl (E.assign rfl) ?_
              refine R.done ?_
              refine X.keep [(5, _), (7, _), (8, _), (9, _), (10, _)] ⟨rfl, rfl, rfl, rfl, rfl, trivial⟩ ?_
              exact X.again (i + 1) ⟨rfl, rfl, rfl, rfl, rfl, trivial⟩ ⟨by omega, fun j z hj hne hz => by
              rcases Nat.lt_or_ge j i with h | h
              · exact hno j z h hne hz
              · obtain rfl : j = i := by omega
                rw [hy] at hz; simp at hz; subst hz
                first
                  | exact ⟨h58, h69⟩
                  | (have := of_decide_eq_false h48; omega), hs.to⟩ (by omega)
        · refine D.skipP 4 rfl (by kernel_rfl) rfl rfl rfl (fun _ => hs.to) ?_
          refine D.skipP 5 rfl (by kernel_rfl) rfl rfl rfl (fun _ => hs.to) ?_
          refine D.skipP 6 rfl (by kernel_rfl) rfl rfl rfl (fun _ => hs.to) ?_
          refine D.skipP 8 rfl (by kernel_rfl) rfl rfl rfl (fun _ => hs.to) ?_
          refine D.skipP 9 rfl (by kernel_rfl) rfl rfl rfl (fun _ => hs.to) ?_
          refine D.skipP 10 rfl (by kernel_rfl) rfl rfl rfl (fun _ => hs.to) ?_
          refine D.skip 7 rfl (by kernel_rfl) rfl rfl rfl hs.to ?_
          refine D.skip 11 rfl (by kernel_rfl) rfl rfl rfl hs.to ?_
          refine D.act 12 rfl (by kernel_rfl) ?_
          refine R.gskip rfl rfl rfl ?_
          refine D.back hs.to ?_
          refine D.skipP 13 rfl (by kernel_rfl) rfl rfl rfl (fun _ => hs.to) ?_
          refine D.undefP 14 rfl (by kernel_rfl) rfl rfl (fun _ => hs.to) ?_
          refine D.undefP 15 rfl (by kernel_rfl) rfl rfl (fun _ => hs.to) ?_
          refine D.undefP 16 rfl (by kernel_rfl) rfl rfl (fun _ => hs.to) ?_
          refine D.undefP 18 rfl (by kernel_rfl) rfl rfl (fun _ => hs.to) ?_
          refine D.undefP 19 rfl (by kernel_rfl) rfl rfl (fun _ => hs.to) ?_
          refine D.undefP 20 rfl (by kernel_rfl) rfl rfl (fun _ => hs.to) ?_
          refine D.undef 17 rfl (by kernel_rfl) rfl rfl hs.to ?_
          refine D.undef 21 rfl (by kernel_rfl) rfl rfl hs.to ?_
          refine D.act 22 rfl (by kernel_rfl) ?_
          refine R.gundef rfl rfl ?_
          refine D.backT (by kernel_rfl) ?_
          refine D.skipP 23 rfl (by kernel_rfl) rfl rfl rfl (np (by kernel_rfl)) ?_
          refine D.evP 24 rfl (by kernel_rfl) rfl (np (by kernel_rfl)) (fun _ => E.pickF rfl rfl) ?_
          refine D.done rfl (by kernel_rfl) ?_
          refine X.keep [(5, _), (7, _), (8, _), (9, _), (10, _), (69, _)] ⟨rfl, rfl, rfl, rfl, rfl, rfl, trivial⟩ ?_
          refine X.next ?_
          refine C.cfalse rfl ?_
          refine C.skip ?_
          refine X.blockNormal ?_
          refine X.next ?_
          refine C.region ?_
          refine R.ev rfl (E.move rfl) ?_
          refine R.ev rfl (E.add rfl rfl (by omega) (by omega)) ?_
          refine R.ev rfl (E.assign rfl) ?_
          refine R.done ?_
          refine X.keep [(5, _), (7, _), (8, _), (9, _), (10, _)] ⟨rfl, rfl, rfl, rfl, rfl, trivial⟩ ?_
          exact X.again (i + 1) ⟨rfl, rfl, rfl, rfl, rfl, trivial⟩ ⟨by omega, fun j z hj hne hz => by
          rcases Nat.lt_or_ge j i with h | h
          · exact hno j z h hne hz
          · obtain rfl : j = i := by omega
            rw [hy] at hz; simp at hz; subst hz
            first
              | exact ⟨h58, h69⟩
              | (have := of_decide_eq_false h48; omega), hs.to⟩ (by omega)
      · refine C.exit ?_
        refine X.thenExit ?_
        refine X.loopExit ?_
        refine X.blockExit ?_
        refine X.next ?_
        refine C.seq ?_
        refine C.seq ?_
        refine C.region ?_
        refine R.ev rfl (E.move rfl) ?_
        refine R.ev rfl ((E.not rfl).isB (c := !ok) rfl) ?_
        refine R.done ?_
        refine X.keep [(5, _), (7, _), (9, _), (71, _)] ⟨rfl, rfl, rfl, rfl, trivial⟩ ?_
        refine X.next ?_
        refine C.cbool rfl (fun h71 => ?_) (fun h71 => ?_)
        · refine C.seq ?_
          refine C.region ?_
          refine R.ev rfl (E.assign rfl) ?_
          refine R.done ?_
          refine X.keep [(4, _)] ⟨rfl, trivial⟩ ?_
          refine X.next ?_
          refine C.ret ?_
          refine X.thenRet ?_
          refine X.ret1 rfl rfl ?_
          exact ⟨rfl, (hs.less (hk1.trans hk4).le).mod⟩
        · refine C.skip ?_
          refine X.next ?_
          refine C.seq ?_
          refine C.region ?_
          have hok1 : ok = true := by simpa using h71
          have hLL := hok hok1
          have hnoA : ∀ j y, j ≠ at_ → A[j]? = some y → valid y.x t.x = false ∧ outd t.x y.x = false := fun j y hne hy => by
            refine hno j y ?_ hne hy
            have hj := (List.getElem?_eq_some_iff.1 hy).1
            first
              | (rw [h42] at hok1; cases hok1)
              | (have := of_decide_eq_false h40; omega)
          have htL : t.x ∈ L' := by rw [hLL]; exact List.mem_map.2 ⟨t, mt, rfl⟩
          have hLl : L'.length ≤ 24 := by rw [hLL, List.length_map]; exact hAl
          refine R.ev rfl (E.move rfl) ?_
          refine R.call ⟨_, _, Try.func30, rfl, by kernel_rfl⟩ rfl rfl (clone_any hI hGM (by omega) hs) ?_
          rintro _ w13 ⟨K5, q5, M5, L5, F5, rfl, hk5, hp5, hI5, hG5, hw5, hs⟩
          have hG := hG.mono hk5
          refine R.ev rfl (E.assign rfl) ?_
          refine R.done ?_
          refine X.keep [(5, _), (7, _), (9, _), (11, _)] ⟨rfl, rfl, rfl, rfl, trivial⟩ ?_
          refine X.next ?_
          refine C.seq ?_
          refine C.seq ?_
          refine C.region ?_
          refine R.ev rfl (E.move rfl) ?_
          refine R.ev rfl (E.move rfl) ?_
          refine R.ev rfl (E.move rfl) ?_
          refine R.ev rfl (E.indexAddr (i := at_) rfl rfl Try.underlying27 Try.sz42 rfl (by omega)) ?_
          first | refine R.ev rfl (E.fieldAddr0 0 rfl Try.underlying42 rfl Try.sz37 rfl) ?_ | refine R.ev rfl (E.fieldAddrN 0 rfl Try.underlying42 rfl Try.sz37 rfl) ?_
          refine R.ev rfl (E.loadRowC rfl Try.underlying37 rfl Try.sz37 (At.partC (At_ _ (hs.less hk5.le).to))) ?_
          refine R.call ⟨_, _, Try.func31, rfl, by kernel_rfl⟩ rfl rfl (drop_any t.x.id hI (hGM.mono hk5) (hs.front (F := F4))) ?_
          rintro _ w146 ⟨rfl, M6, F6, hI6, hG6, hw6, hs1⟩
          have hs := hs.back (F := F4) hs1
          refine R.ev rfl ((E.neq rfl rfl).isF (by rw [rDropE, if_pos (hasId_iff.2 (List.mem_map.2 ⟨_, htL, rfl⟩))]; exact fun h => h rfl)) ?_
          refine R.ev rfl (E.move rfl) ?_
          refine R.gyes rfl rfl ?_
          refine R.ev rfl (E.move rfl) ?_
          refine R.gyes rfl rfl ?_
          refine R.ev rfl (E.move rfl) ?_
          refine R.gyes rfl rfl ?_
          refine R.ev rfl (E.move rfl) ?_
          refine R.gyes rfl rfl ?_
          refine R.ev rfl (E.indexAddr (i := at_) rfl rfl Try.underlying27 Try.sz42 rfl (by omega)) ?_
          refine R.gyes rfl rfl ?_
          first | refine R.ev rfl (E.fieldAddr0 0 rfl Try.underlying42 rfl Try.sz37 rfl) ?_ | refine R.ev rfl (E.fieldAddrN 0 rfl Try.underlying42 rfl Try.sz37 rfl) ?_
          refine R.gyes rfl rfl ?_
          refine R.ev rfl (E.loadRowC rfl Try.underlying37 rfl Try.sz37 (At.partC (At_ _ (hs.less hk5.le).to))) ?_
          refine R.gyes rfl rfl ?_
          refine R.call ⟨_, _, Try.func32, rfl, by kernel_rfl⟩ rfl rfl (has_any (p := p) t.x.id hs) ?_
          rintro _ w1415 ⟨rfl, hs⟩
          rw [hI6.has, show hasId t.x.id (delL t.x.id L') = false from hasId_false.2 (fun h => by obtain ⟨z, hz, hzi⟩ := List.mem_map.1 h; exact ((delL_mem hI.nd).1 hz).2 hzi)]
          refine R.ev rfl (E.pickF rfl rfl) ?_
          refine R.done ?_
          refine X.keep [(5, _), (7, _), (9, _), (11, _), (90, _)] ⟨rfl, rfl, rfl, rfl, rfl, trivial⟩ ?_
          refine X.next ?_
          refine C.cfalse rfl ?_
          refine C.skip ?_
          refine X.next ?_
          refine C.seq ?_
          refine C.seq ?_
          refine C.region ?_
          refine R.ev rfl (E.assign rfl) ?_
          refine R.done ?_
          refine X.keep [(5, _), (7, _), (9, _), (11, _), (12, _)] ⟨rfl, rfl, rfl, rfl, rfl, trivial⟩ ?_
          refine X.next ?_
          refine C.block ?_
          refine C.loop  [(5, _), (7, _), (9, _), (11, _)] (fun i => [(12, .int .i64 (i : Nat))]) (fun i w' => i ≤ A.length ∧ Sat K5 w' (F5 :: F6 :: [])) (fun i => A.length - i) (0) ⟨rfl, rfl, rfl, rfl, rfl, trivial⟩ ⟨Nat.zero_le _, hs.to⟩ ?_
          rintro i2 w16 ⟨hi2, hs⟩
          refine C.keep [(5, _), (7, _), (9, _), (11, _), (12, _)] ⟨rfl, rfl, rfl, rfl, rfl, trivial⟩ ?_
          refine C.seq ?_
          refine C.seq ?_
          refine C.region ?_
          refine R.ev rfl (E.move rfl) ?_
          refine R.ev rfl (E.move rfl) ?_
          refine R.ev rfl (E.lenSl rfl Try.underlying27) ?_
          refine R.ev rfl (E.lss rfl rfl) ?_
          refine R.done ?_
          refine X.keep [(5, _), (7, _), (9, _), (11, _), (12, _), (94, _)] ⟨rfl, rfl, rfl, rfl, rfl, rfl, trivial⟩ ?_
          refine X.next ?_
          refine C.cdec rfl (fun h94 => ?_) (fun h94 => ?_)
          · obtain ⟨y, hy⟩ : ∃ y, A[i2]? = some y := ⟨_, List.getElem?_eq_getElem (by omega)⟩
            have my : y ∈ A := List.mem_of_getElem? hy
            have Ay := (hs.to (Hs := [])).elAt (b := bk) (off := of) (n := A.length) cap1 hy
            have hyL : y.x ∈ L' := by rw [hLL]; exact List.mem_map.2 ⟨y, my, rfl⟩
            refine C.skip ?_
            refine X.next ?_
            refine C.seq ?_
            refine C.block ?_
            refine C.seq ?_
            refine C.drawn (SatS hs) ([9, 16], [0, 1, 2, 3, 4, 5, 6, 7, 8, 11, 12, 13, 14, 15, 18, 19]) (by kernel_rfl) ?_
            have hs := hs.drew
            refine D.evP 0 rfl (by kernel_rfl) rfl (fun _ => hs.to) (fun _ => E.move rfl) ?_
            refine D.evP 1 rfl (by kernel_rfl) rfl (fun _ => hs.to) (fun _ => E.move rfl) ?_
            refine D.evP 2 rfl (by kernel_rfl) rfl (fun _ => hs.to) (fun _ => E.neq rfl rfl) ?_
            refine D.evP 3 rfl (by kernel_rfl) rfl (fun _ => hs.to) (fun _ => E.move rfl) ?_
            refine D.split 100 rfl (fun h100 => ?_) (fun h100 => ?_)
            · refine D.evPG 4 rfl (by kernel_rfl) rfl rfl rfl (fun _ => hs.to) (fun _ => E.move rfl) ?_
              refine D.evPG 5 rfl (by kernel_rfl) rfl rfl rfl (fun _ => hs.to) (fun _ => E.move rfl) ?_
              refine D.evPG 6 rfl (by kernel_rfl) rfl rfl rfl (fun _ => hs.to) (fun _ => E.move rfl) ?_
              refine D.evPG 7 rfl (by kernel_rfl) rfl rfl rfl (fun _ => hs.to) (fun _ => E.indexAddr (i := i2) rfl rfl Try.underlying27 Try.sz42 rfl (by omega)) ?_
              first | refine D.evPG 8 rfl (by kernel_rfl) rfl rfl rfl (fun _ => hs.to) (fun _ => E.fieldAddr0 0 rfl Try.underlying42 rfl Try.sz37 rfl) ?_ | refine D.evPG 8 rfl (by kernel_rfl) rfl rfl rfl (fun _ => hs.to) (fun _ => E.fieldAddrN 0 rfl Try.underlying42 rfl Try.sz37 rfl) ?_
              refine D.evPG 11 rfl (by kernel_rfl) rfl rfl rfl (fun _ => hs.to) (fun _ => E.move rfl) ?_
              refine D.evPG 12 rfl (by kernel_rfl) rfl rfl rfl (fun _ => hs.to) (fun _ => E.move rfl) ?_
              refine D.evPG 13 rfl (by kernel_rfl) rfl rfl rfl (fun _ => hs.to) (fun _ => E.move rfl) ?_
              refine D.evPG 14 rfl (by kernel_rfl) rfl rfl rfl (fun _ => hs.to) (fun _ => E.indexAddr (i := i2) rfl rfl Try.underlying27 Try.sz42 rfl (by omega)) ?_
              first | refine D.evPG 15 rfl (by kernel_rfl) rfl rfl rfl (fun _ => hs.to) (fun _ => E.fieldAddr0 0 rfl Try.underlying42 rfl Try.sz37 rfl) ?_ | refine D.evPG 15 rfl (by kernel_rfl) rfl rfl rfl (fun _ => hs.to) (fun _ => E.fieldAddrN 0 rfl Try.underlying42 rfl Try.sz37 rfl) ?_
              refine D.evG 9 rfl (by kernel_rfl) rfl rfl rfl hs.to (fun _ hS => E.loadRowC rfl Try.underlying37 rfl Try.sz37 (At.partC (Ay _ hS.to))) ?_
              refine D.evG 16 rfl (by kernel_rfl) rfl rfl rfl hs.to (fun _ hS => E.loadRowC rfl Try.underlying37 rfl Try.sz37 (At.partC (Ay _ hS.to))) ?_
              refine D.act 10 rfl (by kernel_rfl) ?_
              refine R.gyes rfl rfl ?_
              refine R.call ⟨_, _, Try.func27, rfl, by kernel_rfl⟩ rfl rfl (isWd_any (p := p) y.x.id hI6 hG6 hs) ?_
              rintro _ w1910 ⟨rfl, hs⟩
              refine D.back hs.to ?_
              refine D.act 17 rfl (by kernel_rfl) ?_
              refine R.gyes rfl rfl ?_
              refine R.call ⟨_, _, Try.func27, rfl, by kernel_rfl⟩ rfl rfl (isWd_any (p := q5) y.x.id hI5 hG5 hs) ?_
              rintro _ w1917 ⟨rfl, hs⟩
              have hne2 : i2 ≠ at_ := by have := of_decide_eq_true h100; omega
              have hid : y.x.id ≠ t.x.id := fun e0 => by
                have hnd := hI.nd
                rw [hLL, List.map_map, List.Nodup, List.pairwise_map] at hnd
                obtain ⟨g1, g2⟩ := List.getElem?_eq_some_iff.1 hy
                obtain ⟨g3, g4⟩ := List.getElem?_eq_some_iff.1 ht
                rcases Nat.lt_or_gt_of_ne hne2 with hlt | hgt
                · have := List.pairwise_iff_getElem.1 hnd i2 at_ g1 g3 hlt
                  rw [g2, g4] at this; exact this e0
                · have := List.pairwise_iff_getElem.1 hnd at_ i2 g3 g1 hgt
                  rw [g2, g4] at this; exact this e0.symm
              rw [drops_wd hI.nd hp5 hyL hid htL (hnoA i2 y hne2 hy).1 (hnoA i2 y hne2 hy).2]
              refine D.backT (by kernel_rfl) ?_
              refine D.evPG 18 rfl (by kernel_rfl) rfl rfl rfl (np (by kernel_rfl)) (fun _ => (E.neqB rfl rfl Try.underlying4).isB (c := false) (by simp)) ?_
              refine D.evP 19 rfl (by kernel_rfl) rfl (np (by kernel_rfl)) (fun _ => E.pickT rfl rfl) ?_
              refine D.done rfl (by kernel_rfl) ?_
              refine X.keep [(5, _), (7, _), (9, _), (11, _), (12, _), (116, _)] ⟨rfl, rfl, rfl, rfl, rfl, rfl, trivial⟩ ?_
              refine X.next ?_
              refine C.cfalse rfl ?_
              refine C.skip ?_
              refine X.blockNormal ?_
              refine X.next ?_
              refine C.region ?_
              refine R.ev rfl (E.move rfl) ?_
              refine R.ev rfl (E.add rfl rfl (by omega) (by omega)) ?_
              refine R.ev rfl (E.assign rfl) ?_
              refine R.done ?_
              refine X.keep [(5, _), (7, _), (9, _), (11, _), (12, _)] ⟨rfl, rfl, rfl, rfl, rfl, trivial⟩ ?_
              exact X.again (i2 + 1) ⟨rfl, rfl, rfl, rfl, rfl, trivial⟩ ⟨by omega, hs.to⟩ (by omega)
            · refine D.skipP 4 rfl (by kernel_rfl) rfl rfl rfl (fun _ => hs.to) ?_
              refine D.skipP 5 rfl (by kernel_rfl) rfl rfl rfl (fun _ => hs.to) ?_
              refine D.skipP 6 rfl (by kernel_rfl) rfl rfl rfl (fun _ => hs.to) ?_
              refine D.skipP 7 rfl (by kernel_rfl) rfl rfl rfl (fun _ => hs.to) ?_
              refine D.skipP 8 rfl (by kernel_rfl) rfl rfl rfl (fun _ => hs.to) ?_
              refine D.skipP 11 rfl (by kernel_rfl) rfl rfl rfl (fun _ => hs.to) ?_
              refine D.skipP 12 rfl (by kernel_rfl) rfl rfl rfl (fun _ => hs.to) ?_
              refine D.skipP 13 rfl (by kernel_rfl) rfl rfl rfl (fun _ => hs.to) ?_
              refine D.skipP 14 rfl (by kernel_rfl) rfl rfl rfl (fun _ => hs.to) ?_
              refine D.skipP 15 rfl (by kernel_rfl) rfl rfl rfl (fun _ => hs.to) ?_
              refine D.skip 9 rfl (by kernel_rfl) rfl rfl rfl hs.to ?_
              refine D.skip 16 rfl (by kernel_rfl) rfl rfl rfl hs.to ?_
              refine D.act 10 rfl (by kernel_rfl) ?_
              refine R.gskip rfl rfl rfl ?_
              refine D.back hs.to ?_
              refine D.act 17 rfl (by kernel_rfl) ?_
              refine R.gskip rfl rfl rfl ?_
              refine D.backT (by kernel_rfl) ?_
              refine D.skipP 18 rfl (by kernel_rfl) rfl rfl rfl (np (by kernel_rfl)) ?_
              refine D.evP 19 rfl (by kernel_rfl) rfl (np (by kernel_rfl)) (fun _ => E.pickF rfl rfl) ?_
              refine D.done rfl (by kernel_rfl) ?_
              refine X.keep [(5, _), (7, _), (9, _), (11, _), (12, _), (116, _)] ⟨rfl, rfl, rfl, rfl, rfl, rfl, trivial⟩ ?_
              refine X.next ?_
              refine C.cfalse rfl ?_
              refine C.skip ?_
              refine X.blockNormal ?_
              refine X.next ?_
              refine C.region ?_
              refine R.ev rfl (E.move rfl) ?_
              refine R.ev rfl (E.add rfl rfl (by omega) (by omega)) ?_
              refine R.ev rfl (E.assign rfl) ?_
              refine R.done ?_
              refine X.keep [(5, _), (7, _), (9, _), (11, _), (12, _)] ⟨rfl, rfl, rfl, rfl, rfl, trivial⟩ ?_
              exact X.again (i2 + 1) ⟨rfl, rfl, rfl, rfl, rfl, trivial⟩ ⟨by omega, hs.to⟩ (by omega)
          · refine C.exit ?_
            refine X.thenExit ?_
            refine X.loopExit ?_
            refine X.blockExit ?_
            refine X.next ?_
            refine C.seq ?_
            refine C.region ?_
            refine R.ev rfl (E.assign rfl) ?_
            refine R.done ?_
            refine X.keep [(4, _)] ⟨rfl, trivial⟩ ?_
            refine X.next ?_
            refine C.ret ?_
            refine X.ret1 rfl rfl ?_
            exact ⟨rfl, (hs.less ((hk1.trans hk4).trans hk5).le).mod⟩
    · refine R.gskip rfl rfl rfl ?_
      refine R.ev rfl (E.pickF rfl rfl) ?_
      refine R.done ?_
      refine X.keep [(5, _), (7, _), (8, _), (9, _), (10, _), (42, _)] ⟨rfl, rfl, rfl, rfl, rfl, rfl, trivial⟩ ?_
      refine X.next ?_
      refine C.cfalse rfl ?_
      refine C.exit ?_
      refine X.thenExit ?_
      refine X.loopExit ?_
      refine X.blockExit ?_
      refine X.next ?_
      refine C.seq ?_
      refine C.seq ?_
      refine C.region ?_
      refine R.ev rfl (E.move rfl) ?_
      refine R.ev rfl ((E.not rfl).isB (c := !ok) rfl) ?_
      refine R.done ?_
      refine X.keep [(5, _), (7, _), (9, _), (71, _)] ⟨rfl, rfl, rfl, rfl, trivial⟩ ?_
      refine X.next ?_
      refine C.cbool rfl (fun h71 => ?_) (fun h71 => ?_)
      · refine C.seq ?_
        refine C.region ?_
        refine R.ev rfl (E.assign rfl) ?_
        refine R.done ?_
        refine X.keep [(4, _)] ⟨rfl, trivial⟩ ?_
        refine X.next ?_
        refine C.ret ?_
        refine X.thenRet ?_
        refine X.ret1 rfl rfl ?_
        exact ⟨rfl, (hs.less (hk1.trans hk4).le).mod⟩
      · refine C.skip ?_
        refine X.next ?_
        refine C.seq ?_
        refine C.region ?_
        have hok1 : ok = true := by simpa using h71
        have hLL := hok hok1
        have hnoA : ∀ j y, j ≠ at_ → A[j]? = some y → valid y.x t.x = false ∧ outd t.x y.x = false := fun j y hne hy => by
          refine hno j y ?_ hne hy
          have hj := (List.getElem?_eq_some_iff.1 hy).1
          first
            | (rw [h42] at hok1; cases hok1)
            | (have := of_decide_eq_false h40; omega)
        have htL : t.x ∈ L' := by rw [hLL]; exact List.mem_map.2 ⟨t, mt, rfl⟩
        have hLl : L'.length ≤ 24 := by rw [hLL, List.length_map]; exact hAl
        refine R.ev rfl (E.move rfl) ?_
        refine R.call ⟨_, _, Try.func30, rfl, by kernel_rfl⟩ rfl rfl (clone_any hI hGM (by omega) hs) ?_
        rintro _ w13 ⟨K5, q5, M5, L5, F5, rfl, hk5, hp5, hI5, hG5, hw5, hs⟩
        have hG := hG.mono hk5
        refine R.ev rfl (E.assign rfl) ?_
        refine R.done ?_
        refine X.keep [(5, _), (7, _), (9, _), (11, _)] ⟨rfl, rfl, rfl, rfl, trivial⟩ ?_
        refine X.next ?_
        refine C.seq ?_
        refine C.seq ?_
        refine C.region ?_
        refine R.ev rfl (E.move rfl) ?_
        refine R.ev rfl (E.move rfl) ?_
        refine R.ev rfl (E.move rfl) ?_
        refine R.ev rfl (E.indexAddr (i := at_) rfl rfl Try.underlying27 Try.sz42 rfl (by omega)) ?_
        first | refine R.ev rfl (E.fieldAddr0 0 rfl Try.underlying42 rfl Try.sz37 rfl) ?_ | refine R.ev rfl (E.fieldAddrN 0 rfl Try.underlying42 rfl Try.sz37 rfl) ?_
        refine R.ev rfl (E.loadRowC rfl Try.underlying37 rfl Try.sz37 (At.partC (At_ _ (hs.less hk5.le).to))) ?_
        refine R.call ⟨_, _, Try.func31, rfl, by kernel_rfl⟩ rfl rfl (drop_any t.x.id hI (hGM.mono hk5) (hs.front (F := F4))) ?_
        rintro _ w146 ⟨rfl, M6, F6, hI6, hG6, hw6, hs1⟩
        have hs := hs.back (F := F4) hs1
        refine R.ev rfl ((E.neq rfl rfl).isF (by rw [rDropE, if_pos (hasId_iff.2 (List.mem_map.2 ⟨_, htL, rfl⟩))]; exact fun h => h rfl)) ?_
        refine R.ev rfl (E.move rfl) ?_
        refine R.gyes rfl rfl ?_
        refine R.ev rfl (E.move rfl) ?_
        refine R.gyes rfl rfl ?_
        refine R.ev rfl (E.move rfl) ?_
        refine R.gyes rfl rfl ?_
        refine R.ev rfl (E.move rfl) ?_
        refine R.gyes rfl rfl ?_
        refine R.ev rfl (E.indexAddr (i := at_) rfl rfl Try.underlying27 Try.sz42 rfl (by omega)) ?_
        refine R.gyes rfl rfl ?_
        first | refine R.ev rfl (E.fieldAddr0 0 rfl Try.underlying42 rfl Try.sz37 rfl) ?_ | refine R.ev rfl (E.fieldAddrN 0 rfl Try.underlying42 rfl Try.sz37 rfl) ?_
        refine R.gyes rfl rfl ?_
        refine R.ev rfl (E.loadRowC rfl Try.underlying37 rfl Try.sz37 (At.partC (At_ _ (hs.less hk5.le).to))) ?_
        refine R.gyes rfl rfl ?_
        refine R.call ⟨_, _, Try.func32, rfl, by kernel_rfl⟩ rfl rfl (has_any (p := p) t.x.id hs) ?_
        rintro _ w1415 ⟨rfl, hs⟩
        rw [hI6.has, show hasId t.x.id (delL t.x.id L') = false from hasId_false.2 (fun h => by obtain ⟨z, hz, hzi⟩ := List.mem_map.1 h; exact ((delL_mem hI.nd).1 hz).2 hzi)]
        refine R.ev rfl (E.pickF rfl rfl) ?_
        refine R.done ?_
        refine X.keep [(5, _), (7, _), (9, _), (11, _), (90, _)] ⟨rfl, rfl, rfl, rfl, rfl, trivial⟩ ?_
        refine X.next ?_
        refine C.cfalse rfl ?_
        refine C.skip ?_
        refine X.next ?_
        refine C.seq ?_
        refine C.seq ?_
        refine C.region ?_
        refine R.ev rfl (E.assign rfl) ?_
        refine R.done ?_
        refine X.keep [(5, _), (7, _), (9, _), (11, _), (12, _)] ⟨rfl, rfl, rfl, rfl, rfl, trivial⟩ ?_
        refine X.next ?_
        refine C.block ?_
        refine C.loop  [(5, _), (7, _), (9, _), (11, _)] (fun i => [(12, .int .i64 (i : Nat))]) (fun i w' => i ≤ A.length ∧ Sat K5 w' (F5 :: F6 :: [])) (fun i => A.length - i) (0) ⟨rfl, rfl, rfl, rfl, rfl, trivial⟩ ⟨Nat.zero_le _, hs.to⟩ ?_
        rintro i2 w16 ⟨hi2, hs⟩
        refine C.keep [(5, _), (7, _), (9, _), (11, _), (12, _)] ⟨rfl, rfl, rfl, rfl, rfl, trivial⟩ ?_
        refine C.seq ?_
        refine C.seq ?_
        refine C.region ?_
        refine R.ev rfl (E.move rfl) ?_
        refine R.ev rfl (E.move rfl) ?_
        refine R.ev rfl (E.lenSl rfl Try.underlying27) ?_
        refine R.ev rfl (E.lss rfl rfl) ?_
        refine R.done ?_
        refine X.keep [(5, _), (7, _), (9, _), (11, _), (12, _), (94, _)] ⟨rfl, rfl, rfl, rfl, rfl, rfl, trivial⟩ ?_
        refine X.next ?_
        refine C.cdec rfl (fun h94 => ?_) (fun h94 => ?_)
        · obtain ⟨y, hy⟩ : ∃ y, A[i2]? = some y := ⟨_, List.getElem?_eq_getElem (by omega)⟩
          have my : y ∈ A := List.mem_of_getElem? hy
          have Ay := (hs.to (Hs := [])).elAt (b := bk) (off := of) (n := A.length) cap1 hy
          have hyL : y.x ∈ L' := by rw [hLL]; exact List.mem_map.2 ⟨y, my, rfl⟩
          refine C.skip ?_
          refine X.next ?_
          refine C.seq ?_
          refine C.block ?_
          refine C.seq ?_
          refine C.drawn (SatS hs) ([9, 16], [0, 1, 2, 3, 4, 5, 6, 7, 8, 11, 12, 13, 14, 15, 18, 19]) (by kernel_rfl) ?_
          have hs := hs.drew
          refine D.evP 0 rfl (by kernel_rfl) rfl (fun _ => hs.to) (fun _ => E.move rfl) ?_
          refine D.evP 1 rfl (by kernel_rfl) rfl (fun _ => hs.to) (fun _ => E.move rfl) ?_
          refine D.evP 2 rfl (by kernel_rfl) rfl (fun _ => hs.to) (fun _ => E.neq rfl rfl) ?_
          refine D.evP 3 rfl (by kernel_rfl) rfl (fun _ => hs.to) (fun _ => E.move rfl) ?_
          refine D.split 100 rfl (fun h100 => ?_) (fun h100 => ?_)
          · refine D.evPG 4 rfl (by kernel_rfl) rfl rfl rfl (fun _ => hs.to) (fun _ => E.move rfl) ?_
            refine D.evPG 5 rfl (by kernel_rfl) rfl rfl rfl (fun _ => hs.to) (fun _ => E.move rfl) ?_
            refine D.evPG 6 rfl (by kernel_rfl) rfl rfl rfl (fun _ => hs.to) (fun _ => E.move rfl) ?_
            refine D.evPG 7 rfl (by kernel_rfl) rfl rfl rfl (fun _ => hs.to) (fun _ => E.indexAddr (i := i2) rfl rfl Try.underlying27 Try.sz42 rfl (by omega)) ?_
            first | refine D.evPG 8 rfl (by kernel_rfl) rfl rfl rfl (fun _ => hs.to) (fun _ => E.fieldAddr0 0 rfl Try.underlying42 rfl Try.sz37 rfl) ?_ | refine D.evPG 8 rfl (by kernel_rfl) rfl rfl rfl (fun _ => hs.to) (fun _ => E.fieldAddrN 0 rfl Try.underlying42 rfl Try.sz37 rfl) ?_
            refine D.evPG 11 rfl (by kernel_rfl) rfl rfl rfl (fun _ => hs.to) (fun _ => E.move rfl) ?_
            refine D.evPG 12 rfl (by kernel_rfl) rfl rfl rfl (fun _ => hs.to) (fun _ => E.move rfl) ?_
            refine D.evPG 13 rfl (by kernel_rfl) rfl rfl rfl (fun _ => hs.to) (fun _ => E.move rfl) ?_
            refine D.evPG 14 rfl (by kernel_rfl) rfl rfl rfl (fun _ => hs.to) (fun _ => E.indexAddr (i := i2) rfl rfl Try.underlying27 Try.sz42 rfl (by omega)) ?_
            first | refine D.evPG 15 rfl (by kernel_rfl) rfl rfl rfl (fun _ => hs.to) (fun _ => E.fieldAddr0 0 rfl Try.underlying42 rfl Try.sz37 rfl) ?_ | refine D.evPG 15 rfl (by kernel_rfl) rfl rfl rfl (fun _ => hs.to) (fun _ => E.fieldAddrN 0 rfl Try.underlying42 rfl Try.sz37 rfl) ?_
            refine D.evG 9 rfl (by kernel_rfl) rfl rfl rfl hs.to (fun _ hS => E.loadRowC rfl Try.underlying37 rfl Try.sz37 (At.partC (Ay _ hS.to))) ?_
            refine D.evG 16 rfl (by kernel_rfl) rfl rfl rfl hs.to (fun _ hS => E.loadRowC rfl Try.underlying37 rfl Try.sz37 (At.partC (Ay _ hS.to))) ?_
            refine D.act 10 rfl (by kernel_rfl) ?_
            refine R.gyes rfl rfl ?_
            refine R.call ⟨_, _, Try.func27, rfl, by kernel_rfl⟩ rfl rfl (isWd_any (p := p) y.x.id hI6 hG6 hs) ?_
            rintro _ w1910 ⟨rfl, hs⟩
            refine D.back hs.to ?_
            refine D.act 17 rfl (by kernel_rfl) ?_
            refine R.gyes rfl rfl ?_
            refine R.call ⟨_, _, Try.func27, rfl, by kernel_rfl⟩ rfl rfl (isWd_any (p := q5) y.x.id hI5 hG5 hs) ?_
            rintro _ w1917 ⟨rfl, hs⟩
            have hne2 : i2 ≠ at_ := by have := of_decide_eq_true h100; omega
            have hid : y.x.id ≠ t.x.id := fun e0 => by
              have hnd := hI.nd
              rw [hLL, List.map_map, List.Nodup, List.pairwise_map] at hnd
              obtain ⟨g1, g2⟩ := List.getElem?_eq_some_iff.1 hy
              obtain ⟨g3, g4⟩ := List.getElem?_eq_some_iff.1 ht
              rcases Nat.lt_or_gt_of_ne hne2 with hlt | hgt
              · have := List.pairwise_iff_getElem.1 hnd i2 at_ g1 g3 hlt
                rw [g2, g4] at this; exact this e0
              · have := List.pairwise_iff_getElem.1 hnd at_ i2 g3 g1 hgt
                rw [g2, g4] at this; exact this e0.symm
            rw [drops_wd hI.nd hp5 hyL hid htL (hnoA i2 y hne2 hy).1 (hnoA i2 y hne2 hy).2]
            refine D.backT (by kernel_rfl) ?_
            refine D.evPG 18 rfl (by kernel_rfl) rfl rfl rfl (np (by kernel_rfl)) (fun _ => (E.neqB rfl rfl Try.underlying4).isB (c := false) (by simp)) ?_
            refine D.evP 19 rfl (by kernel_rfl) rfl (np (by kernel_rfl)) (fun _ => E.pickT rfl rfl) ?_
            refine D.done rfl (by kernel_rfl) ?_
            refine X.keep [(5, _), (7, _), (9, _), (11, _), (12, _), (116, _)] ⟨rfl, rfl, rfl, rfl, rfl, rfl, trivial⟩ ?_
            refine X.next ?_
            refine C.cfalse rfl ?_
            refine C.skip ?_
            refine X.blockNormal ?_
            refine X.next ?_
            refine C.region ?_
            refine R.ev rfl (E.move rfl) ?_
            refine R.ev rfl (E.add rfl rfl (by omega) (by omega)) ?_
            refine R.ev rfl (E.assign rfl) ?_
            refine R.done ?_
            refine X.keep [(5, _), (7, _), (9, _), (11, _), (12, _)] ⟨rfl, rfl, rfl, rfl, rfl, trivial⟩ ?_
            exact X.again (i2 + 1) ⟨rfl, rfl, rfl, rfl, rfl, trivial⟩ ⟨by omega, hs.to⟩ (by omega)
          · refine D.skipP 4 rfl (by kernel_rfl) rfl rfl rfl (fun _ => hs.to) ?_
            refine D.skipP 5 rfl (by kernel_rfl) rfl rfl rfl (fun _ => hs.to) ?_
            refine D.skipP 6 rfl (by kernel_rfl) rfl rfl rfl (fun _ => hs.to) ?_
            refine D.skipP 7 rfl (by kernel_rfl) rfl rfl rfl (fun _ => hs.to) ?_
            refine D.skipP 8 rfl (by kernel_rfl) rfl rfl rfl (fun _ => hs.to) ?_
            refine D.skipP 11 rfl (by kernel_rfl) rfl rfl rfl (fun _ => hs.to) ?_
            refine D.skipP 12 rfl (by kernel_rfl) rfl rfl rfl (fun _ => hs.to) ?_
            refine D.skipP 13 rfl (by kernel_rfl) rfl rfl rfl (fun _ => hs.to) ?_
            refine D.skipP 14 rfl (by kernel_rfl) rfl rfl rfl (fun _ => hs.to) ?_
            refine D.skipP 15 rfl (by kernel_rfl) rfl rfl rfl (fun _ => hs.to) ?_
            refine D.skip 9 rfl (by kernel_rfl) rfl rfl rfl hs.to ?_
            refine D.skip 16 rfl (by kernel_rfl) rfl rfl rfl hs.to ?_
            refine D.act 10 rfl (by kernel_rfl) ?_
            refine R.gskip rfl rfl rfl ?_
            refine D.back hs.to ?_
            refine D.act 17 rfl (by kernel_rfl) ?_
            refine R.gskip rfl rfl rfl ?_
            refine D.backT (by kernel_rfl) ?_
            refine D.skipP 18 rfl (by kernel_rfl) rfl rfl rfl (np (by kernel_rfl)) ?_
            refine D.evP 19 rfl (by kernel_rfl) rfl (np (by kernel_rfl)) (fun _ => E.pickF rfl rfl) ?_
            refine D.done rfl (by kernel_rfl) ?_
            refine X.keep [(5, _), (7, _), (9, _), (11, _), (12, _), (116, _)] ⟨rfl, rfl, rfl, rfl, rfl, rfl, trivial⟩ ?_
            refine X.next ?_
            refine C.cfalse rfl ?_
            refine C.skip ?_
            refine X.blockNormal ?_
            refine X.next ?_
            refine C.region ?_
            refine R.ev rfl (E.move rfl) ?_
            refine R.ev rfl (E.add rfl rfl (by omega) (by omega)) ?_
            refine R.ev rfl (E.assign rfl) ?_
            refine R.done ?_
            refine X.keep [(5, _), (7, _), (9, _), (11, _), (12, _)] ⟨rfl, rfl, rfl, rfl, rfl, trivial⟩ ?_
            exact X.again (i2 + 1) ⟨rfl, rfl, rfl, rfl, rfl, trivial⟩ ⟨by omega, hs.to⟩ (by omega)
        · refine C.exit ?_
          refine X.thenExit ?_
          refine X.loopExit ?_
          refine X.blockExit ?_
          refine X.next ?_
          refine C.seq ?_
          refine C.region ?_
          refine R.ev rfl (E.assign rfl) ?_
          refine R.done ?_
          refine X.keep [(4, _)] ⟨rfl, trivial⟩ ?_
          refine X.next ?_
          refine C.ret ?_
          refine X.ret1 rfl rfl ?_
          exact ⟨rfl, (hs.less ((hk1.trans hk4).trans hk5).le).mod⟩

namespace supersedeDrops
open Go.ChangeShapes Go.WideShapes Go.ChangeAt Go.RowKit
open Go.ChangeMaps (open_string shut_string)
set_option linter.unusedVariables false

theorem own : ownKnob Try.prog.godebug = none := by kernel_rfl
theorem laidOut : laidOutB Try.prog = true := by kernel_rfl
set_option maxRecDepth 100000 in
theorem lifted (os : Os) (started : os.Started) (H : Type) (enc : TypeId × Value → H) :
    ReturnsInHanded {} Try.checked os 9 .any (Rows.supersedeDropsSpec.pre6 enc Try.prog Try.f9 Rows.supersedeDropsRow.domain false) (Rows.supersedeDropsSpec.post enc Try.prog Try.f9 false true false false) := by
  refine returnsInHanded_of_change (C := Try.checked) own started (by kernel_rfl) Try.func9
    (ChangeSpec.witness6 (enc := enc) (C := Try.checked) false ⟨#[], #[.slice none 0 0, .int .u8 0], []⟩ 8 (by kernel_rfl) (by kernel_rfl) (by kernel_rfl) (by kernel_rfl)) ?_
  intro W base args ds gs before hval0 hW hcnd _
  have hval : ∀ (j : Nat) t v, Try.f9.params[j]? = some t → args[j]? = some v → Value.okWide Try.prog W .any base t v := hval0
  have hW' := hW
  obtain ⟨p, q, hA0, hV, rfl, hfz, hnd⟩ := hW
  have hA : DataW.TrodAll enc Try.prog W 0 (fun _ => true) true Try.f9.params.toList args.toList ds p := hA0
  rw [Try.params9] at hA hval
  obtain ⟨v0, vs0, d0, ds0, p0, q0, hargs, rfl, rfl, h0, r0⟩ := trodAll_cons hA
  obtain ⟨v1, vs1, d1, ds1, p1, q1, rfl, rfl, rfl, h1, r1⟩ := trodAll_cons r0
  obtain ⟨rfl, rfl, rfl⟩ := trodAll_nil r1
  obtain rfl : args = #[v0, v1] := by cases args; simp_all
  obtain ⟨rfl, rfl⟩ := trodVars_none hV
  have lt0 : ∀ x ∈ p0, x.block < W.heap.size := by obtain ⟨m, hm⟩ := h0; exact DataW.trod_lt m _ _ _ hm
  have a0 := Eng.argv_of (hval 0 22 v0 rfl rfl) h0
  have lt1 : ∀ x ∈ p1, x.block < W.heap.size := by obtain ⟨m, hm⟩ := h1; exact DataW.trod_lt m _ _ _ hm
  have a1 := Eng.argv_of (hval 1 5 v1 rfl rfl) h1
  clear hA0 hval0
  refine Calls.mono (drops_walk W v0 a0 v1 a1) fun e W' ⟨v, he, hv, hm⟩ => ?_
  subst he
  subst hv
  have bel := hm.below
  exact ⟨_, rfl, _, _, _, [], _, [], hW', trodAll_mk1 (shut_bool Try.underlying4 _), (trodAll_cons_mk (Below.trod laidOut (by kernel_rfl) (of_decide_eq_true (by kernel_rfl)) h0 bel lt0) (trodAll_cons_mk (Below.trod laidOut (by kernel_rfl) (of_decide_eq_true (by kernel_rfl)) h1 bel lt1) trodAll_mk0)), rfl, bel.frame _, fun h => by cases h⟩

theorem over : Rows.supersedeDropsRow.holds Try.pinned (OpenSpec.ofChange Rows.supersedeDropsSpec) :=
  OpenClaim.holds_of_wide 9 Try.f9 rfl rfl rfl rfl rfl rfl rfl ⟨rfl, rfl, rfl, rfl, rfl⟩ rfl rfl rfl rfl rfl (by kernel_rfl) Try.func9 (by kernel_rfl)
    (of_decide_eq_true (by kernel_rfl)) (by unfold Func.isWrapper; first | (rw [if_pos (by decide +kernel)]; kernel_rfl) | (rw [if_neg (by decide +kernel)]; exact ⟨rfl, rfl⟩))
    (fun os started H enc _ => lifted os started H enc)
end supersedeDrops
/-- the statement -/
theorem supersedeDrops_holds : Rows.SupersedeDropsSaid := supersedeDrops.over
#print axioms supersedeDrops_holds
end Go.Proofs.Ytmjmichghfepkaa
