/-
  KeyringMerges returns true for every three lists of roll-overs: Merge yields the union. No condition but the listed table (tied to the program's text).
-/
import Derived.Test.YtbkgibgomohdjaaDoorKrQ
namespace Go.Proofs.YtbkgibgomohdjaaDoor
open Go.Eng Go.RowKit Go.Sort
def mgA (d : Nat) : Mv := ⟨1, 0, 0, 2, UInt8.ofNat d, UInt8.ofNat d, 255⟩
def mgB (d : Nat) : Mv := ⟨UInt8.ofNat d, UInt8.ofNat (d / 5), UInt8.ofNat (d / 2), UInt8.ofNat (d + 1), UInt8.ofNat d, UInt8.ofNat d, 255⟩
def mgM (d : Nat) : Mv := if d % 3 = 0 then mgA d else mgB d
theorem mgM_id {d : Nat} (h : d < 16) : (mgM d).id.toNat = d := by
  have e : (UInt8.ofNat d).toNat = d := by rw [UInt8.toNat_ofNat']; omega
  unfold mgM; split <;> exact e
def mgL (i n : Nat) : List Mv := (List.range n).map fun k => mgM ((i * 5 + k) % 16)
theorem mgL_len (i n : Nat) : (mgL i n).length = n := by simp [mgL]
theorem mgL_snoc (i n : Nat) : mgL i n ++ [mgM ((i * 5 + n) % 16)] = mgL i (n + 1) := by simp [mgL, List.range_succ]
def isMg (m : Mv) : Prop := ∃ d, d < 16 ∧ m = mgM d
theorem mgL_is {i n : Nat} : ∀ m ∈ mgL i n, isMg m := fun m hm => by
  obtain ⟨k, _, rfl⟩ := List.mem_map.1 hm
  exact ⟨_, Nat.mod_lt _ (by decide), rfl⟩
theorem mg_inj {m m' : Mv} (h : isMg m) (h' : isMg m') (e : m.id.toNat % 16 = m'.id.toNat % 16) : m = m' := by
  obtain ⟨d, hd, rfl⟩ := h
  obtain ⟨d', hd', rfl⟩ := h'
  rw [mgM_id hd, mgM_id hd', Nat.mod_eq_of_lt hd, Nat.mod_eq_of_lt hd'] at e
  rw [e]
/-- roll-overs out of these moves -/
def isMr (r : RO) : Prop := ∃ m, isMg m ∧ r = rkR m
theorem mr_inj {r s : RO} (h : isMr r) (h' : isMr s) (e : r.id = s.id) : r = s := by
  obtain ⟨m, hm, rfl⟩ := h
  obtain ⟨m', hm', rfl⟩ := h'
  rw [rkR_id, rkR_id] at e
  rw [mg_inj hm hm' (idn_inj (by omega) (by omega) e)]
theorem bld_mr {ms : List Mv} (h : ∀ m ∈ ms, isMg m) : (∀ r ∈ bld ms, isMr r) ∧ ∀ r, r ∈ bld ms ↔ ∃ m ∈ ms, okM m ∧ r = rkR m := by
  have hb : ∀ r, r ∈ bld ms ↔ ∃ m ∈ ms, okM m ∧ r = rkR m := fun r => bld_mem (fun m hm m' hm' => mg_inj (h m hm) (h m' hm'))
  refine ⟨fun r hr => ?_, hb⟩
  obtain ⟨m, hm, _, rfl⟩ := (hb r).1 hr
  exact ⟨m, h m hm, rfl⟩
theorem mrg_mr {L L2 : List RO} (h : ∀ r ∈ L, isMr r) (h2 : ∀ r ∈ L2, isMr r) : (∀ r ∈ mrgL L L2, isMr r) ∧ ∀ r, r ∈ mrgL L L2 ↔ r ∈ L ∨ r ∈ L2 := by
  have hm : ∀ r, r ∈ mrgL L L2 ↔ r ∈ L ∨ r ∈ L2 := fun r => mrg_mem fun x hx y hy e => mr_inj (h x hx) (h2 y hy) e
  exact ⟨fun r hr => ((hm r).1 hr).elim (h r) (h2 r), hm⟩
theorem mrg_len (L L2 : List RO) : (mrgL L L2).length ≤ L.length + L2.length := by
  rw [mrgL, List.length_append]
  have := List.length_filter_le (fun r : RO => !(hasR L r.id)) L2
  omega
def allM (nn : Nat → Nat) (i : Nat) : List Mv := (List.range i).flatMap fun j => mgL j (nn j)
theorem allM_step (nn : Nat → Nat) (i : Nat) : allM nn (i + 1) = allM nn i ++ mgL i (nn i) := by simp [allM, List.range_succ, List.flatMap_append]
theorem ub_arith : ∀ d : Nat, d < 16 → (IntKind.u8.wrap (((UInt8.ofNat d).toNat : Int).tdiv 5) = ((UInt8.ofNat (d / 5)).toNat : Int) ∧ IntKind.u8.wrap (((UInt8.ofNat d).toNat : Int).tdiv 2) = ((UInt8.ofNat (d / 2)).toNat : Int) ∧ IntKind.u8.wrap (((UInt8.ofNat d).toNat : Int) + 1) = ((UInt8.ofNat (d + 1)).toNat : Int) ∧ ((UInt8.ofNat d).toNat : Int) % 3 = ((UInt8.ofNat (d % 3)).toNat : Int) ∧ (decide (((UInt8.ofNat (d % 3)).toNat : Int) = 0) = decide (d % 3 = 0))) := by decide +kernel
theorem idx3 {α : Type} {a b c : α} {i : Nat} (hi : i < 3) : [a, b, c][i]? = some (if i = 0 then a else if i = 1 then b else c) := by
  match i, hi with
  | 0, _ => rfl
  | 1, _ => rfl
  | 2, _ => rfl
theorem kmerges_walk (w : World) (hkc : HasKc (Kn.of w)) (v1 : Value) (a1 : ArgV Tryd.prog w 22 v1) (v2 : Value) (a2 : ArgV Tryd.prog w 22 v2) (v3 : Value) (a3 : ArgV Tryd.prog w 22 v3) : Ret Tryd.prog 8 #[v1, v2, v3] w fun r w' => r = .bool true ∧ Mod [] w w' := by
  obtain ⟨ad1, cap1, ms1, rfl, _, hcm1, hr1⟩ := argv_mvs a1
  obtain ⟨ad2, cap2, ms2, rfl, _, hcm2, hr2⟩ := argv_mvs a2
  obtain ⟨ad3, cap3, ms3, rfl, _, hcm3, hr3⟩ := argv_mvs a3
  obtain ⟨nn, hnn⟩ : ∃ nn : Nat → Nat, nn = fun i => min (if i = 0 then ms1.length else if i = 1 then ms2.length else ms3.length) 8 := ⟨_, rfl⟩
  have hn8 : ∀ i, nn i ≤ 8 := fun i => by rw [hnn]; exact Nat.min_le_right _ _
  have hargs : ∀ i, i < 3 → ∃ ad cap ms, ([Value.slice ad1 ms1.length cap1, .slice ad2 ms2.length cap2, .slice ad3 ms3.length cap3] : List Value)[i]? = some (.slice ad ms.length cap) ∧ KRow encMv 7 (Kn.of w) (.slice ad ms.length cap) ms ∧ nn i = min ms.length 8 := fun i hi => by
    match i, hi with
    | 0, _ => exact ⟨ad1, cap1, ms1, rfl, hr1, by rw [hnn]; rfl⟩
    | 1, _ => exact ⟨ad2, cap2, ms2, rfl, hr2, by rw [hnn]; rfl⟩
    | 2, _ => exact ⟨ad3, cap3, ms3, rfl, hr3, by rw [hnn]; rfl⟩
  have hs := Sat.start w
  have hall : (allM nn 3).length ≤ 24 := by
    have h0 := hn8 0; have h1 := hn8 1; have h2 := hn8 2
    have e : allM nn 3 = allM nn 0 ++ mgL 0 (nn 0) ++ mgL 1 (nn 1) ++ mgL 2 (nn 2) := by rw [allM_step, allM_step, allM_step]
    rw [e]
    simp only [List.length_append, mgL_len]
    show 0 + _ + _ + _ ≤ 24
    omega
  have hallp : ∀ i, i ≤ 3 → (allM nn i).length ≤ 24 := fun i hi => by
    have h0 := hn8 0; have h1 := hn8 1; have h2 := hn8 2
    have e0 : (allM nn 0).length = 0 := rfl
    have e1 : (allM nn 1).length = nn 0 := by rw [allM_step, List.length_append, mgL_len, e0, Nat.zero_add]
    have e2 : (allM nn 2).length = nn 0 + nn 1 := by rw [allM_step, List.length_append, mgL_len, e1]
    rcases (show i = 0 ∨ i = 1 ∨ i = 2 ∨ i = 3 by omega) with rfl | rfl | rfl | rfl <;> omega
  refine Ret.enter (n := 214) (args := [.slice ad1 ms1.length cap1, .slice ad2 ms2.length cap2, .slice ad3 ms3.length cap3]) Tryd.func8 rfl rfl ?_
  refine C.keep [(0, _), (1, _), (2, _)] ⟨rfl, rfl, rfl, trivial⟩ ?_
  refine C.seq ?_
  refine C.region ?_
  refine R.ev rfl (E.assign rfl) ?_
  refine R.done ?_
  refine X.keep [(0, _), (1, _), (2, _)] ⟨rfl, rfl, rfl, trivial⟩ ?_
  refine X.next ?_
  refine C.seq ?_
  refine C.seq ?_
  refine C.region ?_
  refine R.call ⟨_, _, Tryd.func11, rfl, by kernel_rfl⟩ rfl rfl (known_any hs) ?_
  rintro _ w1 ⟨rfl, hs⟩
  refine R.ev rfl (E.notT rfl) ?_
  refine R.done ?_
  refine X.keep [(0, _), (1, _), (2, _), (38, _)] ⟨rfl, rfl, rfl, rfl, trivial⟩ ?_
  refine X.next ?_
  refine C.cfalse rfl ?_
  refine C.skip ?_
  refine X.next ?_
  refine C.seq ?_
  refine C.region ?_
  refine R.sallocA hs Tryd.zr71 rfl ?_
  intro b7 w7 hs
  refine R.done ?_
  refine X.keep [(0, _), (1, _), (2, _), (7, _)] ⟨rfl, rfl, rfl, rfl, trivial⟩ ?_
  refine X.next ?_
  refine C.seq ?_
  refine C.region ?_
  refine R.sbuild0 (enc := encMv) hs Tryd.underlying22 Tryd.sz41 rfl ?_
  intro v39 w39 F39 r39 nn39 hs
  refine R.ev rfl (E.assign rfl) ?_
  refine R.done ?_
  refine X.keep [(0, _), (1, _), (2, _), (7, _), (8, _)] ⟨rfl, rfl, rfl, rfl, rfl, trivial⟩ ?_
  refine X.next ?_
  refine C.seq ?_
  refine C.seq ?_
  refine C.region ?_
  refine R.ev rfl (E.assign rfl) ?_
  refine R.done ?_
  refine X.keep [(0, _), (1, _), (2, _), (7, _), (8, _), (9, _)] ⟨rfl, rfl, rfl, rfl, rfl, rfl, trivial⟩ ?_
  refine X.next ?_
  refine C.block ?_
  refine C.loop (T := Nat × Kn × List Value × Value × Hl) [(0, _), (1, _), (2, _), (7, _)] (fun (i, _, _, v, _) => [(8, v), (9, .int .i64 (i : Nat))]) (fun (i, K1, vs, v, F1) w' => i ≤ 3 ∧ KLe (Kn.of w) K1 ∧ vs.length = 3 ∧ (∀ j, j < i → ∃ u, vs[j]? = some u ∧ KRow encMv 7 K1 u (mgL j (nn j))) ∧ (∀ j, i ≤ j → j < 3 → vs[j]? = some (.slice none 0 0)) ∧ RowL 41 encMv 7 v (allM nn i) F1 ∧ Sat K1 w' (row b7 71 vs :: F1 :: [])) (fun (i, _) => 3 - i) ((0, Kn.of w, [.slice none 0 0, .slice none 0 0, .slice none 0 0], v39, F39)) ⟨rfl, rfl, rfl, rfl, rfl, rfl, trivial⟩ ⟨Nat.zero_le _, KLe.refl _, rfl, fun j h => absurd h (by omega), fun j _ h => by rw [idx3 h]; split <;> (try split) <;> rfl, r39, hs.to⟩ ?_
  rintro ⟨i, K1, vs, v8, F8⟩ w2 ⟨hi, hk1, hvl, hdone, htodo, r8, hs⟩
  refine C.keep [(0, _), (1, _), (2, _), (7, _), (8, _), (9, _)] ⟨rfl, rfl, rfl, rfl, rfl, rfl, trivial⟩ ?_
  refine C.seq ?_
  refine C.seq ?_
  refine C.region ?_
  refine R.ev rfl (E.move rfl) ?_
  refine R.ev rfl (E.lss rfl rfl) ?_
  refine R.done ?_
  refine X.keep [(0, _), (1, _), (2, _), (7, _), (8, _), (9, _), (41, _)] ⟨rfl, rfl, rfl, rfl, rfl, rfl, rfl, trivial⟩ ?_
  refine X.next ?_
  refine C.cdec rfl (fun h41 => ?_) (fun h41 => ?_)
  · obtain ⟨ad, cap, ms, hxi, hrm, hni⟩ := hargs i (by omega)
    have hni8 := hn8 i
    have hset : vs.set i (Value.slice none 0 0) = vs := by
      obtain ⟨h1, h2⟩ := List.getElem?_eq_some_iff.1 (htodo i (Nat.le_refl _) (by omega))
      rw [← h2, List.set_getElem_self]
    have hrm1 : KRow encMv 7 K1 (.slice ad ms.length cap) ms := KRow.mono (k := hk1) (h := hrm)
    refine C.skip ?_
    refine X.next ?_
    refine C.seq ?_
    refine C.block ?_
    refine C.seq ?_
    refine C.region ?_
    refine R.ev rfl (E.move rfl) ?_
    refine R.ev rfl (E.move rfl) ?_
    refine R.ev rfl (E.move rfl) ?_
    refine R.ev rfl ((E.buildFull rfl Tryd.underlying71 Tryd.zr71 Tryd.sz22 rfl rfl rfl OneL.all)) ?_
    refine R.ev rfl (E.move rfl) ?_
    refine R.ev rfl (E.aindex1 (v := .slice ad ms.length cap) rfl rfl Tryd.underlying71 Tryd.underlying22 rfl Tryd.sz22 rfl (by omega) hxi) ?_
    refine R.ev rfl (E.assign rfl) ?_
    refine R.done ?_
    refine X.keep [(0, _), (1, _), (2, _), (7, _), (8, _), (9, _), (10, _)] ⟨rfl, rfl, rfl, rfl, rfl, rfl, rfl, trivial⟩ ?_
    refine X.next ?_
    refine C.seq ?_
    refine C.region ?_
    refine R.ev rfl (E.assign rfl) ?_
    refine R.done ?_
    refine X.keep [(0, _), (1, _), (2, _), (7, _), (8, _), (9, _), (10, _), (11, _)] ⟨rfl, rfl, rfl, rfl, rfl, rfl, rfl, rfl, trivial⟩ ?_
    refine X.next ?_
    refine C.block ?_
    refine C.loop (T := Nat × Value × Hl × Value × Hl) [(0, _), (1, _), (2, _), (7, _), (9, _), (10, _)] (fun (k, _, _, v, _) => [(8, v), (11, .int .i64 (k : Nat))]) (fun (k, u, Fu, v, F1) w' => k ≤ nn i ∧ RowL 41 encMv 7 u (mgL i k) Fu ∧ RowL 41 encMv 7 v (allM nn i ++ mgL i k) F1 ∧ Sat K1 w' (row b7 71 (vs.set i u) :: Fu :: F1 :: [])) (fun (k, _) => 8 - k) ((0, .slice none 0 0, [], v8, F8)) ⟨rfl, rfl, rfl, rfl, rfl, rfl, rfl, rfl, trivial⟩ ⟨Nat.zero_le _, RowL.nil _ _ _, (by simpa [mgL] using r8), (by rw [hset]; exact hs.nil.to)⟩ ?_
    rintro ⟨k, u, Fu, v, F1⟩ w3 ⟨hk, ru, rv, hs⟩
    have hmk := mgL_len i k
    have hal := hallp i (by omega)
    refine C.keep [(0, _), (1, _), (2, _), (7, _), (8, _), (9, _), (10, _), (11, _)] ⟨rfl, rfl, rfl, rfl, rfl, rfl, rfl, rfl, trivial⟩ ?_
    refine C.seq ?_
    refine C.seq ?_
    refine C.region ?_
    refine R.ev rfl (E.move rfl) ?_
    refine R.ev rfl (E.move rfl) ?_
    refine R.ev rfl (E.lenSl rfl Tryd.underlying22) ?_
    refine R.ev rfl (E.lss rfl rfl) ?_
    refine R.ev rfl (E.move rfl) ?_
    refine R.split 54 rfl (fun h54 => ?_) (fun h54 => ?_)
    · refine R.gyes rfl rfl ?_
      refine R.ev rfl (E.move rfl) ?_
      refine R.gyes rfl rfl ?_
      refine R.ev rfl (E.lss rfl rfl) ?_
      refine R.ev rfl (E.pickT rfl rfl) ?_
      refine R.done ?_
      refine X.keep [(0, _), (1, _), (2, _), (7, _), (8, _), (9, _), (10, _), (11, _), (57, _)] ⟨rfl, rfl, rfl, rfl, rfl, rfl, rfl, rfl, rfl, trivial⟩ ?_
      refine X.next ?_
      refine C.cbool rfl (fun h57 => ?_) (fun h57 => ?_)
      · refine C.skip ?_
        refine X.next ?_
        refine C.seq ?_
        refine C.block ?_
        refine C.seq ?_
        refine C.region ?_
        have hk8 : k < 8 := by have := of_decide_eq_true h57; omega
        have hkl : k < ms.length := by have := of_decide_eq_true h54; omega
        obtain ⟨y, bk_y, of_y, hy, my, ly, rfl, Ay⟩ := (hs.to (Hs := [])).el (i := k) (ad := ad) (n := ms.length) (c := cap) hkl
        have ay := Ay _ hs.to
        obtain ⟨d, hd⟩ : ∃ d, d = (i * 5 + k) % 16 := ⟨_, rfl⟩
        have hd16 : d < 16 := by omega
        have har := ub_arith d hd16
        have ha := har.1
        have hb := har.2.1
        have hc := har.2.2.1
        have hdd := har.2.2.2.1
        have he := har.2.2.2.2
        refine R.ev rfl (E.move rfl) ?_
        refine R.ev rfl (E.move rfl) ?_
        refine R.ev rfl (E.indexAddr (i := k) rfl rfl Tryd.underlying22 Tryd.sz41 rfl hkl) ?_
        refine R.ev rfl (E.loadRowC rfl Tryd.underlying41 rfl Tryd.sz41 (by first | exact ⟨hs.ldA, by first | rfl | assumption | exact encV_len _ | exact Enc.len _ | exact len_ub (by assumption)⟩ | exact ⟨hs.ldP rfl, by first | rfl | assumption | exact encV_len _ | exact Enc.len _ | exact len_ub (by assumption)⟩ | exact ⟨hs.ldM rfl rfl, by first | rfl | assumption | exact encV_len _ | exact Enc.len _ | exact len_ub (by assumption)⟩ | exact ⟨hs.ldM (by assumption) (by first | rfl | assumption), by first | rfl | assumption | exact encV_len _ | exact Enc.len _ | exact len_ub (by assumption)⟩ | exact ⟨by assumption, by first | rfl | assumption | exact encV_len _ | exact Enc.len _ | exact len_ub (by assumption)⟩ | exact hs.ldp | exact At.partC (by assumption))) ?_
        refine R.sallocA hs Tryd.zr41 rfl ?_
        intro b12 w12 hs
        first | refine R.cstoreAll hs rfl rfl Tryd.sz41 (by first | rfl | assumption | exact encV_len _ | exact Enc.len _ | exact len_ub (by assumption) | simp [*]) (by first | rfl | assumption | exact encV_len _ | exact Enc.len _ | exact len_ub (by assumption) | simp [*]) (by first | assumption | exact OneL.all | exact Enc.one _ | exact ub_all _ | (repeat' (first | refine List.forall_mem_cons.2 ⟨?_, ?_⟩ | exact List.forall_mem_nil _ | rfl | exact OneC.one | exact KRow.oneC' (by assumption)))) ?_ | refine R.cstore hs rfl rfl Tryd.sz41 (by first | rfl | assumption | exact encV_len _ | exact Enc.len _ | exact len_ub (by assumption) | simp [*]) (by simp [*]) (by first | assumption | exact OneL.all | exact Enc.one _ | exact ub_all _ | (repeat' (first | refine List.forall_mem_cons.2 ⟨?_, ?_⟩ | exact List.forall_mem_nil _ | rfl | exact OneC.one | exact KRow.oneC' (by assumption)))) ?_
        intro w12_5 hs
        try simp only [List.set_cons_zero, List.set_cons_succ] at hs
        refine R.done ?_
        refine X.keep [(0, _), (1, _), (2, _), (7, _), (8, _), (9, _), (10, _), (11, _), (12, _)] ⟨rfl, rfl, rfl, rfl, rfl, rfl, rfl, rfl, rfl, trivial⟩ ?_
        refine X.next ?_
        refine C.seq ?_
        refine C.region ?_
        refine R.ev rfl (E.move rfl) ?_
        refine R.ev rfl ((E.mul rfl rfl (by omega) (by omega)).isI (c := ((i * 5 : Nat) : Int)) (by omega)) ?_
        refine R.ev rfl (E.move rfl) ?_
        refine R.ev rfl ((E.add rfl rfl (by omega) (by omega)).isI (c := ((i * 5 + k : Nat) : Int)) (by omega)) ?_
        refine R.ev rfl ((E.conv rfl Tryd.underlying3 Tryd.underlying5).as (u := ub (UInt8.ofNat (i * 5 + k))) (by rw [IntKind.wrap_u8]; simp only [ub, Value.int.injEq, true_and]; rw [UInt8.toNat_ofNat']; omega)) ?_
        refine R.ev rfl ((E.rem rfl rfl (by decide) (by omega)).as (u := ub (UInt8.ofNat d)) (by simp only [ub, Value.int.injEq, true_and]; rw [UInt8.toNat_ofNat', UInt8.toNat_ofNat']; omega)) ?_
        first | refine R.ev rfl (E.fieldAddr0 5 rfl Tryd.underlying41 rfl Tryd.sz5 rfl) ?_ | refine R.ev rfl (E.fieldAddrN 5 rfl Tryd.underlying41 rfl Tryd.sz5 rfl) ?_
        refine R.cstore1 (b := b12) hs rfl rfl Tryd.sz5 (by rw [Enc.len (enc := encMv)]; decide) rfl ?_
        intro w137 hs
        have hs := Sat.seen (row b12 41 (encMv { y with id := UInt8.ofNat d })) rfl hs
        refine R.done ?_
        refine X.keep [(0, _), (1, _), (2, _), (7, _), (8, _), (9, _), (10, _), (11, _), (12, _)] ⟨rfl, rfl, rfl, rfl, rfl, rfl, rfl, rfl, rfl, trivial⟩ ?_
        refine X.next ?_
        refine C.seq ?_
        refine C.seq ?_
        refine C.region ?_
        first | refine R.ev rfl (E.fieldAddr0 5 rfl Tryd.underlying41 rfl Tryd.sz5 rfl) ?_ | refine R.ev rfl (E.fieldAddrN 5 rfl Tryd.underlying41 rfl Tryd.sz5 rfl) ?_
        refine R.ev rfl (E.load1 rfl Tryd.underlying5 rfl (by first | exact hs.ldc | exact hs.ld rfl | exact hs.ld (by assumption) | exact by assumption | exact At.cellC (by assumption))) ?_
        refine R.ev rfl ((E.rem rfl rfl (by decide) (by omega)).as (u := ub (UInt8.ofNat (d % 3))) (by rw [hdd])) ?_
        refine R.ev rfl ((E.eql rfl rfl).isB (c := decide (d % 3 = 0)) he) ?_
        refine R.done ?_
        refine X.keep [(0, _), (1, _), (2, _), (7, _), (8, _), (9, _), (10, _), (11, _), (12, _), (74, _)] ⟨rfl, rfl, rfl, rfl, rfl, rfl, rfl, rfl, rfl, rfl, trivial⟩ ?_
        refine X.next ?_
        refine C.cut [(0, _), (1, _), (2, _), (7, _), (8, _), (9, _), (10, _), (11, _), (12, _)] (fun (_ : Unit) => []) (fun _ w' => Sat K1 w' (row b12 41 (encMv (mgM d)) :: row b7 71 (vs.set i u) :: Fu :: F1 :: [])) ⟨rfl, rfl, rfl, rfl, rfl, rfl, rfl, rfl, rfl, trivial⟩ ?_ ?_
        · refine C.cdec rfl (fun h74 => ?_) (fun h74 => ?_)
          · refine C.region ?_
            first | refine R.ev rfl (E.fieldAddr0 5 rfl Tryd.underlying41 rfl Tryd.sz5 rfl) ?_ | refine R.ev rfl (E.fieldAddrN 5 rfl Tryd.underlying41 rfl Tryd.sz5 rfl) ?_
            refine R.ev rfl (E.load1 rfl Tryd.underlying5 rfl (by first | exact hs.ldc | exact hs.ld rfl | exact hs.ld (by assumption) | exact by assumption | exact At.cellC (by assumption))) ?_
            first | refine R.ev rfl (E.fieldAddr0 5 rfl Tryd.underlying41 rfl Tryd.sz5 rfl) ?_ | refine R.ev rfl (E.fieldAddrN 5 rfl Tryd.underlying41 rfl Tryd.sz5 rfl) ?_
            refine R.ev rfl (E.load1 rfl Tryd.underlying5 rfl (by first | exact hs.ldc | exact hs.ld rfl | exact hs.ld (by assumption) | exact by assumption | exact At.cellC (by assumption))) ?_
            refine R.ev rfl (E.buildG (r := encMv (mgA d)) rfl Tryd.underlying41 Tryd.zr41 Tryd.ql41 (by kernel_rfl) (by kernel_rfl) ⟨⟨_, rfl, by first | rfl | exact vsz _ | simp [Value.cells, *]⟩, ⟨_, rfl, by first | rfl | exact vsz _ | simp [Value.cells, *]⟩, ⟨_, rfl, by first | rfl | exact vsz _ | simp [Value.cells, *]⟩, ⟨_, rfl, by first | rfl | exact vsz _ | simp [Value.cells, *]⟩, ⟨_, rfl, by first | rfl | exact vsz _ | simp [Value.cells, *]⟩, trivial⟩ (by first | rfl | simp [setF, fieldsOf, Value.cells])) ?_
            first | refine R.cstoreAll hs rfl rfl Tryd.sz41 (by first | rfl | assumption | exact encV_len _ | exact Enc.len _ | exact len_ub (by assumption) | simp [*]) (by first | rfl | assumption | exact encV_len _ | exact Enc.len _ | exact len_ub (by assumption) | simp [*]) (by first | assumption | exact OneL.all | exact Enc.one _ | exact ub_all _ | (repeat' (first | refine List.forall_mem_cons.2 ⟨?_, ?_⟩ | exact List.forall_mem_nil _ | rfl | exact OneC.one | exact KRow.oneC' (by assumption)))) ?_ | refine R.cstore hs rfl rfl Tryd.sz41 (by first | rfl | assumption | exact encV_len _ | exact Enc.len _ | exact len_ub (by assumption) | simp [*]) (by simp [*]) (by first | assumption | exact OneL.all | exact Enc.one _ | exact ub_all _ | (repeat' (first | refine List.forall_mem_cons.2 ⟨?_, ?_⟩ | exact List.forall_mem_nil _ | rfl | exact OneC.one | exact KRow.oneC' (by assumption)))) ?_
            intro w15_5 hs
            try simp only [List.set_cons_zero, List.set_cons_succ] at hs
            refine R.done ?_
            refine X.keep [(0, _), (1, _), (2, _), (7, _), (8, _), (9, _), (10, _), (11, _), (12, _)] ⟨rfl, rfl, rfl, rfl, rfl, rfl, rfl, rfl, rfl, trivial⟩ ?_
            first
              | exact X.cut (()) ⟨rfl, rfl, rfl, rfl, rfl, rfl, rfl, rfl, rfl, trivial⟩ (by rw [mgM, if_pos h74]; exact hs)
              | exact X.cut (()) ⟨rfl, rfl, rfl, rfl, rfl, rfl, rfl, rfl, rfl, trivial⟩ (by rw [mgM, if_neg h74]; exact hs)
          · refine C.region ?_
            first | refine R.ev rfl (E.fieldAddr0 5 rfl Tryd.underlying41 rfl Tryd.sz5 rfl) ?_ | refine R.ev rfl (E.fieldAddrN 5 rfl Tryd.underlying41 rfl Tryd.sz5 rfl) ?_
            refine R.ev rfl (E.load1 rfl Tryd.underlying5 rfl (by first | exact hs.ldc | exact hs.ld rfl | exact hs.ld (by assumption) | exact by assumption | exact At.cellC (by assumption))) ?_
            first | refine R.ev rfl (E.fieldAddr0 5 rfl Tryd.underlying41 rfl Tryd.sz5 rfl) ?_ | refine R.ev rfl (E.fieldAddrN 5 rfl Tryd.underlying41 rfl Tryd.sz5 rfl) ?_
            refine R.ev rfl (E.load1 rfl Tryd.underlying5 rfl (by first | exact hs.ldc | exact hs.ld rfl | exact hs.ld (by assumption) | exact by assumption | exact At.cellC (by assumption))) ?_
            refine R.ev rfl ((E.quoW rfl rfl (by decide)).as (u := ub (UInt8.ofNat (d / 5))) (by rw [ha])) ?_
            first | refine R.ev rfl (E.fieldAddr0 5 rfl Tryd.underlying41 rfl Tryd.sz5 rfl) ?_ | refine R.ev rfl (E.fieldAddrN 5 rfl Tryd.underlying41 rfl Tryd.sz5 rfl) ?_
            refine R.ev rfl (E.load1 rfl Tryd.underlying5 rfl (by first | exact hs.ldc | exact hs.ld rfl | exact hs.ld (by assumption) | exact by assumption | exact At.cellC (by assumption))) ?_
            refine R.ev rfl ((E.quoW rfl rfl (by decide)).as (u := ub (UInt8.ofNat (d / 2))) (by rw [hb])) ?_
            first | refine R.ev rfl (E.fieldAddr0 5 rfl Tryd.underlying41 rfl Tryd.sz5 rfl) ?_ | refine R.ev rfl (E.fieldAddrN 5 rfl Tryd.underlying41 rfl Tryd.sz5 rfl) ?_
            refine R.ev rfl (E.load1 rfl Tryd.underlying5 rfl (by first | exact hs.ldc | exact hs.ld rfl | exact hs.ld (by assumption) | exact by assumption | exact At.cellC (by assumption))) ?_
            refine R.ev rfl ((E.addW rfl rfl).as (u := ub (UInt8.ofNat (d + 1))) (by rw [hc])) ?_
            first | refine R.ev rfl (E.fieldAddr0 5 rfl Tryd.underlying41 rfl Tryd.sz5 rfl) ?_ | refine R.ev rfl (E.fieldAddrN 5 rfl Tryd.underlying41 rfl Tryd.sz5 rfl) ?_
            refine R.ev rfl (E.load1 rfl Tryd.underlying5 rfl (by first | exact hs.ldc | exact hs.ld rfl | exact hs.ld (by assumption) | exact by assumption | exact At.cellC (by assumption))) ?_
            first | refine R.ev rfl (E.fieldAddr0 5 rfl Tryd.underlying41 rfl Tryd.sz5 rfl) ?_ | refine R.ev rfl (E.fieldAddrN 5 rfl Tryd.underlying41 rfl Tryd.sz5 rfl) ?_
            refine R.ev rfl (E.load1 rfl Tryd.underlying5 rfl (by first | exact hs.ldc | exact hs.ld rfl | exact hs.ld (by assumption) | exact by assumption | exact At.cellC (by assumption))) ?_
            refine R.ev rfl (E.buildG (r := encMv (mgB d)) rfl Tryd.underlying41 Tryd.zr41 Tryd.ql41 (by kernel_rfl) (by kernel_rfl) ⟨⟨_, rfl, by first | rfl | exact vsz _ | simp [Value.cells, *]⟩, ⟨_, rfl, by first | rfl | exact vsz _ | simp [Value.cells, *]⟩, ⟨_, rfl, by first | rfl | exact vsz _ | simp [Value.cells, *]⟩, ⟨_, rfl, by first | rfl | exact vsz _ | simp [Value.cells, *]⟩, ⟨_, rfl, by first | rfl | exact vsz _ | simp [Value.cells, *]⟩, ⟨_, rfl, by first | rfl | exact vsz _ | simp [Value.cells, *]⟩, ⟨_, rfl, by first | rfl | exact vsz _ | simp [Value.cells, *]⟩, trivial⟩ (by first | rfl | simp [setF, fieldsOf, Value.cells])) ?_
            first | refine R.cstoreAll hs rfl rfl Tryd.sz41 (by first | rfl | assumption | exact encV_len _ | exact Enc.len _ | exact len_ub (by assumption) | simp [*]) (by first | rfl | assumption | exact encV_len _ | exact Enc.len _ | exact len_ub (by assumption) | simp [*]) (by first | assumption | exact OneL.all | exact Enc.one _ | exact ub_all _ | (repeat' (first | refine List.forall_mem_cons.2 ⟨?_, ?_⟩ | exact List.forall_mem_nil _ | rfl | exact OneC.one | exact KRow.oneC' (by assumption)))) ?_ | refine R.cstore hs rfl rfl Tryd.sz41 (by first | rfl | assumption | exact encV_len _ | exact Enc.len _ | exact len_ub (by assumption) | simp [*]) (by simp [*]) (by first | assumption | exact OneL.all | exact Enc.one _ | exact ub_all _ | (repeat' (first | refine List.forall_mem_cons.2 ⟨?_, ?_⟩ | exact List.forall_mem_nil _ | rfl | exact OneC.one | exact KRow.oneC' (by assumption)))) ?_
            intro w16_16 hs
            try simp only [List.set_cons_zero, List.set_cons_succ] at hs
            refine R.done ?_
            refine X.keep [(0, _), (1, _), (2, _), (7, _), (8, _), (9, _), (10, _), (11, _), (12, _)] ⟨rfl, rfl, rfl, rfl, rfl, rfl, rfl, rfl, rfl, trivial⟩ ?_
            first
              | exact X.cut (()) ⟨rfl, rfl, rfl, rfl, rfl, rfl, rfl, rfl, rfl, trivial⟩ (by rw [mgM, if_pos h74]; exact hs)
              | exact X.cut (()) ⟨rfl, rfl, rfl, rfl, rfl, rfl, rfl, rfl, rfl, trivial⟩ (by rw [mgM, if_neg h74]; exact hs)
        · rintro _ w4 hs
          refine X.keep [(0, _), (1, _), (2, _), (7, _), (8, _), (9, _), (10, _), (11, _), (12, _)] ⟨rfl, rfl, rfl, rfl, rfl, rfl, rfl, rfl, rfl, trivial⟩ ?_
          refine X.next ?_
          refine C.seq ?_
          refine C.drawn (SatS hs) ([3, 4], [0, 1, 2, 7]) (by kernel_rfl) ?_
          have hs := hs.drew
          refine D.evP 0 rfl (by kernel_rfl) rfl (fun _ => hs.to) (fun _ => E.move rfl) ?_
          refine D.evP 1 rfl (by kernel_rfl) rfl (fun _ => hs.to) (fun _ => E.move rfl) ?_
          refine D.evP 2 rfl (by kernel_rfl) rfl (fun _ => hs.to) (fun _ => E.indexAddrW i rfl rfl Tryd.underlying71 Tryd.sz22 rfl (by omega)) ?_
          refine D.ev 3 rfl (by kernel_rfl) rfl hs.to (fun _ hS => E.load1 rfl Tryd.underlying22 rfl (hS.ld (b := b7) (v := u) (by rw [List.getElem?_set_self (by omega)]))) ?_
          refine D.ev 4 rfl (by kernel_rfl) rfl hs.to (fun _ hS => E.loadRowC rfl Tryd.underlying41 rfl Tryd.sz41 (by first | exact ⟨hS.ldA, by first | rfl | assumption | exact encV_len _ | exact Enc.len _ | exact len_ub (by assumption)⟩ | exact ⟨hS.ldP rfl, by first | rfl | assumption | exact encV_len _ | exact Enc.len _ | exact len_ub (by assumption)⟩ | exact ⟨hS.ldM rfl rfl, by first | rfl | assumption | exact encV_len _ | exact Enc.len _ | exact len_ub (by assumption)⟩ | exact ⟨hS.ldM (by assumption) (by first | rfl | assumption), by first | rfl | assumption | exact encV_len _ | exact Enc.len _ | exact len_ub (by assumption)⟩ | exact ⟨by assumption, by first | rfl | assumption | exact encV_len _ | exact Enc.len _ | exact len_ub (by assumption)⟩ | exact ⟨(by assumption : ∀ w', Sat _ w' _ → At w' _ _ _) _ hS, by first | rfl | assumption | exact encV_len _ | exact Enc.len _ | exact len_ub (by assumption)⟩ | exact hS.ldp | exact At.partC (by assumption) | exact At.partC ((by assumption : ∀ w', Sat _ w' _ → At w' _ _ _) _ hS))) ?_
          refine D.act 5 rfl (by kernel_rfl) ?_
          refine R.buildSliceA rfl Tryd.underlying22 Tryd.sz41 Tryd.zr41 rfl (by first | rfl | assumption | exact encV_len _ | exact Enc.len _ | simp [*]) (by decide) (by decide) ?_
          intro b101 w101 n101
          have hs := hs.new n101
          refine D.back hs.to ?_
          refine D.act 6 rfl (by kernel_rfl) ?_
          refine R.capp1 (mgM d) hs rfl rfl Tryd.underlying22 Tryd.by41 (by rfl) rfl (by first | exact hs.ldA | exact hs.ldP rfl | exact by assumption) (by decide) (by first | omega | (simp only [List.length_append, List.length_cons, List.length_nil] at *; omega)) (by first | omega | (simp only [List.length_append, List.length_cons, List.length_nil] at *; omega)) ?_
          intro u2 w176 Fu2 ru2 hs
          rw [hd, mgL_snoc] at ru2
          refine D.backT (by kernel_rfl) ?_
          refine D.evP 7 rfl (by kernel_rfl) rfl (np (by kernel_rfl)) (fun _ => E.indexAddrW i rfl rfl Tryd.underlying71 Tryd.sz22 rfl (by omega)) ?_
          refine D.act 8 rfl (by kernel_rfl) ?_
          refine R.cstore1 (b := b7) hs rfl rfl Tryd.sz22 (by rw [List.length_set]; omega) (RowL.oneC (h := ru2)) ?_
          intro w178 hs
          rw [List.set_set] at hs
          refine D.backT (by kernel_rfl) ?_
          refine D.done rfl (by kernel_rfl) ?_
          refine X.keep [(0, _), (1, _), (2, _), (7, _), (8, _), (9, _), (10, _), (11, _), (12, _)] ⟨rfl, rfl, rfl, rfl, rfl, rfl, rfl, rfl, rfl, trivial⟩ ?_
          refine X.next ?_
          refine C.region ?_
          refine R.ev rfl (E.move rfl) ?_
          refine R.ev rfl (E.loadRowC rfl Tryd.underlying41 rfl Tryd.sz41 (by first | exact ⟨hs.ldA, by first | rfl | assumption | exact encV_len _ | exact Enc.len _ | exact len_ub (by assumption)⟩ | exact ⟨hs.ldP rfl, by first | rfl | assumption | exact encV_len _ | exact Enc.len _ | exact len_ub (by assumption)⟩ | exact ⟨hs.ldM rfl rfl, by first | rfl | assumption | exact encV_len _ | exact Enc.len _ | exact len_ub (by assumption)⟩ | exact ⟨hs.ldM (by assumption) (by first | rfl | assumption), by first | rfl | assumption | exact encV_len _ | exact Enc.len _ | exact len_ub (by assumption)⟩ | exact ⟨by assumption, by first | rfl | assumption | exact encV_len _ | exact Enc.len _ | exact len_ub (by assumption)⟩ | exact hs.ldp | exact At.partC (by assumption))) ?_
          refine R.buildSliceA rfl Tryd.underlying22 Tryd.sz41 Tryd.zr41 rfl (by first | rfl | assumption | exact encV_len _ | exact Enc.len _ | simp [*]) (by decide) (by decide) ?_
          intro b106 w106 n106
          have hs := hs.new n106
          refine R.capp1 (mgM d) hs rfl rfl Tryd.underlying22 Tryd.by41 (by rfl) rfl (by first | exact hs.ldA | exact hs.ldP rfl | exact by assumption) (by decide) (by first | omega | (simp only [List.length_append, List.length_cons, List.length_nil] at *; omega)) (by first | omega | (simp only [List.length_append, List.length_cons, List.length_nil] at *; omega)) ?_
          intro v107 w107 F107 r107 hs
          rw [hd, List.append_assoc, mgL_snoc] at r107
          refine R.ev rfl (E.assign rfl) ?_
          refine R.done ?_
          refine X.keep [(0, _), (1, _), (2, _), (7, _), (8, _), (9, _), (10, _), (11, _)] ⟨rfl, rfl, rfl, rfl, rfl, rfl, rfl, rfl, trivial⟩ ?_
          refine X.blockNormal ?_
          refine X.next ?_
          refine C.region ?_
          refine R.ev rfl (E.move rfl) ?_
          refine R.ev rfl (E.add rfl rfl (by omega) (by omega)) ?_
          refine R.ev rfl (E.assign rfl) ?_
          refine R.done ?_
          refine X.keep [(0, _), (1, _), (2, _), (7, _), (8, _), (9, _), (10, _), (11, _)] ⟨rfl, rfl, rfl, rfl, rfl, rfl, rfl, rfl, trivial⟩ ?_
          exact X.again (k + 1, u2, Fu2, v107, F107) ⟨rfl, rfl, rfl, rfl, rfl, rfl, rfl, rfl, trivial⟩ ⟨by omega, ru2, r107, hs.to⟩ (by show _ - _ < _ - _; omega)
      · refine C.exit ?_
        refine X.thenExit ?_
        refine X.loopExit ?_
        refine X.blockExit ?_
        refine X.blockNormal ?_
        refine X.next ?_
        refine C.region ?_
        refine R.ev rfl (E.move rfl) ?_
        refine R.ev rfl (E.add rfl rfl (by omega) (by omega)) ?_
        refine R.ev rfl (E.assign rfl) ?_
        refine R.done ?_
        refine X.keep [(0, _), (1, _), (2, _), (7, _), (8, _), (9, _)] ⟨rfl, rfl, rfl, rfl, rfl, rfl, trivial⟩ ?_
        have hkn : k = nn i := by
          first
            | (have := of_decide_eq_false h57; omega)
            | (have := of_decide_eq_false h54; omega)
        rw [hkn] at ru rv
        obtain ⟨K5, hk5, rr5, hs⟩ := ru.freezeK (hs.front (F := Fu))
        rw [← allM_step] at rv
        exact X.again (i + 1, K5, vs.set i u, v, F1) ⟨rfl, rfl, rfl, rfl, rfl, rfl, trivial⟩ ⟨by omega, hk1.trans hk5, by rw [List.length_set]; exact hvl, fun j hj => by
          by_cases hji : j = i
          · subst hji
            exact ⟨u, by rw [List.getElem?_set_self (by omega)], rr5⟩
          · obtain ⟨x, hx1, hx2⟩ := hdone j (by omega)
            exact ⟨x, by rw [List.getElem?_set_ne (by omega)]; exact hx1, KRow.mono (k := hk5) (h := hx2)⟩, fun j hj hj3 => by rw [List.getElem?_set_ne (by omega)]; exact htodo j (by omega) hj3, rv, hs.to⟩ (by show _ - _ < _ - _; omega)
    · refine R.gskip rfl rfl rfl ?_
      refine R.gskip rfl rfl rfl ?_
      refine R.ev rfl (E.pickF rfl rfl) ?_
      refine R.done ?_
      refine X.keep [(0, _), (1, _), (2, _), (7, _), (8, _), (9, _), (10, _), (11, _), (57, _)] ⟨rfl, rfl, rfl, rfl, rfl, rfl, rfl, rfl, rfl, trivial⟩ ?_
      refine X.next ?_
      refine C.cfalse rfl ?_
      refine C.exit ?_
      refine X.thenExit ?_
      refine X.loopExit ?_
      refine X.blockExit ?_
      refine X.blockNormal ?_
      refine X.next ?_
      refine C.region ?_
      refine R.ev rfl (E.move rfl) ?_
      refine R.ev rfl (E.add rfl rfl (by omega) (by omega)) ?_
      refine R.ev rfl (E.assign rfl) ?_
      refine R.done ?_
      refine X.keep [(0, _), (1, _), (2, _), (7, _), (8, _), (9, _)] ⟨rfl, rfl, rfl, rfl, rfl, rfl, trivial⟩ ?_
      have hkn : k = nn i := by
        first
          | (have := of_decide_eq_false h57; omega)
          | (have := of_decide_eq_false h54; omega)
      rw [hkn] at ru rv
      obtain ⟨K5, hk5, rr5, hs⟩ := ru.freezeK (hs.front (F := Fu))
      rw [← allM_step] at rv
      exact X.again (i + 1, K5, vs.set i u, v, F1) ⟨rfl, rfl, rfl, rfl, rfl, rfl, trivial⟩ ⟨by omega, hk1.trans hk5, by rw [List.length_set]; exact hvl, fun j hj => by
        by_cases hji : j = i
        · subst hji
          exact ⟨u, by rw [List.getElem?_set_self (by omega)], rr5⟩
        · obtain ⟨x, hx1, hx2⟩ := hdone j (by omega)
          exact ⟨x, by rw [List.getElem?_set_ne (by omega)]; exact hx1, KRow.mono (k := hk5) (h := hx2)⟩, fun j hj hj3 => by rw [List.getElem?_set_ne (by omega)]; exact htodo j (by omega) hj3, rv, hs.to⟩ (by show _ - _ < _ - _; omega)
  · refine C.exit ?_
    refine X.thenExit ?_
    refine X.loopExit ?_
    refine X.blockExit ?_
    refine X.next ?_
    refine C.seq ?_
    refine C.region ?_
    obtain rfl : i = 3 := by omega
    obtain ⟨ua, hua, ra⟩ := hdone 0 (by omega)
    obtain ⟨uB, hub, rb⟩ := hdone 1 (by omega)
    obtain ⟨uc, huc, rc⟩ := hdone 2 (by omega)
    obtain ⟨ada, capa, rfl, _⟩ := ra.ex
    obtain ⟨adb, capb, rfl, _⟩ := rb.ex
    obtain ⟨adc, capc, rfl, _⟩ := rc.ex
    have ta : (mgL 0 (nn 0)).take 8 = mgL 0 (nn 0) := List.take_of_length_le (by rw [mgL_len]; exact hn8 0)
    have tb : (mgL 1 (nn 1)).take 8 = mgL 1 (nn 1) := List.take_of_length_le (by rw [mgL_len]; exact hn8 1)
    have tc : (mgL 2 (nn 2)).take 8 = mgL 2 (nn 2) := List.take_of_length_le (by rw [mgL_len]; exact hn8 2)
    have la := bld_len (mgL 0 (nn 0))
    have lb := bld_len (mgL 1 (nn 1))
    have lc := bld_len (mgL 2 (nn 2))
    rw [mgL_len] at la lb lc
    have n0 := hn8 0
    have n1 := hn8 1
    have n2 := hn8 2
    obtain ⟨pa, ma⟩ := bld_mr (mgL_is (i := 0) (n := nn 0))
    obtain ⟨pb, mb⟩ := bld_mr (mgL_is (i := 1) (n := nn 1))
    obtain ⟨pc, mc⟩ := bld_mr (mgL_is (i := 2) (n := nn 2))
    have hallis : ∀ m ∈ allM nn 3, isMg m := fun m hm => by
      obtain ⟨j, _, hj⟩ := List.mem_flatMap.1 hm
      exact mgL_is m hj
    obtain ⟨_, mall⟩ := bld_mr hallis
    have hmem : ∀ r, r ∈ bld (allM nn 3) ↔ (r ∈ bld (mgL 0 (nn 0)) ∨ r ∈ bld (mgL 1 (nn 1))) ∨ r ∈ bld (mgL 2 (nn 2)) := fun r => by
      have e : allM nn 3 = mgL 0 (nn 0) ++ mgL 1 (nn 1) ++ mgL 2 (nn 2) := by rw [allM_step, allM_step, allM_step]; rfl
      rw [mall, ma, mb, mc, e]
      simp only [List.mem_append]
      constructor
      · rintro ⟨m, (h | h) | h, h2⟩
        · exact .inl (.inl ⟨m, h, h2⟩)
        · exact .inl (.inr ⟨m, h, h2⟩)
        · exact .inr ⟨m, h, h2⟩
      · rintro ((⟨m, h, h2⟩ | ⟨m, h, h2⟩) | ⟨m, h, h2⟩)
        · exact ⟨m, .inl (.inl h), h2⟩
        · exact ⟨m, .inl (.inr h), h2⟩
        · exact ⟨m, .inr h, h2⟩
    have tall : (allM nn 3).take 24 = allM nn 3 := List.take_of_length_le hall
    have lall := bld_len (allM nn 3)
    obtain ⟨ad8, cap8, rfl, _⟩ := r8.val
    refine R.ev rfl (E.indexAddrA0 0 0 rfl rfl Tryd.underlying71 Tryd.sz22 rfl rfl) ?_
    refine R.ev rfl (E.load1 rfl Tryd.underlying22 rfl (hs.ld (b := b7) hua)) ?_
    refine R.call ⟨_, _, Tryd.func12, rfl, by kernel_rfl⟩ rfl rfl (build_any (ms := mgL 0 (nn 0)) (n := 8) (by decide) hs) ?_
    rintro _ w19 ⟨qa, Ka, va, MKa, MRa, Fa, rfl, hka, _, hIa, hwa, hs⟩
    rw [ta] at hIa
    refine R.ev rfl (E.move rfl) ?_
    refine R.ev rfl (E.extract rfl rfl) ?_
    refine R.ev rfl (E.extract rfl rfl) ?_
    refine R.ev rfl (E.extract rfl rfl) ?_
    refine R.ev rfl (E.assign rfl) ?_
    refine R.ev rfl (E.assign rfl) ?_
    refine R.ev rfl (E.assign rfl) ?_
    refine R.done ?_
    refine X.keep [(7, _), (8, _), (13, _)] ⟨rfl, rfl, rfl, trivial⟩ ?_
    refine X.next ?_
    refine C.seq ?_
    refine C.region ?_
    refine R.ev rfl (E.indexAddrA0 1 1 rfl rfl Tryd.underlying71 Tryd.sz22 rfl rfl) ?_
    refine R.ev rfl (E.load1 rfl Tryd.underlying22 rfl (hs.ld (b := b7) hub)) ?_
    refine R.call ⟨_, _, Tryd.func12, rfl, by kernel_rfl⟩ rfl rfl (build_any (ms := mgL 1 (nn 1)) (n := 8) (by decide) hs) ?_
    rintro _ w20 ⟨qb, Kb, vb, MKb, MRb, Fb, rfl, hkb, _, hIb, hwb, hs⟩
    rw [tb] at hIb
    refine R.ev rfl (E.move rfl) ?_
    refine R.ev rfl (E.extract rfl rfl) ?_
    refine R.ev rfl (E.extract rfl rfl) ?_
    refine R.ev rfl (E.extract rfl rfl) ?_
    refine R.ev rfl (E.assign rfl) ?_
    refine R.ev rfl (E.assign rfl) ?_
    refine R.ev rfl (E.assign rfl) ?_
    refine R.done ?_
    refine X.keep [(7, _), (8, _), (13, _), (16, _)] ⟨rfl, rfl, rfl, rfl, trivial⟩ ?_
    refine X.next ?_
    refine C.seq ?_
    refine C.region ?_
    refine R.ev rfl (E.indexAddrA0 2 2 rfl rfl Tryd.underlying71 Tryd.sz22 rfl rfl) ?_
    refine R.ev rfl (E.load1 rfl Tryd.underlying22 rfl (hs.ld (b := b7) huc)) ?_
    refine R.call ⟨_, _, Tryd.func12, rfl, by kernel_rfl⟩ rfl rfl (build_any (ms := mgL 2 (nn 2)) (n := 8) (by decide) hs) ?_
    rintro _ w21 ⟨qc, Kc, vc, MKc, MRc, Fc, rfl, hkcc, _, hIc, hwc, hs⟩
    rw [tc] at hIc
    generalize bld (mgL 0 (nn 0)) = La at hIa la pa hmem
    generalize bld (mgL 1 (nn 1)) = Lb at hIb lb pb hmem
    generalize bld (mgL 2 (nn 2)) = Lc at hIc lc pc hmem
    obtain ⟨pab, mab⟩ := mrg_mr pa pb
    obtain ⟨pba, mba⟩ := mrg_mr pb pa
    obtain ⟨pl, ml⟩ := mrg_mr pab pc
    obtain ⟨pbc, mbc⟩ := mrg_mr pb pc
    obtain ⟨pr, mr⟩ := mrg_mr pa pbc
    obtain ⟨pt, mt⟩ := mrg_mr pl pl
    have k1 := mrg_len La Lb
    have k2 := mrg_len Lb La
    have k3 := mrg_len (mrgL La Lb) Lc
    have k4 := mrg_len Lb Lc
    have k5 := mrg_len La (mrgL Lb Lc)
    have k6 := mrg_len (mrgL (mrgL La Lb) Lc) (mrgL (mrgL La Lb) Lc)
    refine R.ev rfl (E.move rfl) ?_
    refine R.ev rfl (E.extract rfl rfl) ?_
    refine R.ev rfl (E.extract rfl rfl) ?_
    refine R.ev rfl (E.extract rfl rfl) ?_
    refine R.ev rfl (E.assign rfl) ?_
    refine R.ev rfl (E.assign rfl) ?_
    refine R.ev rfl (E.assign rfl) ?_
    refine R.done ?_
    refine X.keep [(8, _), (13, _), (16, _), (19, _)] ⟨rfl, rfl, rfl, rfl, trivial⟩ ?_
    refine X.next ?_
    refine C.seq ?_
    refine C.region ?_
    refine R.ev rfl (E.move rfl) ?_
    refine R.call ⟨_, _, Tryd.func27, rfl, by kernel_rfl⟩ rfl rfl (clone_any hIa (by omega) hs) ?_
    rintro _ w221 ⟨qab, rfl, MKab, MRab, Fab, hIab, hwab, hs⟩
    refine R.ev rfl (E.move rfl) ?_
    refine R.call ⟨_, _, Tryd.func27, rfl, by kernel_rfl⟩ rfl rfl (clone_any hIb (by omega) hs) ?_
    rintro _ w223 ⟨qba, rfl, MKba, MRba, Fba, hIba, hwba, hs⟩
    refine R.ev rfl (E.assign rfl) ?_
    refine R.ev rfl (E.assign rfl) ?_
    refine R.done ?_
    refine X.keep [(8, _), (13, _), (16, _), (19, _), (22, _), (23, _)] ⟨rfl, rfl, rfl, rfl, rfl, rfl, trivial⟩ ?_
    refine X.next ?_
    refine C.seq ?_
    refine C.region ?_
    refine R.ev rfl (E.move rfl) ?_
    refine R.ev rfl (E.move rfl) ?_
    refine R.call ⟨_, _, Tryd.func29, rfl, by kernel_rfl⟩ rfl rfl (merge_any hIab hIb (by omega) (by omega) (hs.front (F := Fab))) ?_
    rintro _ w232 ⟨rfl, MKab2, MRab2, Fab2, hIab2, hwab2, hs1⟩
    have hs := hs.back (F := Fab) hs1
    refine R.ev rfl (E.move rfl) ?_
    refine R.ev rfl (E.move rfl) ?_
    refine R.call ⟨_, _, Tryd.func29, rfl, by kernel_rfl⟩ rfl rfl (merge_any hIba hIa (by omega) (by omega) (hs.front (F := Fba))) ?_
    rintro _ w235 ⟨rfl, MKba2, MRba2, Fba2, hIba2, hwba2, hs1⟩
    have hs := hs.back (F := Fba) hs1
    refine R.ev rfl (E.assign rfl) ?_
    refine R.ev rfl (E.assign rfl) ?_
    refine R.done ?_
    refine X.keep [(8, _), (13, _), (16, _), (19, _), (22, _), (23, _), (24, _), (25, _)] ⟨rfl, rfl, rfl, rfl, rfl, rfl, rfl, rfl, trivial⟩ ?_
    refine X.next ?_
    refine C.seq ?_
    refine C.region ?_
    refine R.ev rfl (E.move rfl) ?_
    refine R.call ⟨_, _, Tryd.func27, rfl, by kernel_rfl⟩ rfl rfl (clone_any hIab2 (by omega) hs) ?_
    rintro _ w241 ⟨ql, rfl, MKl, MRl, Fl, hIl, hwl, hs⟩
    refine R.ev rfl (E.assign rfl) ?_
    refine R.done ?_
    refine X.keep [(8, _), (13, _), (16, _), (19, _), (22, _), (23, _), (24, _), (25, _), (26, _)] ⟨rfl, rfl, rfl, rfl, rfl, rfl, rfl, rfl, rfl, trivial⟩ ?_
    refine X.next ?_
    refine C.seq ?_
    refine C.region ?_
    refine R.ev rfl (E.move rfl) ?_
    refine R.ev rfl (E.move rfl) ?_
    refine R.call ⟨_, _, Tryd.func29, rfl, by kernel_rfl⟩ rfl rfl (merge_any hIl hIc (by omega) (by omega) (hs.front (F := Fl))) ?_
    rintro _ w252 ⟨rfl, MKl2, MRl2, Fl2, hIl2, hwl2, hs1⟩
    have hs := hs.back (F := Fl) hs1
    refine R.ev rfl (E.assign rfl) ?_
    refine R.done ?_
    refine X.keep [(8, _), (13, _), (16, _), (19, _), (22, _), (23, _), (24, _), (25, _), (26, _), (27, _)] ⟨rfl, rfl, rfl, rfl, rfl, rfl, rfl, rfl, rfl, rfl, trivial⟩ ?_
    refine X.next ?_
    refine C.seq ?_
    refine C.region ?_
    refine R.ev rfl (E.move rfl) ?_
    refine R.call ⟨_, _, Tryd.func27, rfl, by kernel_rfl⟩ rfl rfl (clone_any hIb (by omega) hs) ?_
    rintro _ w261 ⟨qbc, rfl, MKbc, MRbc, Fbc, hIbc, hwbc, hs⟩
    refine R.ev rfl (E.assign rfl) ?_
    refine R.done ?_
    refine X.keep [(8, _), (13, _), (19, _), (22, _), (23, _), (24, _), (25, _), (26, _), (27, _), (28, _)] ⟨rfl, rfl, rfl, rfl, rfl, rfl, rfl, rfl, rfl, rfl, trivial⟩ ?_
    refine X.next ?_
    refine C.seq ?_
    refine C.region ?_
    refine R.ev rfl (E.move rfl) ?_
    refine R.ev rfl (E.move rfl) ?_
    refine R.call ⟨_, _, Tryd.func29, rfl, by kernel_rfl⟩ rfl rfl (merge_any hIbc hIc (by omega) (by omega) (hs.front (F := Fbc))) ?_
    rintro _ w272 ⟨rfl, MKbc2, MRbc2, Fbc2, hIbc2, hwbc2, hs1⟩
    have hs := hs.back (F := Fbc) hs1
    refine R.ev rfl (E.assign rfl) ?_
    refine R.done ?_
    refine X.keep [(8, _), (13, _), (22, _), (23, _), (24, _), (25, _), (26, _), (27, _), (28, _), (29, _)] ⟨rfl, rfl, rfl, rfl, rfl, rfl, rfl, rfl, rfl, rfl, trivial⟩ ?_
    refine X.next ?_
    refine C.seq ?_
    refine C.region ?_
    refine R.ev rfl (E.move rfl) ?_
    refine R.call ⟨_, _, Tryd.func27, rfl, by kernel_rfl⟩ rfl rfl (clone_any hIa (by omega) hs) ?_
    rintro _ w281 ⟨qr, rfl, MKr, MRr, Fr, hIr, hwr, hs⟩
    refine R.ev rfl (E.assign rfl) ?_
    refine R.done ?_
    refine X.keep [(8, _), (22, _), (23, _), (24, _), (25, _), (26, _), (27, _), (28, _), (29, _), (30, _)] ⟨rfl, rfl, rfl, rfl, rfl, rfl, rfl, rfl, rfl, rfl, trivial⟩ ?_
    refine X.next ?_
    refine C.seq ?_
    refine C.region ?_
    refine R.ev rfl (E.move rfl) ?_
    refine R.ev rfl (E.move rfl) ?_
    refine R.call ⟨_, _, Tryd.func29, rfl, by kernel_rfl⟩ rfl rfl (merge_any hIr hIbc2 (by omega) (by omega) (hs.front (F := Fr))) ?_
    rintro _ w292 ⟨rfl, MKr2, MRr2, Fr2, hIr2, hwr2, hs1⟩
    have hs := hs.back (F := Fr) hs1
    refine R.ev rfl (E.assign rfl) ?_
    refine R.done ?_
    refine X.keep [(8, _), (22, _), (23, _), (24, _), (25, _), (26, _), (27, _), (29, _), (30, _), (31, _)] ⟨rfl, rfl, rfl, rfl, rfl, rfl, rfl, rfl, rfl, rfl, trivial⟩ ?_
    refine X.next ?_
    refine C.seq ?_
    refine C.region ?_
    refine R.ev rfl (E.move rfl) ?_
    refine R.call ⟨_, _, Tryd.func27, rfl, by kernel_rfl⟩ rfl rfl (clone_any hIl2 (by omega) hs) ?_
    rintro _ w301 ⟨qt, rfl, MKt, MRt, Ft, hIt, hwt, hs⟩
    refine R.ev rfl (E.assign rfl) ?_
    refine R.done ?_
    refine X.keep [(8, _), (22, _), (23, _), (24, _), (25, _), (26, _), (27, _), (29, _), (30, _), (31, _), (32, _)] ⟨rfl, rfl, rfl, rfl, rfl, rfl, rfl, rfl, rfl, rfl, rfl, trivial⟩ ?_
    refine X.next ?_
    refine C.seq ?_
    refine C.region ?_
    refine R.ev rfl (E.move rfl) ?_
    refine R.ev rfl (E.move rfl) ?_
    refine R.call ⟨_, _, Tryd.func29, rfl, by kernel_rfl⟩ rfl rfl (merge_any hIt hIl2 (by omega) (by omega) (hs.front (F := Ft))) ?_
    rintro _ w312 ⟨rfl, MKt2, MRt2, Ft2, hIt2, hwt2, hs1⟩
    have hs := hs.back (F := Ft) hs1
    refine R.ev rfl (E.assign rfl) ?_
    refine R.done ?_
    refine X.keep [(8, _), (22, _), (23, _), (24, _), (25, _), (26, _), (27, _), (29, _), (30, _), (31, _), (32, _), (33, _)] ⟨rfl, rfl, rfl, rfl, rfl, rfl, rfl, rfl, rfl, rfl, rfl, rfl, trivial⟩ ?_
    refine X.next ?_
    refine C.seq ?_
    refine C.region ?_
    refine R.ev rfl (E.move rfl) ?_
    refine R.call ⟨_, _, Tryd.func12, rfl, by kernel_rfl⟩ rfl rfl (build_any (ms := allM nn 3) (n := 24) (by decide) hs) ?_
    rintro _ w32 ⟨qx, Kx, vx, MKx, MRx, Fx, rfl, hkx, hrx, hIx, hwx, hs⟩
    rw [tall] at hrx hIx
    have ox : OneC vx := ⟨KRow.oneC' hrx⟩
    obtain ⟨adx, capx, rfl, _⟩ := hrx.ex
    have hsame : ∀ r, r ∈ mrgL (mrgL La Lb) Lc ↔ r ∈ bld (allM nn 3) := fun r => by rw [ml, mab, hmem]
    have hslen := same_len hIl2.ok hIx.ok hsame
    refine R.ev rfl (E.move rfl) ?_
    refine R.ev rfl (E.extract rfl rfl) ?_
    refine R.ev rfl (E.extract rfl rfl) ?_
    refine R.ev rfl (E.extract rfl rfl) ?_
    refine R.ev rfl (E.assign rfl) ?_
    refine R.ev rfl (E.assign rfl) ?_
    refine R.ev rfl (E.assign rfl) ?_
    refine R.done ?_
    refine X.keep [(22, _), (23, _), (24, _), (25, _), (26, _), (27, _), (29, _), (30, _), (31, _), (32, _), (33, _), (35, _)] ⟨rfl, rfl, rfl, rfl, rfl, rfl, rfl, rfl, rfl, rfl, rfl, rfl, trivial⟩ ?_
    refine X.next ?_
    refine C.seq ?_
    refine C.region ?_
    refine R.ev rfl (E.move rfl) ?_
    refine R.ev rfl ((E.eql rfl rfl).isT rfl) ?_
    refine R.ev rfl (E.move rfl) ?_
    refine R.gyes rfl rfl ?_
    refine R.ev rfl (E.move rfl) ?_
    refine R.gyes rfl rfl ?_
    refine R.ev rfl ((E.eql rfl rfl).isT rfl) ?_
    refine R.ev rfl (E.pickT rfl rfl) ?_
    refine R.ev rfl (E.move rfl) ?_
    refine R.gyes rfl rfl ?_
    refine R.ev rfl (E.move rfl) ?_
    refine R.gyes rfl rfl ?_
    refine R.ev rfl ((E.eql rfl rfl).isT rfl) ?_
    refine R.ev rfl (E.pickT rfl rfl) ?_
    refine R.ev rfl (E.move rfl) ?_
    refine R.gyes rfl rfl ?_
    refine R.ev rfl (E.move rfl) ?_
    refine R.gyes rfl rfl ?_
    refine R.ev rfl ((E.eql rfl rfl).isT rfl) ?_
    refine R.ev rfl (E.pickT rfl rfl) ?_
    refine R.ev rfl (E.move rfl) ?_
    refine R.gyes rfl rfl ?_
    refine R.ev rfl (E.move rfl) ?_
    refine R.gyes rfl rfl ?_
    refine R.ev rfl ((E.eql rfl rfl).isT rfl) ?_
    refine R.ev rfl (E.pickT rfl rfl) ?_
    refine R.ev rfl (E.move rfl) ?_
    refine R.gyes rfl rfl ?_
    refine R.ev rfl (E.move rfl) ?_
    refine R.gyes rfl rfl ?_
    refine R.ev rfl ((E.eql rfl rfl).isT rfl) ?_
    refine R.ev rfl (E.pickT rfl rfl) ?_
    refine R.ev rfl (E.move rfl) ?_
    refine R.gyes rfl rfl ?_
    refine R.ev rfl (E.move rfl) ?_
    refine R.gyes rfl rfl ?_
    refine R.ev rfl (E.move rfl) ?_
    refine R.gyes rfl rfl ?_
    refine R.call ⟨_, _, Tryd.func25, rfl, by kernel_rfl⟩ rfl rfl (equal_any hIab2 hIba2 (by omega) (by omega) hs) ?_
    rintro _ w3325 ⟨rfl, hs⟩
    rw [(eqKr_same hIab2.ok hIba2.ok).2 fun r => by rw [mab, mba]; exact Or.comm]
    refine R.ev rfl (E.pickT rfl rfl) ?_
    refine R.ev rfl (E.move rfl) ?_
    refine R.gyes rfl rfl ?_
    refine R.ev rfl (E.move rfl) ?_
    refine R.gyes rfl rfl ?_
    refine R.ev rfl (E.move rfl) ?_
    refine R.gyes rfl rfl ?_
    refine R.call ⟨_, _, Tryd.func25, rfl, by kernel_rfl⟩ rfl rfl (equal_any hIl2 hIr2 (by omega) (by omega) hs) ?_
    rintro _ w3330 ⟨rfl, hs⟩
    rw [(eqKr_same hIl2.ok hIr2.ok).2 fun r => by rw [ml, mab, mr, mbc]; exact or_assoc]
    refine R.ev rfl (E.pickT rfl rfl) ?_
    refine R.ev rfl (E.move rfl) ?_
    refine R.gyes rfl rfl ?_
    refine R.ev rfl (E.move rfl) ?_
    refine R.gyes rfl rfl ?_
    refine R.ev rfl (E.move rfl) ?_
    refine R.gyes rfl rfl ?_
    refine R.call ⟨_, _, Tryd.func25, rfl, by kernel_rfl⟩ rfl rfl (equal_any hIt2 hIl2 (by omega) (by omega) hs) ?_
    rintro _ w3335 ⟨rfl, hs⟩
    rw [(eqKr_same hIt2.ok hIl2.ok).2 fun r => by rw [mt]; exact or_self_iff]
    refine R.ev rfl (E.pickT rfl rfl) ?_
    refine R.ev rfl (E.move rfl) ?_
    refine R.gyes rfl rfl ?_
    refine R.ev rfl (E.move rfl) ?_
    refine R.gyes rfl rfl ?_
    refine R.call ⟨_, _, Tryd.func28, rfl, by kernel_rfl⟩ rfl rfl (len_any hIl2 hs) ?_
    rintro _ w3339 ⟨rfl, hs⟩
    refine R.gyes rfl rfl ?_
    refine R.ev rfl (E.move rfl) ?_
    refine R.gyes rfl rfl ?_
    refine R.ev rfl (E.lenSl rfl Tryd.underlying26) ?_
    refine R.gyes rfl rfl ?_
    refine R.ev rfl ((E.eql rfl rfl).isT (by rw [hslen])) ?_
    refine R.ev rfl (E.pickT rfl rfl) ?_
    refine R.ev rfl (E.move rfl) ?_
    refine R.gyes rfl rfl ?_
    refine R.ev rfl (E.move rfl) ?_
    refine R.gyes rfl rfl ?_
    refine R.ev rfl (E.move rfl) ?_
    refine R.gyes rfl rfl ?_
    refine R.call ⟨_, _, Tryd.func26, rfl, by kernel_rfl⟩ rfl rfl (chains_any hIl2 hsame (by omega) (by omega) hs) ?_
    rintro _ w3347 ⟨rfl, hs⟩
    refine R.ev rfl (E.pickT rfl rfl) ?_
    refine R.ev rfl (E.assign rfl) ?_
    refine R.done ?_
    refine X.keep [(6, _)] ⟨rfl, trivial⟩ ?_
    refine X.next ?_
    refine C.ret ?_
    refine X.ret1 rfl rfl ?_
    exact ⟨rfl, (hs.less ((((hk1.trans hka).trans hkb).trans hkcc).trans hkx).le).mod⟩

namespace keyringMerges
open Go.ChangeShapes Go.WideShapes Go.ChangeAt Go.RowKit
open Go.ChangeMaps (open_string shut_string)
set_option linter.unusedVariables false

theorem own : ownKnob Tryd.prog.godebug = none := by kernel_rfl
theorem laidOut : laidOutB Tryd.prog = true := by kernel_rfl
theorem door_met (os : Os) (args : Array Value) : laidMetH Tryd.prog Rows.keyringMergesRow.laid ((World.doorLaid Tryd.prog 400 os).forCall (fun _ _ => 0) ⟨#[], args, []⟩).memory :=
  laidMetH_of_parts3 (fuel := 8) (laidMet_of_run' 8 (by kernel_rfl) (by kernel_rfl)) (by kernel_rfl) (by kernel_rfl)
set_option maxRecDepth 100000 in
theorem lifted (os : Os) (started : os.Started) (H : Type) (enc : TypeId × Value → H) :
    ReturnsInHanded {} Tryd.checked os 8 .any (fun w args => (Rows.keyringMergesSpec.pre enc Tryd.prog Tryd.f8 [] false w args ∧ laidMetH Tryd.prog Rows.keyringMergesRow.laid w) ∧ sizedMet enc Tryd.prog Tryd.f8 (OpenSpec.ofChange Rows.keyringMergesSpec) false w args)
      (Rows.keyringMergesSpec.post enc Tryd.prog Tryd.f8 false true false false) := by
  refine returnsInHanded_of_change_and (C := Tryd.checked) (X := fun w _ => laidMetH Tryd.prog Rows.keyringMergesRow.laid w) (fun _ _ _ hh h => h.of_heap hh) own started (by kernel_rfl) Tryd.func8
    (ChangeSpec.witness_shaped (enc := enc) (C := Tryd.checked) (os := os) (X := fun w _ => laidMetH Tryd.prog Rows.keyringMergesRow.laid w) false (World.doorLaid Tryd.prog 400 os) #[.slice none 0 0, .slice none 0 0, .slice none 0 0] 8 rfl (World.shaped_of_RefB (by kernel_rfl) (by kernel_rfl)) (by kernel_rfl) (by kernel_rfl) (by kernel_rfl) (door_met os _)) ?_
  intro W base args ds gs before hval0 hW _ _ hL _
  have hval : ∀ (j : Nat) t v, Tryd.f8.params[j]? = some t → args[j]? = some v → Value.okWide Tryd.prog W .any base t v := hval0
  have hW' := hW
  obtain ⟨p, q, hA0, hV, rfl, hfz, hnd⟩ := hW
  have hA : DataW.TrodAll enc Tryd.prog W 0 (fun _ => true) true Tryd.f8.params.toList args.toList ds p := hA0
  rw [Tryd.params8] at hA hval
  obtain ⟨v0, vs0, d0, ds0, p0, q0, hargs, rfl, rfl, h0, r0⟩ := trodAll_cons hA
  obtain ⟨v1, vs1, d1, ds1, p1, q1, rfl, rfl, rfl, h1, r1⟩ := trodAll_cons r0
  obtain ⟨v2, vs2, d2, ds2, p2, q2, rfl, rfl, rfl, h2, r2⟩ := trodAll_cons r1
  obtain ⟨rfl, rfl, rfl⟩ := trodAll_nil r2
  obtain rfl : args = #[v0, v1, v2] := by cases args; simp_all
  obtain ⟨rfl, rfl⟩ := trodVars_none hV
  have lt0 : ∀ x ∈ p0, x.block < W.heap.size := by obtain ⟨m, hm⟩ := h0; exact DataW.trod_lt m _ _ _ hm
  have a0 := Eng.argv_of (hval 0 22 v0 rfl rfl) h0
  have lt1 : ∀ x ∈ p1, x.block < W.heap.size := by obtain ⟨m, hm⟩ := h1; exact DataW.trod_lt m _ _ _ hm
  have a1 := Eng.argv_of (hval 1 22 v1 rfl rfl) h1
  have lt2 : ∀ x ∈ p2, x.block < W.heap.size := by obtain ⟨m, hm⟩ := h2; exact DataW.trod_lt m _ _ _ hm
  have a2 := Eng.argv_of (hval 2 22 v2 rfl rfl) h2
  clear hA0 hval0
  refine Calls.mono (kmerges_walk W (laid_kc hL) v0 a0 v1 a1 v2 a2) fun e W' ⟨v, he, hv, hm⟩ => ?_
  subst he
  subst hv
  have bel := hm.below
  exact ⟨_, rfl, _, _, _, [], _, [], hW', trodAll_mk1 (shut_bool Tryd.underlying4 _), (trodAll_cons_mk (Below.trod laidOut (by kernel_rfl) (of_decide_eq_true (by kernel_rfl)) h0 bel lt0) (trodAll_cons_mk (Below.trod laidOut (by kernel_rfl) (of_decide_eq_true (by kernel_rfl)) h1 bel lt1) (trodAll_cons_mk (Below.trod laidOut (by kernel_rfl) (of_decide_eq_true (by kernel_rfl)) h2 bel lt2) trodAll_mk0))), rfl, bel.frame _, fun h => by cases h⟩

theorem over : Rows.keyringMergesRow.holds Tryd.pinned (OpenSpec.ofChange Rows.keyringMergesSpec) :=
  OpenClaim.holds_of_wide 8 Tryd.f8 rfl rfl rfl rfl rfl rfl rfl ⟨rfl, rfl, rfl, rfl, rfl⟩ rfl rfl rfl rfl rfl (by kernel_rfl) Tryd.func8 (by kernel_rfl)
    (of_decide_eq_true (by kernel_rfl)) (by unfold Func.isWrapper; first | (rw [if_pos (by decide +kernel)]; kernel_rfl) | (rw [if_neg (by decide +kernel)]; exact ⟨rfl, rfl⟩))
    (fun os started H enc _ => lifted os started H enc)
end keyringMerges
/-- the statement: the tied card -/
theorem keyringMerges_holds : Rows.KeyringMergesCardSaid :=
  Claim7.holds_tied_plain_at .later [] [.data] true (true, "c0ab8a36735131c8a9cd87cc07d7b40f6a8e739a1cb5823313f320602ea95481") false
    keyringMerges.over (fun _ h => by cases h) (by kernel_rfl) (fun _ h => by cases h) keyringMerges_row_tie rfl ⟨rfl, rfl⟩ (by kernel_rfl) rfl
    (fun f fn hf hfn => by
      obtain rfl : f = 8 := Option.some.inj ((show Tryd.prog.funcNamed "bulletin/bulletinlaw19.KeyringMerges" = some 8 by kernel_rfl).symm.trans hf) |>.symm
      obtain rfl : fn = Tryd.f8 := (Option.some.inj (Tryd.func8.symm.trans hfn)).symm
      exact ⟨by kernel_rfl, fun j t ht => by
        rw [Tryd.params8] at ht
        have ht := List.mem_of_getElem? (by simpa using ht)
        have key : ∀ t ∈ ([22, 22, 22] : List TypeId), Tryd.prog.wantsStandIn t = false := by
          intro t ht
          simp only [List.mem_cons, List.not_mem_nil, or_false] at ht
          rcases ht with rfl | rfl | rfl <;> kernel_rfl
        exact key t (by simpa using ht)⟩)
    (by kernel_rfl)
#print axioms keyringMerges_holds
end Go.Proofs.YtbkgibgomohdjaaDoor
