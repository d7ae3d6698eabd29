/-
  SupersedeOne returns true for every input. No condition.
-/
import Derived.Test.YtmjmichghfepkaaRows
import Derived.Test.YtmjmichghfepkaaSupT
namespace Go.Proofs.Ytmjmichghfepkaa
open Go.Eng Go.RowKit Go.Sort

theorem subG_refl (g : UInt8) : subG g g = true := by rw [subG_iff]; exact fun i _ h => h
theorem one_wd {L : List RR} {a b : RR} (ha : a ∈ L) (hb : b ∈ L) (hid : a.id ≠ b.id) (h1 : a.sup = b.sup) (h2 : a.sup ≠ vz) (h3 : a.sup ≠ a.id) (h4 : b.sup ≠ b.id) (h5 : a.au = b.au) (h6 : a.g = b.g) : wd L a = true ∨ wd L b = true := by
  cases hl : ltB a b with
  | true => exact .inr (wd_iff.2 ⟨a, ha, .inr (outd_iff.2 ⟨hid, h2, h3, h1, h5, by rw [h6]; exact subG_refl _, hl⟩)⟩)
  | false =>
    have hl2 : ltB b a = true := by
      cases hc : ltB b a with
      | true => rfl
      | false => exact absurd (ltB_tot hl hc) hid
    exact .inl (wd_iff.2 ⟨b, hb, .inr (outd_iff.2 ⟨Ne.symm hid, by rw [← h1]; exact h2, h4, h1.symm, h5.symm, by rw [h6]; exact subG_refl _, hl2⟩)⟩)
theorem one_not {a b : Bool} (h : a = true ∨ b = true) (h1 : (!a) = true) : (!b) = false := by cases a <;> cases b <;> simp_all
theorem nd_ne {L : List RR} (hn : (L.map RR.id).Nodup) {i k : Nat} {a b : RR} (ha : L[i]? = some a) (hb : L[k]? = some b) (hik : k < i) : a.id ≠ b.id := by
  rw [List.Nodup, List.pairwise_map] at hn
  obtain ⟨h1, h2⟩ := List.getElem?_eq_some_iff.1 ha
  obtain ⟨h3, h4⟩ := List.getElem?_eq_some_iff.1 hb
  have := List.pairwise_iff_getElem.1 hn k i h3 h1 hik
  rw [h2, h4] at this
  exact Ne.symm this
theorem one_walk (w : World) (v0 : Value) (a0 : ArgV Try.prog w 22 v0) : Ret Try.prog 7 #[v0] w fun r w' => r = .bool true ∧ Mod [] w w' := by
  obtain ⟨ad, cap, L, rfl, hc, hcm, hr⟩ := argv_rs a0
  unfold maxLen at hcm
  have hs := Sat.start w
  have hrf := hr.first (i := min L.length 24) (by omega)
  have hlt : L.take (min L.length 24) = L.take 24 := by
    rcases Nat.le_total L.length 24 with h | h
    · rw [Nat.min_eq_left h, List.take_of_length_le (by omega), List.take_of_length_le (by omega)]
    · rw [Nat.min_eq_right h]
  rw [hlt] at hrf
  have hl24 : (L.take 24).length = min L.length 24 := by rw [List.length_take]; omega
  refine Ret.enter (n := 96) (args := [.slice ad L.length cap]) Try.func7 rfl rfl ?_
  refine C.keep [(0, _)] ⟨rfl, trivial⟩ ?_
  refine C.seq ?_
  refine C.region ?_
  refine R.ev rfl (E.assign rfl) ?_
  refine R.done ?_
  refine X.keep [(0, _)] ⟨rfl, trivial⟩ ?_
  refine X.next ?_
  refine C.seq ?_
  refine C.region ?_
  refine R.ev rfl (E.move rfl) ?_
  refine R.call ⟨_, _, Try.func13, rfl, by kernel_rfl⟩ rfl rfl (rows_any (L := L) hs (by omega)) ?_
  rintro _ w1 ⟨K1, v1, F1, A, rfl, hk1, r1, hA, hG, hs⟩
  have o1 : OneC v1 := ⟨RowL.oneC⟩
  have hAl : A.length = min L.length 24 := by have := congrArg List.length hA; rw [List.length_map] at this; omega
  generalize hL0 : L.take 24 = L0 at hrf hl24 hA
  generalize hnn : min L.length 24 = nn at hrf hl24 hAl
  refine R.ev rfl (E.move rfl) ?_
  refine R.ev rfl (E.extract rfl rfl) ?_
  refine R.ev rfl (E.extract rfl rfl) ?_
  refine R.ev rfl (E.assign rfl) ?_
  refine R.ev rfl (E.assign rfl) ?_
  refine R.done ?_
  refine X.keep [(3, _), (4, _)] ⟨rfl, rfl, trivial⟩ ?_
  refine X.next ?_
  refine C.seq ?_
  refine C.seq ?_
  refine C.region ?_
  refine R.call ⟨_, _, Try.func16, rfl, by kernel_rfl⟩ rfl rfl (known_any hs) ?_
  rintro _ w2 ⟨rfl, hs⟩
  refine R.ev rfl (E.notT rfl) ?_
  refine R.done ?_
  refine X.keep [(3, _), (4, _), (17, _)] ⟨rfl, rfl, rfl, trivial⟩ ?_
  refine X.next ?_
  refine C.cfalse rfl ?_
  refine C.skip ?_
  refine X.next ?_
  refine C.seq ?_
  refine C.region ?_
  refine R.ev rfl (E.move rfl) ?_
  refine R.call ⟨_, _, Try.func26, rfl, by kernel_rfl⟩ rfl rfl (set_any (A := A) hG (by omega) hs) ?_
  rintro _ w4 ⟨K4, p, M, F4, L', ok, rfl, hk4, hI, hGM, hw, hok, hs⟩
  rw [hA] at hok
  refine R.ev rfl (E.move rfl) ?_
  refine R.ev rfl (E.extract rfl rfl) ?_
  refine R.ev rfl (E.extract rfl rfl) ?_
  refine R.ev rfl (E.assign rfl) ?_
  refine R.ev rfl (E.assign rfl) ?_
  refine R.done ?_
  refine X.keep [(4, _), (5, _), (6, _)] ⟨rfl, rfl, rfl, trivial⟩ ?_
  refine X.next ?_
  refine C.seq ?_
  refine C.seq ?_
  refine C.region ?_
  refine R.ev rfl (E.assign rfl) ?_
  refine R.done ?_
  refine X.keep [(4, _), (5, _), (6, _), (7, _)] ⟨rfl, rfl, rfl, rfl, trivial⟩ ?_
  refine X.next ?_
  refine C.block ?_
  refine C.loop  [(4, _), (5, _), (6, _)] (fun i => [(7, .int .i64 (i : Nat))]) (fun i w' => i ≤ nn ∧ Sat K4 w' (F4 :: [])) (fun i => nn - i) (0) ⟨rfl, rfl, rfl, rfl, trivial⟩ ⟨Nat.zero_le _, hs.to⟩ ?_
  rintro i w5 ⟨hi, hs⟩
  refine C.keep [(4, _), (5, _), (6, _), (7, _)] ⟨rfl, rfl, rfl, rfl, trivial⟩ ?_
  refine C.seq ?_
  refine C.seq ?_
  refine C.region ?_
  refine R.ev rfl (E.move rfl) ?_
  refine R.ev rfl (E.move rfl) ?_
  refine R.ev rfl (E.lenSl rfl Try.underlying22) ?_
  refine R.ev rfl (E.lss rfl rfl) ?_
  refine R.ev rfl (E.move rfl) ?_
  refine R.split 27 rfl (fun h27 => ?_) (fun h27 => ?_)
  · refine R.gyes rfl rfl ?_
    refine R.ev rfl (E.move rfl) ?_
    refine R.ev rfl (E.pickT rfl rfl) ?_
    refine R.done ?_
    refine X.keep [(4, _), (5, _), (6, _), (7, _), (29, _)] ⟨rfl, rfl, rfl, rfl, rfl, trivial⟩ ?_
    refine X.next ?_
    refine C.cbool rfl (fun h29 => ?_) (fun h29 => ?_)
    · refine C.skip ?_
      refine X.next ?_
      refine C.seq ?_
      refine C.block ?_
      refine C.seq ?_
      refine C.region ?_
      have hil : i < nn := by have := of_decide_eq_true h27; omega
      have hLL := hok h29
      obtain ⟨a, bk, of, ha, ma, la, rfl, Aa⟩ := (hs.to (Hs := [])).el (i := i) (ad := ad) (n := nn) (c := cap) hil
      refine R.ev rfl (E.assign rfl) ?_
      refine R.done ?_
      refine X.keep [(4, _), (5, _), (6, _), (7, _), (8, _)] ⟨rfl, rfl, rfl, rfl, rfl, trivial⟩ ?_
      refine X.next ?_
      refine C.block ?_
      refine C.loop  [(4, _), (5, _), (6, _), (7, _)] (fun k => [(8, .int .i64 (k : Nat))]) (fun k w' => k ≤ i ∧ Sat K4 w' (F4 :: [])) (fun k => i - k) (0) ⟨rfl, rfl, rfl, rfl, rfl, trivial⟩ ⟨Nat.zero_le _, hs.to⟩ ?_
      rintro k w6 ⟨hk, hs⟩
      refine C.keep [(4, _), (5, _), (6, _), (7, _), (8, _)] ⟨rfl, rfl, rfl, rfl, rfl, trivial⟩ ?_
      refine C.seq ?_
      refine C.seq ?_
      refine C.region ?_
      refine R.ev rfl (E.move rfl) ?_
      refine R.ev rfl (E.move rfl) ?_
      refine R.ev rfl (E.lss rfl rfl) ?_
      refine R.done ?_
      refine X.keep [(4, _), (5, _), (6, _), (7, _), (8, _), (34, _)] ⟨rfl, rfl, rfl, rfl, rfl, rfl, trivial⟩ ?_
      refine X.next ?_
      refine C.cdec rfl (fun h34 => ?_) (fun h34 => ?_)
      · obtain ⟨b, hb⟩ : ∃ b, L0[k]? = some b := ⟨_, List.getElem?_eq_getElem (by omega)⟩
        have mb : b ∈ L0 := List.mem_of_getElem? hb
        have Ab := (hs.to (Hs := [])).elAt (b := bk) (off := of) (n := nn) cap hb
        refine C.skip ?_
        refine X.next ?_
        refine C.seq ?_
        refine C.block ?_
        refine C.seq ?_
        refine C.drawn (SatS hs) ([3, 7], [0, 1, 2, 4, 5, 6]) (by kernel_rfl) ?_
        have hs := hs.drew
        refine D.evP 0 rfl (by kernel_rfl) rfl (fun _ => hs.to) (fun _ => E.move rfl) ?_
        refine D.evP 1 rfl (by kernel_rfl) rfl (fun _ => hs.to) (fun _ => E.move rfl) ?_
        refine D.evP 2 rfl (by kernel_rfl) rfl (fun _ => hs.to) (fun _ => E.indexAddr (i := i) rfl rfl Try.underlying22 Try.sz26 rfl (by omega)) ?_
        refine D.evP 4 rfl (by kernel_rfl) rfl (fun _ => hs.to) (fun _ => E.move rfl) ?_
        refine D.evP 5 rfl (by kernel_rfl) rfl (fun _ => hs.to) (fun _ => E.move rfl) ?_
        refine D.evP 6 rfl (by kernel_rfl) rfl (fun _ => hs.to) (fun _ => E.indexAddr (i := k) rfl rfl Try.underlying22 Try.sz26 rfl (by omega)) ?_
        refine D.ev 3 rfl (by kernel_rfl) rfl hs.to (fun _ hS => E.loadRow rfl Try.underlying26 rfl Try.sz26 (Aa _ hS.to) (Enc.len _)) ?_
        refine D.ev 7 rfl (by kernel_rfl) rfl hs.to (fun _ hS => E.loadRow rfl Try.underlying26 rfl Try.sz26 (Ab _ hS.to) (Enc.len _)) ?_
        refine D.act2 8 9 rfl rfl (by kernel_rfl) ?_ ?_
        · refine R.sallocA hs Try.zr26 rfl ?_
          intro b9 w9 hs
          refine D.back hs.to ?_
          refine D.act 9 rfl (by kernel_rfl) ?_
          refine R.sallocA hs Try.zr26 rfl ?_
          intro b10 w10 hs
          refine D.back hs.to ?_
          refine D.act 10 rfl (by kernel_rfl) ?_
          first | refine R.cstoreAll hs rfl rfl Try.sz26 (by first | rfl | assumption | exact encV_len _ | exact Enc.len _ | exact len_ub (by assumption) | simp [*]) (by first | rfl | assumption | exact encV_len _ | exact Enc.len _ | exact len_ub (by assumption) | simp [*]) (by first | assumption | exact OneL.all | exact Enc.one _ | exact ub_all _ | (repeat' (first | refine List.forall_mem_cons.2 ⟨?_, ?_⟩ | exact List.forall_mem_nil _ | rfl | exact OneC.one | exact KRow.oneC' (by assumption)))) ?_ | refine R.cstore hs rfl rfl Try.sz26 (by first | rfl | assumption | exact encV_len _ | exact Enc.len _ | exact len_ub (by assumption) | simp [*]) (by simp [*]) (by first | assumption | exact OneL.all | exact Enc.one _ | exact ub_all _ | (repeat' (first | refine List.forall_mem_cons.2 ⟨?_, ?_⟩ | exact List.forall_mem_nil _ | rfl | exact OneC.one | exact KRow.oneC' (by assumption)))) ?_
          intro w11_10 hs
          try simp only [List.set_cons_zero, List.set_cons_succ] at hs
          refine D.back hs.to ?_
          refine D.act 11 rfl (by kernel_rfl) ?_
          first | refine R.cstoreAll hs rfl rfl Try.sz26 (by first | rfl | assumption | exact encV_len _ | exact Enc.len _ | exact len_ub (by assumption) | simp [*]) (by first | rfl | assumption | exact encV_len _ | exact Enc.len _ | exact len_ub (by assumption) | simp [*]) (by first | assumption | exact OneL.all | exact Enc.one _ | exact ub_all _ | (repeat' (first | refine List.forall_mem_cons.2 ⟨?_, ?_⟩ | exact List.forall_mem_nil _ | rfl | exact OneC.one | exact KRow.oneC' (by assumption)))) ?_ | refine R.cstore hs rfl rfl Try.sz26 (by first | rfl | assumption | exact encV_len _ | exact Enc.len _ | exact len_ub (by assumption) | simp [*]) (by simp [*]) (by first | assumption | exact OneL.all | exact Enc.one _ | exact ub_all _ | (repeat' (first | refine List.forall_mem_cons.2 ⟨?_, ?_⟩ | exact List.forall_mem_nil _ | rfl | exact OneC.one | exact KRow.oneC' (by assumption)))) ?_
          intro w11_11 hs
          try simp only [List.set_cons_zero, List.set_cons_succ] at hs
          refine D.backT (by kernel_rfl) ?_
          refine D.done rfl (by kernel_rfl) ?_
          refine X.keep [(4, _), (5, _), (6, _), (7, _), (8, _), (9, _), (10, _)] ⟨rfl, rfl, rfl, rfl, rfl, rfl, rfl, trivial⟩ ?_
          refine X.next ?_
          refine C.seq ?_
          refine C.seq ?_
          refine C.region ?_
          first | refine R.ev rfl (E.fieldAddr0 49 rfl Try.underlying26 rfl Try.sz23 rfl) ?_ | refine R.ev rfl (E.fieldAddrN 49 rfl Try.underlying26 rfl Try.sz23 rfl) ?_
          refine R.ev rfl (E.loadRowC rfl Try.underlying23 rfl Try.sz23 (by first | exact ⟨hs.ldA, by first | rfl | assumption | exact encV_len _ | exact Enc.len _ | exact len_ub (by assumption)⟩ | exact ⟨hs.ldP rfl, by first | rfl | assumption | exact encV_len _ | exact Enc.len _ | exact len_ub (by assumption)⟩ | exact ⟨hs.ldM rfl rfl, by first | rfl | assumption | exact encV_len _ | exact Enc.len _ | exact len_ub (by assumption)⟩ | exact ⟨hs.ldM (by assumption) (by first | rfl | assumption), by first | rfl | assumption | exact encV_len _ | exact Enc.len _ | exact len_ub (by assumption)⟩ | exact ⟨by assumption, by first | rfl | assumption | exact encV_len _ | exact Enc.len _ | exact len_ub (by assumption)⟩ | exact hs.ldp | exact At.partC (by assumption))) ?_
          first | refine R.ev rfl (E.fieldAddr0 49 rfl Try.underlying26 rfl Try.sz23 rfl) ?_ | refine R.ev rfl (E.fieldAddrN 49 rfl Try.underlying26 rfl Try.sz23 rfl) ?_
          refine R.ev rfl (E.loadRowC rfl Try.underlying23 rfl Try.sz23 (by first | exact ⟨hs.ldA, by first | rfl | assumption | exact encV_len _ | exact Enc.len _ | exact len_ub (by assumption)⟩ | exact ⟨hs.ldP rfl, by first | rfl | assumption | exact encV_len _ | exact Enc.len _ | exact len_ub (by assumption)⟩ | exact ⟨hs.ldM rfl rfl, by first | rfl | assumption | exact encV_len _ | exact Enc.len _ | exact len_ub (by assumption)⟩ | exact ⟨hs.ldM (by assumption) (by first | rfl | assumption), by first | rfl | assumption | exact encV_len _ | exact Enc.len _ | exact len_ub (by assumption)⟩ | exact ⟨by assumption, by first | rfl | assumption | exact encV_len _ | exact Enc.len _ | exact len_ub (by assumption)⟩ | exact hs.ldp | exact At.partC (by assumption))) ?_
          first | refine R.ev rfl (E.neV 10 rfl rfl Try.lv23 rfl Try.underlying23 rfl Try.gd23) ?_ | refine R.ev rfl (E.neId 10 32 rfl rfl Try.lv23 rfl Try.underlying23 rfl Try.gd23 (by assumption) (by assumption)) ?_
          refine R.ev rfl (E.move rfl) ?_
          refine R.split 50 rfl (fun h50 => ?_) (fun h50 => ?_)
          · refine R.gskip rfl rfl rfl ?_
            refine R.gskip rfl rfl rfl ?_
            refine R.gskip rfl rfl rfl ?_
            refine R.gskip rfl rfl rfl ?_
            refine R.ev rfl (E.pickT rfl rfl) ?_
            refine R.ev rfl (E.move rfl) ?_
            refine R.gskip rfl rfl rfl ?_
            refine R.gskip rfl rfl rfl ?_
            refine R.gskip rfl rfl rfl ?_
            refine R.gskip rfl rfl rfl ?_
            refine R.gskip rfl rfl rfl ?_
            refine R.ev rfl (E.pickT rfl rfl) ?_
            refine R.ev rfl (E.move rfl) ?_
            refine R.gskip rfl rfl rfl ?_
            refine R.gskip rfl rfl rfl ?_
            refine R.gskip rfl rfl rfl ?_
            refine R.gskip rfl rfl rfl ?_
            refine R.gskip rfl rfl rfl ?_
            refine R.ev rfl (E.pickT rfl rfl) ?_
            refine R.ev rfl (E.move rfl) ?_
            refine R.gskip rfl rfl rfl ?_
            refine R.gskip rfl rfl rfl ?_
            refine R.gskip rfl rfl rfl ?_
            refine R.gskip rfl rfl rfl ?_
            refine R.gskip rfl rfl rfl ?_
            refine R.ev rfl (E.pickT rfl rfl) ?_
            refine R.ev rfl (E.move rfl) ?_
            refine R.gskip rfl rfl rfl ?_
            refine R.gskip rfl rfl rfl ?_
            refine R.gskip rfl rfl rfl ?_
            refine R.gskip rfl rfl rfl ?_
            refine R.gskip rfl rfl rfl ?_
            refine R.ev rfl (E.pickT rfl rfl) ?_
            refine R.done ?_
            refine X.keep [(4, _), (5, _), (6, _), (7, _), (8, _), (9, _), (10, _), (83, _)] ⟨rfl, rfl, rfl, rfl, rfl, rfl, rfl, rfl, trivial⟩ ?_
            refine X.next ?_
            refine C.ctrue rfl ?_
            refine C.exit ?_
            refine X.thenExit ?_
            refine X.blockExit ?_
            refine X.next ?_
            refine C.region ?_
            refine R.ev rfl (E.move rfl) ?_
            refine R.ev rfl (E.add rfl rfl (by omega) (by omega)) ?_
            refine R.ev rfl (E.assign rfl) ?_
            refine R.done ?_
            refine X.keep [(4, _), (5, _), (6, _), (7, _), (8, _)] ⟨rfl, rfl, rfl, rfl, rfl, trivial⟩ ?_
            exact X.again (k + 1) ⟨rfl, rfl, rfl, rfl, rfl, trivial⟩ ⟨by omega, hs.to⟩ (by omega)
          · refine R.gyes rfl rfl ?_
            first | refine R.ev rfl (E.fieldAddr0 49 rfl Try.underlying26 rfl Try.sz23 rfl) ?_ | refine R.ev rfl (E.fieldAddrN 49 rfl Try.underlying26 rfl Try.sz23 rfl) ?_
            refine R.gyes rfl rfl ?_
            refine R.ev rfl (E.loadRowC rfl Try.underlying23 rfl Try.sz23 (by first | exact ⟨hs.ldA, by first | rfl | assumption | exact encV_len _ | exact Enc.len _ | exact len_ub (by assumption)⟩ | exact ⟨hs.ldP rfl, by first | rfl | assumption | exact encV_len _ | exact Enc.len _ | exact len_ub (by assumption)⟩ | exact ⟨hs.ldM rfl rfl, by first | rfl | assumption | exact encV_len _ | exact Enc.len _ | exact len_ub (by assumption)⟩ | exact ⟨hs.ldM (by assumption) (by first | rfl | assumption), by first | rfl | assumption | exact encV_len _ | exact Enc.len _ | exact len_ub (by assumption)⟩ | exact ⟨by assumption, by first | rfl | assumption | exact encV_len _ | exact Enc.len _ | exact len_ub (by assumption)⟩ | exact hs.ldp | exact At.partC (by assumption))) ?_
            refine R.gyes rfl rfl ?_
            refine R.ev rfl ((E.buildA rfl Try.underlying23 Try.zr23 Try.sz5 rfl).as (u := .agg (encV vz).toArray) (by rfl)) ?_
            refine R.gyes rfl rfl ?_
            first | refine R.ev rfl (E.eqV 10 rfl rfl Try.lv23 rfl Try.underlying23 rfl Try.gd23) ?_ | refine R.ev rfl (E.eqId 10 32 rfl rfl Try.lv23 rfl Try.underlying23 rfl Try.gd23 (by assumption) (by assumption)) ?_
            refine R.ev rfl (E.pickF rfl rfl) ?_
            refine R.ev rfl (E.move rfl) ?_
            refine R.split 56 rfl (fun h56 => ?_) (fun h56 => ?_)
            · refine R.gskip rfl rfl rfl ?_
              refine R.gskip rfl rfl rfl ?_
              refine R.gskip rfl rfl rfl ?_
              refine R.gskip rfl rfl rfl ?_
              refine R.gskip rfl rfl rfl ?_
              refine R.ev rfl (E.pickT rfl rfl) ?_
              refine R.ev rfl (E.move rfl) ?_
              refine R.gskip rfl rfl rfl ?_
              refine R.gskip rfl rfl rfl ?_
              refine R.gskip rfl rfl rfl ?_
              refine R.gskip rfl rfl rfl ?_
              refine R.gskip rfl rfl rfl ?_
              refine R.ev rfl (E.pickT rfl rfl) ?_
              refine R.ev rfl (E.move rfl) ?_
              refine R.gskip rfl rfl rfl ?_
              refine R.gskip rfl rfl rfl ?_
              refine R.gskip rfl rfl rfl ?_
              refine R.gskip rfl rfl rfl ?_
              refine R.gskip rfl rfl rfl ?_
              refine R.ev rfl (E.pickT rfl rfl) ?_
              refine R.ev rfl (E.move rfl) ?_
              refine R.gskip rfl rfl rfl ?_
              refine R.gskip rfl rfl rfl ?_
              refine R.gskip rfl rfl rfl ?_
              refine R.gskip rfl rfl rfl ?_
              refine R.gskip rfl rfl rfl ?_
              refine R.ev rfl (E.pickT rfl rfl) ?_
              refine R.done ?_
              refine X.keep [(4, _), (5, _), (6, _), (7, _), (8, _), (9, _), (10, _), (83, _)] ⟨rfl, rfl, rfl, rfl, rfl, rfl, rfl, rfl, trivial⟩ ?_
              refine X.next ?_
              refine C.ctrue rfl ?_
              refine C.exit ?_
              refine X.thenExit ?_
              refine X.blockExit ?_
              refine X.next ?_
              refine C.region ?_
              refine R.ev rfl (E.move rfl) ?_
              refine R.ev rfl (E.add rfl rfl (by omega) (by omega)) ?_
              refine R.ev rfl (E.assign rfl) ?_
              refine R.done ?_
              refine X.keep [(4, _), (5, _), (6, _), (7, _), (8, _)] ⟨rfl, rfl, rfl, rfl, rfl, trivial⟩ ?_
              exact X.again (k + 1) ⟨rfl, rfl, rfl, rfl, rfl, trivial⟩ ⟨by omega, hs.to⟩ (by omega)
            · refine R.gyes rfl rfl ?_
              first | refine R.ev rfl (E.fieldAddr0 49 rfl Try.underlying26 rfl Try.sz23 rfl) ?_ | refine R.ev rfl (E.fieldAddrN 49 rfl Try.underlying26 rfl Try.sz23 rfl) ?_
              refine R.gyes rfl rfl ?_
              refine R.ev rfl (E.loadRowC rfl Try.underlying23 rfl Try.sz23 (by first | exact ⟨hs.ldA, by first | rfl | assumption | exact encV_len _ | exact Enc.len _ | exact len_ub (by assumption)⟩ | exact ⟨hs.ldP rfl, by first | rfl | assumption | exact encV_len _ | exact Enc.len _ | exact len_ub (by assumption)⟩ | exact ⟨hs.ldM rfl rfl, by first | rfl | assumption | exact encV_len _ | exact Enc.len _ | exact len_ub (by assumption)⟩ | exact ⟨hs.ldM (by assumption) (by first | rfl | assumption), by first | rfl | assumption | exact encV_len _ | exact Enc.len _ | exact len_ub (by assumption)⟩ | exact ⟨by assumption, by first | rfl | assumption | exact encV_len _ | exact Enc.len _ | exact len_ub (by assumption)⟩ | exact hs.ldp | exact At.partC (by assumption))) ?_
              refine R.gyes rfl rfl ?_
              first | refine R.ev rfl (E.fieldAddr0 0 rfl Try.underlying26 rfl Try.sz23 rfl) ?_ | refine R.ev rfl (E.fieldAddrN 0 rfl Try.underlying26 rfl Try.sz23 rfl) ?_
              refine R.gyes rfl rfl ?_
              refine R.ev rfl (E.loadRowC rfl Try.underlying23 rfl Try.sz23 (by first | exact ⟨hs.ldA, by first | rfl | assumption | exact encV_len _ | exact Enc.len _ | exact len_ub (by assumption)⟩ | exact ⟨hs.ldP rfl, by first | rfl | assumption | exact encV_len _ | exact Enc.len _ | exact len_ub (by assumption)⟩ | exact ⟨hs.ldM rfl rfl, by first | rfl | assumption | exact encV_len _ | exact Enc.len _ | exact len_ub (by assumption)⟩ | exact ⟨hs.ldM (by assumption) (by first | rfl | assumption), by first | rfl | assumption | exact encV_len _ | exact Enc.len _ | exact len_ub (by assumption)⟩ | exact ⟨by assumption, by first | rfl | assumption | exact encV_len _ | exact Enc.len _ | exact len_ub (by assumption)⟩ | exact hs.ldp | exact At.partC (by assumption))) ?_
              refine R.gyes rfl rfl ?_
              first | refine R.ev rfl (E.eqV 10 rfl rfl Try.lv23 rfl Try.underlying23 rfl Try.gd23) ?_ | refine R.ev rfl (E.eqId 10 32 rfl rfl Try.lv23 rfl Try.underlying23 rfl Try.gd23 (by assumption) (by assumption)) ?_
              refine R.ev rfl (E.pickF rfl rfl) ?_
              refine R.ev rfl (E.move rfl) ?_
              refine R.split 63 rfl (fun h63 => ?_) (fun h63 => ?_)
              · refine R.gskip rfl rfl rfl ?_
                refine R.gskip rfl rfl rfl ?_
                refine R.gskip rfl rfl rfl ?_
                refine R.gskip rfl rfl rfl ?_
                refine R.gskip rfl rfl rfl ?_
                refine R.ev rfl (E.pickT rfl rfl) ?_
                refine R.ev rfl (E.move rfl) ?_
                refine R.gskip rfl rfl rfl ?_
                refine R.gskip rfl rfl rfl ?_
                refine R.gskip rfl rfl rfl ?_
                refine R.gskip rfl rfl rfl ?_
                refine R.gskip rfl rfl rfl ?_
                refine R.ev rfl (E.pickT rfl rfl) ?_
                refine R.ev rfl (E.move rfl) ?_
                refine R.gskip rfl rfl rfl ?_
                refine R.gskip rfl rfl rfl ?_
                refine R.gskip rfl rfl rfl ?_
                refine R.gskip rfl rfl rfl ?_
                refine R.gskip rfl rfl rfl ?_
                refine R.ev rfl (E.pickT rfl rfl) ?_
                refine R.done ?_
                refine X.keep [(4, _), (5, _), (6, _), (7, _), (8, _), (9, _), (10, _), (83, _)] ⟨rfl, rfl, rfl, rfl, rfl, rfl, rfl, rfl, trivial⟩ ?_
                refine X.next ?_
                refine C.ctrue rfl ?_
                refine C.exit ?_
                refine X.thenExit ?_
                refine X.blockExit ?_
                refine X.next ?_
                refine C.region ?_
                refine R.ev rfl (E.move rfl) ?_
                refine R.ev rfl (E.add rfl rfl (by omega) (by omega)) ?_
                refine R.ev rfl (E.assign rfl) ?_
                refine R.done ?_
                refine X.keep [(4, _), (5, _), (6, _), (7, _), (8, _)] ⟨rfl, rfl, rfl, rfl, rfl, trivial⟩ ?_
                exact X.again (k + 1) ⟨rfl, rfl, rfl, rfl, rfl, trivial⟩ ⟨by omega, hs.to⟩ (by omega)
              · refine R.gyes rfl rfl ?_
                first | refine R.ev rfl (E.fieldAddr0 49 rfl Try.underlying26 rfl Try.sz23 rfl) ?_ | refine R.ev rfl (E.fieldAddrN 49 rfl Try.underlying26 rfl Try.sz23 rfl) ?_
                refine R.gyes rfl rfl ?_
                refine R.ev rfl (E.loadRowC rfl Try.underlying23 rfl Try.sz23 (by first | exact ⟨hs.ldA, by first | rfl | assumption | exact encV_len _ | exact Enc.len _ | exact len_ub (by assumption)⟩ | exact ⟨hs.ldP rfl, by first | rfl | assumption | exact encV_len _ | exact Enc.len _ | exact len_ub (by assumption)⟩ | exact ⟨hs.ldM rfl rfl, by first | rfl | assumption | exact encV_len _ | exact Enc.len _ | exact len_ub (by assumption)⟩ | exact ⟨hs.ldM (by assumption) (by first | rfl | assumption), by first | rfl | assumption | exact encV_len _ | exact Enc.len _ | exact len_ub (by assumption)⟩ | exact ⟨by assumption, by first | rfl | assumption | exact encV_len _ | exact Enc.len _ | exact len_ub (by assumption)⟩ | exact hs.ldp | exact At.partC (by assumption))) ?_
                refine R.gyes rfl rfl ?_
                first | refine R.ev rfl (E.fieldAddr0 0 rfl Try.underlying26 rfl Try.sz23 rfl) ?_ | refine R.ev rfl (E.fieldAddrN 0 rfl Try.underlying26 rfl Try.sz23 rfl) ?_
                refine R.gyes rfl rfl ?_
                refine R.ev rfl (E.loadRowC rfl Try.underlying23 rfl Try.sz23 (by first | exact ⟨hs.ldA, by first | rfl | assumption | exact encV_len _ | exact Enc.len _ | exact len_ub (by assumption)⟩ | exact ⟨hs.ldP rfl, by first | rfl | assumption | exact encV_len _ | exact Enc.len _ | exact len_ub (by assumption)⟩ | exact ⟨hs.ldM rfl rfl, by first | rfl | assumption | exact encV_len _ | exact Enc.len _ | exact len_ub (by assumption)⟩ | exact ⟨hs.ldM (by assumption) (by first | rfl | assumption), by first | rfl | assumption | exact encV_len _ | exact Enc.len _ | exact len_ub (by assumption)⟩ | exact ⟨by assumption, by first | rfl | assumption | exact encV_len _ | exact Enc.len _ | exact len_ub (by assumption)⟩ | exact hs.ldp | exact At.partC (by assumption))) ?_
                refine R.gyes rfl rfl ?_
                first | refine R.ev rfl (E.eqV 10 rfl rfl Try.lv23 rfl Try.underlying23 rfl Try.gd23) ?_ | refine R.ev rfl (E.eqId 10 32 rfl rfl Try.lv23 rfl Try.underlying23 rfl Try.gd23 (by assumption) (by assumption)) ?_
                refine R.ev rfl (E.pickF rfl rfl) ?_
                refine R.ev rfl (E.move rfl) ?_
                refine R.split 70 rfl (fun h70 => ?_) (fun h70 => ?_)
                · refine R.gskip rfl rfl rfl ?_
                  refine R.gskip rfl rfl rfl ?_
                  refine R.gskip rfl rfl rfl ?_
                  refine R.gskip rfl rfl rfl ?_
                  refine R.gskip rfl rfl rfl ?_
                  refine R.ev rfl (E.pickT rfl rfl) ?_
                  refine R.ev rfl (E.move rfl) ?_
                  refine R.gskip rfl rfl rfl ?_
                  refine R.gskip rfl rfl rfl ?_
                  refine R.gskip rfl rfl rfl ?_
                  refine R.gskip rfl rfl rfl ?_
                  refine R.gskip rfl rfl rfl ?_
                  refine R.ev rfl (E.pickT rfl rfl) ?_
                  refine R.done ?_
                  refine X.keep [(4, _), (5, _), (6, _), (7, _), (8, _), (9, _), (10, _), (83, _)] ⟨rfl, rfl, rfl, rfl, rfl, rfl, rfl, rfl, trivial⟩ ?_
                  refine X.next ?_
                  refine C.ctrue rfl ?_
                  refine C.exit ?_
                  refine X.thenExit ?_
                  refine X.blockExit ?_
                  refine X.next ?_
                  refine C.region ?_
                  refine R.ev rfl (E.move rfl) ?_
                  refine R.ev rfl (E.add rfl rfl (by omega) (by omega)) ?_
                  refine R.ev rfl (E.assign rfl) ?_
                  refine R.done ?_
                  refine X.keep [(4, _), (5, _), (6, _), (7, _), (8, _)] ⟨rfl, rfl, rfl, rfl, rfl, trivial⟩ ?_
                  exact X.again (k + 1) ⟨rfl, rfl, rfl, rfl, rfl, trivial⟩ ⟨by omega, hs.to⟩ (by omega)
                · refine R.gyes rfl rfl ?_
                  first | refine R.ev rfl (E.fieldAddr0 32 rfl Try.underlying26 rfl Try.sz24 rfl) ?_ | refine R.ev rfl (E.fieldAddrN 32 rfl Try.underlying26 rfl Try.sz24 rfl) ?_
                  refine R.gyes rfl rfl ?_
                  refine R.ev rfl (E.loadRowC rfl Try.underlying24 rfl Try.sz24 (by first | exact ⟨hs.ldA, by first | rfl | assumption | exact encV_len _ | exact Enc.len _ | exact len_ub (by assumption)⟩ | exact ⟨hs.ldP rfl, by first | rfl | assumption | exact encV_len _ | exact Enc.len _ | exact len_ub (by assumption)⟩ | exact ⟨hs.ldM rfl rfl, by first | rfl | assumption | exact encV_len _ | exact Enc.len _ | exact len_ub (by assumption)⟩ | exact ⟨hs.ldM (by assumption) (by first | rfl | assumption), by first | rfl | assumption | exact encV_len _ | exact Enc.len _ | exact len_ub (by assumption)⟩ | exact ⟨by assumption, by first | rfl | assumption | exact encV_len _ | exact Enc.len _ | exact len_ub (by assumption)⟩ | exact hs.ldp | exact At.partC (by assumption))) ?_
                  refine R.gyes rfl rfl ?_
                  first | refine R.ev rfl (E.fieldAddr0 32 rfl Try.underlying26 rfl Try.sz24 rfl) ?_ | refine R.ev rfl (E.fieldAddrN 32 rfl Try.underlying26 rfl Try.sz24 rfl) ?_
                  refine R.gyes rfl rfl ?_
                  refine R.ev rfl (E.loadRowC rfl Try.underlying24 rfl Try.sz24 (by first | exact ⟨hs.ldA, by first | rfl | assumption | exact encV_len _ | exact Enc.len _ | exact len_ub (by assumption)⟩ | exact ⟨hs.ldP rfl, by first | rfl | assumption | exact encV_len _ | exact Enc.len _ | exact len_ub (by assumption)⟩ | exact ⟨hs.ldM rfl rfl, by first | rfl | assumption | exact encV_len _ | exact Enc.len _ | exact len_ub (by assumption)⟩ | exact ⟨hs.ldM (by assumption) (by first | rfl | assumption), by first | rfl | assumption | exact encV_len _ | exact Enc.len _ | exact len_ub (by assumption)⟩ | exact ⟨by assumption, by first | rfl | assumption | exact encV_len _ | exact Enc.len _ | exact len_ub (by assumption)⟩ | exact hs.ldp | exact At.partC (by assumption))) ?_
                  refine R.gyes rfl rfl ?_
                  first | refine R.ev rfl (E.neV 10 rfl rfl Try.lv24 rfl Try.underlying24 rfl Try.gd24) ?_ | refine R.ev rfl (E.neId 10 16 rfl rfl Try.lv24 rfl Try.underlying24 rfl Try.gd24 (by assumption) (by assumption)) ?_
                  refine R.ev rfl (E.pickF rfl rfl) ?_
                  refine R.ev rfl (E.move rfl) ?_
                  refine R.split 77 rfl (fun h77 => ?_) (fun h77 => ?_)
                  · refine R.gskip rfl rfl rfl ?_
                    refine R.gskip rfl rfl rfl ?_
                    refine R.gskip rfl rfl rfl ?_
                    refine R.gskip rfl rfl rfl ?_
                    refine R.gskip rfl rfl rfl ?_
                    refine R.ev rfl (E.pickT rfl rfl) ?_
                    refine R.done ?_
                    refine X.keep [(4, _), (5, _), (6, _), (7, _), (8, _), (9, _), (10, _), (83, _)] ⟨rfl, rfl, rfl, rfl, rfl, rfl, rfl, rfl, trivial⟩ ?_
                    refine X.next ?_
                    refine C.ctrue rfl ?_
                    refine C.exit ?_
                    refine X.thenExit ?_
                    refine X.blockExit ?_
                    refine X.next ?_
                    refine C.region ?_
                    refine R.ev rfl (E.move rfl) ?_
                    refine R.ev rfl (E.add rfl rfl (by omega) (by omega)) ?_
                    refine R.ev rfl (E.assign rfl) ?_
                    refine R.done ?_
                    refine X.keep [(4, _), (5, _), (6, _), (7, _), (8, _)] ⟨rfl, rfl, rfl, rfl, rfl, trivial⟩ ?_
                    exact X.again (k + 1) ⟨rfl, rfl, rfl, rfl, rfl, trivial⟩ ⟨by omega, hs.to⟩ (by omega)
                  · refine R.gyes rfl rfl ?_
                    first | refine R.ev rfl (E.fieldAddr0 81 rfl Try.underlying26 rfl Try.sz5 rfl) ?_ | refine R.ev rfl (E.fieldAddrN 81 rfl Try.underlying26 rfl Try.sz5 rfl) ?_
                    refine R.gyes rfl rfl ?_
                    refine R.ev rfl (E.load1 rfl Try.underlying5 rfl (by first | exact hs.ldc | exact hs.ld rfl | exact hs.ld (by assumption) | exact by assumption | exact At.cellC (by assumption))) ?_
                    refine R.gyes rfl rfl ?_
                    first | refine R.ev rfl (E.fieldAddr0 81 rfl Try.underlying26 rfl Try.sz5 rfl) ?_ | refine R.ev rfl (E.fieldAddrN 81 rfl Try.underlying26 rfl Try.sz5 rfl) ?_
                    refine R.gyes rfl rfl ?_
                    refine R.ev rfl (E.load1 rfl Try.underlying5 rfl (by first | exact hs.ldc | exact hs.ld rfl | exact hs.ld (by assumption) | exact by assumption | exact At.cellC (by assumption))) ?_
                    refine R.gyes rfl rfl ?_
                    refine R.ev rfl (E.neq rfl rfl) ?_
                    refine R.ev rfl (E.pickF rfl rfl) ?_
                    refine R.done ?_
                    refine X.keep [(4, _), (5, _), (6, _), (7, _), (8, _), (9, _), (10, _), (83, _)] ⟨rfl, rfl, rfl, rfl, rfl, rfl, rfl, rfl, trivial⟩ ?_
                    refine X.next ?_
                    refine C.cbool rfl (fun h83 => ?_) (fun h83 => ?_)
                    · refine C.exit ?_
                      refine X.thenExit ?_
                      refine X.blockExit ?_
                      refine X.next ?_
                      refine C.region ?_
                      refine R.ev rfl (E.move rfl) ?_
                      refine R.ev rfl (E.add rfl rfl (by omega) (by omega)) ?_
                      refine R.ev rfl (E.assign rfl) ?_
                      refine R.done ?_
                      refine X.keep [(4, _), (5, _), (6, _), (7, _), (8, _)] ⟨rfl, rfl, rfl, rfl, rfl, trivial⟩ ?_
                      exact X.again (k + 1) ⟨rfl, rfl, rfl, rfl, rfl, trivial⟩ ⟨by omega, hs.to⟩ (by omega)
                    · refine C.skip ?_
                      refine X.next ?_
                      refine C.seq ?_
                      refine C.region ?_
                      have hone := one_wd (L := L') (by rw [hLL]; exact ma) (by rw [hLL]; exact mb) (nd_ne (by rw [← hLL]; exact hI.nd) ha hb (by omega)) (Decidable.not_not.1 (of_decide_eq_false h50)) (of_decide_eq_false h56) (of_decide_eq_false h63) (of_decide_eq_false h70) (Decidable.not_not.1 (of_decide_eq_false h77)) (UInt8.toNat_inj.1 (by have := Decidable.not_not.1 (of_decide_eq_false h83); omega))
                      have hwa : wdId L' a.id = wd L' a := by rw [wdId, findR hI.nd (by rw [hLL]; exact ma) rfl]
                      have hwb : wdId L' b.id = wd L' b := by rw [wdId, findR hI.nd (by rw [hLL]; exact mb) rfl]
                      refine R.ev rfl (E.move rfl) ?_
                      first | refine R.ev rfl (E.fieldAddr0 0 rfl Try.underlying26 rfl Try.sz23 rfl) ?_ | refine R.ev rfl (E.fieldAddrN 0 rfl Try.underlying26 rfl Try.sz23 rfl) ?_
                      refine R.ev rfl (E.loadRowC rfl Try.underlying23 rfl Try.sz23 (by first | exact ⟨hs.ldA, by first | rfl | assumption | exact encV_len _ | exact Enc.len _ | exact len_ub (by assumption)⟩ | exact ⟨hs.ldP rfl, by first | rfl | assumption | exact encV_len _ | exact Enc.len _ | exact len_ub (by assumption)⟩ | exact ⟨hs.ldM rfl rfl, by first | rfl | assumption | exact encV_len _ | exact Enc.len _ | exact len_ub (by assumption)⟩ | exact ⟨hs.ldM (by assumption) (by first | rfl | assumption), by first | rfl | assumption | exact encV_len _ | exact Enc.len _ | exact len_ub (by assumption)⟩ | exact ⟨by assumption, by first | rfl | assumption | exact encV_len _ | exact Enc.len _ | exact len_ub (by assumption)⟩ | exact hs.ldp | exact At.partC (by assumption))) ?_
                      refine R.call ⟨_, _, Try.func27, rfl, by kernel_rfl⟩ rfl rfl (isWd_any a.id hI hGM hs) ?_
                      rintro _ w133 ⟨rfl, hs⟩
                      rw [hwa]
                      refine R.ev rfl ((E.not rfl).isB (c := !(wd L' a)) rfl) ?_
                      refine R.ev rfl (E.move rfl) ?_
                      refine R.split 89 rfl (fun h89 => ?_) (fun h89 => ?_)
                      · refine R.gyes rfl rfl ?_
                        refine R.ev rfl (E.move rfl) ?_
                        refine R.gyes rfl rfl ?_
                        first | refine R.ev rfl (E.fieldAddr0 0 rfl Try.underlying26 rfl Try.sz23 rfl) ?_ | refine R.ev rfl (E.fieldAddrN 0 rfl Try.underlying26 rfl Try.sz23 rfl) ?_
                        refine R.gyes rfl rfl ?_
                        refine R.ev rfl (E.loadRowC rfl Try.underlying23 rfl Try.sz23 (by first | exact ⟨hs.ldA, by first | rfl | assumption | exact encV_len _ | exact Enc.len _ | exact len_ub (by assumption)⟩ | exact ⟨hs.ldP rfl, by first | rfl | assumption | exact encV_len _ | exact Enc.len _ | exact len_ub (by assumption)⟩ | exact ⟨hs.ldM rfl rfl, by first | rfl | assumption | exact encV_len _ | exact Enc.len _ | exact len_ub (by assumption)⟩ | exact ⟨hs.ldM (by assumption) (by first | rfl | assumption), by first | rfl | assumption | exact encV_len _ | exact Enc.len _ | exact len_ub (by assumption)⟩ | exact ⟨by assumption, by first | rfl | assumption | exact encV_len _ | exact Enc.len _ | exact len_ub (by assumption)⟩ | exact hs.ldp | exact At.partC (by assumption))) ?_
                        refine R.gyes rfl rfl ?_
                        refine R.call ⟨_, _, Try.func27, rfl, by kernel_rfl⟩ rfl rfl (isWd_any b.id hI hGM hs) ?_
                        rintro _ w139 ⟨rfl, hs⟩
                        rw [hwb]
                        refine R.gyes rfl rfl ?_
                        refine R.ev rfl ((E.not rfl).isB (c := false) (one_not hone h89)) ?_
                        refine R.ev rfl (E.pickT rfl rfl) ?_
                        refine R.done ?_
                        refine X.keep [(4, _), (5, _), (6, _), (7, _), (8, _), (95, _)] ⟨rfl, rfl, rfl, rfl, rfl, rfl, trivial⟩ ?_
                        refine X.next ?_
                        refine C.cfalse rfl ?_
                        refine C.skip ?_
                        refine X.blockNormal ?_
                        refine X.next ?_
                        refine C.region ?_
                        refine R.ev rfl (E.move rfl) ?_
                        refine R.ev rfl (E.add rfl rfl (by omega) (by omega)) ?_
                        refine R.ev rfl (E.assign rfl) ?_
                        refine R.done ?_
                        refine X.keep [(4, _), (5, _), (6, _), (7, _), (8, _)] ⟨rfl, rfl, rfl, rfl, rfl, trivial⟩ ?_
                        exact X.again (k + 1) ⟨rfl, rfl, rfl, rfl, rfl, trivial⟩ ⟨by omega, hs.to⟩ (by omega)
                      · refine R.gskip rfl rfl rfl ?_
                        refine R.gskip rfl rfl rfl ?_
                        refine R.gskip rfl rfl rfl ?_
                        refine R.gskip rfl rfl rfl ?_
                        refine R.gskip rfl rfl rfl ?_
                        refine R.ev rfl (E.pickF rfl rfl) ?_
                        refine R.done ?_
                        refine X.keep [(4, _), (5, _), (6, _), (7, _), (8, _), (95, _)] ⟨rfl, rfl, rfl, rfl, rfl, rfl, trivial⟩ ?_
                        refine X.next ?_
                        refine C.cfalse rfl ?_
                        refine C.skip ?_
                        refine X.blockNormal ?_
                        refine X.next ?_
                        refine C.region ?_
                        refine R.ev rfl (E.move rfl) ?_
                        refine R.ev rfl (E.add rfl rfl (by omega) (by omega)) ?_
                        refine R.ev rfl (E.assign rfl) ?_
                        refine R.done ?_
                        refine X.keep [(4, _), (5, _), (6, _), (7, _), (8, _)] ⟨rfl, rfl, rfl, rfl, rfl, trivial⟩ ?_
                        exact X.again (k + 1) ⟨rfl, rfl, rfl, rfl, rfl, trivial⟩ ⟨by omega, hs.to⟩ (by omega)
        · refine R.sallocA hs Try.zr26 rfl ?_
          intro b10 w10 hs
          refine D.back hs.to ?_
          refine D.act 8 rfl (by kernel_rfl) ?_
          refine R.sallocA hs Try.zr26 rfl ?_
          intro b9 w9 hs
          refine D.back hs.to ?_
          refine D.act 10 rfl (by kernel_rfl) ?_
          first | refine R.cstoreAll hs rfl rfl Try.sz26 (by first | rfl | assumption | exact encV_len _ | exact Enc.len _ | exact len_ub (by assumption) | simp [*]) (by first | rfl | assumption | exact encV_len _ | exact Enc.len _ | exact len_ub (by assumption) | simp [*]) (by first | assumption | exact OneL.all | exact Enc.one _ | exact ub_all _ | (repeat' (first | refine List.forall_mem_cons.2 ⟨?_, ?_⟩ | exact List.forall_mem_nil _ | rfl | exact OneC.one | exact KRow.oneC' (by assumption)))) ?_ | refine R.cstore hs rfl rfl Try.sz26 (by first | rfl | assumption | exact encV_len _ | exact Enc.len _ | exact len_ub (by assumption) | simp [*]) (by simp [*]) (by first | assumption | exact OneL.all | exact Enc.one _ | exact ub_all _ | (repeat' (first | refine List.forall_mem_cons.2 ⟨?_, ?_⟩ | exact List.forall_mem_nil _ | rfl | exact OneC.one | exact KRow.oneC' (by assumption)))) ?_
          intro w11_10 hs
          try simp only [List.set_cons_zero, List.set_cons_succ] at hs
          refine D.back hs.to ?_
          refine D.act 11 rfl (by kernel_rfl) ?_
          first | refine R.cstoreAll hs rfl rfl Try.sz26 (by first | rfl | assumption | exact encV_len _ | exact Enc.len _ | exact len_ub (by assumption) | simp [*]) (by first | rfl | assumption | exact encV_len _ | exact Enc.len _ | exact len_ub (by assumption) | simp [*]) (by first | assumption | exact OneL.all | exact Enc.one _ | exact ub_all _ | (repeat' (first | refine List.forall_mem_cons.2 ⟨?_, ?_⟩ | exact List.forall_mem_nil _ | rfl | exact OneC.one | exact KRow.oneC' (by assumption)))) ?_ | refine R.cstore hs rfl rfl Try.sz26 (by first | rfl | assumption | exact encV_len _ | exact Enc.len _ | exact len_ub (by assumption) | simp [*]) (by simp [*]) (by first | assumption | exact OneL.all | exact Enc.one _ | exact ub_all _ | (repeat' (first | refine List.forall_mem_cons.2 ⟨?_, ?_⟩ | exact List.forall_mem_nil _ | rfl | exact OneC.one | exact KRow.oneC' (by assumption)))) ?_
          intro w11_11 hs
          try simp only [List.set_cons_zero, List.set_cons_succ] at hs
          refine D.backT (by kernel_rfl) ?_
          refine D.done rfl (by kernel_rfl) ?_
          refine X.keep [(4, _), (5, _), (6, _), (7, _), (8, _), (9, _), (10, _)] ⟨rfl, rfl, rfl, rfl, rfl, rfl, rfl, trivial⟩ ?_
          refine X.next ?_
          refine C.seq ?_
          refine C.seq ?_
          refine C.region ?_
          first | refine R.ev rfl (E.fieldAddr0 49 rfl Try.underlying26 rfl Try.sz23 rfl) ?_ | refine R.ev rfl (E.fieldAddrN 49 rfl Try.underlying26 rfl Try.sz23 rfl) ?_
          refine R.ev rfl (E.loadRowC rfl Try.underlying23 rfl Try.sz23 (by first | exact ⟨hs.ldA, by first | rfl | assumption | exact encV_len _ | exact Enc.len _ | exact len_ub (by assumption)⟩ | exact ⟨hs.ldP rfl, by first | rfl | assumption | exact encV_len _ | exact Enc.len _ | exact len_ub (by assumption)⟩ | exact ⟨hs.ldM rfl rfl, by first | rfl | assumption | exact encV_len _ | exact Enc.len _ | exact len_ub (by assumption)⟩ | exact ⟨hs.ldM (by assumption) (by first | rfl | assumption), by first | rfl | assumption | exact encV_len _ | exact Enc.len _ | exact len_ub (by assumption)⟩ | exact ⟨by assumption, by first | rfl | assumption | exact encV_len _ | exact Enc.len _ | exact len_ub (by assumption)⟩ | exact hs.ldp | exact At.partC (by assumption))) ?_
          first | refine R.ev rfl (E.fieldAddr0 49 rfl Try.underlying26 rfl Try.sz23 rfl) ?_ | refine R.ev rfl (E.fieldAddrN 49 rfl Try.underlying26 rfl Try.sz23 rfl) ?_
          refine R.ev rfl (E.loadRowC rfl Try.underlying23 rfl Try.sz23 (by first | exact ⟨hs.ldA, by first | rfl | assumption | exact encV_len _ | exact Enc.len _ | exact len_ub (by assumption)⟩ | exact ⟨hs.ldP rfl, by first | rfl | assumption | exact encV_len _ | exact Enc.len _ | exact len_ub (by assumption)⟩ | exact ⟨hs.ldM rfl rfl, by first | rfl | assumption | exact encV_len _ | exact Enc.len _ | exact len_ub (by assumption)⟩ | exact ⟨hs.ldM (by assumption) (by first | rfl | assumption), by first | rfl | assumption | exact encV_len _ | exact Enc.len _ | exact len_ub (by assumption)⟩ | exact ⟨by assumption, by first | rfl | assumption | exact encV_len _ | exact Enc.len _ | exact len_ub (by assumption)⟩ | exact hs.ldp | exact At.partC (by assumption))) ?_
          first | refine R.ev rfl (E.neV 10 rfl rfl Try.lv23 rfl Try.underlying23 rfl Try.gd23) ?_ | refine R.ev rfl (E.neId 10 32 rfl rfl Try.lv23 rfl Try.underlying23 rfl Try.gd23 (by assumption) (by assumption)) ?_
          refine R.ev rfl (E.move rfl) ?_
          refine R.split 50 rfl (fun h50 => ?_) (fun h50 => ?_)
          · refine R.gskip rfl rfl rfl ?_
            refine R.gskip rfl rfl rfl ?_
            refine R.gskip rfl rfl rfl ?_
            refine R.gskip rfl rfl rfl ?_
            refine R.ev rfl (E.pickT rfl rfl) ?_
            refine R.ev rfl (E.move rfl) ?_
            refine R.gskip rfl rfl rfl ?_
            refine R.gskip rfl rfl rfl ?_
            refine R.gskip rfl rfl rfl ?_
            refine R.gskip rfl rfl rfl ?_
            refine R.gskip rfl rfl rfl ?_
            refine R.ev rfl (E.pickT rfl rfl) ?_
            refine R.ev rfl (E.move rfl) ?_
            refine R.gskip rfl rfl rfl ?_
            refine R.gskip rfl rfl rfl ?_
            refine R.gskip rfl rfl rfl ?_
            refine R.gskip rfl rfl rfl ?_
            refine R.gskip rfl rfl rfl ?_
            refine R.ev rfl (E.pickT rfl rfl) ?_
            refine R.ev rfl (E.move rfl) ?_
            refine R.gskip rfl rfl rfl ?_
            refine R.gskip rfl rfl rfl ?_
            refine R.gskip rfl rfl rfl ?_
            refine R.gskip rfl rfl rfl ?_
            refine R.gskip rfl rfl rfl ?_
            refine R.ev rfl (E.pickT rfl rfl) ?_
            refine R.ev rfl (E.move rfl) ?_
            refine R.gskip rfl rfl rfl ?_
            refine R.gskip rfl rfl rfl ?_
            refine R.gskip rfl rfl rfl ?_
            refine R.gskip rfl rfl rfl ?_
            refine R.gskip rfl rfl rfl ?_
            refine R.ev rfl (E.pickT rfl rfl) ?_
            refine R.done ?_
            refine X.keep [(4, _), (5, _), (6, _), (7, _), (8, _), (9, _), (10, _), (83, _)] ⟨rfl, rfl, rfl, rfl, rfl, rfl, rfl, rfl, trivial⟩ ?_
            refine X.next ?_
            refine C.ctrue rfl ?_
            refine C.exit ?_
            refine X.thenExit ?_
            refine X.blockExit ?_
            refine X.next ?_
            refine C.region ?_
            refine R.ev rfl (E.move rfl) ?_
            refine R.ev rfl (E.add rfl rfl (by omega) (by omega)) ?_
            refine R.ev rfl (E.assign rfl) ?_
            refine R.done ?_
            refine X.keep [(4, _), (5, _), (6, _), (7, _), (8, _)] ⟨rfl, rfl, rfl, rfl, rfl, trivial⟩ ?_
            exact X.again (k + 1) ⟨rfl, rfl, rfl, rfl, rfl, trivial⟩ ⟨by omega, hs.to⟩ (by omega)
          · refine R.gyes rfl rfl ?_
            first | refine R.ev rfl (E.fieldAddr0 49 rfl Try.underlying26 rfl Try.sz23 rfl) ?_ | refine R.ev rfl (E.fieldAddrN 49 rfl Try.underlying26 rfl Try.sz23 rfl) ?_
            refine R.gyes rfl rfl ?_
            refine R.ev rfl (E.loadRowC rfl Try.underlying23 rfl Try.sz23 (by first | exact ⟨hs.ldA, by first | rfl | assumption | exact encV_len _ | exact Enc.len _ | exact len_ub (by assumption)⟩ | exact ⟨hs.ldP rfl, by first | rfl | assumption | exact encV_len _ | exact Enc.len _ | exact len_ub (by assumption)⟩ | exact ⟨hs.ldM rfl rfl, by first | rfl | assumption | exact encV_len _ | exact Enc.len _ | exact len_ub (by assumption)⟩ | exact ⟨hs.ldM (by assumption) (by first | rfl | assumption), by first | rfl | assumption | exact encV_len _ | exact Enc.len _ | exact len_ub (by assumption)⟩ | exact ⟨by assumption, by first | rfl | assumption | exact encV_len _ | exact Enc.len _ | exact len_ub (by assumption)⟩ | exact hs.ldp | exact At.partC (by assumption))) ?_
            refine R.gyes rfl rfl ?_
            refine R.ev rfl ((E.buildA rfl Try.underlying23 Try.zr23 Try.sz5 rfl).as (u := .agg (encV vz).toArray) (by rfl)) ?_
            refine R.gyes rfl rfl ?_
            first | refine R.ev rfl (E.eqV 10 rfl rfl Try.lv23 rfl Try.underlying23 rfl Try.gd23) ?_ | refine R.ev rfl (E.eqId 10 32 rfl rfl Try.lv23 rfl Try.underlying23 rfl Try.gd23 (by assumption) (by assumption)) ?_
            refine R.ev rfl (E.pickF rfl rfl) ?_
            refine R.ev rfl (E.move rfl) ?_
            refine R.split 56 rfl (fun h56 => ?_) (fun h56 => ?_)
            · refine R.gskip rfl rfl rfl ?_
              refine R.gskip rfl rfl rfl ?_
              refine R.gskip rfl rfl rfl ?_
              refine R.gskip rfl rfl rfl ?_
              refine R.gskip rfl rfl rfl ?_
              refine R.ev rfl (E.pickT rfl rfl) ?_
              refine R.ev rfl (E.move rfl) ?_
              refine R.gskip rfl rfl rfl ?_
              refine R.gskip rfl rfl rfl ?_
              refine R.gskip rfl rfl rfl ?_
              refine R.gskip rfl rfl rfl ?_
              refine R.gskip rfl rfl rfl ?_
              refine R.ev rfl (E.pickT rfl rfl) ?_
              refine R.ev rfl (E.move rfl) ?_
              refine R.gskip rfl rfl rfl ?_
              refine R.gskip rfl rfl rfl ?_
              refine R.gskip rfl rfl rfl ?_
              refine R.gskip rfl rfl rfl ?_
              refine R.gskip rfl rfl rfl ?_
              refine R.ev rfl (E.pickT rfl rfl) ?_
              refine R.ev rfl (E.move rfl) ?_
              refine R.gskip rfl rfl rfl ?_
              refine R.gskip rfl rfl rfl ?_
              refine R.gskip rfl rfl rfl ?_
              refine R.gskip rfl rfl rfl ?_
              refine R.gskip rfl rfl rfl ?_
              refine R.ev rfl (E.pickT rfl rfl) ?_
              refine R.done ?_
              refine X.keep [(4, _), (5, _), (6, _), (7, _), (8, _), (9, _), (10, _), (83, _)] ⟨rfl, rfl, rfl, rfl, rfl, rfl, rfl, rfl, trivial⟩ ?_
              refine X.next ?_
              refine C.ctrue rfl ?_
              refine C.exit ?_
              refine X.thenExit ?_
              refine X.blockExit ?_
              refine X.next ?_
              refine C.region ?_
              refine R.ev rfl (E.move rfl) ?_
              refine R.ev rfl (E.add rfl rfl (by omega) (by omega)) ?_
              refine R.ev rfl (E.assign rfl) ?_
              refine R.done ?_
              refine X.keep [(4, _), (5, _), (6, _), (7, _), (8, _)] ⟨rfl, rfl, rfl, rfl, rfl, trivial⟩ ?_
              exact X.again (k + 1) ⟨rfl, rfl, rfl, rfl, rfl, trivial⟩ ⟨by omega, hs.to⟩ (by omega)
            · refine R.gyes rfl rfl ?_
              first | refine R.ev rfl (E.fieldAddr0 49 rfl Try.underlying26 rfl Try.sz23 rfl) ?_ | refine R.ev rfl (E.fieldAddrN 49 rfl Try.underlying26 rfl Try.sz23 rfl) ?_
              refine R.gyes rfl rfl ?_
              refine R.ev rfl (E.loadRowC rfl Try.underlying23 rfl Try.sz23 (by first | exact ⟨hs.ldA, by first | rfl | assumption | exact encV_len _ | exact Enc.len _ | exact len_ub (by assumption)⟩ | exact ⟨hs.ldP rfl, by first | rfl | assumption | exact encV_len _ | exact Enc.len _ | exact len_ub (by assumption)⟩ | exact ⟨hs.ldM rfl rfl, by first | rfl | assumption | exact encV_len _ | exact Enc.len _ | exact len_ub (by assumption)⟩ | exact ⟨hs.ldM (by assumption) (by first | rfl | assumption), by first | rfl | assumption | exact encV_len _ | exact Enc.len _ | exact len_ub (by assumption)⟩ | exact ⟨by assumption, by first | rfl | assumption | exact encV_len _ | exact Enc.len _ | exact len_ub (by assumption)⟩ | exact hs.ldp | exact At.partC (by assumption))) ?_
              refine R.gyes rfl rfl ?_
              first | refine R.ev rfl (E.fieldAddr0 0 rfl Try.underlying26 rfl Try.sz23 rfl) ?_ | refine R.ev rfl (E.fieldAddrN 0 rfl Try.underlying26 rfl Try.sz23 rfl) ?_
              refine R.gyes rfl rfl ?_
              refine R.ev rfl (E.loadRowC rfl Try.underlying23 rfl Try.sz23 (by first | exact ⟨hs.ldA, by first | rfl | assumption | exact encV_len _ | exact Enc.len _ | exact len_ub (by assumption)⟩ | exact ⟨hs.ldP rfl, by first | rfl | assumption | exact encV_len _ | exact Enc.len _ | exact len_ub (by assumption)⟩ | exact ⟨hs.ldM rfl rfl, by first | rfl | assumption | exact encV_len _ | exact Enc.len _ | exact len_ub (by assumption)⟩ | exact ⟨hs.ldM (by assumption) (by first | rfl | assumption), by first | rfl | assumption | exact encV_len _ | exact Enc.len _ | exact len_ub (by assumption)⟩ | exact ⟨by assumption, by first | rfl | assumption | exact encV_len _ | exact Enc.len _ | exact len_ub (by assumption)⟩ | exact hs.ldp | exact At.partC (by assumption))) ?_
              refine R.gyes rfl rfl ?_
              first | refine R.ev rfl (E.eqV 10 rfl rfl Try.lv23 rfl Try.underlying23 rfl Try.gd23) ?_ | refine R.ev rfl (E.eqId 10 32 rfl rfl Try.lv23 rfl Try.underlying23 rfl Try.gd23 (by assumption) (by assumption)) ?_
              refine R.ev rfl (E.pickF rfl rfl) ?_
              refine R.ev rfl (E.move rfl) ?_
              refine R.split 63 rfl (fun h63 => ?_) (fun h63 => ?_)
              · refine R.gskip rfl rfl rfl ?_
                refine R.gskip rfl rfl rfl ?_
                refine R.gskip rfl rfl rfl ?_
                refine R.gskip rfl rfl rfl ?_
                refine R.gskip rfl rfl rfl ?_
                refine R.ev rfl (E.pickT rfl rfl) ?_
                refine R.ev rfl (E.move rfl) ?_
                refine R.gskip rfl rfl rfl ?_
                refine R.gskip rfl rfl rfl ?_
                refine R.gskip rfl rfl rfl ?_
                refine R.gskip rfl rfl rfl ?_
                refine R.gskip rfl rfl rfl ?_
                refine R.ev rfl (E.pickT rfl rfl) ?_
                refine R.ev rfl (E.move rfl) ?_
                refine R.gskip rfl rfl rfl ?_
                refine R.gskip rfl rfl rfl ?_
                refine R.gskip rfl rfl rfl ?_
                refine R.gskip rfl rfl rfl ?_
                refine R.gskip rfl rfl rfl ?_
                refine R.ev rfl (E.pickT rfl rfl) ?_
                refine R.done ?_
                refine X.keep [(4, _), (5, _), (6, _), (7, _), (8, _), (9, _), (10, _), (83, _)] ⟨rfl, rfl, rfl, rfl, rfl, rfl, rfl, rfl, trivial⟩ ?_
                refine X.next ?_
                refine C.ctrue rfl ?_
                refine C.exit ?_
                refine X.thenExit ?_
                refine X.blockExit ?_
                refine X.next ?_
                refine C.region ?_
                refine R.ev rfl (E.move rfl) ?_
                refine R.ev rfl (E.add rfl rfl (by omega) (by omega)) ?_
                refine R.ev rfl (E.assign rfl) ?_
                refine R.done ?_
                refine X.keep [(4, _), (5, _), (6, _), (7, _), (8, _)] ⟨rfl, rfl, rfl, rfl, rfl, trivial⟩ ?_
                exact X.again (k + 1) ⟨rfl, rfl, rfl, rfl, rfl, trivial⟩ ⟨by omega, hs.to⟩ (by omega)
              · refine R.gyes rfl rfl ?_
                first | refine R.ev rfl (E.fieldAddr0 49 rfl Try.underlying26 rfl Try.sz23 rfl) ?_ | refine R.ev rfl (E.fieldAddrN 49 rfl Try.underlying26 rfl Try.sz23 rfl) ?_
                refine R.gyes rfl rfl ?_
                refine R.ev rfl (E.loadRowC rfl Try.underlying23 rfl Try.sz23 (by first | exact ⟨hs.ldA, by first | rfl | assumption | exact encV_len _ | exact Enc.len _ | exact len_ub (by assumption)⟩ | exact ⟨hs.ldP rfl, by first | rfl | assumption | exact encV_len _ | exact Enc.len _ | exact len_ub (by assumption)⟩ | exact ⟨hs.ldM rfl rfl, by first | rfl | assumption | exact encV_len _ | exact Enc.len _ | exact len_ub (by assumption)⟩ | exact ⟨hs.ldM (by assumption) (by first | rfl | assumption), by first | rfl | assumption | exact encV_len _ | exact Enc.len _ | exact len_ub (by assumption)⟩ | exact ⟨by assumption, by first | rfl | assumption | exact encV_len _ | exact Enc.len _ | exact len_ub (by assumption)⟩ | exact hs.ldp | exact At.partC (by assumption))) ?_
                refine R.gyes rfl rfl ?_
                first | refine R.ev rfl (E.fieldAddr0 0 rfl Try.underlying26 rfl Try.sz23 rfl) ?_ | refine R.ev rfl (E.fieldAddrN 0 rfl Try.underlying26 rfl Try.sz23 rfl) ?_
                refine R.gyes rfl rfl ?_
                refine R.ev rfl (E.loadRowC rfl Try.underlying23 rfl Try.sz23 (by first | exact ⟨hs.ldA, by first | rfl | assumption | exact encV_len _ | exact Enc.len _ | exact len_ub (by assumption)⟩ | exact ⟨hs.ldP rfl, by first | rfl | assumption | exact encV_len _ | exact Enc.len _ | exact len_ub (by assumption)⟩ | exact ⟨hs.ldM rfl rfl, by first | rfl | assumption | exact encV_len _ | exact Enc.len _ | exact len_ub (by assumption)⟩ | exact ⟨hs.ldM (by assumption) (by first | rfl | assumption), by first | rfl | assumption | exact encV_len _ | exact Enc.len _ | exact len_ub (by assumption)⟩ | exact ⟨by assumption, by first | rfl | assumption | exact encV_len _ | exact Enc.len _ | exact len_ub (by assumption)⟩ | exact hs.ldp | exact At.partC (by assumption))) ?_
                refine R.gyes rfl rfl ?_
                first | refine R.ev rfl (E.eqV 10 rfl rfl Try.lv23 rfl Try.underlying23 rfl Try.gd23) ?_ | refine R.ev rfl (E.eqId 10 32 rfl rfl Try.lv23 rfl Try.underlying23 rfl Try.gd23 (by assumption) (by assumption)) ?_
                refine R.ev rfl (E.pickF rfl rfl) ?_
                refine R.ev rfl (E.move rfl) ?_
                refine R.split 70 rfl (fun h70 => ?_) (fun h70 => ?_)
                · refine R.gskip rfl rfl rfl ?_
                  refine R.gskip rfl rfl rfl ?_
                  refine R.gskip rfl rfl rfl ?_
                  refine R.gskip rfl rfl rfl ?_
                  refine R.gskip rfl rfl rfl ?_
                  refine R.ev rfl (E.pickT rfl rfl) ?_
                  refine R.ev rfl (E.move rfl) ?_
                  refine R.gskip rfl rfl rfl ?_
                  refine R.gskip rfl rfl rfl ?_
                  refine R.gskip rfl rfl rfl ?_
                  refine R.gskip rfl rfl rfl ?_
                  refine R.gskip rfl rfl rfl ?_
                  refine R.ev rfl (E.pickT rfl rfl) ?_
                  refine R.done ?_
                  refine X.keep [(4, _), (5, _), (6, _), (7, _), (8, _), (9, _), (10, _), (83, _)] ⟨rfl, rfl, rfl, rfl, rfl, rfl, rfl, rfl, trivial⟩ ?_
                  refine X.next ?_
                  refine C.ctrue rfl ?_
                  refine C.exit ?_
                  refine X.thenExit ?_
                  refine X.blockExit ?_
                  refine X.next ?_
                  refine C.region ?_
                  refine R.ev rfl (E.move rfl) ?_
                  refine R.ev rfl (E.add rfl rfl (by omega) (by omega)) ?_
                  refine R.ev rfl (E.assign rfl) ?_
                  refine R.done ?_
                  refine X.keep [(4, _), (5, _), (6, _), (7, _), (8, _)] ⟨rfl, rfl, rfl, rfl, rfl, trivial⟩ ?_
                  exact X.again (k + 1) ⟨rfl, rfl, rfl, rfl, rfl, trivial⟩ ⟨by omega, hs.to⟩ (by omega)
                · refine R.gyes rfl rfl ?_
                  first | refine R.ev rfl (E.fieldAddr0 32 rfl Try.underlying26 rfl Try.sz24 rfl) ?_ | refine R.ev rfl (E.fieldAddrN 32 rfl Try.underlying26 rfl Try.sz24 rfl) ?_
                  refine R.gyes rfl rfl ?_
                  refine R.ev rfl (E.loadRowC rfl Try.underlying24 rfl Try.sz24 (by first | exact ⟨hs.ldA, by first | rfl | assumption | exact encV_len _ | exact Enc.len _ | exact len_ub (by assumption)⟩ | exact ⟨hs.ldP rfl, by first | rfl | assumption | exact encV_len _ | exact Enc.len _ | exact len_ub (by assumption)⟩ | exact ⟨hs.ldM rfl rfl, by first | rfl | assumption | exact encV_len _ | exact Enc.len _ | exact len_ub (by assumption)⟩ | exact ⟨hs.ldM (by assumption) (by first | rfl | assumption), by first | rfl | assumption | exact encV_len _ | exact Enc.len _ | exact len_ub (by assumption)⟩ | exact ⟨by assumption, by first | rfl | assumption | exact encV_len _ | exact Enc.len _ | exact len_ub (by assumption)⟩ | exact hs.ldp | exact At.partC (by assumption))) ?_
                  refine R.gyes rfl rfl ?_
                  first | refine R.ev rfl (E.fieldAddr0 32 rfl Try.underlying26 rfl Try.sz24 rfl) ?_ | refine R.ev rfl (E.fieldAddrN 32 rfl Try.underlying26 rfl Try.sz24 rfl) ?_
                  refine R.gyes rfl rfl ?_
                  refine R.ev rfl (E.loadRowC rfl Try.underlying24 rfl Try.sz24 (by first | exact ⟨hs.ldA, by first | rfl | assumption | exact encV_len _ | exact Enc.len _ | exact len_ub (by assumption)⟩ | exact ⟨hs.ldP rfl, by first | rfl | assumption | exact encV_len _ | exact Enc.len _ | exact len_ub (by assumption)⟩ | exact ⟨hs.ldM rfl rfl, by first | rfl | assumption | exact encV_len _ | exact Enc.len _ | exact len_ub (by assumption)⟩ | exact ⟨hs.ldM (by assumption) (by first | rfl | assumption), by first | rfl | assumption | exact encV_len _ | exact Enc.len _ | exact len_ub (by assumption)⟩ | exact ⟨by assumption, by first | rfl | assumption | exact encV_len _ | exact Enc.len _ | exact len_ub (by assumption)⟩ | exact hs.ldp | exact At.partC (by assumption))) ?_
                  refine R.gyes rfl rfl ?_
                  first | refine R.ev rfl (E.neV 10 rfl rfl Try.lv24 rfl Try.underlying24 rfl Try.gd24) ?_ | refine R.ev rfl (E.neId 10 16 rfl rfl Try.lv24 rfl Try.underlying24 rfl Try.gd24 (by assumption) (by assumption)) ?_
                  refine R.ev rfl (E.pickF rfl rfl) ?_
                  refine R.ev rfl (E.move rfl) ?_
                  refine R.split 77 rfl (fun h77 => ?_) (fun h77 => ?_)
                  · refine R.gskip rfl rfl rfl ?_
                    refine R.gskip rfl rfl rfl ?_
                    refine R.gskip rfl rfl rfl ?_
                    refine R.gskip rfl rfl rfl ?_
                    refine R.gskip rfl rfl rfl ?_
                    refine R.ev rfl (E.pickT rfl rfl) ?_
                    refine R.done ?_
                    refine X.keep [(4, _), (5, _), (6, _), (7, _), (8, _), (9, _), (10, _), (83, _)] ⟨rfl, rfl, rfl, rfl, rfl, rfl, rfl, rfl, trivial⟩ ?_
                    refine X.next ?_
                    refine C.ctrue rfl ?_
                    refine C.exit ?_
                    refine X.thenExit ?_
                    refine X.blockExit ?_
                    refine X.next ?_
                    refine C.region ?_
                    refine R.ev rfl (E.move rfl) ?_
                    refine R.ev rfl (E.add rfl rfl (by omega) (by omega)) ?_
                    refine R.ev rfl (E.assign rfl) ?_
                    refine R.done ?_
                    refine X.keep [(4, _), (5, _), (6, _), (7, _), (8, _)] ⟨rfl, rfl, rfl, rfl, rfl, trivial⟩ ?_
                    exact X.again (k + 1) ⟨rfl, rfl, rfl, rfl, rfl, trivial⟩ ⟨by omega, hs.to⟩ (by omega)
                  · refine R.gyes rfl rfl ?_
                    first | refine R.ev rfl (E.fieldAddr0 81 rfl Try.underlying26 rfl Try.sz5 rfl) ?_ | refine R.ev rfl (E.fieldAddrN 81 rfl Try.underlying26 rfl Try.sz5 rfl) ?_
                    refine R.gyes rfl rfl ?_
                    refine R.ev rfl (E.load1 rfl Try.underlying5 rfl (by first | exact hs.ldc | exact hs.ld rfl | exact hs.ld (by assumption) | exact by assumption | exact At.cellC (by assumption))) ?_
                    refine R.gyes rfl rfl ?_
                    first | refine R.ev rfl (E.fieldAddr0 81 rfl Try.underlying26 rfl Try.sz5 rfl) ?_ | refine R.ev rfl (E.fieldAddrN 81 rfl Try.underlying26 rfl Try.sz5 rfl) ?_
                    refine R.gyes rfl rfl ?_
                    refine R.ev rfl (E.load1 rfl Try.underlying5 rfl (by first | exact hs.ldc | exact hs.ld rfl | exact hs.ld (by assumption) | exact by assumption | exact At.cellC (by assumption))) ?_
                    refine R.gyes rfl rfl ?_
                    refine R.ev rfl (E.neq rfl rfl) ?_
                    refine R.ev rfl (E.pickF rfl rfl) ?_
                    refine R.done ?_
                    refine X.keep [(4, _), (5, _), (6, _), (7, _), (8, _), (9, _), (10, _), (83, _)] ⟨rfl, rfl, rfl, rfl, rfl, rfl, rfl, rfl, trivial⟩ ?_
                    refine X.next ?_
                    refine C.cbool rfl (fun h83 => ?_) (fun h83 => ?_)
                    · refine C.exit ?_
                      refine X.thenExit ?_
                      refine X.blockExit ?_
                      refine X.next ?_
                      refine C.region ?_
                      refine R.ev rfl (E.move rfl) ?_
                      refine R.ev rfl (E.add rfl rfl (by omega) (by omega)) ?_
                      refine R.ev rfl (E.assign rfl) ?_
                      refine R.done ?_
                      refine X.keep [(4, _), (5, _), (6, _), (7, _), (8, _)] ⟨rfl, rfl, rfl, rfl, rfl, trivial⟩ ?_
                      exact X.again (k + 1) ⟨rfl, rfl, rfl, rfl, rfl, trivial⟩ ⟨by omega, hs.to⟩ (by omega)
                    · refine C.skip ?_
                      refine X.next ?_
                      refine C.seq ?_
                      refine C.region ?_
                      have hone := one_wd (L := L') (by rw [hLL]; exact ma) (by rw [hLL]; exact mb) (nd_ne (by rw [← hLL]; exact hI.nd) ha hb (by omega)) (Decidable.not_not.1 (of_decide_eq_false h50)) (of_decide_eq_false h56) (of_decide_eq_false h63) (of_decide_eq_false h70) (Decidable.not_not.1 (of_decide_eq_false h77)) (UInt8.toNat_inj.1 (by have := Decidable.not_not.1 (of_decide_eq_false h83); omega))
                      have hwa : wdId L' a.id = wd L' a := by rw [wdId, findR hI.nd (by rw [hLL]; exact ma) rfl]
                      have hwb : wdId L' b.id = wd L' b := by rw [wdId, findR hI.nd (by rw [hLL]; exact mb) rfl]
                      refine R.ev rfl (E.move rfl) ?_
                      first | refine R.ev rfl (E.fieldAddr0 0 rfl Try.underlying26 rfl Try.sz23 rfl) ?_ | refine R.ev rfl (E.fieldAddrN 0 rfl Try.underlying26 rfl Try.sz23 rfl) ?_
                      refine R.ev rfl (E.loadRowC rfl Try.underlying23 rfl Try.sz23 (by first | exact ⟨hs.ldA, by first | rfl | assumption | exact encV_len _ | exact Enc.len _ | exact len_ub (by assumption)⟩ | exact ⟨hs.ldP rfl, by first | rfl | assumption | exact encV_len _ | exact Enc.len _ | exact len_ub (by assumption)⟩ | exact ⟨hs.ldM rfl rfl, by first | rfl | assumption | exact encV_len _ | exact Enc.len _ | exact len_ub (by assumption)⟩ | exact ⟨hs.ldM (by assumption) (by first | rfl | assumption), by first | rfl | assumption | exact encV_len _ | exact Enc.len _ | exact len_ub (by assumption)⟩ | exact ⟨by assumption, by first | rfl | assumption | exact encV_len _ | exact Enc.len _ | exact len_ub (by assumption)⟩ | exact hs.ldp | exact At.partC (by assumption))) ?_
                      refine R.call ⟨_, _, Try.func27, rfl, by kernel_rfl⟩ rfl rfl (isWd_any a.id hI hGM hs) ?_
                      rintro _ w133 ⟨rfl, hs⟩
                      rw [hwa]
                      refine R.ev rfl ((E.not rfl).isB (c := !(wd L' a)) rfl) ?_
                      refine R.ev rfl (E.move rfl) ?_
                      refine R.split 89 rfl (fun h89 => ?_) (fun h89 => ?_)
                      · refine R.gyes rfl rfl ?_
                        refine R.ev rfl (E.move rfl) ?_
                        refine R.gyes rfl rfl ?_
                        first | refine R.ev rfl (E.fieldAddr0 0 rfl Try.underlying26 rfl Try.sz23 rfl) ?_ | refine R.ev rfl (E.fieldAddrN 0 rfl Try.underlying26 rfl Try.sz23 rfl) ?_
                        refine R.gyes rfl rfl ?_
                        refine R.ev rfl (E.loadRowC rfl Try.underlying23 rfl Try.sz23 (by first | exact ⟨hs.ldA, by first | rfl | assumption | exact encV_len _ | exact Enc.len _ | exact len_ub (by assumption)⟩ | exact ⟨hs.ldP rfl, by first | rfl | assumption | exact encV_len _ | exact Enc.len _ | exact len_ub (by assumption)⟩ | exact ⟨hs.ldM rfl rfl, by first | rfl | assumption | exact encV_len _ | exact Enc.len _ | exact len_ub (by assumption)⟩ | exact ⟨hs.ldM (by assumption) (by first | rfl | assumption), by first | rfl | assumption | exact encV_len _ | exact Enc.len _ | exact len_ub (by assumption)⟩ | exact ⟨by assumption, by first | rfl | assumption | exact encV_len _ | exact Enc.len _ | exact len_ub (by assumption)⟩ | exact hs.ldp | exact At.partC (by assumption))) ?_
                        refine R.gyes rfl rfl ?_
                        refine R.call ⟨_, _, Try.func27, rfl, by kernel_rfl⟩ rfl rfl (isWd_any b.id hI hGM hs) ?_
                        rintro _ w139 ⟨rfl, hs⟩
                        rw [hwb]
                        refine R.gyes rfl rfl ?_
                        refine R.ev rfl ((E.not rfl).isB (c := false) (one_not hone h89)) ?_
                        refine R.ev rfl (E.pickT rfl rfl) ?_
                        refine R.done ?_
                        refine X.keep [(4, _), (5, _), (6, _), (7, _), (8, _), (95, _)] ⟨rfl, rfl, rfl, rfl, rfl, rfl, trivial⟩ ?_
                        refine X.next ?_
                        refine C.cfalse rfl ?_
                        refine C.skip ?_
                        refine X.blockNormal ?_
                        refine X.next ?_
                        refine C.region ?_
                        refine R.ev rfl (E.move rfl) ?_
                        refine R.ev rfl (E.add rfl rfl (by omega) (by omega)) ?_
                        refine R.ev rfl (E.assign rfl) ?_
                        refine R.done ?_
                        refine X.keep [(4, _), (5, _), (6, _), (7, _), (8, _)] ⟨rfl, rfl, rfl, rfl, rfl, trivial⟩ ?_
                        exact X.again (k + 1) ⟨rfl, rfl, rfl, rfl, rfl, trivial⟩ ⟨by omega, hs.to⟩ (by omega)
                      · refine R.gskip rfl rfl rfl ?_
                        refine R.gskip rfl rfl rfl ?_
                        refine R.gskip rfl rfl rfl ?_
                        refine R.gskip rfl rfl rfl ?_
                        refine R.gskip rfl rfl rfl ?_
                        refine R.ev rfl (E.pickF rfl rfl) ?_
                        refine R.done ?_
                        refine X.keep [(4, _), (5, _), (6, _), (7, _), (8, _), (95, _)] ⟨rfl, rfl, rfl, rfl, rfl, rfl, trivial⟩ ?_
                        refine X.next ?_
                        refine C.cfalse rfl ?_
                        refine C.skip ?_
                        refine X.blockNormal ?_
                        refine X.next ?_
                        refine C.region ?_
                        refine R.ev rfl (E.move rfl) ?_
                        refine R.ev rfl (E.add rfl rfl (by omega) (by omega)) ?_
                        refine R.ev rfl (E.assign rfl) ?_
                        refine R.done ?_
                        refine X.keep [(4, _), (5, _), (6, _), (7, _), (8, _)] ⟨rfl, rfl, rfl, rfl, rfl, trivial⟩ ?_
                        exact X.again (k + 1) ⟨rfl, rfl, rfl, rfl, rfl, trivial⟩ ⟨by omega, hs.to⟩ (by omega)
      · refine C.exit ?_
        refine X.thenExit ?_
        refine X.loopExit ?_
        refine X.blockExit ?_
        refine X.blockNormal ?_
        refine X.next ?_
        refine C.region ?_
        refine R.ev rfl (E.move rfl) ?_
        refine R.ev rfl (E.add rfl rfl (by omega) (by omega)) ?_
        refine R.ev rfl (E.assign rfl) ?_
        refine R.done ?_
        refine X.keep [(4, _), (5, _), (6, _), (7, _)] ⟨rfl, rfl, rfl, rfl, trivial⟩ ?_
        exact X.again (i + 1) ⟨rfl, rfl, rfl, rfl, trivial⟩ ⟨by omega, hs.to⟩ (by omega)
    · refine C.exit ?_
      refine X.thenExit ?_
      refine X.loopExit ?_
      refine X.blockExit ?_
      refine X.next ?_
      refine C.seq ?_
      refine C.region ?_
      refine R.ev rfl (E.assign rfl) ?_
      refine R.done ?_
      refine X.keep [(2, _)] ⟨rfl, trivial⟩ ?_
      refine X.next ?_
      refine C.ret ?_
      refine X.ret1 rfl rfl ?_
      exact ⟨rfl, (hs.less (hk1.trans hk4).le).mod⟩
  · refine R.gskip rfl rfl rfl ?_
    refine R.ev rfl (E.pickF rfl rfl) ?_
    refine R.done ?_
    refine X.keep [(4, _), (5, _), (6, _), (7, _), (29, _)] ⟨rfl, rfl, rfl, rfl, rfl, trivial⟩ ?_
    refine X.next ?_
    refine C.cfalse rfl ?_
    refine C.exit ?_
    refine X.thenExit ?_
    refine X.loopExit ?_
    refine X.blockExit ?_
    refine X.next ?_
    refine C.seq ?_
    refine C.region ?_
    refine R.ev rfl (E.assign rfl) ?_
    refine R.done ?_
    refine X.keep [(2, _)] ⟨rfl, trivial⟩ ?_
    refine X.next ?_
    refine C.ret ?_
    refine X.ret1 rfl rfl ?_
    exact ⟨rfl, (hs.less (hk1.trans hk4).le).mod⟩

namespace supersedeOne
open Go.ChangeShapes Go.WideShapes Go.ChangeAt Go.RowKit
open Go.ChangeMaps (open_string shut_string)
set_option linter.unusedVariables false

theorem own : ownKnob Try.prog.godebug = none := by kernel_rfl
theorem laidOut : laidOutB Try.prog = true := by kernel_rfl
set_option maxRecDepth 100000 in
theorem lifted (os : Os) (started : os.Started) (H : Type) (enc : TypeId × Value → H) :
    ReturnsInHanded {} Try.checked os 7 .any (Rows.supersedeOneSpec.pre6 enc Try.prog Try.f7 Rows.supersedeOneRow.domain false) (Rows.supersedeOneSpec.post enc Try.prog Try.f7 false true false false) := by
  refine returnsInHanded_of_change (C := Try.checked) own started (by kernel_rfl) Try.func7
    (ChangeSpec.witness6 (enc := enc) (C := Try.checked) false ⟨#[], #[.slice none 0 0], []⟩ 8 (by kernel_rfl) (by kernel_rfl) (by kernel_rfl) (by kernel_rfl)) ?_
  intro W base args ds gs before hval0 hW hcnd _
  have hval : ∀ (j : Nat) t v, Try.f7.params[j]? = some t → args[j]? = some v → Value.okWide Try.prog W .any base t v := hval0
  have hW' := hW
  obtain ⟨p, q, hA0, hV, rfl, hfz, hnd⟩ := hW
  have hA : DataW.TrodAll enc Try.prog W 0 (fun _ => true) true Try.f7.params.toList args.toList ds p := hA0
  rw [Try.params7] at hA hval
  obtain ⟨v0, vs0, d0, ds0, p0, q0, hargs, rfl, rfl, h0, r0⟩ := trodAll_cons hA
  obtain ⟨rfl, rfl, rfl⟩ := trodAll_nil r0
  obtain rfl : args = #[v0] := by cases args; simp_all
  obtain ⟨rfl, rfl⟩ := trodVars_none hV
  have lt0 : ∀ x ∈ p0, x.block < W.heap.size := by obtain ⟨m, hm⟩ := h0; exact DataW.trod_lt m _ _ _ hm
  have a0 := Eng.argv_of (hval 0 22 v0 rfl rfl) h0
  clear hA0 hval0
  refine Calls.mono (one_walk W v0 a0) fun e W' ⟨v, he, hv, hm⟩ => ?_
  subst he
  subst hv
  have bel := hm.below
  exact ⟨_, rfl, _, _, _, [], _, [], hW', trodAll_mk1 (shut_bool Try.underlying4 _), (trodAll_cons_mk (Below.trod laidOut (by kernel_rfl) (of_decide_eq_true (by kernel_rfl)) h0 bel lt0) trodAll_mk0), rfl, bel.frame _, fun h => by cases h⟩

theorem over : Rows.supersedeOneRow.holds Try.pinned (OpenSpec.ofChange Rows.supersedeOneSpec) :=
  OpenClaim.holds_of_wide 7 Try.f7 rfl rfl rfl rfl rfl rfl rfl ⟨rfl, rfl, rfl, rfl, rfl⟩ rfl rfl rfl rfl rfl (by kernel_rfl) Try.func7 (by kernel_rfl)
    (of_decide_eq_true (by kernel_rfl)) (by unfold Func.isWrapper; first | (rw [if_pos (by decide +kernel)]; kernel_rfl) | (rw [if_neg (by decide +kernel)]; exact ⟨rfl, rfl⟩))
    (fun os started H enc _ => lifted os started H enc)
end supersedeOne
/-- the statement -/
theorem supersedeOne_holds : Rows.SupersedeOneSaid := supersedeOne.over
#print axioms supersedeOne_holds
end Go.Proofs.Ytmjmichghfepkaa
