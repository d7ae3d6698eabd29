/-
  package history: Decode.
-/
import Derived.Test.YtobhhnfckhbeeaaHisE
namespace Go.Proofs.Ytobhhnfckhbeeaa
open Go.Eng Go.RowKit Go.Sort
variable {K : Kn} {Hs Rs : List Hl} {F G : Hl} {w : World} {p : Nat} {s : Hi} {L : List HEnt} {v : Value} {P : List UInt8}
theorem decMin_any (hs : Sat K w Hs) [hr : KRow encB 1 K v P] (h4 : 4 ≤ P.length) : Ret Try.prog 60 #[v] w fun r w' => r = .int .i64 (beNat (P.take 4) : Nat) ∧ Sat K w' Hs := by
  obtain ⟨ad, cap, rfl, hsl, hc⟩ := hr.ex
  have k1 := hr.first (i := 4) h4
  have hbl : (P.take 4).length = 4 := by rw [List.length_take]; omega
  generalize hbs : P.take 4 = bs at k1 hbl
  refine Ret.enter (n := 20) (args := [.slice ad P.length cap]) Try.func60 rfl rfl ?_
  refine C.keep [(0, _)] ⟨rfl, trivial⟩ ?_
  refine C.seq ?_
  refine C.region ?_
  refine R.ev rfl (E.assign rfl) ?_
  refine R.done ?_
  refine X.keep [(0, _)] ⟨rfl, trivial⟩ ?_
  refine X.next ?_
  refine C.seq ?_
  refine C.region ?_
  refine R.ev rfl (E.assign rfl) ?_
  refine R.done ?_
  refine X.keep [(0, _), (3, _)] ⟨rfl, rfl, trivial⟩ ?_
  refine X.next ?_
  refine C.seq ?_
  refine C.seq ?_
  refine C.region ?_
  refine R.ev rfl (E.move rfl) ?_
  refine R.ev rfl (E.sliceH (b := 4) rfl rfl Try.underlying69 Try.sz5 rfl (by omega)) ?_
  refine R.ev rfl (E.lenSl rfl Try.underlying69) ?_
  refine R.ev rfl (E.move rfl) ?_
  refine R.done ?_
  refine X.keep [(3, _), (7, _), (8, _), (9, _)] ⟨rfl, rfl, rfl, rfl, trivial⟩ ?_
  refine X.next ?_
  refine C.block ?_
  refine C.loop  [(7, _), (8, _)] (fun k => [(3, .int .i64 ((beNat (bs.take k) : Nat) : Int)), (9, .int .i64 (k : Nat))]) (fun k w' => k ≤ 4 ∧ Sat K w' Hs) (fun k => 4 - k) (0) ⟨rfl, rfl, rfl, rfl, trivial⟩ ⟨by omega, hs⟩ ?_
  rintro k w3 ⟨hk, hs⟩
  refine C.keep [(3, _), (7, _), (8, _), (9, _)] ⟨rfl, rfl, rfl, rfl, trivial⟩ ?_
  refine C.seq ?_
  refine C.region ?_
  refine R.ev rfl (E.lss rfl rfl) ?_
  refine R.done ?_
  refine X.keep [(3, _), (7, _), (8, _), (9, _), (10, _)] ⟨rfl, rfl, rfl, rfl, rfl, trivial⟩ ?_
  refine X.next ?_
  refine C.seq ?_
  refine C.cdec rfl (fun h10 => ?_) (fun h10 => ?_)
  · obtain ⟨y, bk_y, of_y, hy, my, ly, rfl, Ay⟩ := hs.el (i := k) (ad := ad) (n := 4) (c := cap) (by omega)
    have ay := Ay _ hs
    have hlt := beNat_lt (bs.take k)
    have hp : 256 ^ (bs.take k).length ≤ 256 ^ 3 := Nat.pow_le_pow_right (by decide) (by rw [List.length_take]; omega)
    refine C.skip ?_
    refine X.next ?_
    refine C.seq ?_
    refine C.block ?_
    refine C.seq ?_
    refine C.region ?_
    refine R.ev rfl (E.indexAddr rfl rfl Try.underlying69 Try.sz5 rfl (by first | omega | decide)) ?_
    refine R.ev rfl (E.load1 rfl Try.underlying5 rfl (ay 0 _ rfl)) ?_
    refine R.ev rfl (E.assign rfl) ?_
    refine R.done ?_
    refine X.keep [(3, _), (5, _), (7, _), (8, _), (9, _)] ⟨rfl, rfl, rfl, rfl, rfl, trivial⟩ ?_
    refine X.next ?_
    refine C.region ?_
    refine R.ev rfl (E.move rfl) ?_
    refine R.ev rfl (E.shl rfl rfl (by omega)) ?_
    refine R.ev rfl (E.move rfl) ?_
    refine R.ev rfl (E.conv rfl Try.underlying5 Try.underlying3) ?_
    refine R.ev rfl ((E.or rfl rfl).isI (c := ((beNat (bs.take (k + 1)) : Nat) : Int)) (by rw [take_snoc hy, beNat_snoc]; exact shl_orI (by omega))) ?_
    refine R.ev rfl (E.assign rfl) ?_
    refine R.done ?_
    refine X.keep [(3, _), (7, _), (8, _), (9, _)] ⟨rfl, rfl, rfl, rfl, trivial⟩ ?_
    refine X.blockNormal ?_
    refine X.next ?_
    refine C.region ?_
    refine R.ev rfl (E.add rfl rfl (by omega) (by omega)) ?_
    refine R.ev rfl (E.move rfl) ?_
    refine R.done ?_
    refine X.keep [(3, _), (7, _), (8, _), (9, _)] ⟨rfl, rfl, rfl, rfl, trivial⟩ ?_
    exact X.again (k + 1) ⟨rfl, rfl, rfl, rfl, trivial⟩ ⟨by omega, hs.to⟩ (by omega)
  · refine C.exit ?_
    refine X.thenExit ?_
    refine X.loopExit ?_
    refine X.blockExit ?_
    refine X.next ?_
    refine C.seq ?_
    refine C.region ?_
    refine R.ev rfl (E.move rfl) ?_
    refine R.ev rfl (E.assign rfl) ?_
    refine R.done ?_
    refine X.keep [(2, _)] ⟨rfl, trivial⟩ ?_
    refine X.next ?_
    refine C.ret ?_
    refine X.ret1 rfl rfl ?_
    exact ⟨by rw [show k = 4 by omega, List.take_of_length_le (by omega)], hs.to⟩
theorem decEnt_any (hs : Sat K w Hs) [hr : KRow encB 1 K v P] (hl : P.length = 41) : Ret Try.prog 61 #[v] w fun r w' => r = .tuple #[evH (decX P), .bool (okX P)] ∧ Sat K w' Hs := by
  obtain ⟨ad, cap, rfl, hsl, hc⟩ := hr.ex
  have k1 := hr.first (i := 32) (by omega)
  have k2 := hr.behind (i := 32) (by omega)
  have k3 := hr.behind (i := 36) (by omega)
  have hl1 : (P.take 32).length = 32 := by rw [List.length_take]; omega
  have eid : (decX P).id.1 = P.take 32 := by simp only [decX]; rw [dif_pos hl]
  obtain ⟨bk, of, rfl, hat⟩ := hsl.at_ (by intro e; rw [e] at hl; simp at hl)
  rw [encB_map] at hat
  have A32 : ∀ w', Sat K w' Hs → At w' bk of ((P.take 32).map ub) := fun w' h => by
    have := hat.at h
    rw [← List.take_append_drop 32 P, List.map_append] at this
    exact this.app.1
  have A40 : ∀ w', Sat K w' Hs → w'.cell? ⟨bk, of + 40 * 1, none⟩ = some (ub (flOf P)) := fun w' h => by
    refine hat.at h 40 _ ?_
    have h1 := List.drop_eq_getElem_cons (l := P) (i := 40) (by omega)
    rw [List.getElem?_map, List.getElem?_eq_getElem (by omega), flOf, h1]; rfl
  have hfl := (flOf P).toNat_lt
  have a40 := A40 _ hs
  refine Ret.enter (n := 33) (args := [.slice (some ⟨bk, of, none⟩) P.length cap]) Try.func61 rfl rfl ?_
  refine C.keep [(0, _)] ⟨rfl, trivial⟩ ?_
  refine C.seq ?_
  refine C.region ?_
  refine R.sallocA hs Try.zr29 rfl ?_
  intro b2 w2 hs
  refine R.ev rfl (E.assign rfl) ?_
  refine R.done ?_
  refine X.keep [(0, _), (2, _)] ⟨rfl, rfl, trivial⟩ ?_
  refine X.next ?_
  refine C.seq ?_
  refine C.region ?_
  refine R.ev rfl (E.move rfl) ?_
  refine R.ev rfl (E.indexAddr (i := 40) rfl rfl Try.underlying69 Try.sz5 rfl (by omega)) ?_
  refine R.ev rfl (E.load1 rfl Try.underlying5 rfl (A40 _ hs.to)) ?_
  refine R.ev rfl ((E.conv rfl Try.underlying5 Try.underlying3).isI (c := ((flOf P).toNat : Int)) (wrap_i64 (by omega) (by omega))) ?_
  refine R.ev rfl (E.assign rfl) ?_
  refine R.done ?_
  refine X.keep [(0, _), (2, _), (4, _)] ⟨rfl, rfl, rfl, trivial⟩ ?_
  refine X.next ?_
  refine C.seq ?_
  refine C.drawn (SatS hs) ([3], [0, 1, 2, 4, 5, 7, 8, 10, 11, 12, 13, 14]) (by kernel_rfl) ?_
  have hs := hs.drew
  refine D.evP 0 rfl (by kernel_rfl) rfl (fun _ => hs.to) (fun _ => E.move rfl) ?_
  refine D.evP 1 rfl (by kernel_rfl) rfl (fun _ => hs.to) (fun _ => E.sliceH (b := 32) rfl rfl Try.underlying69 Try.sz5 rfl (by omega)) ?_
  refine D.evP 2 rfl (by kernel_rfl) rfl (fun _ => hs.to) (fun _ => E.arrPtr rfl Try.underlying27 (by omega)) ?_
  refine D.evP 4 rfl (by kernel_rfl) rfl (fun _ => hs.to) (fun _ => E.move rfl) ?_
  refine D.evP 5 rfl (by kernel_rfl) rfl (fun _ => hs.to) (fun _ => E.sliceLs (a := 32) rfl rfl Try.underlying69 Try.sz5 rfl (by omega)) ?_
  refine D.evP 7 rfl (by kernel_rfl) rfl (fun _ => hs.to) (fun _ => E.move rfl) ?_
  refine D.evP 8 rfl (by kernel_rfl) rfl (fun _ => hs.to) (fun _ => E.sliceLs (a := 36) rfl rfl Try.underlying69 Try.sz5 rfl (by omega)) ?_
  refine D.evP 10 rfl (by kernel_rfl) rfl (fun _ => hs.to) (fun _ => E.move rfl) ?_
  refine D.evP 11 rfl (by kernel_rfl) rfl (fun _ => hs.to) (fun _ => (E.rem rfl rfl (by omega) (by omega)).isI (c := (((flOf P).toNat % 2 : Nat) : Int)) (by omega)) ?_
  refine D.evP 12 rfl (by kernel_rfl) rfl (fun _ => hs.to) (fun _ => E.move rfl) ?_
  refine D.evP 13 rfl (by kernel_rfl) rfl (fun _ => hs.to) (fun _ => (E.geq rfl rfl).isB (c := decide (2 ≤ (flOf P).toNat)) (by rw [decide_eq_decide]; omega)) ?_
  refine D.ev 3 rfl (by kernel_rfl) rfl hs.to (fun _ hS => (E.loadRow rfl Try.underlying27 rfl Try.sz27 (A32 _ hS.to) (by rw [List.length_map, hl1])).as (u := .agg ((decX P).id.1.map ub).toArray) (by rw [eid])) ?_
  refine D.act2 6 15 rfl rfl (by kernel_rfl) ?_ ?_
  · refine R.call ⟨_, _, Try.func60, rfl, by kernel_rfl⟩ rfl rfl (decMin_any (P := P.drop 32) hs (by rw [List.length_drop]; omega)) ?_
    rintro _ w16 ⟨rfl, hs⟩
    refine D.back hs.to ?_
    refine D.act2 9 15 rfl rfl (by kernel_rfl) ?_ ?_
    · refine R.call ⟨_, _, Try.func60, rfl, by kernel_rfl⟩ rfl rfl (decMin_any (P := P.drop 36) hs (by rw [List.length_drop]; omega)) ?_
      rintro _ w19 ⟨rfl, hs⟩
      refine D.back hs.to ?_
      refine D.evP 14 rfl (by kernel_rfl) rfl (fun _ => hs.to) (fun _ => E.buildG (r := encH (decX P)) rfl Try.underlying29 Try.zr29 Try.ql29 (by kernel_rfl) (by kernel_rfl) ⟨⟨_, rfl, by first | rfl | exact vsz _ | simp [Value.cells, *]⟩, ⟨_, rfl, by first | rfl | exact vsz _ | simp [Value.cells, *]⟩, ⟨_, rfl, by first | rfl | exact vsz _ | simp [Value.cells, *]⟩, ⟨_, rfl, by first | rfl | exact vsz _ | simp [Value.cells, *]⟩, ⟨_, rfl, by first | rfl | exact vsz _ | simp [Value.cells, *]⟩, trivial⟩ (by first | rfl | simp [setF, fieldsOf, Value.cells])) ?_
      refine D.act 15 rfl (by kernel_rfl) ?_
      refine R.sallocA hs Try.zr29 rfl ?_
      intro b5 w5 hs
      refine D.back hs.to ?_
      refine D.act 16 rfl (by kernel_rfl) ?_
      first | refine R.cstoreAll hs rfl rfl Try.sz29 (by first | rfl | assumption | exact encV_len _ | exact Enc.len _ | exact len_ub (by assumption) | simp [*]) (by first | rfl | assumption | exact encV_len _ | exact Enc.len _ | exact len_ub (by assumption) | simp [*]) (by first | assumption | exact OneL.all | exact Enc.one _ | exact ub_all _ | (repeat' (first | refine List.forall_mem_cons.2 ⟨?_, ?_⟩ | exact List.forall_mem_nil _ | rfl | exact OneC.one | exact KRow.oneC' (by assumption)))) ?_ | refine R.cstore hs rfl rfl Try.sz29 (by first | rfl | assumption | exact encV_len _ | exact Enc.len _ | exact len_ub (by assumption) | simp [*]) (by simp [*]) (by first | assumption | exact OneL.all | exact Enc.one _ | exact ub_all _ | (repeat' (first | refine List.forall_mem_cons.2 ⟨?_, ?_⟩ | exact List.forall_mem_nil _ | rfl | exact OneC.one | exact KRow.oneC' (by assumption)))) ?_
      intro w2_16 hs
      try simp only [List.set_cons_zero, List.set_cons_succ] at hs
      refine D.backT (by kernel_rfl) ?_
      refine D.done rfl (by kernel_rfl) ?_
      refine X.keep [(2, _), (4, _), (5, _)] ⟨rfl, rfl, rfl, trivial⟩ ?_
      refine X.next ?_
      refine C.seq ?_
      refine C.drawn (SatS hs) ([0, 4], [1, 2, 3, 6, 7, 9]) (by kernel_rfl) ?_
      have hs := hs.drew
      refine D.evP 1 rfl (by kernel_rfl) rfl (fun _ => hs.to) (fun _ => E.move rfl) ?_
      refine D.evP 2 rfl (by kernel_rfl) rfl (fun _ => hs.to) (fun _ => E.lss rfl rfl) ?_
      refine D.evP 3 rfl (by kernel_rfl) rfl (fun _ => hs.to) (fun _ => E.move rfl) ?_
      refine D.ev 0 rfl (by kernel_rfl) rfl hs.to (fun _ hS => E.loadRowC rfl Try.underlying29 rfl Try.sz29 (by first | exact ⟨hS.ldA, by first | rfl | assumption | exact encV_len _ | exact Enc.len _ | exact len_ub (by assumption)⟩ | exact ⟨hS.ldP rfl, by first | rfl | assumption | exact encV_len _ | exact Enc.len _ | exact len_ub (by assumption)⟩ | exact ⟨hS.ldM rfl rfl, by first | rfl | assumption | exact encV_len _ | exact Enc.len _ | exact len_ub (by assumption)⟩ | exact ⟨hS.ldM (by assumption) (by first | rfl | assumption), by first | rfl | assumption | exact encV_len _ | exact Enc.len _ | exact len_ub (by assumption)⟩ | exact ⟨by assumption, by first | rfl | assumption | exact encV_len _ | exact Enc.len _ | exact len_ub (by assumption)⟩ | exact ⟨(by assumption : ∀ w', Sat _ w' _ → At w' _ _ _) _ hS, by first | rfl | assumption | exact encV_len _ | exact Enc.len _ | exact len_ub (by assumption)⟩ | exact hS.ldp | exact At.partC (by assumption) | exact At.partC ((by assumption : ∀ w', Sat _ w' _ → At w' _ _ _) _ hS))) ?_
      refine D.split 28 rfl (fun h28 => ?_) (fun h28 => ?_)
      · refine D.evG 4 rfl (by kernel_rfl) rfl rfl rfl hs.to (fun _ hS => E.loadRowC rfl Try.underlying29 rfl Try.sz29 (by first | exact ⟨hS.ldA, by first | rfl | assumption | exact encV_len _ | exact Enc.len _ | exact len_ub (by assumption)⟩ | exact ⟨hS.ldP rfl, by first | rfl | assumption | exact encV_len _ | exact Enc.len _ | exact len_ub (by assumption)⟩ | exact ⟨hS.ldM rfl rfl, by first | rfl | assumption | exact encV_len _ | exact Enc.len _ | exact len_ub (by assumption)⟩ | exact ⟨hS.ldM (by assumption) (by first | rfl | assumption), by first | rfl | assumption | exact encV_len _ | exact Enc.len _ | exact len_ub (by assumption)⟩ | exact ⟨by assumption, by first | rfl | assumption | exact encV_len _ | exact Enc.len _ | exact len_ub (by assumption)⟩ | exact ⟨(by assumption : ∀ w', Sat _ w' _ → At w' _ _ _) _ hS, by first | rfl | assumption | exact encV_len _ | exact Enc.len _ | exact len_ub (by assumption)⟩ | exact hS.ldp | exact At.partC (by assumption) | exact At.partC ((by assumption : ∀ w', Sat _ w' _ → At w' _ _ _) _ hS))) ?_
        refine D.act 5 rfl (by kernel_rfl) ?_
        refine R.gyes rfl rfl ?_
        refine R.call ⟨_, _, Try.func15, rfl, by kernel_rfl⟩ rfl rfl (check_any (decX P) hs) ?_
        rintro _ w35 ⟨rfl, hs⟩
        refine D.back hs.to ?_
        refine D.evPG 6 rfl (by kernel_rfl) rfl rfl rfl (fun _ => hs.to) (fun _ => E.eql rfl rfl) ?_
        refine D.evP 7 rfl (by kernel_rfl) rfl (fun _ => hs.to) (fun _ => E.pickT rfl rfl) ?_
        refine D.act 8 rfl (by kernel_rfl) ?_
        first | refine R.cstoreAll hs rfl rfl Try.sz29 (by first | rfl | assumption | exact encV_len _ | exact Enc.len _ | exact len_ub (by assumption) | simp [*]) (by first | rfl | assumption | exact encV_len _ | exact Enc.len _ | exact len_ub (by assumption) | simp [*]) (by first | assumption | exact OneL.all | exact Enc.one _ | exact ub_all _ | (repeat' (first | refine List.forall_mem_cons.2 ⟨?_, ?_⟩ | exact List.forall_mem_nil _ | rfl | exact OneC.one | exact KRow.oneC' (by assumption)))) ?_ | refine R.cstore hs rfl rfl Try.sz29 (by first | rfl | assumption | exact encV_len _ | exact Enc.len _ | exact len_ub (by assumption) | simp [*]) (by simp [*]) (by first | assumption | exact OneL.all | exact Enc.one _ | exact ub_all _ | (repeat' (first | refine List.forall_mem_cons.2 ⟨?_, ?_⟩ | exact List.forall_mem_nil _ | rfl | exact OneC.one | exact KRow.oneC' (by assumption)))) ?_
        intro w3_8 hs
        try simp only [List.set_cons_zero, List.set_cons_succ] at hs
        refine D.backT (by kernel_rfl) ?_
        refine D.evP 9 rfl (by kernel_rfl) rfl (np (by kernel_rfl)) (fun _ => E.assign rfl) ?_
        refine D.done rfl (by kernel_rfl) ?_
        refine X.keep [(2, _), (3, _)] ⟨rfl, rfl, trivial⟩ ?_
        refine X.next ?_
        refine C.ret ?_
        refine X.resCT rfl rfl Try.underlying29 rfl Try.sz29 (by first | exact ⟨hs.ldA, by first | rfl | assumption | exact encV_len _ | exact Enc.len _ | exact len_ub (by assumption)⟩ | exact ⟨hs.ldP rfl, by first | rfl | assumption | exact encV_len _ | exact Enc.len _ | exact len_ub (by assumption)⟩ | exact ⟨by assumption, by first | rfl | assumption | exact encV_len _ | exact Enc.len _ | exact len_ub (by assumption)⟩) rfl ?_
        exact ⟨by first | (simp_all [okX]; done) | (simp_all [okX]; omega), hs.to⟩
      · refine D.skip 4 rfl (by kernel_rfl) rfl rfl rfl hs.to ?_
        refine D.act 5 rfl (by kernel_rfl) ?_
        refine R.gskip rfl rfl rfl ?_
        refine D.back hs.to ?_
        refine D.skipP 6 rfl (by kernel_rfl) rfl rfl rfl (fun _ => hs.to) ?_
        refine D.evP 7 rfl (by kernel_rfl) rfl (fun _ => hs.to) (fun _ => E.pickF rfl rfl) ?_
        refine D.act 8 rfl (by kernel_rfl) ?_
        first | refine R.cstoreAll hs rfl rfl Try.sz29 (by first | rfl | assumption | exact encV_len _ | exact Enc.len _ | exact len_ub (by assumption) | simp [*]) (by first | rfl | assumption | exact encV_len _ | exact Enc.len _ | exact len_ub (by assumption) | simp [*]) (by first | assumption | exact OneL.all | exact Enc.one _ | exact ub_all _ | (repeat' (first | refine List.forall_mem_cons.2 ⟨?_, ?_⟩ | exact List.forall_mem_nil _ | rfl | exact OneC.one | exact KRow.oneC' (by assumption)))) ?_ | refine R.cstore hs rfl rfl Try.sz29 (by first | rfl | assumption | exact encV_len _ | exact Enc.len _ | exact len_ub (by assumption) | simp [*]) (by simp [*]) (by first | assumption | exact OneL.all | exact Enc.one _ | exact ub_all _ | (repeat' (first | refine List.forall_mem_cons.2 ⟨?_, ?_⟩ | exact List.forall_mem_nil _ | rfl | exact OneC.one | exact KRow.oneC' (by assumption)))) ?_
        intro w3_8 hs
        try simp only [List.set_cons_zero, List.set_cons_succ] at hs
        refine D.backT (by kernel_rfl) ?_
        refine D.evP 9 rfl (by kernel_rfl) rfl (np (by kernel_rfl)) (fun _ => E.assign rfl) ?_
        refine D.done rfl (by kernel_rfl) ?_
        refine X.keep [(2, _), (3, _)] ⟨rfl, rfl, trivial⟩ ?_
        refine X.next ?_
        refine C.ret ?_
        refine X.resCT rfl rfl Try.underlying29 rfl Try.sz29 (by first | exact ⟨hs.ldA, by first | rfl | assumption | exact encV_len _ | exact Enc.len _ | exact len_ub (by assumption)⟩ | exact ⟨hs.ldP rfl, by first | rfl | assumption | exact encV_len _ | exact Enc.len _ | exact len_ub (by assumption)⟩ | exact ⟨by assumption, by first | rfl | assumption | exact encV_len _ | exact Enc.len _ | exact len_ub (by assumption)⟩) rfl ?_
        exact ⟨by first | (simp_all [okX]; done) | (simp_all [okX]; omega), hs.to⟩
    · refine R.sallocA hs Try.zr29 rfl ?_
      intro b5 w5 hs
      refine D.back hs.to ?_
      refine D.act 9 rfl (by kernel_rfl) ?_
      refine R.call ⟨_, _, Try.func60, rfl, by kernel_rfl⟩ rfl rfl (decMin_any (P := P.drop 36) hs (by rw [List.length_drop]; omega)) ?_
      rintro _ w19 ⟨rfl, hs⟩
      refine D.back hs.to ?_
      refine D.evP 14 rfl (by kernel_rfl) rfl (fun _ => hs.to) (fun _ => E.buildG (r := encH (decX P)) rfl Try.underlying29 Try.zr29 Try.ql29 (by kernel_rfl) (by kernel_rfl) ⟨⟨_, rfl, by first | rfl | exact vsz _ | simp [Value.cells, *]⟩, ⟨_, rfl, by first | rfl | exact vsz _ | simp [Value.cells, *]⟩, ⟨_, rfl, by first | rfl | exact vsz _ | simp [Value.cells, *]⟩, ⟨_, rfl, by first | rfl | exact vsz _ | simp [Value.cells, *]⟩, ⟨_, rfl, by first | rfl | exact vsz _ | simp [Value.cells, *]⟩, trivial⟩ (by first | rfl | simp [setF, fieldsOf, Value.cells])) ?_
      refine D.act 16 rfl (by kernel_rfl) ?_
      first | refine R.cstoreAll hs rfl rfl Try.sz29 (by first | rfl | assumption | exact encV_len _ | exact Enc.len _ | exact len_ub (by assumption) | simp [*]) (by first | rfl | assumption | exact encV_len _ | exact Enc.len _ | exact len_ub (by assumption) | simp [*]) (by first | assumption | exact OneL.all | exact Enc.one _ | exact ub_all _ | (repeat' (first | refine List.forall_mem_cons.2 ⟨?_, ?_⟩ | exact List.forall_mem_nil _ | rfl | exact OneC.one | exact KRow.oneC' (by assumption)))) ?_ | refine R.cstore hs rfl rfl Try.sz29 (by first | rfl | assumption | exact encV_len _ | exact Enc.len _ | exact len_ub (by assumption) | simp [*]) (by simp [*]) (by first | assumption | exact OneL.all | exact Enc.one _ | exact ub_all _ | (repeat' (first | refine List.forall_mem_cons.2 ⟨?_, ?_⟩ | exact List.forall_mem_nil _ | rfl | exact OneC.one | exact KRow.oneC' (by assumption)))) ?_
      intro w2_16 hs
      try simp only [List.set_cons_zero, List.set_cons_succ] at hs
      refine D.backT (by kernel_rfl) ?_
      refine D.done rfl (by kernel_rfl) ?_
      refine X.keep [(2, _), (4, _), (5, _)] ⟨rfl, rfl, rfl, trivial⟩ ?_
      refine X.next ?_
      refine C.seq ?_
      refine C.drawn (SatS hs) ([0, 4], [1, 2, 3, 6, 7, 9]) (by kernel_rfl) ?_
      have hs := hs.drew
      refine D.evP 1 rfl (by kernel_rfl) rfl (fun _ => hs.to) (fun _ => E.move rfl) ?_
      refine D.evP 2 rfl (by kernel_rfl) rfl (fun _ => hs.to) (fun _ => E.lss rfl rfl) ?_
      refine D.evP 3 rfl (by kernel_rfl) rfl (fun _ => hs.to) (fun _ => E.move rfl) ?_
      refine D.ev 0 rfl (by kernel_rfl) rfl hs.to (fun _ hS => E.loadRowC rfl Try.underlying29 rfl Try.sz29 (by first | exact ⟨hS.ldA, by first | rfl | assumption | exact encV_len _ | exact Enc.len _ | exact len_ub (by assumption)⟩ | exact ⟨hS.ldP rfl, by first | rfl | assumption | exact encV_len _ | exact Enc.len _ | exact len_ub (by assumption)⟩ | exact ⟨hS.ldM rfl rfl, by first | rfl | assumption | exact encV_len _ | exact Enc.len _ | exact len_ub (by assumption)⟩ | exact ⟨hS.ldM (by assumption) (by first | rfl | assumption), by first | rfl | assumption | exact encV_len _ | exact Enc.len _ | exact len_ub (by assumption)⟩ | exact ⟨by assumption, by first | rfl | assumption | exact encV_len _ | exact Enc.len _ | exact len_ub (by assumption)⟩ | exact ⟨(by assumption : ∀ w', Sat _ w' _ → At w' _ _ _) _ hS, by first | rfl | assumption | exact encV_len _ | exact Enc.len _ | exact len_ub (by assumption)⟩ | exact hS.ldp | exact At.partC (by assumption) | exact At.partC ((by assumption : ∀ w', Sat _ w' _ → At w' _ _ _) _ hS))) ?_
      refine D.split 28 rfl (fun h28 => ?_) (fun h28 => ?_)
      · refine D.evG 4 rfl (by kernel_rfl) rfl rfl rfl hs.to (fun _ hS => E.loadRowC rfl Try.underlying29 rfl Try.sz29 (by first | exact ⟨hS.ldA, by first | rfl | assumption | exact encV_len _ | exact Enc.len _ | exact len_ub (by assumption)⟩ | exact ⟨hS.ldP rfl, by first | rfl | assumption | exact encV_len _ | exact Enc.len _ | exact len_ub (by assumption)⟩ | exact ⟨hS.ldM rfl rfl, by first | rfl | assumption | exact encV_len _ | exact Enc.len _ | exact len_ub (by assumption)⟩ | exact ⟨hS.ldM (by assumption) (by first | rfl | assumption), by first | rfl | assumption | exact encV_len _ | exact Enc.len _ | exact len_ub (by assumption)⟩ | exact ⟨by assumption, by first | rfl | assumption | exact encV_len _ | exact Enc.len _ | exact len_ub (by assumption)⟩ | exact ⟨(by assumption : ∀ w', Sat _ w' _ → At w' _ _ _) _ hS, by first | rfl | assumption | exact encV_len _ | exact Enc.len _ | exact len_ub (by assumption)⟩ | exact hS.ldp | exact At.partC (by assumption) | exact At.partC ((by assumption : ∀ w', Sat _ w' _ → At w' _ _ _) _ hS))) ?_
        refine D.act 5 rfl (by kernel_rfl) ?_
        refine R.gyes rfl rfl ?_
        refine R.call ⟨_, _, Try.func15, rfl, by kernel_rfl⟩ rfl rfl (check_any (decX P) hs) ?_
        rintro _ w35 ⟨rfl, hs⟩
        refine D.back hs.to ?_
        refine D.evPG 6 rfl (by kernel_rfl) rfl rfl rfl (fun _ => hs.to) (fun _ => E.eql rfl rfl) ?_
        refine D.evP 7 rfl (by kernel_rfl) rfl (fun _ => hs.to) (fun _ => E.pickT rfl rfl) ?_
        refine D.act 8 rfl (by kernel_rfl) ?_
        first | refine R.cstoreAll hs rfl rfl Try.sz29 (by first | rfl | assumption | exact encV_len _ | exact Enc.len _ | exact len_ub (by assumption) | simp [*]) (by first | rfl | assumption | exact encV_len _ | exact Enc.len _ | exact len_ub (by assumption) | simp [*]) (by first | assumption | exact OneL.all | exact Enc.one _ | exact ub_all _ | (repeat' (first | refine List.forall_mem_cons.2 ⟨?_, ?_⟩ | exact List.forall_mem_nil _ | rfl | exact OneC.one | exact KRow.oneC' (by assumption)))) ?_ | refine R.cstore hs rfl rfl Try.sz29 (by first | rfl | assumption | exact encV_len _ | exact Enc.len _ | exact len_ub (by assumption) | simp [*]) (by simp [*]) (by first | assumption | exact OneL.all | exact Enc.one _ | exact ub_all _ | (repeat' (first | refine List.forall_mem_cons.2 ⟨?_, ?_⟩ | exact List.forall_mem_nil _ | rfl | exact OneC.one | exact KRow.oneC' (by assumption)))) ?_
        intro w3_8 hs
        try simp only [List.set_cons_zero, List.set_cons_succ] at hs
        refine D.backT (by kernel_rfl) ?_
        refine D.evP 9 rfl (by kernel_rfl) rfl (np (by kernel_rfl)) (fun _ => E.assign rfl) ?_
        refine D.done rfl (by kernel_rfl) ?_
        refine X.keep [(2, _), (3, _)] ⟨rfl, rfl, trivial⟩ ?_
        refine X.next ?_
        refine C.ret ?_
        refine X.resCT rfl rfl Try.underlying29 rfl Try.sz29 (by first | exact ⟨hs.ldA, by first | rfl | assumption | exact encV_len _ | exact Enc.len _ | exact len_ub (by assumption)⟩ | exact ⟨hs.ldP rfl, by first | rfl | assumption | exact encV_len _ | exact Enc.len _ | exact len_ub (by assumption)⟩ | exact ⟨by assumption, by first | rfl | assumption | exact encV_len _ | exact Enc.len _ | exact len_ub (by assumption)⟩) rfl ?_
        exact ⟨by first | (simp_all [okX]; done) | (simp_all [okX]; omega), hs.to⟩
      · refine D.skip 4 rfl (by kernel_rfl) rfl rfl rfl hs.to ?_
        refine D.act 5 rfl (by kernel_rfl) ?_
        refine R.gskip rfl rfl rfl ?_
        refine D.back hs.to ?_
        refine D.skipP 6 rfl (by kernel_rfl) rfl rfl rfl (fun _ => hs.to) ?_
        refine D.evP 7 rfl (by kernel_rfl) rfl (fun _ => hs.to) (fun _ => E.pickF rfl rfl) ?_
        refine D.act 8 rfl (by kernel_rfl) ?_
        first | refine R.cstoreAll hs rfl rfl Try.sz29 (by first | rfl | assumption | exact encV_len _ | exact Enc.len _ | exact len_ub (by assumption) | simp [*]) (by first | rfl | assumption | exact encV_len _ | exact Enc.len _ | exact len_ub (by assumption) | simp [*]) (by first | assumption | exact OneL.all | exact Enc.one _ | exact ub_all _ | (repeat' (first | refine List.forall_mem_cons.2 ⟨?_, ?_⟩ | exact List.forall_mem_nil _ | rfl | exact OneC.one | exact KRow.oneC' (by assumption)))) ?_ | refine R.cstore hs rfl rfl Try.sz29 (by first | rfl | assumption | exact encV_len _ | exact Enc.len _ | exact len_ub (by assumption) | simp [*]) (by simp [*]) (by first | assumption | exact OneL.all | exact Enc.one _ | exact ub_all _ | (repeat' (first | refine List.forall_mem_cons.2 ⟨?_, ?_⟩ | exact List.forall_mem_nil _ | rfl | exact OneC.one | exact KRow.oneC' (by assumption)))) ?_
        intro w3_8 hs
        try simp only [List.set_cons_zero, List.set_cons_succ] at hs
        refine D.backT (by kernel_rfl) ?_
        refine D.evP 9 rfl (by kernel_rfl) rfl (np (by kernel_rfl)) (fun _ => E.assign rfl) ?_
        refine D.done rfl (by kernel_rfl) ?_
        refine X.keep [(2, _), (3, _)] ⟨rfl, rfl, trivial⟩ ?_
        refine X.next ?_
        refine C.ret ?_
        refine X.resCT rfl rfl Try.underlying29 rfl Try.sz29 (by first | exact ⟨hs.ldA, by first | rfl | assumption | exact encV_len _ | exact Enc.len _ | exact len_ub (by assumption)⟩ | exact ⟨hs.ldP rfl, by first | rfl | assumption | exact encV_len _ | exact Enc.len _ | exact len_ub (by assumption)⟩ | exact ⟨by assumption, by first | rfl | assumption | exact encV_len _ | exact Enc.len _ | exact len_ub (by assumption)⟩) rfl ?_
        exact ⟨by first | (simp_all [okX]; done) | (simp_all [okX]; omega), hs.to⟩
  · refine R.sallocA hs Try.zr29 rfl ?_
    intro b5 w5 hs
    refine D.back hs.to ?_
    refine D.act 6 rfl (by kernel_rfl) ?_
    refine R.call ⟨_, _, Try.func60, rfl, by kernel_rfl⟩ rfl rfl (decMin_any (P := P.drop 32) hs (by rw [List.length_drop]; omega)) ?_
    rintro _ w16 ⟨rfl, hs⟩
    refine D.back hs.to ?_
    refine D.act 9 rfl (by kernel_rfl) ?_
    refine R.call ⟨_, _, Try.func60, rfl, by kernel_rfl⟩ rfl rfl (decMin_any (P := P.drop 36) hs (by rw [List.length_drop]; omega)) ?_
    rintro _ w19 ⟨rfl, hs⟩
    refine D.back hs.to ?_
    refine D.evP 14 rfl (by kernel_rfl) rfl (fun _ => hs.to) (fun _ => E.buildG (r := encH (decX P)) rfl Try.underlying29 Try.zr29 Try.ql29 (by kernel_rfl) (by kernel_rfl) ⟨⟨_, rfl, by first | rfl | exact vsz _ | simp [Value.cells, *]⟩, ⟨_, rfl, by first | rfl | exact vsz _ | simp [Value.cells, *]⟩, ⟨_, rfl, by first | rfl | exact vsz _ | simp [Value.cells, *]⟩, ⟨_, rfl, by first | rfl | exact vsz _ | simp [Value.cells, *]⟩, ⟨_, rfl, by first | rfl | exact vsz _ | simp [Value.cells, *]⟩, trivial⟩ (by first | rfl | simp [setF, fieldsOf, Value.cells])) ?_
    refine D.act 16 rfl (by kernel_rfl) ?_
    first | refine R.cstoreAll hs rfl rfl Try.sz29 (by first | rfl | assumption | exact encV_len _ | exact Enc.len _ | exact len_ub (by assumption) | simp [*]) (by first | rfl | assumption | exact encV_len _ | exact Enc.len _ | exact len_ub (by assumption) | simp [*]) (by first | assumption | exact OneL.all | exact Enc.one _ | exact ub_all _ | (repeat' (first | refine List.forall_mem_cons.2 ⟨?_, ?_⟩ | exact List.forall_mem_nil _ | rfl | exact OneC.one | exact KRow.oneC' (by assumption)))) ?_ | refine R.cstore hs rfl rfl Try.sz29 (by first | rfl | assumption | exact encV_len _ | exact Enc.len _ | exact len_ub (by assumption) | simp [*]) (by simp [*]) (by first | assumption | exact OneL.all | exact Enc.one _ | exact ub_all _ | (repeat' (first | refine List.forall_mem_cons.2 ⟨?_, ?_⟩ | exact List.forall_mem_nil _ | rfl | exact OneC.one | exact KRow.oneC' (by assumption)))) ?_
    intro w2_16 hs
    try simp only [List.set_cons_zero, List.set_cons_succ] at hs
    refine D.backT (by kernel_rfl) ?_
    refine D.done rfl (by kernel_rfl) ?_
    refine X.keep [(2, _), (4, _), (5, _)] ⟨rfl, rfl, rfl, trivial⟩ ?_
    refine X.next ?_
    refine C.seq ?_
    refine C.drawn (SatS hs) ([0, 4], [1, 2, 3, 6, 7, 9]) (by kernel_rfl) ?_
    have hs := hs.drew
    refine D.evP 1 rfl (by kernel_rfl) rfl (fun _ => hs.to) (fun _ => E.move rfl) ?_
    refine D.evP 2 rfl (by kernel_rfl) rfl (fun _ => hs.to) (fun _ => E.lss rfl rfl) ?_
    refine D.evP 3 rfl (by kernel_rfl) rfl (fun _ => hs.to) (fun _ => E.move rfl) ?_
    refine D.ev 0 rfl (by kernel_rfl) rfl hs.to (fun _ hS => E.loadRowC rfl Try.underlying29 rfl Try.sz29 (by first | exact ⟨hS.ldA, by first | rfl | assumption | exact encV_len _ | exact Enc.len _ | exact len_ub (by assumption)⟩ | exact ⟨hS.ldP rfl, by first | rfl | assumption | exact encV_len _ | exact Enc.len _ | exact len_ub (by assumption)⟩ | exact ⟨hS.ldM rfl rfl, by first | rfl | assumption | exact encV_len _ | exact Enc.len _ | exact len_ub (by assumption)⟩ | exact ⟨hS.ldM (by assumption) (by first | rfl | assumption), by first | rfl | assumption | exact encV_len _ | exact Enc.len _ | exact len_ub (by assumption)⟩ | exact ⟨by assumption, by first | rfl | assumption | exact encV_len _ | exact Enc.len _ | exact len_ub (by assumption)⟩ | exact ⟨(by assumption : ∀ w', Sat _ w' _ → At w' _ _ _) _ hS, by first | rfl | assumption | exact encV_len _ | exact Enc.len _ | exact len_ub (by assumption)⟩ | exact hS.ldp | exact At.partC (by assumption) | exact At.partC ((by assumption : ∀ w', Sat _ w' _ → At w' _ _ _) _ hS))) ?_
    refine D.split 28 rfl (fun h28 => ?_) (fun h28 => ?_)
    · refine D.evG 4 rfl (by kernel_rfl) rfl rfl rfl hs.to (fun _ hS => E.loadRowC rfl Try.underlying29 rfl Try.sz29 (by first | exact ⟨hS.ldA, by first | rfl | assumption | exact encV_len _ | exact Enc.len _ | exact len_ub (by assumption)⟩ | exact ⟨hS.ldP rfl, by first | rfl | assumption | exact encV_len _ | exact Enc.len _ | exact len_ub (by assumption)⟩ | exact ⟨hS.ldM rfl rfl, by first | rfl | assumption | exact encV_len _ | exact Enc.len _ | exact len_ub (by assumption)⟩ | exact ⟨hS.ldM (by assumption) (by first | rfl | assumption), by first | rfl | assumption | exact encV_len _ | exact Enc.len _ | exact len_ub (by assumption)⟩ | exact ⟨by assumption, by first | rfl | assumption | exact encV_len _ | exact Enc.len _ | exact len_ub (by assumption)⟩ | exact ⟨(by assumption : ∀ w', Sat _ w' _ → At w' _ _ _) _ hS, by first | rfl | assumption | exact encV_len _ | exact Enc.len _ | exact len_ub (by assumption)⟩ | exact hS.ldp | exact At.partC (by assumption) | exact At.partC ((by assumption : ∀ w', Sat _ w' _ → At w' _ _ _) _ hS))) ?_
      refine D.act 5 rfl (by kernel_rfl) ?_
      refine R.gyes rfl rfl ?_
      refine R.call ⟨_, _, Try.func15, rfl, by kernel_rfl⟩ rfl rfl (check_any (decX P) hs) ?_
      rintro _ w35 ⟨rfl, hs⟩
      refine D.back hs.to ?_
      refine D.evPG 6 rfl (by kernel_rfl) rfl rfl rfl (fun _ => hs.to) (fun _ => E.eql rfl rfl) ?_
      refine D.evP 7 rfl (by kernel_rfl) rfl (fun _ => hs.to) (fun _ => E.pickT rfl rfl) ?_
      refine D.act 8 rfl (by kernel_rfl) ?_
      first | refine R.cstoreAll hs rfl rfl Try.sz29 (by first | rfl | assumption | exact encV_len _ | exact Enc.len _ | exact len_ub (by assumption) | simp [*]) (by first | rfl | assumption | exact encV_len _ | exact Enc.len _ | exact len_ub (by assumption) | simp [*]) (by first | assumption | exact OneL.all | exact Enc.one _ | exact ub_all _ | (repeat' (first | refine List.forall_mem_cons.2 ⟨?_, ?_⟩ | exact List.forall_mem_nil _ | rfl | exact OneC.one | exact KRow.oneC' (by assumption)))) ?_ | refine R.cstore hs rfl rfl Try.sz29 (by first | rfl | assumption | exact encV_len _ | exact Enc.len _ | exact len_ub (by assumption) | simp [*]) (by simp [*]) (by first | assumption | exact OneL.all | exact Enc.one _ | exact ub_all _ | (repeat' (first | refine List.forall_mem_cons.2 ⟨?_, ?_⟩ | exact List.forall_mem_nil _ | rfl | exact OneC.one | exact KRow.oneC' (by assumption)))) ?_
      intro w3_8 hs
      try simp only [List.set_cons_zero, List.set_cons_succ] at hs
      refine D.backT (by kernel_rfl) ?_
      refine D.evP 9 rfl (by kernel_rfl) rfl (np (by kernel_rfl)) (fun _ => E.assign rfl) ?_
      refine D.done rfl (by kernel_rfl) ?_
      refine X.keep [(2, _), (3, _)] ⟨rfl, rfl, trivial⟩ ?_
      refine X.next ?_
      refine C.ret ?_
      refine X.resCT rfl rfl Try.underlying29 rfl Try.sz29 (by first | exact ⟨hs.ldA, by first | rfl | assumption | exact encV_len _ | exact Enc.len _ | exact len_ub (by assumption)⟩ | exact ⟨hs.ldP rfl, by first | rfl | assumption | exact encV_len _ | exact Enc.len _ | exact len_ub (by assumption)⟩ | exact ⟨by assumption, by first | rfl | assumption | exact encV_len _ | exact Enc.len _ | exact len_ub (by assumption)⟩) rfl ?_
      exact ⟨by first | (simp_all [okX]; done) | (simp_all [okX]; omega), hs.to⟩
    · refine D.skip 4 rfl (by kernel_rfl) rfl rfl rfl hs.to ?_
      refine D.act 5 rfl (by kernel_rfl) ?_
      refine R.gskip rfl rfl rfl ?_
      refine D.back hs.to ?_
      refine D.skipP 6 rfl (by kernel_rfl) rfl rfl rfl (fun _ => hs.to) ?_
      refine D.evP 7 rfl (by kernel_rfl) rfl (fun _ => hs.to) (fun _ => E.pickF rfl rfl) ?_
      refine D.act 8 rfl (by kernel_rfl) ?_
      first | refine R.cstoreAll hs rfl rfl Try.sz29 (by first | rfl | assumption | exact encV_len _ | exact Enc.len _ | exact len_ub (by assumption) | simp [*]) (by first | rfl | assumption | exact encV_len _ | exact Enc.len _ | exact len_ub (by assumption) | simp [*]) (by first | assumption | exact OneL.all | exact Enc.one _ | exact ub_all _ | (repeat' (first | refine List.forall_mem_cons.2 ⟨?_, ?_⟩ | exact List.forall_mem_nil _ | rfl | exact OneC.one | exact KRow.oneC' (by assumption)))) ?_ | refine R.cstore hs rfl rfl Try.sz29 (by first | rfl | assumption | exact encV_len _ | exact Enc.len _ | exact len_ub (by assumption) | simp [*]) (by simp [*]) (by first | assumption | exact OneL.all | exact Enc.one _ | exact ub_all _ | (repeat' (first | refine List.forall_mem_cons.2 ⟨?_, ?_⟩ | exact List.forall_mem_nil _ | rfl | exact OneC.one | exact KRow.oneC' (by assumption)))) ?_
      intro w3_8 hs
      try simp only [List.set_cons_zero, List.set_cons_succ] at hs
      refine D.backT (by kernel_rfl) ?_
      refine D.evP 9 rfl (by kernel_rfl) rfl (np (by kernel_rfl)) (fun _ => E.assign rfl) ?_
      refine D.done rfl (by kernel_rfl) ?_
      refine X.keep [(2, _), (3, _)] ⟨rfl, rfl, trivial⟩ ?_
      refine X.next ?_
      refine C.ret ?_
      refine X.resCT rfl rfl Try.underlying29 rfl Try.sz29 (by first | exact ⟨hs.ldA, by first | rfl | assumption | exact encV_len _ | exact Enc.len _ | exact len_ub (by assumption)⟩ | exact ⟨hs.ldP rfl, by first | rfl | assumption | exact encV_len _ | exact Enc.len _ | exact len_ub (by assumption)⟩ | exact ⟨by assumption, by first | rfl | assumption | exact encV_len _ | exact Enc.len _ | exact len_ub (by assumption)⟩) rfl ?_
      exact ⟨by first | (simp_all [okX]; done) | (simp_all [okX]; omega), hs.to⟩
def DPost (K : Kn) (Hs : List Hl) (P : List UInt8) (r : Value) (w' : World) : Prop :=
  ((∀ c D, ¬ GoodB P c D) ∧ r = .tuple #[.pointer none, .int .i64 3] ∧ Sat K w' Hs) ∨ ∃ c D p s F, GoodB P c D ∧ r = .tuple #[ptr p, .int .i64 0] ∧ s.cut = c ∧ Ord s D ∧ HiL p s F ∧ Sat K w' (F :: Hs)
theorem Ord.snoc {D : List HEnt} {x : HEnt} (h : Ord s D) (hx : ∀ y ∈ D, ltH y x = true) (hl : s.M.length < 1000000) : Ord { s with M := putM x.id x s.M } (D ++ [x]) := by
  have hnn : lkM s.M x.id = none := by
    cases e : lkM s.M x.id with
    | none => rfl
    | some y =>
      have hid := h.keyOf e
      have hy : y ∈ D := (h.lk y).2 (by rw [hid]; exact e)
      have := hx y hy
      rw [ltH, hid, ltV_swo.irrefl] at this; cases this
  refine Ord.of (h.ok.put (by have := putM_len (x := x) (a := x.id) s.M; omega)) ?_ fun y => ?_
  · rw [SS, List.pairwise_append]
    exact ⟨h.ss, by simp, fun y hy z hz => by simp at hz; subst hz; exact hx y hy⟩
  · rw [List.mem_append, List.mem_singleton, lkM_put, h.lk]
    by_cases hyx : y.id = x.id
    · rw [if_pos hyx]
      constructor
      · rintro (h1 | rfl)
        · rw [hyx, hnn] at h1; cases h1
        · rfl
      · intro h1; simp at h1; exact .inr h1.symm
    · rw [if_neg hyx]
      constructor
      · rintro (h1 | rfl)
        · exact h1
        · exact absurd rfl hyx
      · exact .inl
theorem decode_any (hs : Sat K w Hs) [hr : KRow encB 1 K v P] (hP : P.length ≤ 10000) : Ret Try.prog 36 #[v] w (DPost K Hs P) := by
  obtain ⟨ad, cap, rfl, hsl, hc⟩ := hr.ex
  refine Ret.enter (n := 74) (args := [.slice ad P.length cap]) Try.func36 rfl rfl ?_
  refine C.keep [(0, _)] ⟨rfl, trivial⟩ ?_
  refine C.seq ?_
  refine C.region ?_
  refine R.ev rfl (E.assign rfl) ?_
  refine R.ev rfl (E.assign rfl) ?_
  refine R.done ?_
  refine X.keep [(0, _)] ⟨rfl, trivial⟩ ?_
  refine X.next ?_
  refine C.seq ?_
  refine C.seq ?_
  refine C.region ?_
  refine R.ev rfl (E.move rfl) ?_
  refine R.ev rfl (E.lenSl rfl Try.underlying69) ?_
  refine R.ev rfl (E.lss rfl rfl) ?_
  refine R.ev rfl (E.move rfl) ?_
  refine R.split 13 rfl (fun h13 => ?_) (fun h13 => ?_)
  · refine R.gskip rfl rfl rfl ?_
    refine R.gskip rfl rfl rfl ?_
    refine R.gskip rfl rfl rfl ?_
    refine R.gskip rfl rfl rfl ?_
    refine R.gskip rfl rfl rfl ?_
    refine R.ev rfl (E.pickT rfl rfl) ?_
    refine R.ev rfl (E.move rfl) ?_
    refine R.gskip rfl rfl rfl ?_
    refine R.gskip rfl rfl rfl ?_
    refine R.gskip rfl rfl rfl ?_
    refine R.gskip rfl rfl rfl ?_
    refine R.ev rfl (E.pickT rfl rfl) ?_
    refine R.done ?_
    refine X.keep [(0, _), (25, _)] ⟨rfl, rfl, trivial⟩ ?_
    refine X.next ?_
    refine C.ctrue rfl ?_
    refine C.seq ?_
    refine C.region ?_
    refine R.ev rfl (E.assign rfl) ?_
    refine R.ev rfl (E.assign rfl) ?_
    refine R.done ?_
    refine X.keep [(2, _), (3, _)] ⟨rfl, rfl, trivial⟩ ?_
    refine X.next ?_
    refine C.ret ?_
    refine X.thenRet ?_
    refine X.ret2 rfl rfl rfl ?_
    refine .inl ⟨fun c Dx g => ?_, rfl, hs.to⟩
    obtain ⟨g1, g2, g3⟩ := g.head
    first
      | (have := of_decide_eq_true h13; omega)
      | (have := of_decide_eq_true h20; omega)
      | (rw [g3, g.cut] at h25; simp at h25)
  · refine R.gyes rfl rfl ?_
    refine R.ev rfl (E.move rfl) ?_
    refine R.gyes rfl rfl ?_
    refine R.ev rfl (E.lenSl rfl Try.underlying69) ?_
    refine R.gyes rfl rfl ?_
    refine R.ev rfl (E.sub rfl rfl (by omega) (by omega)) ?_
    refine R.gyes rfl rfl ?_
    refine R.ev rfl (E.rem rfl rfl (by omega) (by have := of_decide_eq_false h13; omega)) ?_
    refine R.gyes rfl rfl ?_
    refine R.ev rfl (E.neq rfl rfl) ?_
    refine R.ev rfl (E.pickF rfl rfl) ?_
    refine R.ev rfl (E.move rfl) ?_
    refine R.split 20 rfl (fun h20 => ?_) (fun h20 => ?_)
    · refine R.gskip rfl rfl rfl ?_
      refine R.gskip rfl rfl rfl ?_
      refine R.gskip rfl rfl rfl ?_
      refine R.gskip rfl rfl rfl ?_
      refine R.ev rfl (E.pickT rfl rfl) ?_
      refine R.done ?_
      refine X.keep [(0, _), (25, _)] ⟨rfl, rfl, trivial⟩ ?_
      refine X.next ?_
      refine C.ctrue rfl ?_
      refine C.seq ?_
      refine C.region ?_
      refine R.ev rfl (E.assign rfl) ?_
      refine R.ev rfl (E.assign rfl) ?_
      refine R.done ?_
      refine X.keep [(2, _), (3, _)] ⟨rfl, rfl, trivial⟩ ?_
      refine X.next ?_
      refine C.ret ?_
      refine X.thenRet ?_
      refine X.ret2 rfl rfl rfl ?_
      refine .inl ⟨fun c Dx g => ?_, rfl, hs.to⟩
      obtain ⟨g1, g2, g3⟩ := g.head
      first
        | (have := of_decide_eq_true h13; omega)
        | (have := of_decide_eq_true h20; omega)
        | (rw [g3, g.cut] at h25; simp at h25)
    · refine R.gyes rfl rfl ?_
      have h4 : 4 ≤ P.length := by have := of_decide_eq_false h13; omega
      have hmod : (P.length - 4) % 41 = 0 := by have := of_decide_eq_false h20; omega
      refine R.ev rfl (E.move rfl) ?_
      refine R.gyes rfl rfl ?_
      refine R.call ⟨_, _, Try.func60, rfl, by kernel_rfl⟩ rfl rfl (decMin_any (P := P) hs h4) ?_
      rintro _ w1 ⟨rfl, hs⟩
      refine R.gyes rfl rfl ?_
      refine R.call ⟨_, _, Try.func41, rfl, by kernel_rfl⟩ rfl rfl (isMinute_any _ _) ?_
      rintro _ _ ⟨rfl, rfl⟩
      refine R.gyes rfl rfl ?_
      refine R.ev rfl ((E.not rfl).isB (c := !(isMin (beNat (P.take 4) : Nat))) rfl) ?_
      refine R.ev rfl (E.pickF rfl rfl) ?_
      refine R.done ?_
      refine X.keep [(0, _), (25, _)] ⟨rfl, rfl, trivial⟩ ?_
      refine X.next ?_
      refine C.cbool rfl (fun h25 => ?_) (fun h25 => ?_)
      · refine C.seq ?_
        refine C.region ?_
        refine R.ev rfl (E.assign rfl) ?_
        refine R.ev rfl (E.assign rfl) ?_
        refine R.done ?_
        refine X.keep [(2, _), (3, _)] ⟨rfl, rfl, trivial⟩ ?_
        refine X.next ?_
        refine C.ret ?_
        refine X.thenRet ?_
        refine X.ret2 rfl rfl rfl ?_
        refine .inl ⟨fun c Dx g => ?_, rfl, hs.to⟩
        obtain ⟨g1, g2, g3⟩ := g.head
        first
          | (have := of_decide_eq_true h13; omega)
          | (have := of_decide_eq_true h20; omega)
          | (rw [g3, g.cut] at h25; simp at h25)
      · refine C.skip ?_
        refine X.next ?_
        refine C.seq ?_
        refine C.region ?_
        have hm : isMin (beNat (P.take 4) : Nat) = true := by simpa using h25
        refine R.call ⟨_, _, Try.func40, rfl, by kernel_rfl⟩ rfl rfl (new_any hs) ?_
        rintro _ w3 ⟨p, F, rfl, hw, hs⟩
        obtain ⟨m, G, hF, hmp⟩ := hw.ex
        simp only at hmp hF
        subst hF
        have hs := hs.cut
        refine R.ev rfl (E.assign rfl) ?_
        refine R.done ?_
        refine X.keep [(0, _), (4, _)] ⟨rfl, rfl, trivial⟩ ?_
        refine X.next ?_
        refine C.seq ?_
        refine C.region ?_
        refine R.ev rfl (E.move rfl) ?_
        refine R.ev rfl (E.move rfl) ?_
        refine R.call ⟨_, _, Try.func60, rfl, by kernel_rfl⟩ rfl rfl (decMin_any (P := P) hs h4) ?_
        rintro _ w4 ⟨rfl, hs⟩
        generalize hcc : ((beNat (P.take 4) : Nat) : Int) = c at hm
        have hpre : PreB P c [] := by rw [← hcc]; exact PreB.start h4 (by rw [hcc]; exact hm)
        refine R.ev rfl (E.nilCheck rfl) ?_
        first | refine R.ev rfl (E.fieldAddr0 1 rfl Try.underlying88 rfl Try.sz3 rfl) ?_ | refine R.ev rfl (E.fieldAddrN 1 rfl Try.underlying88 rfl Try.sz3 rfl) ?_
        refine R.cstore1 hs rfl rfl Try.sz3 (by first | decide | simp [*]) (by first | rfl | exact OneC.one | exact KRow.oneC' (by assumption)) ?_
        intro w4_5 hs
        try simp only [List.set_cons_zero, List.set_cons_succ] at hs
        refine R.done ?_
        refine X.keep [(0, _), (4, _)] ⟨rfl, rfl, trivial⟩ ?_
        refine X.next ?_
        refine C.seq ?_
        refine C.region ?_
        refine R.sallocA hs Try.zr29 rfl ?_
        intro b5 w5 hs
        refine R.done ?_
        refine X.keep [(0, _), (4, _), (5, _)] ⟨rfl, rfl, rfl, trivial⟩ ?_
        refine X.next ?_
        refine C.seq ?_
        refine C.seq ?_
        refine C.drawn (SatS hs) ([], [0, 1, 2, 3]) (by kernel_rfl) ?_
        have hs := hs.drew
        have hb4 := hr.behind (i := 4) h4
        refine D.evP 0 rfl (by kernel_rfl) rfl (np (by kernel_rfl)) (fun _ => E.move rfl) ?_
        refine D.evP 1 rfl (by kernel_rfl) rfl (np (by kernel_rfl)) (fun _ => E.sliceLs (a := 4) rfl rfl Try.underlying69 Try.sz5 rfl (by omega)) ?_
        refine D.evP 2 rfl (by kernel_rfl) rfl (np (by kernel_rfl)) (fun _ => E.assign rfl) ?_
        refine D.evP 3 rfl (by kernel_rfl) rfl (np (by kernel_rfl)) (fun _ => E.assign rfl) ?_
        refine D.done rfl (by kernel_rfl) ?_
        refine X.keep [(4, _), (5, _), (6, _), (7, _)] ⟨rfl, rfl, rfl, rfl, trivial⟩ ?_
        refine X.next ?_
        refine C.block ?_
        refine C.loop (T := List HEnt × HMap × Hl × Option Addr × Nat × HEnt) [(4, _), (5, _)] (fun (Dx, _, _, ad, cap, _) => [(6, .int .i64 (Dx.length : Nat)), (7, .slice ad (P.length - (4 + 41 * Dx.length)) cap)]) (fun (Dx, M, G, ad, cap, z) w' => PreB P c Dx ∧ Ord ⟨M, c⟩ Dx ∧ MapL ekI evH m M G ∧ (0 < Dx.length → Dx[Dx.length - 1]? = some z) ∧ KRow encB 1 K (.slice ad (P.length - (4 + 41 * Dx.length)) cap) (P.drop (4 + 41 * Dx.length)) ∧ Sat K w' (row b5 29 (encH z) :: row p 88 [m, .int .i64 c] :: G :: Hs)) (fun (Dx, _) => P.length - 41 * Dx.length) (([], [], G, subAd ad cap 4 1, cap - 4, hz)) ⟨rfl, rfl, rfl, rfl, trivial⟩ ⟨hpre, Ord.nil, hmp, fun h => absurd h (by simp), hb4, hs⟩ ?_
        rintro ⟨Dx, M, G1, ad1, cap1, z⟩ w5 ⟨hpre, hord, hmp, hzl, hkr, hs⟩
        have hlen := hpre.len
        have hDl : Dx.length ≤ 10000 := by omega
        have hkc : P.length - (4 + 41 * Dx.length) ≤ cap1 := hkr.parts.2.1
        refine C.keep [(4, _), (5, _), (6, _), (7, _)] ⟨rfl, rfl, rfl, rfl, trivial⟩ ?_
        refine C.seq ?_
        refine C.seq ?_
        refine C.region ?_
        refine R.ev rfl (E.move rfl) ?_
        refine R.ev rfl (E.lenSl rfl Try.underlying69) ?_
        refine R.ev rfl (E.gtr rfl rfl) ?_
        refine R.done ?_
        refine X.keep [(4, _), (5, _), (6, _), (7, _), (36, _)] ⟨rfl, rfl, rfl, rfl, rfl, trivial⟩ ?_
        refine X.next ?_
        refine C.cdec rfl (fun h36 => ?_) (fun h36 => ?_)
        · have hch : 4 + 41 * Dx.length + 41 ≤ P.length := by omega
          have kc := hkr.first (i := 41) (by omega)
          refine C.skip ?_
          refine X.next ?_
          refine C.seq ?_
          refine C.block ?_
          refine C.seq ?_
          refine C.region ?_
          refine R.ev rfl (E.move rfl) ?_
          refine R.ev rfl (E.sliceH (b := 41) rfl rfl Try.underlying69 Try.sz5 rfl (by omega)) ?_
          refine R.call ⟨_, _, Try.func61, rfl, by kernel_rfl⟩ rfl rfl (decEnt_any (P := (P.drop (4 + 41 * Dx.length)).take 41) hs (chunk_len hch)) ?_
          rintro _ w9 ⟨rfl, hs⟩
          rw [show (P.drop (4 + 41 * Dx.length)).take 41 = chunk P Dx.length from rfl]
          generalize hx : decX (chunk P Dx.length) = x
          refine R.ev rfl (E.move rfl) ?_
          refine R.ev rfl (E.extract rfl rfl) ?_
          refine R.ev rfl (E.extract rfl rfl) ?_
          refine R.sallocA hs Try.zr29 rfl ?_
          intro b8 w8 hs
          first | refine R.cstoreAll hs rfl rfl Try.sz29 (by first | rfl | assumption | exact encV_len _ | exact Enc.len _ | exact len_ub (by assumption) | simp [*]) (by first | rfl | assumption | exact encV_len _ | exact Enc.len _ | exact len_ub (by assumption) | simp [*]) (by first | assumption | exact OneL.all | exact Enc.one _ | exact ub_all _ | (repeat' (first | refine List.forall_mem_cons.2 ⟨?_, ?_⟩ | exact List.forall_mem_nil _ | rfl | exact OneC.one | exact KRow.oneC' (by assumption)))) ?_ | refine R.cstore hs rfl rfl Try.sz29 (by first | rfl | assumption | exact encV_len _ | exact Enc.len _ | exact len_ub (by assumption) | simp [*]) (by simp [*]) (by first | assumption | exact OneL.all | exact Enc.one _ | exact ub_all _ | (repeat' (first | refine List.forall_mem_cons.2 ⟨?_, ?_⟩ | exact List.forall_mem_nil _ | rfl | exact OneC.one | exact KRow.oneC' (by assumption)))) ?_
          intro w9_7 hs
          try simp only [List.set_cons_zero, List.set_cons_succ] at hs
          refine R.ev rfl (E.assign rfl) ?_
          refine R.done ?_
          refine X.keep [(4, _), (5, _), (6, _), (7, _), (8, _), (9, _)] ⟨rfl, rfl, rfl, rfl, rfl, rfl, trivial⟩ ?_
          refine X.next ?_
          refine C.seq ?_
          refine C.seq ?_
          refine C.region ?_
          refine R.ev rfl (E.move rfl) ?_
          refine R.ev rfl ((E.not rfl).isB (c := !(okX (chunk P Dx.length))) rfl) ?_
          refine R.ev rfl (E.move rfl) ?_
          refine R.split 49 rfl (fun h49 => ?_) (fun h49 => ?_)
          · refine R.gskip rfl rfl rfl ?_
            refine R.gskip rfl rfl rfl ?_
            refine R.gskip rfl rfl rfl ?_
            refine R.gundef rfl rfl ?_
            refine R.gundef rfl rfl ?_
            refine R.gundef rfl rfl ?_
            refine R.gundef rfl rfl ?_
            refine R.gskip rfl rfl rfl ?_
            refine R.ev rfl (E.pickT rfl rfl) ?_
            refine R.done ?_
            refine X.keep [(4, _), (5, _), (6, _), (7, _), (8, _), (58, _)] ⟨rfl, rfl, rfl, rfl, rfl, rfl, trivial⟩ ?_
            refine X.next ?_
            refine C.ctrue rfl ?_
            refine C.seq ?_
            refine C.region ?_
            refine R.ev rfl (E.assign rfl) ?_
            refine R.ev rfl (E.assign rfl) ?_
            refine R.done ?_
            refine X.keep [(2, _), (3, _)] ⟨rfl, rfl, trivial⟩ ?_
            refine X.next ?_
            refine C.ret ?_
            refine X.thenRet ?_
            refine X.blockRet ?_
            refine X.thenRet ?_
            refine X.loopRet ?_
            refine X.blockRet ?_
            refine X.thenRet ?_
            refine X.ret2 rfl rfl rfl ?_
            refine .inl ⟨fun c' D' g => ?_, rfl, hs.to⟩
            obtain ⟨n1, n2⟩ := hpre.next g (by omega)
            first
              | (have hz2 := hzl (of_decide_eq_true h52)
                 have := n2 z (List.mem_of_getElem? hz2)
                 rw [hx, ltH, ltV, decide_eq_true_eq] at this
                 have := of_decide_eq_true h58
                 omega)
              | (rw [n1] at h49; simp at h49)
          · refine R.gyes rfl rfl ?_
            refine R.ev rfl (E.move rfl) ?_
            refine R.gyes rfl rfl ?_
            refine R.ev rfl ((E.gtr rfl rfl).isB (c := decide (0 < Dx.length)) (by rw [decide_eq_decide]; omega)) ?_
            refine R.gyes rfl rfl ?_
            refine R.ev rfl (E.move rfl) ?_
            refine R.split 52 rfl (fun h52 => ?_) (fun h52 => ?_)
            · refine R.gyes rfl rfl ?_
              refine R.ev rfl (E.loadRowC rfl Try.underlying29 rfl Try.sz29 (by first | exact ⟨hs.ldA, by first | rfl | assumption | exact encV_len _ | exact Enc.len _ | exact len_ub (by assumption)⟩ | exact ⟨hs.ldP rfl, by first | rfl | assumption | exact encV_len _ | exact Enc.len _ | exact len_ub (by assumption)⟩ | exact ⟨hs.ldM rfl rfl, by first | rfl | assumption | exact encV_len _ | exact Enc.len _ | exact len_ub (by assumption)⟩ | exact ⟨hs.ldM (by assumption) (by first | rfl | assumption), by first | rfl | assumption | exact encV_len _ | exact Enc.len _ | exact len_ub (by assumption)⟩ | exact ⟨by assumption, by first | rfl | assumption | exact encV_len _ | exact Enc.len _ | exact len_ub (by assumption)⟩ | exact hs.ldp | exact At.partC (by assumption))) ?_
              refine R.gyes rfl rfl ?_
              refine R.ev rfl (E.loadRowC rfl Try.underlying29 rfl Try.sz29 (by first | exact ⟨hs.ldA, by first | rfl | assumption | exact encV_len _ | exact Enc.len _ | exact len_ub (by assumption)⟩ | exact ⟨hs.ldP rfl, by first | rfl | assumption | exact encV_len _ | exact Enc.len _ | exact len_ub (by assumption)⟩ | exact ⟨hs.ldM rfl rfl, by first | rfl | assumption | exact encV_len _ | exact Enc.len _ | exact len_ub (by assumption)⟩ | exact ⟨hs.ldM (by assumption) (by first | rfl | assumption), by first | rfl | assumption | exact encV_len _ | exact Enc.len _ | exact len_ub (by assumption)⟩ | exact ⟨by assumption, by first | rfl | assumption | exact encV_len _ | exact Enc.len _ | exact len_ub (by assumption)⟩ | exact hs.ldp | exact At.partC (by assumption))) ?_
              refine R.gyes rfl rfl ?_
              refine R.call ⟨_, _, Try.func59, rfl, by kernel_rfl⟩ rfl rfl (cmpIds_any z x hs) ?_
              rintro _ w10 ⟨rfl, hs⟩
              refine R.gyes rfl rfl ?_
              refine R.ev rfl (E.geq rfl rfl) ?_
              refine R.gyes rfl rfl ?_
              refine R.ev rfl (E.pickT rfl rfl) ?_
              refine R.ev rfl (E.pickF rfl rfl) ?_
              refine R.done ?_
              refine X.keep [(4, _), (5, _), (6, _), (7, _), (8, _), (58, _)] ⟨rfl, rfl, rfl, rfl, rfl, rfl, trivial⟩ ?_
              refine X.next ?_
              refine C.cbool rfl (fun h58 => ?_) (fun h58 => ?_)
              · refine C.seq ?_
                refine C.region ?_
                refine R.ev rfl (E.assign rfl) ?_
                refine R.ev rfl (E.assign rfl) ?_
                refine R.done ?_
                refine X.keep [(2, _), (3, _)] ⟨rfl, rfl, trivial⟩ ?_
                refine X.next ?_
                refine C.ret ?_
                refine X.thenRet ?_
                refine X.blockRet ?_
                refine X.thenRet ?_
                refine X.loopRet ?_
                refine X.blockRet ?_
                refine X.thenRet ?_
                refine X.ret2 rfl rfl rfl ?_
                refine .inl ⟨fun c' D' g => ?_, rfl, hs.to⟩
                obtain ⟨n1, n2⟩ := hpre.next g (by omega)
                first
                  | (have hz2 := hzl (of_decide_eq_true h52)
                     have := n2 z (List.mem_of_getElem? hz2)
                     rw [hx, ltH, ltV, decide_eq_true_eq] at this
                     have := of_decide_eq_true h58
                     omega)
                  | (rw [n1] at h49; simp at h49)
              · refine C.skip ?_
                refine X.next ?_
                refine C.seq ?_
                refine C.drawn (SatS hs) ([3, 5, 6], [0, 1, 2, 4]) (by kernel_rfl) ?_
                have hs := hs.drew
                have hok : okX (chunk P Dx.length) = true := by simpa using h49
                have hlt : ∀ y ∈ Dx, ltH y x = true := by
                  first
                    | (have hz2 := hzl (of_decide_eq_true h52)
                       refine ltH_last hord.ss hz2 ?_
                       have := of_decide_eq_false h58
                       rw [ltH, ltV, decide_eq_true_eq]; omega)
                    | (have h0 : Dx.length = 0 := by have := of_decide_eq_false h52; omega
                       intro y hy
                       rw [List.length_eq_zero_iff.1 h0] at hy; cases hy)
                refine D.evP 0 rfl (by kernel_rfl) rfl (fun _ => hs.to) (fun _ => E.move rfl) ?_
                refine D.evP 1 rfl (by kernel_rfl) rfl (fun _ => hs.to) (fun _ => E.nilCheck rfl) ?_
                first | refine D.evP 2 rfl (by kernel_rfl) rfl (fun _ => hs.to) (fun _ => E.fieldAddr0 0 rfl Try.underlying88 rfl Try.sz86 rfl) ?_ | refine D.evP 2 rfl (by kernel_rfl) rfl (fun _ => hs.to) (fun _ => E.fieldAddrN 0 rfl Try.underlying88 rfl Try.sz86 rfl) ?_
                first | refine D.evP 4 rfl (by kernel_rfl) rfl (fun _ => hs.to) (fun _ => E.fieldAddr0 0 rfl Try.underlying29 rfl Try.sz27 rfl) ?_ | refine D.evP 4 rfl (by kernel_rfl) rfl (fun _ => hs.to) (fun _ => E.fieldAddrN 0 rfl Try.underlying29 rfl Try.sz27 rfl) ?_
                refine D.ev 3 rfl (by kernel_rfl) rfl hs.to (fun _ hS => E.load1 rfl Try.underlying86 rfl (by first | exact hS.ldc | exact hS.ld rfl | exact hS.ld (by assumption) | exact by assumption | exact At.cellC (by assumption) | exact At.cellC ((by assumption : ∀ w', Sat _ w' _ → At w' _ _ _) _ hS) | exact (by assumption : ∀ w', Sat _ w' _ → World.cell? w' _ = some _) _ hS)) ?_
                refine D.ev 5 rfl (by kernel_rfl) rfl hs.to (fun _ hS => E.loadRowC rfl Try.underlying27 rfl Try.sz27 (by first | exact ⟨hS.ldA, by first | rfl | assumption | exact encV_len _ | exact Enc.len _ | exact len_ub (by assumption)⟩ | exact ⟨hS.ldP rfl, by first | rfl | assumption | exact encV_len _ | exact Enc.len _ | exact len_ub (by assumption)⟩ | exact ⟨hS.ldM rfl rfl, by first | rfl | assumption | exact encV_len _ | exact Enc.len _ | exact len_ub (by assumption)⟩ | exact ⟨hS.ldM (by assumption) (by first | rfl | assumption), by first | rfl | assumption | exact encV_len _ | exact Enc.len _ | exact len_ub (by assumption)⟩ | exact ⟨by assumption, by first | rfl | assumption | exact encV_len _ | exact Enc.len _ | exact len_ub (by assumption)⟩ | exact ⟨(by assumption : ∀ w', Sat _ w' _ → At w' _ _ _) _ hS, by first | rfl | assumption | exact encV_len _ | exact Enc.len _ | exact len_ub (by assumption)⟩ | exact hS.ldp | exact At.partC (by assumption) | exact At.partC ((by assumption : ∀ w', Sat _ w' _ → At w' _ _ _) _ hS))) ?_
                refine D.ev 6 rfl (by kernel_rfl) rfl hs.to (fun _ hS => E.loadRowC rfl Try.underlying29 rfl Try.sz29 (by first | exact ⟨hS.ldA, by first | rfl | assumption | exact encV_len _ | exact Enc.len _ | exact len_ub (by assumption)⟩ | exact ⟨hS.ldP rfl, by first | rfl | assumption | exact encV_len _ | exact Enc.len _ | exact len_ub (by assumption)⟩ | exact ⟨hS.ldM rfl rfl, by first | rfl | assumption | exact encV_len _ | exact Enc.len _ | exact len_ub (by assumption)⟩ | exact ⟨hS.ldM (by assumption) (by first | rfl | assumption), by first | rfl | assumption | exact encV_len _ | exact Enc.len _ | exact len_ub (by assumption)⟩ | exact ⟨by assumption, by first | rfl | assumption | exact encV_len _ | exact Enc.len _ | exact len_ub (by assumption)⟩ | exact ⟨(by assumption : ∀ w', Sat _ w' _ → At w' _ _ _) _ hS, by first | rfl | assumption | exact encV_len _ | exact Enc.len _ | exact len_ub (by assumption)⟩ | exact hS.ldp | exact At.partC (by assumption) | exact At.partC ((by assumption : ∀ w', Sat _ w' _ → At w' _ _ _) _ hS))) ?_
                refine D.act 7 rfl (by kernel_rfl) ?_
                refine R.cput (x.id) (x) hs rfl rfl rfl Try.underlying86 (by rfl) (by rfl) ?_
                intro w12_7 F12_7 m12_7 hs
                refine D.backT (by kernel_rfl) ?_
                refine D.done rfl (by kernel_rfl) ?_
                refine X.keep [(4, _), (5, _), (6, _), (7, _), (8, _)] ⟨rfl, rfl, rfl, rfl, rfl, trivial⟩ ?_
                refine X.next ?_
                refine C.region ?_
                refine R.ev rfl (E.loadRowC rfl Try.underlying29 rfl Try.sz29 (by first | exact ⟨hs.ldA, by first | rfl | assumption | exact encV_len _ | exact Enc.len _ | exact len_ub (by assumption)⟩ | exact ⟨hs.ldP rfl, by first | rfl | assumption | exact encV_len _ | exact Enc.len _ | exact len_ub (by assumption)⟩ | exact ⟨hs.ldM rfl rfl, by first | rfl | assumption | exact encV_len _ | exact Enc.len _ | exact len_ub (by assumption)⟩ | exact ⟨hs.ldM (by assumption) (by first | rfl | assumption), by first | rfl | assumption | exact encV_len _ | exact Enc.len _ | exact len_ub (by assumption)⟩ | exact ⟨by assumption, by first | rfl | assumption | exact encV_len _ | exact Enc.len _ | exact len_ub (by assumption)⟩ | exact hs.ldp | exact At.partC (by assumption))) ?_
                first | refine R.cstoreAll hs rfl rfl Try.sz29 (by first | rfl | assumption | exact encV_len _ | exact Enc.len _ | exact len_ub (by assumption) | simp [*]) (by first | rfl | assumption | exact encV_len _ | exact Enc.len _ | exact len_ub (by assumption) | simp [*]) (by first | assumption | exact OneL.all | exact Enc.one _ | exact ub_all _ | (repeat' (first | refine List.forall_mem_cons.2 ⟨?_, ?_⟩ | exact List.forall_mem_nil _ | rfl | exact OneC.one | exact KRow.oneC' (by assumption)))) ?_ | refine R.cstore hs rfl rfl Try.sz29 (by first | rfl | assumption | exact encV_len _ | exact Enc.len _ | exact len_ub (by assumption) | simp [*]) (by simp [*]) (by first | assumption | exact OneL.all | exact Enc.one _ | exact ub_all _ | (repeat' (first | refine List.forall_mem_cons.2 ⟨?_, ?_⟩ | exact List.forall_mem_nil _ | rfl | exact OneC.one | exact KRow.oneC' (by assumption)))) ?_
                intro w13_1 hs
                try simp only [List.set_cons_zero, List.set_cons_succ] at hs
                refine R.done ?_
                refine X.keep [(4, _), (5, _), (6, _), (7, _)] ⟨rfl, rfl, rfl, rfl, trivial⟩ ?_
                refine X.blockNormal ?_
                refine X.next ?_
                refine C.drawn (SatS hs) ([], [0, 1, 2, 3, 4, 5]) (by kernel_rfl) ?_
                have hs := hs.drew
                have hpre2 := hpre.step hch hok (by rw [hx]; exact hlt)
                rw [hx] at hpre2
                have hord2 : Ord ⟨putM x.id x M, c⟩ (Dx ++ [x]) := hord.snoc hlt (by have := hord.len; simp only at this ⊢; omega)
                have hD2 : (Dx ++ [x]).length = Dx.length + 1 := by simp
                have kb := hkr.behind (i := 41) (by omega)
                rw [List.drop_drop, show 4 + 41 * Dx.length + 41 = 4 + 41 * (Dx ++ [x]).length by rw [hD2]; omega, show P.length - (4 + 41 * Dx.length) - 41 = P.length - (4 + 41 * (Dx ++ [x]).length) by rw [hD2]; omega] at kb
                refine D.evP 0 rfl (by kernel_rfl) rfl (np (by kernel_rfl)) (fun _ => E.move rfl) ?_
                refine D.evP 1 rfl (by kernel_rfl) rfl (np (by kernel_rfl)) (fun _ => (E.add rfl rfl (by omega) (by omega)).isI (c := (((Dx ++ [x]).length : Nat) : Int)) (by rw [hD2]; omega)) ?_
                refine D.evP 2 rfl (by kernel_rfl) rfl (np (by kernel_rfl)) (fun _ => E.move rfl) ?_
                refine D.evP 3 rfl (by kernel_rfl) rfl (np (by kernel_rfl)) (fun _ => (E.sliceLs (a := 41) rfl rfl Try.underlying69 Try.sz5 rfl (by omega)).as (u := .slice (subAd ad1 cap1 41 1) (P.length - (4 + 41 * (Dx ++ [x]).length)) (cap1 - 41)) (by rw [hD2]; congr 1)) ?_
                refine D.evP 4 rfl (by kernel_rfl) rfl (np (by kernel_rfl)) (fun _ => E.assign rfl) ?_
                refine D.evP 5 rfl (by kernel_rfl) rfl (np (by kernel_rfl)) (fun _ => E.assign rfl) ?_
                refine D.done rfl (by kernel_rfl) ?_
                refine X.keep [(4, _), (5, _), (6, _), (7, _)] ⟨rfl, rfl, rfl, rfl, trivial⟩ ?_
                exact X.again (Dx ++ [x], putM x.id x M, F12_7, subAd ad1 cap1 41 1, cap1 - 41, x) ⟨rfl, rfl, rfl, rfl, trivial⟩ ⟨hpre2, hord2, m12_7, fun _ => by rw [hD2]; simp, kb, hs.to⟩ (by show _ - _ < _ - _; rw [hD2]; omega)
            · refine R.gskip rfl rfl rfl ?_
              refine R.gskip rfl rfl rfl ?_
              refine R.gskip rfl rfl rfl ?_
              refine R.gskip rfl rfl rfl ?_
              refine R.gyes rfl rfl ?_
              refine R.ev rfl (E.pickF rfl rfl) ?_
              refine R.ev rfl (E.pickF rfl rfl) ?_
              refine R.done ?_
              refine X.keep [(4, _), (5, _), (6, _), (7, _), (8, _), (58, _)] ⟨rfl, rfl, rfl, rfl, rfl, rfl, trivial⟩ ?_
              refine X.next ?_
              refine C.cfalse rfl ?_
              refine C.skip ?_
              refine X.next ?_
              refine C.seq ?_
              refine C.drawn (SatS hs) ([3, 5, 6], [0, 1, 2, 4]) (by kernel_rfl) ?_
              have hs := hs.drew
              have hok : okX (chunk P Dx.length) = true := by simpa using h49
              have hlt : ∀ y ∈ Dx, ltH y x = true := by
                first
                  | (have hz2 := hzl (of_decide_eq_true h52)
                     refine ltH_last hord.ss hz2 ?_
                     have := of_decide_eq_false h58
                     rw [ltH, ltV, decide_eq_true_eq]; omega)
                  | (have h0 : Dx.length = 0 := by have := of_decide_eq_false h52; omega
                     intro y hy
                     rw [List.length_eq_zero_iff.1 h0] at hy; cases hy)
              refine D.evP 0 rfl (by kernel_rfl) rfl (fun _ => hs.to) (fun _ => E.move rfl) ?_
              refine D.evP 1 rfl (by kernel_rfl) rfl (fun _ => hs.to) (fun _ => E.nilCheck rfl) ?_
              first | refine D.evP 2 rfl (by kernel_rfl) rfl (fun _ => hs.to) (fun _ => E.fieldAddr0 0 rfl Try.underlying88 rfl Try.sz86 rfl) ?_ | refine D.evP 2 rfl (by kernel_rfl) rfl (fun _ => hs.to) (fun _ => E.fieldAddrN 0 rfl Try.underlying88 rfl Try.sz86 rfl) ?_
              first | refine D.evP 4 rfl (by kernel_rfl) rfl (fun _ => hs.to) (fun _ => E.fieldAddr0 0 rfl Try.underlying29 rfl Try.sz27 rfl) ?_ | refine D.evP 4 rfl (by kernel_rfl) rfl (fun _ => hs.to) (fun _ => E.fieldAddrN 0 rfl Try.underlying29 rfl Try.sz27 rfl) ?_
              refine D.ev 3 rfl (by kernel_rfl) rfl hs.to (fun _ hS => E.load1 rfl Try.underlying86 rfl (by first | exact hS.ldc | exact hS.ld rfl | exact hS.ld (by assumption) | exact by assumption | exact At.cellC (by assumption) | exact At.cellC ((by assumption : ∀ w', Sat _ w' _ → At w' _ _ _) _ hS) | exact (by assumption : ∀ w', Sat _ w' _ → World.cell? w' _ = some _) _ hS)) ?_
              refine D.ev 5 rfl (by kernel_rfl) rfl hs.to (fun _ hS => E.loadRowC rfl Try.underlying27 rfl Try.sz27 (by first | exact ⟨hS.ldA, by first | rfl | assumption | exact encV_len _ | exact Enc.len _ | exact len_ub (by assumption)⟩ | exact ⟨hS.ldP rfl, by first | rfl | assumption | exact encV_len _ | exact Enc.len _ | exact len_ub (by assumption)⟩ | exact ⟨hS.ldM rfl rfl, by first | rfl | assumption | exact encV_len _ | exact Enc.len _ | exact len_ub (by assumption)⟩ | exact ⟨hS.ldM (by assumption) (by first | rfl | assumption), by first | rfl | assumption | exact encV_len _ | exact Enc.len _ | exact len_ub (by assumption)⟩ | exact ⟨by assumption, by first | rfl | assumption | exact encV_len _ | exact Enc.len _ | exact len_ub (by assumption)⟩ | exact ⟨(by assumption : ∀ w', Sat _ w' _ → At w' _ _ _) _ hS, by first | rfl | assumption | exact encV_len _ | exact Enc.len _ | exact len_ub (by assumption)⟩ | exact hS.ldp | exact At.partC (by assumption) | exact At.partC ((by assumption : ∀ w', Sat _ w' _ → At w' _ _ _) _ hS))) ?_
              refine D.ev 6 rfl (by kernel_rfl) rfl hs.to (fun _ hS => E.loadRowC rfl Try.underlying29 rfl Try.sz29 (by first | exact ⟨hS.ldA, by first | rfl | assumption | exact encV_len _ | exact Enc.len _ | exact len_ub (by assumption)⟩ | exact ⟨hS.ldP rfl, by first | rfl | assumption | exact encV_len _ | exact Enc.len _ | exact len_ub (by assumption)⟩ | exact ⟨hS.ldM rfl rfl, by first | rfl | assumption | exact encV_len _ | exact Enc.len _ | exact len_ub (by assumption)⟩ | exact ⟨hS.ldM (by assumption) (by first | rfl | assumption), by first | rfl | assumption | exact encV_len _ | exact Enc.len _ | exact len_ub (by assumption)⟩ | exact ⟨by assumption, by first | rfl | assumption | exact encV_len _ | exact Enc.len _ | exact len_ub (by assumption)⟩ | exact ⟨(by assumption : ∀ w', Sat _ w' _ → At w' _ _ _) _ hS, by first | rfl | assumption | exact encV_len _ | exact Enc.len _ | exact len_ub (by assumption)⟩ | exact hS.ldp | exact At.partC (by assumption) | exact At.partC ((by assumption : ∀ w', Sat _ w' _ → At w' _ _ _) _ hS))) ?_
              refine D.act 7 rfl (by kernel_rfl) ?_
              refine R.cput (x.id) (x) hs rfl rfl rfl Try.underlying86 (by rfl) (by rfl) ?_
              intro w12_7 F12_7 m12_7 hs
              refine D.backT (by kernel_rfl) ?_
              refine D.done rfl (by kernel_rfl) ?_
              refine X.keep [(4, _), (5, _), (6, _), (7, _), (8, _)] ⟨rfl, rfl, rfl, rfl, rfl, trivial⟩ ?_
              refine X.next ?_
              refine C.region ?_
              refine R.ev rfl (E.loadRowC rfl Try.underlying29 rfl Try.sz29 (by first | exact ⟨hs.ldA, by first | rfl | assumption | exact encV_len _ | exact Enc.len _ | exact len_ub (by assumption)⟩ | exact ⟨hs.ldP rfl, by first | rfl | assumption | exact encV_len _ | exact Enc.len _ | exact len_ub (by assumption)⟩ | exact ⟨hs.ldM rfl rfl, by first | rfl | assumption | exact encV_len _ | exact Enc.len _ | exact len_ub (by assumption)⟩ | exact ⟨hs.ldM (by assumption) (by first | rfl | assumption), by first | rfl | assumption | exact encV_len _ | exact Enc.len _ | exact len_ub (by assumption)⟩ | exact ⟨by assumption, by first | rfl | assumption | exact encV_len _ | exact Enc.len _ | exact len_ub (by assumption)⟩ | exact hs.ldp | exact At.partC (by assumption))) ?_
              first | refine R.cstoreAll hs rfl rfl Try.sz29 (by first | rfl | assumption | exact encV_len _ | exact Enc.len _ | exact len_ub (by assumption) | simp [*]) (by first | rfl | assumption | exact encV_len _ | exact Enc.len _ | exact len_ub (by assumption) | simp [*]) (by first | assumption | exact OneL.all | exact Enc.one _ | exact ub_all _ | (repeat' (first | refine List.forall_mem_cons.2 ⟨?_, ?_⟩ | exact List.forall_mem_nil _ | rfl | exact OneC.one | exact KRow.oneC' (by assumption)))) ?_ | refine R.cstore hs rfl rfl Try.sz29 (by first | rfl | assumption | exact encV_len _ | exact Enc.len _ | exact len_ub (by assumption) | simp [*]) (by simp [*]) (by first | assumption | exact OneL.all | exact Enc.one _ | exact ub_all _ | (repeat' (first | refine List.forall_mem_cons.2 ⟨?_, ?_⟩ | exact List.forall_mem_nil _ | rfl | exact OneC.one | exact KRow.oneC' (by assumption)))) ?_
              intro w13_1 hs
              try simp only [List.set_cons_zero, List.set_cons_succ] at hs
              refine R.done ?_
              refine X.keep [(4, _), (5, _), (6, _), (7, _)] ⟨rfl, rfl, rfl, rfl, trivial⟩ ?_
              refine X.blockNormal ?_
              refine X.next ?_
              refine C.drawn (SatS hs) ([], [0, 1, 2, 3, 4, 5]) (by kernel_rfl) ?_
              have hs := hs.drew
              have hpre2 := hpre.step hch hok (by rw [hx]; exact hlt)
              rw [hx] at hpre2
              have hord2 : Ord ⟨putM x.id x M, c⟩ (Dx ++ [x]) := hord.snoc hlt (by have := hord.len; simp only at this ⊢; omega)
              have hD2 : (Dx ++ [x]).length = Dx.length + 1 := by simp
              have kb := hkr.behind (i := 41) (by omega)
              rw [List.drop_drop, show 4 + 41 * Dx.length + 41 = 4 + 41 * (Dx ++ [x]).length by rw [hD2]; omega, show P.length - (4 + 41 * Dx.length) - 41 = P.length - (4 + 41 * (Dx ++ [x]).length) by rw [hD2]; omega] at kb
              refine D.evP 0 rfl (by kernel_rfl) rfl (np (by kernel_rfl)) (fun _ => E.move rfl) ?_
              refine D.evP 1 rfl (by kernel_rfl) rfl (np (by kernel_rfl)) (fun _ => (E.add rfl rfl (by omega) (by omega)).isI (c := (((Dx ++ [x]).length : Nat) : Int)) (by rw [hD2]; omega)) ?_
              refine D.evP 2 rfl (by kernel_rfl) rfl (np (by kernel_rfl)) (fun _ => E.move rfl) ?_
              refine D.evP 3 rfl (by kernel_rfl) rfl (np (by kernel_rfl)) (fun _ => (E.sliceLs (a := 41) rfl rfl Try.underlying69 Try.sz5 rfl (by omega)).as (u := .slice (subAd ad1 cap1 41 1) (P.length - (4 + 41 * (Dx ++ [x]).length)) (cap1 - 41)) (by rw [hD2]; congr 1)) ?_
              refine D.evP 4 rfl (by kernel_rfl) rfl (np (by kernel_rfl)) (fun _ => E.assign rfl) ?_
              refine D.evP 5 rfl (by kernel_rfl) rfl (np (by kernel_rfl)) (fun _ => E.assign rfl) ?_
              refine D.done rfl (by kernel_rfl) ?_
              refine X.keep [(4, _), (5, _), (6, _), (7, _)] ⟨rfl, rfl, rfl, rfl, trivial⟩ ?_
              exact X.again (Dx ++ [x], putM x.id x M, F12_7, subAd ad1 cap1 41 1, cap1 - 41, x) ⟨rfl, rfl, rfl, rfl, trivial⟩ ⟨hpre2, hord2, m12_7, fun _ => by rw [hD2]; simp, kb, hs.to⟩ (by show _ - _ < _ - _; rw [hD2]; omega)
        · refine C.exit ?_
          refine X.thenExit ?_
          refine X.loopExit ?_
          refine X.blockExit ?_
          refine X.next ?_
          refine C.seq ?_
          refine C.seq ?_
          refine C.region ?_
          refine R.ev rfl (E.move rfl) ?_
          refine R.ev rfl (E.nilCheck rfl) ?_
          first | refine R.ev rfl (E.fieldAddr0 0 rfl Try.underlying88 rfl Try.sz86 rfl) ?_ | refine R.ev rfl (E.fieldAddrN 0 rfl Try.underlying88 rfl Try.sz86 rfl) ?_
          refine R.ev rfl (E.load1 rfl Try.underlying86 rfl (by first | exact hs.ldc | exact hs.ld rfl | exact hs.ld (by assumption) | exact by assumption | exact At.cellC (by assumption))) ?_
          refine R.ev rfl (E.lenM hs rfl Try.underlying86) ?_
          refine R.ev rfl ((E.gtr rfl rfl).isF (by have := hord.len; simp only at this; omega)) ?_
          refine R.done ?_
          refine X.keep [(4, _), (72, _)] ⟨rfl, rfl, trivial⟩ ?_
          refine X.next ?_
          refine C.cfalse rfl ?_
          refine C.skip ?_
          refine X.next ?_
          refine C.seq ?_
          refine C.region ?_
          refine R.ev rfl (E.move rfl) ?_
          refine R.ev rfl (E.assign rfl) ?_
          refine R.ev rfl (E.assign rfl) ?_
          refine R.done ?_
          refine X.keep [(2, _), (3, _)] ⟨rfl, rfl, trivial⟩ ?_
          refine X.next ?_
          refine C.ret ?_
          refine X.ret2 rfl rfl rfl ?_
          exact .inr ⟨c, Dx, p, ⟨M, c⟩, _, hpre.good (by omega), rfl, rfl, hord, HiL.mk' hmp, hs.to⟩
end Go.Proofs.Ytobhhnfckhbeeaa
