/-
  WindowOneByOne returns true for every number, every list of offers and all picks. No condition but the listed table (tied to the program's text).
-/
import Derived.Test.YtajbclcpkgenbaaDoorOneW
namespace Go.Proofs.YtajbclcpkgenbaaDoor
open Go.Eng Go.RowKit

def pAt (pk : List UInt8) (k : Nat) : Nat := (pk.getD k 0).toNat
theorem pAt_some {pk : List UInt8} {k : Nat} {y : UInt8} (h : pk[k]? = some y) : y.toNat = pAt pk k := by
  unfold pAt; rw [List.getD_eq_getElem?_getD, h]; rfl
theorem pAt_none {pk : List UInt8} {k : Nat} (h : ¬ k < pk.length) : 0 = pAt pk k := by
  unfold pAt; rw [List.getD_eq_getElem?_getD, List.getElem?_eq_none (by omega)]; rfl
theorem pAt_lt (pk : List UInt8) (k : Nat) : pAt pk k < 256 := (pk.getD k 0).toNat_lt
theorem toNat8 {i : Nat} (h : i < 60) : (UInt8.ofNat i).toNat = i := by simp only [UInt8.toNat_ofNat']; omega
theorem gO_of {ofs : List Ofr} {i : Nat} {y : Ofr} (h : ofs[i]? = some y) : y = gO ofs i := by
  unfold gO; rw [List.getD_eq_getElem?_getD, h]; rfl
theorem gN_of {c : List Nat} {i : Nat} {y : Nat} (h : c[i]? = some y) : y = gN c i := by
  unfold gN; rw [List.getD_eq_getElem?_getD, h]; rfl
theorem gI_of {l : List Int} {i : Nat} {y : Int} (h : l[i]? = some y) : y = l.getD i 0 := by
  rw [List.getD_eq_getElem?_getD, h]; rfl
theorem outs_unfin {L : List Off} (h : outsL L = []) : outsL (unfin L) = [] := by
  have h1 : L.filter Off.outs = [] := by simpa [outsL] using h
  unfold outsL
  rw [List.map_eq_nil_iff, List.filter_eq_nil_iff]
  intro a ha
  exact (List.filter_eq_nil_iff.1 h1) a ((List.dropWhile_suffix _).subset ha)
theorem nx_full {a b : Nat} (h : a ≤ b) (h2 : ¬ (a : Int) < (b : Int)) : a = b := by omega
theorem wrap_ub (i : Nat) : Value.int .u8 (IntKind.u8.wrap (i : Int)) = ub (UInt8.ofNat i) := by
  simp [ub, IntKind.wrap, IntKind.bits, IntKind.signed]
theorem ub_nat {i : Nat} (h : (UInt8.ofNat i).toNat = i) : ub (UInt8.ofNat i) = .int .u8 (i : Nat) := by unfold ub; rw [h]
theorem one_walk (w : World) (hC : HasChg (Kn.of w)) (v0 : Value) (a0 : ArgV Tryd.prog w 3 v0) (v1 : Value) (a1 : ArgV Tryd.prog w 22 v1) (v2 : Value) (a2 : ArgV Tryd.prog w 23 v2) : Ret Tryd.prog 3 #[v0, v1, v2] w fun r w' => r = .bool true ∧ Mod [] w w' := by
  obtain ⟨n, rfl, _⟩ := argv_int a0 Tryd.underlying3
  obtain ⟨ad, cap, ofs, rfl, hc, hcm, hr⟩ := argv_slK (enc := encF) (sz := 2) a1 Tryd.underlying22 (by kernel_rfl) (by decide) fit_ofr
  obtain ⟨ad2, cap2, pk, rfl, hc2, hcm2, hr2⟩ := argv_slK (enc := encB) (sz := 1) a2 Tryd.underlying23 (by kernel_rfl) (by decide) fit_b
  unfold maxLen at hcm hcm2
  have hs := Sat.start w
  have hz := sz0_is n
  have hz1 : 1 ≤ sz0 n ∧ sz0 n ≤ 64 := by simpa [isSz] using hz
  have hu0 := u64_nonneg n
  have hm := Int.emod_nonneg (IntKind.u64.wrap n) (show (64 : Int) ≠ 0 by decide)
  have hm2 := Int.emod_lt_of_pos (IntKind.u64.wrap n) (show (0 : Int) < 64 by decide)
  refine Ret.enter (n := 182) (args := [.int .i64 n, .slice ad ofs.length cap, .slice ad2 pk.length cap2]) Tryd.func3 rfl rfl ?_
  refine C.keep [(0, _), (1, _), (2, _)] ⟨rfl, rfl, rfl, trivial⟩ ?_
  refine C.seq ?_
  refine C.region ?_
  refine R.ev rfl (E.assign rfl) ?_
  refine R.done ?_
  refine X.keep [(0, _), (1, _), (2, _)] ⟨rfl, rfl, rfl, trivial⟩ ?_
  refine X.next ?_
  refine C.seq ?_
  refine C.seq ?_
  refine C.region ?_
  refine R.call ⟨_, _, Tryd.func12, rfl, by kernel_rfl⟩ rfl rfl (known_any hs) ?_
  rintro _ w1 ⟨rfl, hs⟩
  refine R.ev rfl (E.notT rfl) ?_
  refine R.ev rfl (E.move rfl) ?_
  refine R.gyes rfl rfl ?_
  refine R.ev rfl (E.move rfl) ?_
  refine R.gyes rfl rfl ?_
  refine R.ev rfl (E.lenSl rfl Tryd.underlying22) ?_
  refine R.gyes rfl rfl ?_
  refine R.ev rfl (E.gtr rfl rfl) ?_
  refine R.ev rfl (E.pickF rfl rfl) ?_
  refine R.ev rfl (E.move rfl) ?_
  refine R.split 29 rfl (fun h29 => ?_) (fun h29 => ?_)
  · refine R.gskip rfl rfl rfl ?_
    refine R.gskip rfl rfl rfl ?_
    refine R.gskip rfl rfl rfl ?_
    refine R.ev rfl (E.pickT rfl rfl) ?_
    refine R.done ?_
    refine X.keep [(0, _), (1, _), (2, _), (33, _)] ⟨rfl, rfl, rfl, rfl, trivial⟩ ?_
    refine X.next ?_
    refine C.ctrue rfl ?_
    refine C.seq ?_
    refine C.region ?_
    refine R.call ⟨_, _, Tryd.func12, rfl, by kernel_rfl⟩ rfl rfl (known_any hs) ?_
    rintro _ w2 ⟨rfl, hs⟩
    refine R.ev rfl (E.assign rfl) ?_
    refine R.done ?_
    refine X.keep [(6, _)] ⟨rfl, trivial⟩ ?_
    refine X.next ?_
    refine C.ret ?_
    refine X.thenRet ?_
    refine X.ret1 rfl rfl ?_
    exact ⟨rfl, hs.mod⟩
  · refine R.gyes rfl rfl ?_
    refine R.ev rfl (E.move rfl) ?_
    refine R.gyes rfl rfl ?_
    refine R.ev rfl (E.lenSl rfl Tryd.underlying23) ?_
    refine R.gyes rfl rfl ?_
    refine R.ev rfl (E.gtr rfl rfl) ?_
    refine R.ev rfl (E.pickF rfl rfl) ?_
    refine R.done ?_
    refine X.keep [(0, _), (1, _), (2, _), (33, _)] ⟨rfl, rfl, rfl, rfl, trivial⟩ ?_
    refine X.next ?_
    refine C.cbool rfl (fun h33 => ?_) (fun h33 => ?_)
    · refine C.seq ?_
      refine C.region ?_
      refine R.call ⟨_, _, Tryd.func12, rfl, by kernel_rfl⟩ rfl rfl (known_any hs) ?_
      rintro _ w2 ⟨rfl, hs⟩
      refine R.ev rfl (E.assign rfl) ?_
      refine R.done ?_
      refine X.keep [(6, _)] ⟨rfl, trivial⟩ ?_
      refine X.next ?_
      refine C.ret ?_
      refine X.thenRet ?_
      refine X.ret1 rfl rfl ?_
      exact ⟨rfl, hs.mod⟩
    · have hn : ofs.length ≤ 60 := by first | (simp at h27; omega) | (simp at h29; omega) | (simp at h28; omega)
      refine C.skip ?_
      refine X.next ?_
      refine C.seq ?_
      refine C.region ?_
      refine R.ev rfl (E.move rfl) ?_
      refine R.ev rfl (E.conv rfl Tryd.underlying3 Tryd.underlying29) ?_
      refine R.ev rfl (E.rem rfl rfl (by omega) (by omega)) ?_
      refine R.ev rfl ((E.conv rfl Tryd.underlying29 Tryd.underlying3).isI (c := IntKind.u64.wrap n % 64) (wrap_i64 (by omega) (by omega))) ?_
      refine R.ev rfl ((E.add rfl rfl (by omega) (by omega)).isI (c := sz0 n) rfl) ?_
      refine R.call ⟨_, _, Tryd.func13, rfl, by kernel_rfl⟩ rfl rfl (new_any (sz0 n) hs) ?_
      rintro _ w2 (⟨h, _⟩ | ⟨_, p, F, rfl, hw, hs⟩)
      · rw [hz] at h; cases h
      refine R.ev rfl (E.move rfl) ?_
      refine R.ev rfl (E.extract rfl rfl) ?_
      refine R.ev rfl (E.extract rfl rfl) ?_
      refine R.ev rfl (E.assign rfl) ?_
      refine R.ev rfl (E.assign rfl) ?_
      refine R.done ?_
      refine X.keep [(1, _), (2, _), (7, _), (8, _)] ⟨rfl, rfl, rfl, rfl, trivial⟩ ?_
      refine X.next ?_
      refine C.seq ?_
      refine C.seq ?_
      refine C.region ?_
      refine R.ev rfl (E.move rfl) ?_
      refine R.ev rfl ((E.neq rfl rfl).isF (by simp)) ?_
      refine R.done ?_
      refine X.keep [(1, _), (2, _), (7, _), (45, _)] ⟨rfl, rfl, rfl, rfl, trivial⟩ ?_
      refine X.next ?_
      refine C.cfalse rfl ?_
      refine C.skip ?_
      refine X.next ?_
      refine C.seq ?_
      refine C.region ?_
      refine R.ev rfl (E.assign rfl) ?_
      refine R.ev rfl (E.assign rfl) ?_
      refine R.done ?_
      refine X.keep [(1, _), (2, _), (7, _), (9, _), (10, _)] ⟨rfl, rfl, rfl, rfl, rfl, trivial⟩ ?_
      refine X.next ?_
      refine C.seq ?_
      refine C.region ?_
      refine R.ev rfl (E.move rfl) ?_
      refine R.ev rfl (E.lenSl rfl Tryd.underlying22) ?_
      refine R.makeZ hs rfl rfl Tryd.underlying31 Tryd.by3 rfl (by omega) (by omega) ?_
      intro b48 w48 F48 r48 hs
      refine R.ev rfl (E.assign rfl) ?_
      refine R.done ?_
      refine X.keep [(1, _), (2, _), (7, _), (9, _), (10, _), (11, _)] ⟨rfl, rfl, rfl, rfl, rfl, rfl, trivial⟩ ?_
      refine X.next ?_
      refine C.seq ?_
      refine C.region ?_
      refine R.ev rfl (E.assign rfl) ?_
      refine R.done ?_
      refine X.keep [(1, _), (2, _), (7, _), (9, _), (10, _), (11, _), (12, _)] ⟨rfl, rfl, rfl, rfl, rfl, rfl, rfl, trivial⟩ ?_
      refine X.next ?_
      refine C.seq ?_
      refine C.seq ?_
      refine C.region ?_
      refine R.ev rfl (E.assign rfl) ?_
      refine R.done ?_
      refine X.keep [(1, _), (2, _), (7, _), (9, _), (10, _), (11, _), (12, _), (13, _)] ⟨rfl, rfl, rfl, rfl, rfl, rfl, rfl, rfl, trivial⟩ ?_
      refine X.next ?_
      refine C.block ?_
      refine C.loop (T := Nat × Nat × Nat × List Nat × List Off × Value × Hl × Hl × Hl) [(1, _), (2, _), (7, _), (10, _), (11, _)] (fun (k, _, nx, _, _, gv, _) => [(9, gv), (12, .int .i64 (nx : Nat)), (13, .int .i64 (k : Nat))]) (fun (k, b, nx, c, L, gv, F', G', H') w' => k ≤ 400 ∧ St ofs b nx c L ∧ (k ≤ nx + c.sum ∨ nx = ofs.length ∧ outsL L = []) ∧ Win p (sz0 n) L F' ∧ RowL 43 encR 33 gv ((List.range' 0 b).map (rO ofs)) G' ∧ RowL 3 encN 1 (.slice (some ⟨b48, 0, none⟩) ofs.length ofs.length) c H' ∧ Sat (Kn.of w) w' (G' :: H' :: F' :: [])) (fun (k, _) => 400 - k) ((0, 0, 0, List.replicate ofs.length 0, [], .slice none 0 0, F, [], F48)) ⟨rfl, rfl, rfl, rfl, rfl, rfl, rfl, rfl, trivial⟩ ⟨by omega, St.start ofs, .inl (by omega), hw, RowL.nilI, r48, hs.nil⟩ ?_
      rintro ⟨k, b, nx, c, L, gv, F1, G1, H1⟩ w1 ⟨hk, hst, hpr, hw1, hg1, hc1, hs⟩
      have hLl := hst.len
      have hnn := hst.nn
      have hsum := hst.sum
      have hcl := hst.cl
      have hp8 := pAt_lt pk k
      refine C.keep [(1, _), (2, _), (7, _), (9, _), (10, _), (11, _), (12, _), (13, _)] ⟨rfl, rfl, rfl, rfl, rfl, rfl, rfl, rfl, trivial⟩ ?_
      refine C.seq ?_
      refine C.seq ?_
      refine C.region ?_
      refine R.ev rfl (E.move rfl) ?_
      refine R.ev rfl (E.lss rfl rfl) ?_
      refine R.done ?_
      refine X.keep [(1, _), (2, _), (7, _), (9, _), (10, _), (11, _), (12, _), (13, _), (50, _)] ⟨rfl, rfl, rfl, rfl, rfl, rfl, rfl, rfl, rfl, trivial⟩ ?_
      refine X.next ?_
      refine C.cdec rfl (fun h50 => ?_) (fun h50 => ?_)
      · refine C.skip ?_
        refine X.next ?_
        refine C.seq ?_
        refine C.block ?_
        refine C.seq ?_
        refine C.region ?_
        refine R.ev rfl (E.assign rfl) ?_
        refine R.done ?_
        refine X.keep [(1, _), (2, _), (7, _), (9, _), (10, _), (11, _), (12, _), (13, _), (14, _)] ⟨rfl, rfl, rfl, rfl, rfl, rfl, rfl, rfl, rfl, trivial⟩ ?_
        refine X.next ?_
        refine C.seq ?_
        refine C.seq ?_
        refine C.region ?_
        refine R.ev rfl (E.move rfl) ?_
        refine R.ev rfl (E.move rfl) ?_
        refine R.ev rfl (E.lenSl rfl Tryd.underlying23) ?_
        refine R.ev rfl (E.lss rfl rfl) ?_
        refine R.done ?_
        refine X.keep [(1, _), (2, _), (7, _), (9, _), (10, _), (11, _), (12, _), (13, _), (14, _), (56, _)] ⟨rfl, rfl, rfl, rfl, rfl, rfl, rfl, rfl, rfl, rfl, trivial⟩ ?_
        refine X.next ?_
        refine C.cut [(1, _), (2, _), (7, _), (9, _), (10, _), (11, _), (12, _), (13, _)] (fun (_ : Unit) => [(14, .int .i64 (pAt pk k : Nat))]) (fun _ w' => Sat (Kn.of w) w' (G1 :: H1 :: F1 :: [])) ⟨rfl, rfl, rfl, rfl, rfl, rfl, rfl, rfl, trivial⟩ ?_ ?_
        · refine C.cdec rfl (fun h56 => ?_) (fun h56 => ?_)
          · obtain ⟨y, bk_y, of_y, hy, my, ly, rfl, Ay⟩ := hs.el (i := k) (ad := ad2) (n := pk.length) (c := cap2) (by omega)
            have ay := Ay _ hs
            have q14 := ay 0 _ rfl
            have h14 := y.toNat_lt
            refine C.region ?_
            refine R.ev rfl (E.move rfl) ?_
            refine R.ev rfl (E.move rfl) ?_
            refine R.ev rfl (E.indexAddr rfl rfl Tryd.underlying23 Tryd.sz5 rfl (by first | omega | decide)) ?_
            refine R.ev rfl (E.load1 rfl Tryd.underlying5 rfl (by first | exact hs.ldc | exact hs.ld rfl | exact hs.ld (by assumption) | exact by assumption | exact At.cellC (by assumption))) ?_
            refine R.ev rfl ((E.conv rfl Tryd.underlying5 Tryd.underlying3).isI (c := ((y.toNat : Nat) : Int)) (wrap_i64 (by omega) (by omega))) ?_
            refine R.ev rfl (E.assign rfl) ?_
            refine R.done ?_
            refine X.keep [(1, _), (2, _), (7, _), (9, _), (10, _), (11, _), (12, _), (13, _), (14, _)] ⟨rfl, rfl, rfl, rfl, rfl, rfl, rfl, rfl, rfl, trivial⟩ ?_
            refine X.cut (()) ⟨lkV rfl ?_, rfl, rfl, rfl, rfl, rfl, rfl, rfl, rfl, trivial⟩ ?_
            · first | exact congrArg (fun q : Nat => Value.int .i64 (q : Int)) (pAt_some hy) | exact congrArg (fun q : Nat => Value.int .i64 (q : Int)) (pAt_none (by omega))
            · exact hs
          · refine C.skip ?_
            refine X.cut (()) ⟨lkV rfl ?_, rfl, rfl, rfl, rfl, rfl, rfl, rfl, rfl, trivial⟩ ?_
            · first | exact congrArg (fun q : Nat => Value.int .i64 (q : Int)) (pAt_some hy) | exact congrArg (fun q : Nat => Value.int .i64 (q : Int)) (pAt_none (by omega))
            · exact hs
        · rintro _ w14 hs
          refine X.keep [(1, _), (2, _), (7, _), (9, _), (10, _), (11, _), (12, _), (13, _), (14, _)] ⟨rfl, rfl, rfl, rfl, rfl, rfl, rfl, rfl, rfl, trivial⟩ ?_
          refine X.next ?_
          refine C.seq ?_
          refine C.seq ?_
          refine C.region ?_
          refine R.ev rfl (E.move rfl) ?_
          refine R.ev rfl ((E.rem rfl rfl (by decide) (by omega)).isI (c := ((pAt pk k % 3 : Nat) : Int)) (by omega)) ?_
          refine R.ev rfl (E.eql rfl rfl) ?_
          refine R.done ?_
          refine X.keep [(1, _), (2, _), (7, _), (9, _), (10, _), (11, _), (12, _), (13, _), (14, _), (64, _)] ⟨rfl, rfl, rfl, rfl, rfl, rfl, rfl, rfl, rfl, rfl, trivial⟩ ?_
          refine X.next ?_
          refine C.cut [(1, _), (2, _), (7, _), (10, _), (11, _), (12, _), (13, _), (14, _)] (fun ((_, _, v, _, _) : Nat × List Off × Value × Hl × Hl) => [(9, v)]) (fun (b', L', gv', F', G') w' => St ofs b' nx c L' ∧ (outsL L = [] → outsL L' = []) ∧ Win p (sz0 n) L' F' ∧ RowL 43 encR 33 gv' ((List.range' 0 b').map (rO ofs)) G' ∧ Sat (Kn.of w) w' (G' :: H1 :: F' :: [])) ⟨rfl, rfl, rfl, rfl, rfl, rfl, rfl, rfl, trivial⟩ ?_ ?_
          · refine C.cdec rfl (fun h64 => ?_) (fun h64 => ?_)
            · refine C.region ?_
              refine R.ev rfl (E.move rfl) ?_
              refine R.ev rfl (E.move rfl) ?_
              refine R.call ⟨_, _, Tryd.func14, rfl, by kernel_rfl⟩ rfl rfl (settled_any (hs.front (F := F1)) (by omega)) ?_
              rintro v67 w67 ⟨F67, G67, r67, hw67, hs1⟩
              have hs := hs.back2 (F := F1) hs1
              obtain ⟨ad67, cap67, rfl, _⟩ := r67.val
              have hfl : (fin L).length ≤ L.length := (List.takeWhile_prefix _).length_le
              have hbl : b ≤ 60 := by have := hst.bn; omega
              refine R.cappSl hs rfl rfl Tryd.underlying30 Tryd.by43 (by rfl) rfl (by decide) (by simp only [List.length_map, List.length_range']; omega) (by simp only [List.length_map, List.length_range']; omega) ?_
              intro v68 w68 F68 r68 hs
              obtain ⟨b', hb', hst', hge, hdo⟩ := hst.settled
              rw [hge] at r68
              refine R.ev rfl (E.assign rfl) ?_
              refine R.done ?_
              refine X.keep [(1, _), (2, _), (7, _), (9, _), (10, _), (11, _), (12, _), (13, _), (14, _)] ⟨rfl, rfl, rfl, rfl, rfl, rfl, rfl, rfl, rfl, trivial⟩ ?_
              first
                | exact X.cut ((b', unfin L, v68, F67, F68)) ⟨lkV rfl rfl, rfl, rfl, rfl, rfl, rfl, rfl, rfl, rfl, trivial⟩ ⟨hst', outs_unfin, hw67, r68, hs.to⟩
                | exact X.cut ((b, L, gv, F1, G1)) ⟨lkV rfl rfl, rfl, rfl, rfl, rfl, rfl, rfl, rfl, rfl, trivial⟩ ⟨hst, id, hw1, hg1, hs⟩
            · refine C.skip ?_
              first
                | exact X.cut ((b', unfin L, v68, F67, F68)) ⟨lkV rfl rfl, rfl, rfl, rfl, rfl, rfl, rfl, rfl, rfl, trivial⟩ ⟨hst', outs_unfin, hw67, r68, hs.to⟩
                | exact X.cut ((b, L, gv, F1, G1)) ⟨lkV rfl rfl, rfl, rfl, rfl, rfl, rfl, rfl, rfl, rfl, trivial⟩ ⟨hst, id, hw1, hg1, hs⟩
          · rintro ⟨b2, L2, gv2, F2, G2⟩ w15 ⟨hst2, ho2, hw2, hg2, hs⟩
            refine X.keep [(1, _), (2, _), (7, _), (9, _), (10, _), (11, _), (12, _), (13, _), (14, _)] ⟨rfl, rfl, rfl, rfl, rfl, rfl, rfl, rfl, rfl, trivial⟩ ?_
            refine X.next ?_
            refine C.seq ?_
            refine C.seq ?_
            refine C.cut [(1, _), (2, _), (7, _), (9, _), (10, _), (11, _), (12, _), (13, _), (14, _)] (fun ((r, _, _) : Bool × List Off × Hl) => [(91, .bool r)]) (fun (r, L', F') w' => (r = true → nx < ofs.length ∧ St ofs b2 (nx + 1) c L') ∧ (r = false → L' = L2 ∧ (outsL L2 = [] → nx = ofs.length)) ∧ Win p (sz0 n) L' F' ∧ Sat (Kn.of w) w' (G2 :: H1 :: F' :: [])) ⟨rfl, rfl, rfl, rfl, rfl, rfl, rfl, rfl, rfl, trivial⟩ ?_ ?_
            · refine C.region ?_
              have hLl2 := hst2.len
              refine R.ev rfl (E.move rfl) ?_
              refine R.ev rfl (E.move rfl) ?_
              refine R.ev rfl (E.lenSl rfl Tryd.underlying22) ?_
              refine R.ev rfl (E.lss rfl rfl) ?_
              refine R.ev rfl (E.move rfl) ?_
              refine R.split 73 rfl (fun h73 => ?_) (fun h73 => ?_)
              · refine R.gyes rfl rfl ?_
                refine R.ev rfl (E.move rfl) ?_
                refine R.gyes rfl rfl ?_
                refine R.ev rfl ((E.rem rfl rfl (by decide) (by omega)).isI (c := ((pAt pk k % 2 : Nat) : Int)) (by omega)) ?_
                refine R.gyes rfl rfl ?_
                refine R.ev rfl (E.eql rfl rfl) ?_
                refine R.gyes rfl rfl ?_
                refine R.ev rfl (E.move rfl) ?_
                refine R.split 77 rfl (fun h77 => ?_) (fun h77 => ?_)
                · refine R.gskip rfl rfl rfl ?_
                  refine R.gskip rfl rfl rfl ?_
                  refine R.gskip rfl rfl rfl ?_
                  refine R.gskip rfl rfl rfl ?_
                  refine R.gyes rfl rfl ?_
                  refine R.ev rfl (E.pickT rfl rfl) ?_
                  refine R.ev rfl (E.pickT rfl rfl) ?_
                  refine R.ev rfl (E.move rfl) ?_
                  refine R.gyes rfl rfl ?_
                  refine R.ev rfl (E.move rfl) ?_
                  refine R.gyes rfl rfl ?_
                  refine R.ev rfl (E.move rfl) ?_
                  refine R.gyes rfl rfl ?_
                  refine R.ev rfl ((E.conv rfl Tryd.underlying3 Tryd.underlying5).as (u := ub (UInt8.ofNat nx)) (wrap_ub _)) ?_
                  refine R.gyes rfl rfl ?_
                  refine R.ev rfl ((E.buildA rfl Tryd.underlying37 Tryd.zr37 Tryd.sz5 rfl).as (u := .agg (encV (vN nx)).toArray) (by rfl)) ?_
                  refine R.gyes rfl rfl ?_
                  refine R.call ⟨_, _, Tryd.func16, rfl, by kernel_rfl⟩ rfl rfl (offer_any (vN nx) 10 (hs.front (F := F2)) (by omega)) ?_
                  rintro _ w89 ⟨rfl, F89, hw89, hs1⟩
                  have hs := hs.back (F := F2) hs1
                  have hnx0 : nx < ofs.length := by have := of_decide_eq_true h73; omega
                  have hoff := hst2.offer (sz := sz0 n) hn hnx0
                  refine R.gyes rfl rfl ?_
                  refine R.ev rfl (E.eql rfl rfl) ?_
                  refine R.ev rfl (E.pickT rfl rfl) ?_
                  refine R.done ?_
                  refine X.keep [(1, _), (2, _), (7, _), (9, _), (10, _), (11, _), (12, _), (13, _), (14, _), (91, _)] ⟨rfl, rfl, rfl, rfl, rfl, rfl, rfl, rfl, rfl, rfl, trivial⟩ ?_
                  first
                    | exact X.cut ((_, _, F89)) ⟨lkV rfl rfl, rfl, rfl, rfl, rfl, rfl, rfl, rfl, rfl, rfl, trivial⟩ ⟨fun h => ⟨hnx0, hoff.1 (of_decide_eq_true h)⟩, fun h => ⟨(hoff.2 (of_decide_eq_false h)).1, fun h2 => absurd h2 ((hoff.2 (of_decide_eq_false h)).2 hz1.1)⟩, hw89, hs.to⟩
                    | exact X.cut ((false, L2, F2)) ⟨lkV rfl rfl, rfl, rfl, rfl, rfl, rfl, rfl, rfl, rfl, rfl, trivial⟩ ⟨fun h => Bool.noConfusion h, fun _ => ⟨rfl, fun h2 => absurd (congrArg (fun l => (l.length : Int)) h2) (of_decide_eq_false h84)⟩, hw2, hs.to⟩
                    | exact X.cut ((false, L2, F2)) ⟨lkV rfl rfl, rfl, rfl, rfl, rfl, rfl, rfl, rfl, rfl, rfl, trivial⟩ ⟨fun h => Bool.noConfusion h, fun _ => ⟨rfl, fun _ => nx_full hnn (of_decide_eq_false h73)⟩, hw2, hs.to⟩
                · refine R.gyes rfl rfl ?_
                  refine R.ev rfl (E.move rfl) ?_
                  refine R.gyes rfl rfl ?_
                  refine R.call ⟨_, _, Tryd.func15, rfl, by kernel_rfl⟩ rfl rfl (outstanding_any hs (by omega)) ?_
                  rintro v79 w79 ⟨F79, r79, hs⟩
                  obtain ⟨ad79, cap79, rfl, _⟩ := r79.val
                  refine R.gyes rfl rfl ?_
                  refine R.ev rfl (E.lenSl rfl Tryd.underlying33) ?_
                  refine R.gyes rfl rfl ?_
                  refine R.ev rfl (E.eql rfl rfl) ?_
                  refine R.gyes rfl rfl ?_
                  refine R.ev rfl (E.pickF rfl rfl) ?_
                  refine R.ev rfl (E.pickT rfl rfl) ?_
                  refine R.ev rfl (E.move rfl) ?_
                  refine R.split 84 rfl (fun h84 => ?_) (fun h84 => ?_)
                  · refine R.gyes rfl rfl ?_
                    refine R.ev rfl (E.move rfl) ?_
                    refine R.gyes rfl rfl ?_
                    refine R.ev rfl (E.move rfl) ?_
                    refine R.gyes rfl rfl ?_
                    refine R.ev rfl ((E.conv rfl Tryd.underlying3 Tryd.underlying5).as (u := ub (UInt8.ofNat nx)) (wrap_ub _)) ?_
                    refine R.gyes rfl rfl ?_
                    refine R.ev rfl ((E.buildA rfl Tryd.underlying37 Tryd.zr37 Tryd.sz5 rfl).as (u := .agg (encV (vN nx)).toArray) (by rfl)) ?_
                    refine R.gyes rfl rfl ?_
                    refine R.call ⟨_, _, Tryd.func16, rfl, by kernel_rfl⟩ rfl rfl (offer_any (vN nx) 10 (hs.front (F := F2)) (by omega)) ?_
                    rintro _ w89 ⟨rfl, F89, hw89, hs1⟩
                    have hs := hs.back (F := F2) hs1
                    have hnx0 : nx < ofs.length := by have := of_decide_eq_true h73; omega
                    have hoff := hst2.offer (sz := sz0 n) hn hnx0
                    refine R.gyes rfl rfl ?_
                    refine R.ev rfl (E.eql rfl rfl) ?_
                    refine R.ev rfl (E.pickT rfl rfl) ?_
                    refine R.done ?_
                    refine X.keep [(1, _), (2, _), (7, _), (9, _), (10, _), (11, _), (12, _), (13, _), (14, _), (91, _)] ⟨rfl, rfl, rfl, rfl, rfl, rfl, rfl, rfl, rfl, rfl, trivial⟩ ?_
                    first
                      | exact X.cut ((_, _, F89)) ⟨lkV rfl rfl, rfl, rfl, rfl, rfl, rfl, rfl, rfl, rfl, rfl, trivial⟩ ⟨fun h => ⟨hnx0, hoff.1 (of_decide_eq_true h)⟩, fun h => ⟨(hoff.2 (of_decide_eq_false h)).1, fun h2 => absurd h2 ((hoff.2 (of_decide_eq_false h)).2 hz1.1)⟩, hw89, hs.to⟩
                      | exact X.cut ((false, L2, F2)) ⟨lkV rfl rfl, rfl, rfl, rfl, rfl, rfl, rfl, rfl, rfl, rfl, trivial⟩ ⟨fun h => Bool.noConfusion h, fun _ => ⟨rfl, fun h2 => absurd (congrArg (fun l => (l.length : Int)) h2) (of_decide_eq_false h84)⟩, hw2, hs.to⟩
                      | exact X.cut ((false, L2, F2)) ⟨lkV rfl rfl, rfl, rfl, rfl, rfl, rfl, rfl, rfl, rfl, rfl, trivial⟩ ⟨fun h => Bool.noConfusion h, fun _ => ⟨rfl, fun _ => nx_full hnn (of_decide_eq_false h73)⟩, hw2, hs.to⟩
                  · refine R.gskip rfl rfl rfl ?_
                    refine R.gskip rfl rfl rfl ?_
                    refine R.gskip rfl rfl rfl ?_
                    refine R.gskip rfl rfl rfl ?_
                    refine R.gskip rfl rfl rfl ?_
                    refine R.gskip rfl rfl rfl ?_
                    refine R.ev rfl (E.pickF rfl rfl) ?_
                    refine R.done ?_
                    refine X.keep [(1, _), (2, _), (7, _), (9, _), (10, _), (11, _), (12, _), (13, _), (14, _), (91, _)] ⟨rfl, rfl, rfl, rfl, rfl, rfl, rfl, rfl, rfl, rfl, trivial⟩ ?_
                    first
                      | exact X.cut ((_, _, F89)) ⟨lkV rfl rfl, rfl, rfl, rfl, rfl, rfl, rfl, rfl, rfl, rfl, trivial⟩ ⟨fun h => ⟨hnx0, hoff.1 (of_decide_eq_true h)⟩, fun h => ⟨(hoff.2 (of_decide_eq_false h)).1, fun h2 => absurd h2 ((hoff.2 (of_decide_eq_false h)).2 hz1.1)⟩, hw89, hs.to⟩
                      | exact X.cut ((false, L2, F2)) ⟨lkV rfl rfl, rfl, rfl, rfl, rfl, rfl, rfl, rfl, rfl, rfl, trivial⟩ ⟨fun h => Bool.noConfusion h, fun _ => ⟨rfl, fun h2 => absurd (congrArg (fun l => (l.length : Int)) h2) (of_decide_eq_false h84)⟩, hw2, hs.to⟩
                      | exact X.cut ((false, L2, F2)) ⟨lkV rfl rfl, rfl, rfl, rfl, rfl, rfl, rfl, rfl, rfl, rfl, trivial⟩ ⟨fun h => Bool.noConfusion h, fun _ => ⟨rfl, fun _ => nx_full hnn (of_decide_eq_false h73)⟩, hw2, hs.to⟩
              · refine R.gskip rfl rfl rfl ?_
                refine R.gskip rfl rfl rfl ?_
                refine R.gskip rfl rfl rfl ?_
                refine R.gskip rfl rfl rfl ?_
                refine R.gundef rfl rfl ?_
                refine R.gundef rfl rfl ?_
                refine R.gundef rfl rfl ?_
                refine R.gundef rfl rfl ?_
                refine R.gskip rfl rfl rfl ?_
                refine R.ev rfl (E.pickF rfl rfl) ?_
                refine R.ev rfl (E.move rfl) ?_
                refine R.gskip rfl rfl rfl ?_
                refine R.gskip rfl rfl rfl ?_
                refine R.gskip rfl rfl rfl ?_
                refine R.gskip rfl rfl rfl ?_
                refine R.gskip rfl rfl rfl ?_
                refine R.gskip rfl rfl rfl ?_
                refine R.ev rfl (E.pickF rfl rfl) ?_
                refine R.done ?_
                refine X.keep [(1, _), (2, _), (7, _), (9, _), (10, _), (11, _), (12, _), (13, _), (14, _), (91, _)] ⟨rfl, rfl, rfl, rfl, rfl, rfl, rfl, rfl, rfl, rfl, trivial⟩ ?_
                first
                  | exact X.cut ((_, _, F89)) ⟨lkV rfl rfl, rfl, rfl, rfl, rfl, rfl, rfl, rfl, rfl, rfl, trivial⟩ ⟨fun h => ⟨hnx0, hoff.1 (of_decide_eq_true h)⟩, fun h => ⟨(hoff.2 (of_decide_eq_false h)).1, fun h2 => absurd h2 ((hoff.2 (of_decide_eq_false h)).2 hz1.1)⟩, hw89, hs.to⟩
                  | exact X.cut ((false, L2, F2)) ⟨lkV rfl rfl, rfl, rfl, rfl, rfl, rfl, rfl, rfl, rfl, rfl, trivial⟩ ⟨fun h => Bool.noConfusion h, fun _ => ⟨rfl, fun h2 => absurd (congrArg (fun l => (l.length : Int)) h2) (of_decide_eq_false h84)⟩, hw2, hs.to⟩
                  | exact X.cut ((false, L2, F2)) ⟨lkV rfl rfl, rfl, rfl, rfl, rfl, rfl, rfl, rfl, rfl, rfl, trivial⟩ ⟨fun h => Bool.noConfusion h, fun _ => ⟨rfl, fun _ => nx_full hnn (of_decide_eq_false h73)⟩, hw2, hs.to⟩
            · rintro ⟨r91, L3, F3⟩ w17 ⟨hT, hF, hw3, hs⟩
              refine X.keep [(1, _), (2, _), (7, _), (9, _), (10, _), (11, _), (12, _), (13, _), (14, _), (91, _)] ⟨rfl, rfl, rfl, rfl, rfl, rfl, rfl, rfl, rfl, rfl, trivial⟩ ?_
              refine X.next ?_
              refine C.cbool rfl (fun h91 => ?_) (fun h91 => ?_)
              · obtain ⟨hnx, hst3⟩ := hT h91
                refine C.seq ?_
                refine C.region ?_
                refine R.ev rfl (E.move rfl) ?_
                refine R.ev rfl (E.add rfl rfl (by omega) (by omega)) ?_
                refine R.ev rfl (E.assign rfl) ?_
                refine R.done ?_
                refine X.keep [(1, _), (2, _), (7, _), (9, _), (10, _), (11, _), (12, _), (13, _)] ⟨rfl, rfl, rfl, rfl, rfl, rfl, rfl, rfl, trivial⟩ ?_
                refine X.next ?_
                refine C.exit ?_
                refine X.thenExit ?_
                refine X.blockExit ?_
                refine X.next ?_
                refine C.region ?_
                refine R.ev rfl (E.move rfl) ?_
                refine R.ev rfl (E.add rfl rfl (by omega) (by omega)) ?_
                refine R.ev rfl (E.assign rfl) ?_
                refine R.done ?_
                refine X.keep [(1, _), (2, _), (7, _), (9, _), (10, _), (11, _), (12, _), (13, _)] ⟨rfl, rfl, rfl, rfl, rfl, rfl, rfl, rfl, trivial⟩ ?_
                first
                  | exact X.again (k + 1, b2, nx, c.set i (gN c i + 1), _, gv2, F139, G2, H2) ⟨rfl, rfl, rfl, rfl, rfl, rfl, rfl, rfl, trivial⟩ ⟨by omega, han.2, hpr.elim (fun hp1 => .inl (by omega)) (fun hp => absurd (ho2 hp.2) (List.ne_nil_of_mem mx)), hw139, hg2, hc2', hs.to⟩ (by show _ - _ < _ - _; omega)
                  | exact X.again (k + 1, b2, nx + 1, c, L3, gv2, F3, G2, H1) ⟨rfl, rfl, rfl, rfl, rfl, rfl, rfl, rfl, trivial⟩ ⟨by omega, hst3, .inl (by omega), hw3, hg2, hc1, hs.to⟩ (by show _ - _ < _ - _; omega)
                  | exact X.again (k + 1, b2, nx, c, L3, gv2, F3, G2, H1) ⟨rfl, rfl, rfl, rfl, rfl, rfl, rfl, rfl, trivial⟩ ⟨by omega, hst2, .inr ⟨hdn ho3, ho3⟩, hw3, hg2, hc1, hs.to⟩ (by show _ - _ < _ - _; omega)
              · obtain ⟨rfl, hdn⟩ := hF h91
                refine C.skip ?_
                refine X.next ?_
                refine C.seq ?_
                refine C.region ?_
                refine R.ev rfl (E.move rfl) ?_
                refine R.call ⟨_, _, Tryd.func15, rfl, by kernel_rfl⟩ rfl rfl (outstanding_any hs (by have := hst2.len; omega)) ?_
                rintro v95 w95 ⟨F95, r95, hs⟩
                obtain ⟨ad95, cap95, rfl, _⟩ := r95.val
                refine R.ev rfl (E.assign rfl) ?_
                refine R.done ?_
                refine X.keep [(1, _), (2, _), (7, _), (9, _), (10, _), (11, _), (12, _), (13, _), (14, _), (15, _)] ⟨rfl, rfl, rfl, rfl, rfl, rfl, rfl, rfl, rfl, rfl, trivial⟩ ?_
                refine X.next ?_
                refine C.seq ?_
                refine C.seq ?_
                refine C.region ?_
                refine R.ev rfl (E.move rfl) ?_
                refine R.ev rfl (E.lenSl rfl Tryd.underlying33) ?_
                refine R.ev rfl (E.eql rfl rfl) ?_
                refine R.done ?_
                refine X.keep [(1, _), (2, _), (7, _), (9, _), (10, _), (11, _), (12, _), (13, _), (14, _), (15, _), (98, _)] ⟨rfl, rfl, rfl, rfl, rfl, rfl, rfl, rfl, rfl, rfl, rfl, trivial⟩ ?_
                refine X.next ?_
                refine C.cdec rfl (fun h98 => ?_) (fun h98 => ?_)
                · have ho3 : outsL L3 = [] := List.length_eq_zero_iff.1 (by omega)
                  refine C.exit ?_
                  refine X.thenExit ?_
                  refine X.blockExit ?_
                  refine X.next ?_
                  refine C.region ?_
                  refine R.ev rfl (E.move rfl) ?_
                  refine R.ev rfl (E.add rfl rfl (by omega) (by omega)) ?_
                  refine R.ev rfl (E.assign rfl) ?_
                  refine R.done ?_
                  refine X.keep [(1, _), (2, _), (7, _), (9, _), (10, _), (11, _), (12, _), (13, _)] ⟨rfl, rfl, rfl, rfl, rfl, rfl, rfl, rfl, trivial⟩ ?_
                  first
                    | exact X.again (k + 1, b2, nx, c.set i (gN c i + 1), _, gv2, F139, G2, H2) ⟨rfl, rfl, rfl, rfl, rfl, rfl, rfl, rfl, trivial⟩ ⟨by omega, han.2, hpr.elim (fun hp1 => .inl (by omega)) (fun hp => absurd (ho2 hp.2) (List.ne_nil_of_mem mx)), hw139, hg2, hc2', hs.to⟩ (by show _ - _ < _ - _; omega)
                    | exact X.again (k + 1, b2, nx + 1, c, L3, gv2, F3, G2, H1) ⟨rfl, rfl, rfl, rfl, rfl, rfl, rfl, rfl, trivial⟩ ⟨by omega, hst3, .inl (by omega), hw3, hg2, hc1, hs.to⟩ (by show _ - _ < _ - _; omega)
                    | exact X.again (k + 1, b2, nx, c, L3, gv2, F3, G2, H1) ⟨rfl, rfl, rfl, rfl, rfl, rfl, rfl, rfl, trivial⟩ ⟨by omega, hst2, .inr ⟨hdn ho3, ho3⟩, hw3, hg2, hc1, hs.to⟩ (by show _ - _ < _ - _; omega)
                · have hlt : pAt pk k / 4 % (outsL L3).length < (outsL L3).length := Nat.mod_lt _ (by omega)
                  have hol := outsL_len L3
                  have hcn := cnt_le L3
                  obtain ⟨x, bk_x, of_x, hx, mx, lx, rfl, Ax⟩ := hs.el (i := pAt pk k / 4 % (outsL L3).length) (ad := ad95) (n := (outsL L3).length) (c := cap95) hlt
                  have ax := Ax _ hs
                  obtain ⟨i, rfl, hi1, hi2, hi3⟩ := hst2.pick mx
                  have h8 := toNat8 (i := i) (by omega)
                  have han := hst2.answer hn hi1 hi2 hi3
                  refine C.skip ?_
                  refine X.next ?_
                  refine C.seq ?_
                  refine C.region ?_
                  refine R.ev rfl (E.move rfl) ?_
                  refine R.ev rfl (E.move rfl) ?_
                  refine R.ev rfl ((E.quo rfl rfl (by decide) (by omega) (by omega)).isI (c := ((pAt pk k / 4 : Nat) : Int)) (by omega)) ?_
                  refine R.ev rfl (E.move rfl) ?_
                  refine R.ev rfl (E.lenSl rfl Tryd.underlying33) ?_
                  refine R.ev rfl ((E.rem rfl rfl (by omega) (by omega)).isI (c := ((pAt pk k / 4 % (outsL L3).length : Nat) : Int)) (by omega)) ?_
                  refine R.ev rfl (E.indexAddr rfl rfl Tryd.underlying33 Tryd.sz37 rfl (by first | omega | decide)) ?_
                  refine R.ev rfl (E.loadRowC rfl Tryd.underlying37 rfl Tryd.sz37 (by first | exact ⟨hs.ldA, by first | rfl | assumption | exact encV_len _ | exact Enc.len _ | exact len_ub (by assumption)⟩ | exact ⟨hs.ldP rfl, by first | rfl | assumption | exact encV_len _ | exact Enc.len _ | exact len_ub (by assumption)⟩ | exact ⟨hs.ldM rfl rfl, by first | rfl | assumption | exact encV_len _ | exact Enc.len _ | exact len_ub (by assumption)⟩ | exact ⟨hs.ldM (by assumption) (by first | rfl | assumption), by first | rfl | assumption | exact encV_len _ | exact Enc.len _ | exact len_ub (by assumption)⟩ | exact ⟨by assumption, by first | rfl | assumption | exact encV_len _ | exact Enc.len _ | exact len_ub (by assumption)⟩ | exact hs.ldp | exact At.partC (by assumption))) ?_
                  refine R.sallocA hs Tryd.zr37 rfl ?_
                  intro b16 w16 hs
                  first | refine R.cstoreAll hs rfl rfl Tryd.sz37 (by first | rfl | assumption | exact encV_len _ | exact Enc.len _ | exact len_ub (by assumption) | simp [*]) (by first | rfl | assumption | exact encV_len _ | exact Enc.len _ | exact len_ub (by assumption) | simp [*]) (by first | assumption | exact OneL.all | exact Enc.one _ | exact ub_all _ | (repeat' (first | refine List.forall_mem_cons.2 ⟨?_, ?_⟩ | exact List.forall_mem_nil _ | rfl | exact OneC.one | exact KRow.oneC' (by assumption)))) ?_ | refine R.cstore hs rfl rfl Tryd.sz37 (by first | rfl | assumption | exact encV_len _ | exact Enc.len _ | exact len_ub (by assumption) | simp [*]) (by simp [*]) (by first | assumption | exact OneL.all | exact Enc.one _ | exact ub_all _ | (repeat' (first | refine List.forall_mem_cons.2 ⟨?_, ?_⟩ | exact List.forall_mem_nil _ | rfl | exact OneC.one | exact KRow.oneC' (by assumption)))) ?_
                  intro w21_9 hs
                  try simp only [List.set_cons_zero, List.set_cons_succ] at hs
                  refine R.done ?_
                  refine X.keep [(1, _), (2, _), (7, _), (9, _), (10, _), (11, _), (12, _), (13, _), (16, _)] ⟨rfl, rfl, rfl, rfl, rfl, rfl, rfl, rfl, rfl, trivial⟩ ?_
                  refine X.next ?_
                  refine C.seq ?_
                  refine C.seq ?_
                  refine C.region ?_
                  refine R.ev rfl (E.indexAddrA0 0 0 rfl rfl Tryd.underlying37 Tryd.sz5 rfl rfl) ?_
                  refine R.ev rfl ((E.load1 rfl Tryd.underlying5 rfl (by first | exact hs.ldc | exact hs.ld rfl | exact hs.ld (by assumption) | exact by assumption | exact At.cellC (by assumption))).as (u := .int .u8 (i : Nat)) (ub_nat h8)) ?_
                  refine R.ev rfl ((E.conv rfl Tryd.underlying5 Tryd.underlying3).isI (c := ((i : Nat) : Int)) (wrap_i64 (by omega) (by omega))) ?_
                  refine R.ev rfl (E.move rfl) ?_
                  refine R.ev rfl (E.lenSl rfl Tryd.underlying22) ?_
                  refine R.ev rfl ((E.geq rfl rfl).isF (by omega)) ?_
                  refine R.ev rfl (E.move rfl) ?_
                  refine R.gyes rfl rfl ?_
                  refine R.ev rfl (E.loadRowC rfl Tryd.underlying37 rfl Tryd.sz37 (by first | exact ⟨hs.ldA, by first | rfl | assumption | exact encV_len _ | exact Enc.len _ | exact len_ub (by assumption)⟩ | exact ⟨hs.ldP rfl, by first | rfl | assumption | exact encV_len _ | exact Enc.len _ | exact len_ub (by assumption)⟩ | exact ⟨hs.ldM rfl rfl, by first | rfl | assumption | exact encV_len _ | exact Enc.len _ | exact len_ub (by assumption)⟩ | exact ⟨hs.ldM (by assumption) (by first | rfl | assumption), by first | rfl | assumption | exact encV_len _ | exact Enc.len _ | exact len_ub (by assumption)⟩ | exact ⟨by assumption, by first | rfl | assumption | exact encV_len _ | exact Enc.len _ | exact len_ub (by assumption)⟩ | exact hs.ldp | exact At.partC (by assumption))) ?_
                  refine R.gyes rfl rfl ?_
                  refine R.ev rfl (E.indexAddrA0 0 0 rfl rfl Tryd.underlying37 Tryd.sz5 rfl rfl) ?_
                  refine R.gyes rfl rfl ?_
                  refine R.ev rfl (E.load1 rfl Tryd.underlying5 rfl (by first | exact hs.ldc | exact hs.ld rfl | exact hs.ld (by assumption) | exact by assumption | exact At.cellC (by assumption))) ?_
                  refine R.gyes rfl rfl ?_
                  refine R.ev rfl ((E.buildA rfl Tryd.underlying37 Tryd.zr37 Tryd.sz5 rfl).as (u := .agg (encV (vN i)).toArray) (by rfl)) ?_
                  refine R.gyes rfl rfl ?_
                  first | refine R.ev rfl ((E.neV 10 rfl rfl Tryd.lv37 rfl Tryd.underlying37 rfl Tryd.gd37).isF (by simp)) ?_ | refine R.ev rfl ((E.neId 10 32 rfl rfl Tryd.lv37 rfl Tryd.underlying37 rfl Tryd.gd37 (by assumption) (by assumption)).isF (by simp)) ?_
                  refine R.ev rfl (E.pickF rfl rfl) ?_
                  refine R.done ?_
                  refine X.keep [(1, _), (2, _), (7, _), (9, _), (10, _), (11, _), (12, _), (13, _), (16, _), (119, _)] ⟨rfl, rfl, rfl, rfl, rfl, rfl, rfl, rfl, rfl, rfl, trivial⟩ ?_
                  refine X.next ?_
                  refine C.cfalse rfl ?_
                  refine C.skip ?_
                  refine X.next ?_
                  refine C.seq ?_
                  refine C.region ?_
                  obtain ⟨z, bk_z, of_z, hzz, mz, lz, rfl, Az⟩ := hs.el (i := i) (ad := ad) (n := ofs.length) (c := cap) (by omega)
                  have hzz := gO_of hzz
                  subst hzz
                  have az := Az _ hs
                  refine R.ev rfl (E.move rfl) ?_
                  refine R.ev rfl (E.indexAddrA0 0 0 rfl rfl Tryd.underlying37 Tryd.sz5 rfl rfl) ?_
                  refine R.ev rfl ((E.load1 rfl Tryd.underlying5 rfl (by first | exact hs.ldc | exact hs.ld rfl | exact hs.ld (by assumption) | exact by assumption | exact At.cellC (by assumption))).as (u := .int .u8 (i : Nat)) (ub_nat h8)) ?_
                  refine R.ev rfl (E.indexAddr rfl rfl Tryd.underlying22 Tryd.sz40 rfl (by first | omega | decide)) ?_
                  refine R.ev rfl (E.loadRowC rfl Tryd.underlying40 rfl Tryd.sz40 (by first | exact ⟨hs.ldA, by first | rfl | assumption | exact encV_len _ | exact Enc.len _ | exact len_ub (by assumption)⟩ | exact ⟨hs.ldP rfl, by first | rfl | assumption | exact encV_len _ | exact Enc.len _ | exact len_ub (by assumption)⟩ | exact ⟨hs.ldM rfl rfl, by first | rfl | assumption | exact encV_len _ | exact Enc.len _ | exact len_ub (by assumption)⟩ | exact ⟨hs.ldM (by assumption) (by first | rfl | assumption), by first | rfl | assumption | exact encV_len _ | exact Enc.len _ | exact len_ub (by assumption)⟩ | exact ⟨by assumption, by first | rfl | assumption | exact encV_len _ | exact Enc.len _ | exact len_ub (by assumption)⟩ | exact hs.ldp | exact At.partC (by assumption))) ?_
                  refine R.call ⟨_, _, Tryd.func17, rfl, by kernel_rfl⟩ rfl rfl (final_any (gO ofs i) hs) ?_
                  rintro _ w126 ⟨v126, F126, rfl, r126, hs⟩
                  obtain ⟨ad126, cap126, rfl, _⟩ := r126.val
                  obtain ⟨u, bk_u, of_u, hu, mu, lu, eu, Au⟩ := hs.el (i := i) (ad := some ⟨b48, 0, none⟩) (n := ofs.length) (c := ofs.length) (by omega)
                  simp only [Option.some.injEq, Addr.mk.injEq, and_true] at eu
                  obtain ⟨rfl, rfl⟩ := eu
                  have hu0' := gN_of hu
                  subst hu0'
                  obtain ⟨t, bk_t, of_t, ht, mt, lt, rfl, At'⟩ := hs.el (i := gN c i) (ad := ad126) (n := (ans (gO ofs i)).length) (c := cap126) (by omega)
                  have ht0 := gI_of ht
                  subst ht0
                  have hans := (ans_len (gO ofs i)).2
                  refine R.ev rfl (E.move rfl) ?_
                  refine R.ev rfl (E.extract rfl rfl) ?_
                  refine R.ev rfl (E.extract rfl rfl) ?_
                  refine R.ev rfl (E.assign rfl) ?_
                  refine R.ev rfl (E.assign rfl) ?_
                  refine R.done ?_
                  refine X.keep [(1, _), (2, _), (7, _), (9, _), (10, _), (11, _), (12, _), (13, _), (16, _), (18, _)] ⟨rfl, rfl, rfl, rfl, rfl, rfl, rfl, rfl, rfl, rfl, trivial⟩ ?_
                  refine X.next ?_
                  refine C.seq ?_
                  refine C.seq ?_
                  refine C.drawn (SatS hs) ([1, 5, 7, 9], [0, 2, 3, 4, 6, 8, 11]) (by kernel_rfl) ?_
                  have hs := hs.drew
                  refine D.evP 0 rfl (by kernel_rfl) rfl (fun _ => hs.to) (fun _ => E.move rfl) ?_
                  refine D.evP 2 rfl (by kernel_rfl) rfl (fun _ => hs.to) (fun _ => E.move rfl) ?_
                  refine D.evP 3 rfl (by kernel_rfl) rfl (fun _ => hs.to) (fun _ => E.move rfl) ?_
                  refine D.evP 4 rfl (by kernel_rfl) rfl (fun _ => hs.to) (fun _ => E.indexAddrA0 0 0 rfl rfl Tryd.underlying37 Tryd.sz5 rfl rfl) ?_
                  refine D.ev 1 rfl (by kernel_rfl) rfl hs.to (fun _ hS => E.loadRowC rfl Tryd.underlying37 rfl Tryd.sz37 (by first | exact ⟨hS.ldA, by first | rfl | assumption | exact encV_len _ | exact Enc.len _ | exact len_ub (by assumption)⟩ | exact ⟨hS.ldP rfl, by first | rfl | assumption | exact encV_len _ | exact Enc.len _ | exact len_ub (by assumption)⟩ | exact ⟨hS.ldM rfl rfl, by first | rfl | assumption | exact encV_len _ | exact Enc.len _ | exact len_ub (by assumption)⟩ | exact ⟨hS.ldM (by assumption) (by first | rfl | assumption), by first | rfl | assumption | exact encV_len _ | exact Enc.len _ | exact len_ub (by assumption)⟩ | exact ⟨by assumption, by first | rfl | assumption | exact encV_len _ | exact Enc.len _ | exact len_ub (by assumption)⟩ | exact ⟨(by assumption : ∀ w', Sat _ w' _ → At w' _ _ _) _ hS, by first | rfl | assumption | exact encV_len _ | exact Enc.len _ | exact len_ub (by assumption)⟩ | exact hS.ldp | exact At.partC (by assumption) | exact At.partC ((by assumption : ∀ w', Sat _ w' _ → At w' _ _ _) _ hS))) ?_
                  refine D.ev 5 rfl (by kernel_rfl) rfl hs.to (fun _ hS => (E.load1 rfl Tryd.underlying5 rfl (by first | exact hS.ldc | exact hS.ld rfl | exact hS.ld (by assumption) | exact by assumption | exact At.cellC (by assumption) | exact At.cellC ((by assumption : ∀ w', Sat _ w' _ → At w' _ _ _) _ hS) | exact (by assumption : ∀ w', Sat _ w' _ → World.cell? w' _ = some _) _ hS)).as (u := .int .u8 (i : Nat)) (ub_nat h8)) ?_
                  refine D.evP 6 rfl (by kernel_rfl) rfl (fun _ => hs.to) (fun _ => E.indexAddr rfl rfl Tryd.underlying31 Tryd.sz3 rfl (by first | omega | decide)) ?_
                  refine D.ev 7 rfl (by kernel_rfl) rfl hs.to (fun _ hS => E.load1 rfl Tryd.underlying3 rfl (Au _ hS 0 _ rfl)) ?_
                  refine D.evP 8 rfl (by kernel_rfl) rfl (fun _ => hs.to) (fun _ => E.indexAddr rfl rfl Tryd.underlying31 Tryd.sz3 rfl (by first | omega | decide)) ?_
                  refine D.ev 9 rfl (by kernel_rfl) rfl hs.to (fun _ hS => E.load1 rfl Tryd.underlying3 rfl (At' _ hS 0 _ rfl)) ?_
                  refine D.act 10 rfl (by kernel_rfl) ?_
                  refine R.call ⟨_, _, Tryd.func18, rfl, by kernel_rfl⟩ rfl rfl (answer_any (vN i) ((ans (gO ofs i)).getD (gN c i) 0) (hs.front (F := F3)) (hw := hw3)) ?_
                  rintro _ w139 ⟨rfl, F139, hw139, hs1⟩
                  have hs := hs.back (F := F3) hs1
                  rw [han.1]
                  refine D.backT (by kernel_rfl) ?_
                  refine D.evP 11 rfl (by kernel_rfl) rfl (np (by kernel_rfl)) (fun _ => (E.neq rfl rfl).isF (by simp)) ?_
                  refine D.done rfl (by kernel_rfl) ?_
                  refine X.keep [(1, _), (2, _), (7, _), (9, _), (10, _), (11, _), (12, _), (13, _), (16, _), (140, _)] ⟨rfl, rfl, rfl, rfl, rfl, rfl, rfl, rfl, rfl, rfl, trivial⟩ ?_
                  refine X.next ?_
                  refine C.cfalse rfl ?_
                  refine C.skip ?_
                  refine X.next ?_
                  refine C.region ?_
                  refine R.ev rfl (E.move rfl) ?_
                  refine R.ev rfl (E.indexAddrA0 0 0 rfl rfl Tryd.underlying37 Tryd.sz5 rfl rfl) ?_
                  refine R.ev rfl ((E.load1 rfl Tryd.underlying5 rfl (by first | exact hs.ldc | exact hs.ld rfl | exact hs.ld (by assumption) | exact by assumption | exact At.cellC (by assumption))).as (u := .int .u8 (i : Nat)) (ub_nat h8)) ?_
                  refine R.ev rfl (E.indexAddr rfl rfl Tryd.underlying31 Tryd.sz3 rfl (by first | omega | decide)) ?_
                  refine R.ev rfl (E.load1 rfl Tryd.underlying3 rfl (Sat.elAt (b := b48) (off := 0) (n := ofs.length) ofs.length hs hu _ hs 0 _ rfl)) ?_
                  refine R.ev rfl (E.add rfl rfl (by omega) (by omega)) ?_
                  refine R.ev rfl (E.indexAddr rfl rfl Tryd.underlying31 Tryd.sz3 rfl (by first | omega | decide)) ?_
                  refine R.ssetF (el' := gN c i + 1) i (hs.front (F := H1)) hc1 rfl rfl Tryd.sz3 hu ?_ (off := 0) (by omega) (by decide) rfl ?_
                  · simp [encN]
                  intro w277 H2 hc2' hs1
                  have hs := hs.back (F := H1) hs1
                  have hsu := sum_set (c := c) (i := i) (by omega)
                  refine R.done ?_
                  refine X.keep [(1, _), (2, _), (7, _), (9, _), (10, _), (11, _), (12, _), (13, _)] ⟨rfl, rfl, rfl, rfl, rfl, rfl, rfl, rfl, trivial⟩ ?_
                  refine X.blockNormal ?_
                  refine X.next ?_
                  refine C.region ?_
                  refine R.ev rfl (E.move rfl) ?_
                  refine R.ev rfl (E.add rfl rfl (by omega) (by omega)) ?_
                  refine R.ev rfl (E.assign rfl) ?_
                  refine R.done ?_
                  refine X.keep [(1, _), (2, _), (7, _), (9, _), (10, _), (11, _), (12, _), (13, _)] ⟨rfl, rfl, rfl, rfl, rfl, rfl, rfl, rfl, trivial⟩ ?_
                  first
                    | exact X.again (k + 1, b2, nx, c.set i (gN c i + 1), _, gv2, F139, G2, H2) ⟨rfl, rfl, rfl, rfl, rfl, rfl, rfl, rfl, trivial⟩ ⟨by omega, han.2, hpr.elim (fun hp1 => .inl (by omega)) (fun hp => absurd (ho2 hp.2) (List.ne_nil_of_mem mx)), hw139, hg2, hc2', hs.to⟩ (by show _ - _ < _ - _; omega)
                    | exact X.again (k + 1, b2, nx + 1, c, L3, gv2, F3, G2, H1) ⟨rfl, rfl, rfl, rfl, rfl, rfl, rfl, rfl, trivial⟩ ⟨by omega, hst3, .inl (by omega), hw3, hg2, hc1, hs.to⟩ (by show _ - _ < _ - _; omega)
                    | exact X.again (k + 1, b2, nx, c, L3, gv2, F3, G2, H1) ⟨rfl, rfl, rfl, rfl, rfl, rfl, rfl, rfl, trivial⟩ ⟨by omega, hst2, .inr ⟨hdn ho3, ho3⟩, hw3, hg2, hc1, hs.to⟩ (by show _ - _ < _ - _; omega)
      · refine C.exit ?_
        refine X.thenExit ?_
        refine X.loopExit ?_
        refine X.blockExit ?_
        refine X.next ?_
        refine C.seq ?_
        refine C.region ?_
        obtain ⟨hnx, hou⟩ : nx = ofs.length ∧ outsL L = [] := hpr.resolve_left (by omega)
        obtain ⟨b', hb', hst', hge, hdo⟩ := hst.settled
        have hdo := hdo hou
        have hfl : (fin L).length ≤ L.length := (List.takeWhile_prefix _).length_le
        have hbl : b ≤ 60 := by have := hst.bn; omega
        have hle0 := hst'.len
        rw [hdo, Nat.sub_self] at hle0
        refine R.ev rfl (E.move rfl) ?_
        refine R.ev rfl (E.move rfl) ?_
        refine R.call ⟨_, _, Tryd.func14, rfl, by kernel_rfl⟩ rfl rfl (settled_any (hs.front (F := F1)) (by omega)) ?_
        rintro v67 w67 ⟨F67, G67, r67, hw67, hs1⟩
        have hs := hs.back2 (F := F1) hs1
        obtain ⟨ad67, cap67, rfl, _⟩ := r67.val
        refine R.cappSl hs rfl rfl Tryd.underlying30 Tryd.by43 (by rfl) rfl (by decide) (by simp only [List.length_map, List.length_range']; omega) (by simp only [List.length_map, List.length_range']; omega) ?_
        intro v68 w68 F68 r68 hs
        rw [hge, hdo, hnx] at r68
        refine R.ev rfl (E.assign rfl) ?_
        refine R.done ?_
        refine X.keep [(1, _), (7, _), (9, _), (10, _)] ⟨rfl, rfl, rfl, rfl, trivial⟩ ?_
        refine X.next ?_
        refine C.seq ?_
        refine C.seq ?_
        refine C.region ?_
        refine R.ev rfl (E.assign rfl) ?_
        refine R.done ?_
        refine X.keep [(1, _), (7, _), (9, _), (10, _), (19, _)] ⟨rfl, rfl, rfl, rfl, rfl, trivial⟩ ?_
        refine X.next ?_
        refine C.block ?_
        refine C.loop (T := Nat × Value × Hl) [(1, _), (7, _), (9, _)] (fun (j, v, _) => [(10, v), (19, .int .i64 (j : Nat))]) (fun (j, v, F') w' => j ≤ ofs.length ∧ RowL 43 encR 33 v ((List.range' 0 j).map (rO ofs)) F' ∧ Sat (Kn.of w) w' (F' :: F68 :: F67 :: [])) (fun (j, _) => ofs.length - j) ((0, .slice none 0 0, [])) ⟨rfl, rfl, rfl, rfl, rfl, trivial⟩ ⟨by omega, RowL.nilI, hs.to.nil⟩ ?_
        rintro ⟨j, v, F10⟩ w30 ⟨hj, r10, hs⟩
        refine C.keep [(1, _), (7, _), (9, _), (10, _), (19, _)] ⟨rfl, rfl, rfl, rfl, rfl, trivial⟩ ?_
        refine C.seq ?_
        refine C.seq ?_
        refine C.region ?_
        refine R.ev rfl (E.move rfl) ?_
        refine R.ev rfl (E.move rfl) ?_
        refine R.ev rfl (E.lenSl rfl Tryd.underlying22) ?_
        refine R.ev rfl (E.lss rfl rfl) ?_
        refine R.done ?_
        refine X.keep [(1, _), (7, _), (9, _), (10, _), (19, _), (155, _)] ⟨rfl, rfl, rfl, rfl, rfl, rfl, trivial⟩ ?_
        refine X.next ?_
        refine C.cdec rfl (fun h155 => ?_) (fun h155 => ?_)
        · obtain ⟨z, bk_z, of_z, hzz, mz, lz, rfl, Az⟩ := hs.el (i := j) (ad := ad) (n := ofs.length) (c := cap) (by omega)
          have hzz := gO_of hzz
          subst hzz
          have az := Az _ hs
          refine C.skip ?_
          refine X.next ?_
          refine C.seq ?_
          refine C.block ?_
          refine C.seq ?_
          refine C.region ?_
          refine R.ev rfl (E.move rfl) ?_
          refine R.ev rfl (E.move rfl) ?_
          refine R.ev rfl (E.indexAddr rfl rfl Tryd.underlying22 Tryd.sz40 rfl (by first | omega | decide)) ?_
          refine R.ev rfl (E.loadRowC rfl Tryd.underlying40 rfl Tryd.sz40 (by first | exact ⟨hs.ldA, by first | rfl | assumption | exact encV_len _ | exact Enc.len _ | exact len_ub (by assumption)⟩ | exact ⟨hs.ldP rfl, by first | rfl | assumption | exact encV_len _ | exact Enc.len _ | exact len_ub (by assumption)⟩ | exact ⟨hs.ldM rfl rfl, by first | rfl | assumption | exact encV_len _ | exact Enc.len _ | exact len_ub (by assumption)⟩ | exact ⟨hs.ldM (by assumption) (by first | rfl | assumption), by first | rfl | assumption | exact encV_len _ | exact Enc.len _ | exact len_ub (by assumption)⟩ | exact ⟨by assumption, by first | rfl | assumption | exact encV_len _ | exact Enc.len _ | exact len_ub (by assumption)⟩ | exact hs.ldp | exact At.partC (by assumption))) ?_
          refine R.call ⟨_, _, Tryd.func17, rfl, by kernel_rfl⟩ rfl rfl (final_any (gO ofs j) hs) ?_
          rintro _ w126 ⟨v126, F126, rfl, r126, hs⟩
          refine R.ev rfl (E.move rfl) ?_
          refine R.ev rfl (E.extract rfl rfl) ?_
          refine R.ev rfl (E.extract rfl rfl) ?_
          refine R.ev rfl (E.assign rfl) ?_
          refine R.ev rfl (E.assign rfl) ?_
          refine R.done ?_
          refine X.keep [(1, _), (7, _), (9, _), (10, _), (19, _), (20, _)] ⟨rfl, rfl, rfl, rfl, rfl, rfl, trivial⟩ ?_
          refine X.next ?_
          refine C.region ?_
          refine R.ev rfl (E.move rfl) ?_
          refine R.ev rfl (E.move rfl) ?_
          refine R.ev rfl ((E.conv rfl Tryd.underlying3 Tryd.underlying5).as (u := ub (UInt8.ofNat j)) (wrap_ub _)) ?_
          refine R.ev rfl ((E.buildA rfl Tryd.underlying37 Tryd.zr37 Tryd.sz5 rfl).as (u := .agg (encV (vN j)).toArray) (by rfl)) ?_
          refine R.ev rfl (E.move rfl) ?_
          refine R.ev rfl (E.buildG (r := encR (rO ofs j)) rfl Tryd.underlying43 Tryd.zr43 Tryd.ql43 (by kernel_rfl) (by kernel_rfl) ⟨⟨_, rfl, by first | rfl | exact vsz _ | simp [Value.cells, *]⟩, ⟨_, rfl, by first | rfl | exact vsz _ | simp [Value.cells, *]⟩, trivial⟩ (by first | rfl | simp [setF, fieldsOf, Value.cells])) ?_
          refine R.buildSliceA rfl Tryd.underlying30 Tryd.sz43 Tryd.zr43 rfl (by first | rfl | assumption | exact encV_len _ | exact Enc.len _ | simp [*]) (by decide) (by decide) ?_
          intro b172 w172 n172
          have hs := hs.new n172
          refine R.capp1 (rO ofs j) hs rfl rfl Tryd.underlying30 Tryd.by43 (by rfl) rfl hs.ldA (by decide) (by simp only [List.length_map, List.length_range']; omega) (by simp only [List.length_map, List.length_range']; omega) ?_
          intro v173 w173 F173 r173 hs
          refine R.ev rfl (E.assign rfl) ?_
          refine R.done ?_
          refine X.keep [(1, _), (7, _), (9, _), (10, _), (19, _)] ⟨rfl, rfl, rfl, rfl, rfl, trivial⟩ ?_
          refine X.blockNormal ?_
          refine X.next ?_
          refine C.region ?_
          refine R.ev rfl (E.move rfl) ?_
          refine R.ev rfl (E.add rfl rfl (by omega) (by omega)) ?_
          refine R.ev rfl (E.assign rfl) ?_
          refine R.done ?_
          refine X.keep [(1, _), (7, _), (9, _), (10, _), (19, _)] ⟨rfl, rfl, rfl, rfl, rfl, trivial⟩ ?_
          exact X.again (j + 1, v173, F173) ⟨rfl, rfl, rfl, rfl, rfl, trivial⟩ ⟨by omega, by rw [List.range'_concat, List.map_append, Nat.one_mul, Nat.zero_add]; exact r173, hs.to⟩ (by show _ - _ < _ - _; omega)
        · refine C.exit ?_
          refine X.thenExit ?_
          refine X.loopExit ?_
          refine X.blockExit ?_
          refine X.next ?_
          refine C.seq ?_
          refine C.region ?_
          have hje : j = ofs.length := by omega
          subst hje
          refine R.ev rfl (E.move rfl) ?_
          refine R.ev rfl (E.move rfl) ?_
          refine R.call ⟨_, _, Tryd.func19, rfl, by kernel_rfl⟩ rfl rfl (results_any (L := (List.range' 0 ofs.length).map (rO ofs)) (M := (List.range' 0 ofs.length).map (rO ofs)) hs (by simp only [List.length_map, List.length_range']; omega)) ?_
          rintro _ w342 ⟨h342, hs⟩
          rw [decide_eq_true rfl] at h342
          subst h342
          refine R.ev rfl (E.move rfl) ?_
          refine R.gyes rfl rfl ?_
          refine R.ev rfl (E.move rfl) ?_
          refine R.gyes rfl rfl ?_
          refine R.call ⟨_, _, Tryd.func20, rfl, by kernel_rfl⟩ rfl rfl (len_any hs) ?_
          rintro _ w345 ⟨rfl, hs⟩
          refine R.gyes rfl rfl ?_
          refine R.ev rfl (E.eql rfl rfl) ?_
          refine R.ev rfl (E.pickT rfl rfl) ?_
          refine R.ev rfl (E.assign rfl) ?_
          refine R.done ?_
          refine X.keep [(6, _)] ⟨rfl, trivial⟩ ?_
          refine X.next ?_
          refine C.ret ?_
          refine X.ret1 rfl rfl ?_
          exact ⟨by rw [hle0]; rfl, hs.mod⟩

namespace windowOneByOne
open Go.ChangeShapes Go.WideShapes Go.ChangeAt Go.RowKit
open Go.ChangeMaps (open_string shut_string)
set_option linter.unusedVariables false

theorem own : ownKnob Tryd.prog.godebug = none := by kernel_rfl
theorem laidOut : laidOutB Tryd.prog = true := by kernel_rfl
theorem door_met (os : Os) (args : Array Value) : laidMetH Tryd.prog Rows.windowOneByOneRow.laid ((World.doorLaid Tryd.prog 400 os).forCall (fun _ _ => 0) ⟨#[], args, []⟩).memory :=
  laidMetH_of_parts3 (fuel := 8) (laidMet_of_run' 8 (by kernel_rfl) (by kernel_rfl)) (by kernel_rfl) (by kernel_rfl)
set_option maxRecDepth 100000 in
theorem lifted (os : Os) (started : os.Started) (H : Type) (enc : TypeId × Value → H) :
    ReturnsInHanded {} Tryd.checked os 3 .any (fun w args => (Rows.windowOneByOneSpec.pre enc Tryd.prog Tryd.f3 [] false w args ∧ laidMetH Tryd.prog Rows.windowOneByOneRow.laid w) ∧ sizedMet enc Tryd.prog Tryd.f3 (OpenSpec.ofChange Rows.windowOneByOneSpec) false w args)
      (Rows.windowOneByOneSpec.post enc Tryd.prog Tryd.f3 false true false false) := by
  refine returnsInHanded_of_change_and (C := Tryd.checked) (X := fun w _ => laidMetH Tryd.prog Rows.windowOneByOneRow.laid w) (fun _ _ _ hh h => h.of_heap hh) own started (by kernel_rfl) Tryd.func3
    (ChangeSpec.witness_shaped (enc := enc) (C := Tryd.checked) (os := os) (X := fun w _ => laidMetH Tryd.prog Rows.windowOneByOneRow.laid w) false (World.doorLaid Tryd.prog 400 os) #[.int .i64 0, .slice none 0 0, .slice none 0 0] 8 rfl (World.shaped_of_RefB (by kernel_rfl) (by kernel_rfl)) (by kernel_rfl) (by kernel_rfl) (by kernel_rfl) (door_met os _)) ?_
  intro W base args ds gs before hval0 hW _ _ hL _
  have hval : ∀ (j : Nat) t v, Tryd.f3.params[j]? = some t → args[j]? = some v → Value.okWide Tryd.prog W .any base t v := hval0
  have hW' := hW
  obtain ⟨p, q, hA0, hV, rfl, hfz, hnd⟩ := hW
  have hA : DataW.TrodAll enc Tryd.prog W 0 (fun _ => true) true Tryd.f3.params.toList args.toList ds p := hA0
  rw [Tryd.params3] at hA hval
  obtain ⟨v0, vs0, d0, ds0, p0, q0, hargs, rfl, rfl, h0, r0⟩ := trodAll_cons hA
  obtain ⟨v1, vs1, d1, ds1, p1, q1, rfl, rfl, rfl, h1, r1⟩ := trodAll_cons r0
  obtain ⟨v2, vs2, d2, ds2, p2, q2, rfl, rfl, rfl, h2, r2⟩ := trodAll_cons r1
  obtain ⟨rfl, rfl, rfl⟩ := trodAll_nil r2
  obtain rfl : args = #[v0, v1, v2] := by cases args; simp_all
  obtain ⟨rfl, rfl⟩ := trodVars_none hV
  have lt0 : ∀ x ∈ p0, x.block < W.heap.size := by obtain ⟨m, hm⟩ := h0; exact DataW.trod_lt m _ _ _ hm
  have a0 := Eng.argv_of (hval 0 3 v0 rfl rfl) h0
  have lt1 : ∀ x ∈ p1, x.block < W.heap.size := by obtain ⟨m, hm⟩ := h1; exact DataW.trod_lt m _ _ _ hm
  have a1 := Eng.argv_of (hval 1 22 v1 rfl rfl) h1
  have lt2 : ∀ x ∈ p2, x.block < W.heap.size := by obtain ⟨m, hm⟩ := h2; exact DataW.trod_lt m _ _ _ hm
  have a2 := Eng.argv_of (hval 2 23 v2 rfl rfl) h2
  clear hA0 hval0
  refine Calls.mono (one_walk W (laid_chg hL) v0 a0 v1 a1 v2 a2) fun e W' ⟨v, he, hv, hm⟩ => ?_
  subst he
  subst hv
  have bel := hm.below
  exact ⟨_, rfl, _, _, _, [], _, [], hW', trodAll_mk1 (shut_bool Tryd.underlying4 _), (trodAll_cons_mk (Below.trod laidOut (by kernel_rfl) (of_decide_eq_true (by kernel_rfl)) h0 bel lt0) (trodAll_cons_mk (Below.trod laidOut (by kernel_rfl) (of_decide_eq_true (by kernel_rfl)) h1 bel lt1) (trodAll_cons_mk (Below.trod laidOut (by kernel_rfl) (of_decide_eq_true (by kernel_rfl)) h2 bel lt2) trodAll_mk0))), rfl, bel.frame _, fun h => by cases h⟩

theorem over : Rows.windowOneByOneRow.holds Tryd.pinned (OpenSpec.ofChange Rows.windowOneByOneSpec) :=
  OpenClaim.holds_of_wide 3 Tryd.f3 rfl rfl rfl rfl rfl rfl rfl ⟨rfl, rfl, rfl, rfl, rfl⟩ rfl rfl rfl rfl rfl (by kernel_rfl) Tryd.func3 (by kernel_rfl)
    (of_decide_eq_true (by kernel_rfl)) (by unfold Func.isWrapper; first | (rw [if_pos (by decide +kernel)]; kernel_rfl) | (rw [if_neg (by decide +kernel)]; exact ⟨rfl, rfl⟩))
    (fun os started H enc _ => lifted os started H enc)
end windowOneByOne
/-- the statement: the tied card -/
theorem windowOneByOne_holds : Rows.WindowOneByOneCardSaid :=
  Claim7.holds_tied_plain_at .later [] [.data] true (true, "528cf9756be51d7108a31d58a47078c1c4b59c91fa320a11aaba2c24a43b3e31") false
    windowOneByOne.over (fun _ h => by cases h) (by kernel_rfl) (fun _ h => by cases h) windowOneByOne_row_tie rfl ⟨rfl, rfl⟩ (by kernel_rfl) rfl
    (fun f fn hf hfn => by
      obtain rfl : f = 3 := Option.some.inj ((show Tryd.prog.funcNamed "bulletin/bulletinlaw36.WindowOneByOne" = some 3 by kernel_rfl).symm.trans hf) |>.symm
      obtain rfl : fn = Tryd.f3 := (Option.some.inj (Tryd.func3.symm.trans hfn)).symm
      exact ⟨by kernel_rfl, fun j t ht => by
        rw [Tryd.params3] at ht
        have ht := List.mem_of_getElem? (by simpa using ht)
        have key : ∀ t ∈ ([3, 22, 23] : List TypeId), Tryd.prog.wantsStandIn t = false := by
          intro t ht
          simp only [List.mem_cons, List.not_mem_nil, or_false] at ht
          rcases ht with rfl | rfl | rfl <;> kernel_rfl
        exact key t (by simpa using ht)⟩)
    (by kernel_rfl)
#print axioms windowOneByOne_holds
end Go.Proofs.YtajbclcpkgenbaaDoor
