/-
 The reference of chapter 5 and the identity of an author by the reference.
-/
import Derived.Test.YtbkgibgomohdjaaGreatDoorShaZ
namespace Go.Proofs.YtbkgibgomohdjaaGreatDoor
open Go.Eng Go.RowKit Go.Sort
variable {K K' : Kn} {Hs Rs : List Hl} {F : Hl} {w : World} {v : Value}
theorem rrot_any {x : Wd} (n : Nat) (h1 : 0 < n) (h2 : n < 32) (hs : Sat K w Hs) : Ret Tryz.prog 71 #[uw x, .int .i64 (n : Int)] w fun v w' => v = uw (rr x n) ∧ Sat K w' Hs := by
 refine Ret.enter (n := 13) (args := [uw x, .int .i64 (n : Int)]) Tryz.func71 rfl rfl ?_
 refine C.keep [(0, _), (1, _)] ⟨rfl, rfl, trivial⟩ (C.seq (C.region (R.ev rfl (E.assign rfl) (R.done (X.keep [(0, _), (1, _)] ⟨rfl, rfl, trivial⟩ (X.next (C.seq ?_)))))))
 refine C.drawn (SatS hs) ([], [0, 1, 2, 3, 4, 5, 6, 7, 8]) (by kernel_rfl) ?_
 have hs := hs.drew
 refine D.evP 0 rfl (by kernel_rfl) rfl (np (by kernel_rfl)) (fun _ => E.move rfl) (D.evP 1 rfl (by kernel_rfl) rfl (np (by kernel_rfl)) (fun _ => E.move rfl) ?_)
 refine D.evP 2 rfl (by kernel_rfl) rfl (np (by kernel_rfl)) (fun _ => E.wshr (j := n) rfl rfl (by omega)) ?_
 refine D.evP 3 rfl (by kernel_rfl) rfl (np (by kernel_rfl)) (fun _ => E.move rfl) (D.evP 4 rfl (by kernel_rfl) rfl (np (by kernel_rfl)) (fun _ => E.move rfl) ?_)
 refine D.evP 5 rfl (by kernel_rfl) rfl (np (by kernel_rfl)) (fun _ => (E.sub rfl rfl (by omega) (by omega)).isI (c := ((32 - n : Nat) : Int)) (by omega)) ?_
 refine D.evP 6 rfl (by kernel_rfl) rfl (np (by kernel_rfl)) (fun _ => E.wshl (j := 32 - n) rfl rfl (by omega)) ?_
 refine D.evP 7 rfl (by kernel_rfl) rfl (np (by kernel_rfl)) (fun _ => E.wor rfl rfl) (D.evP 8 rfl (by kernel_rfl) rfl (np (by kernel_rfl)) (fun _ => E.assign rfl) (D.done rfl (by kernel_rfl) (X.keep [(4, _)] ⟨rfl, trivial⟩ (X.next (C.ret (X.ret1 rfl rfl ?_))))))
 exact ⟨rfl, hs⟩
theorem rconst_any (hs : Sat K w Hs) : Ret Tryz.prog 68 #[] w fun v w' => v = .agg (kcL.map uw).toArray ∧ Sat K w' Hs := by
 refine Ret.enter (n := 2) (args := []) Tryz.func68 rfl rfl ?_
 refine C.keep [] trivial (C.seq (C.region ?_))
 refine R.sallocA hs Tryz.zr141 rfl ?_
 intro b0 w0 hs
 refine R.done (X.keep [(0, _)] ⟨rfl, trivial⟩ (X.next (C.seq (C.region ?_))))
 refine R.ev rfl ((E.buildFull rfl Tryz.underlying141 Tryz.zr141 Tryz.sz133 rfl rfl rfl (OneL.all (l := kcL.map uw))).as (u := .agg (kcL.map uw).toArray) rfl) ?_
 refine R.cstoreAll hs rfl rfl Tryz.sz141 (by rfl) (by rfl) (by exact OneL.all) ?_
 intro w1_1 hs
 try simp only [List.set_cons_zero, List.set_cons_succ] at hs
 refine R.done (X.keep [(0, _)] ⟨rfl, trivial⟩ (X.next (C.ret ?_)))
 refine X.resC rfl rfl Tryz.underlying141 rfl Tryz.sz141 (by exact ⟨hs.ldA, by rfl⟩) ?_
 exact ⟨rfl, hs.to⟩
theorem padded_any {bs : List UInt8} {ad : Option Addr} {m c : Nat} (h : bs.length = 17) (hs : Sat K w Hs) [hr : Rd encB 1 K Hs (.slice ad m c) bs] : Ret Tryz.prog 69 #[.slice ad m c] w fun v w' => ∃ F', RowL 5 encB 1 v (pad17 bs) F' ∧ Sat K w' (F' :: Hs) := by
 have hlen := hr.len
 refine Ret.enter (n := 35) (args := [.slice ad m c]) Tryz.func69 rfl rfl ?_
 refine C.keep [(0, _)] ⟨rfl, trivial⟩ (C.seq (C.region (R.ev rfl (E.assign rfl) (R.done (X.keep [(0, _)] ⟨rfl, trivial⟩ (X.next (C.seq (C.region ?_))))))))
 refine R.sbuild0 (enc := encB) hs Tryz.underlying80 Tryz.sz5 rfl ?_
 intro v6 w6 F6 r6 nn6 hs
 refine R.ev rfl (E.move rfl) ?_
 refine R.cappSl hs rfl rfl Tryz.underlying80 Tryz.by5 (by rfl) rfl (by decide) (by (simp only [List.length_append, List.length_cons, List.length_nil] at *; omega)) (by (simp only [List.length_append, List.length_cons, List.length_nil] at *; omega)) ?_
 intro v8 w8 F8 r8 hs
 rw [List.nil_append] at r8
 refine R.buildSlice1 (parts := [(0, _)]) (vs := [_]) rfl rfl rfl Tryz.underlying80 Tryz.sz5 Tryz.zr5 rfl (by simp [Value.oneCell']) (by decide) ?_
 intro b9 w9 n9
 have hs := hs.new n9
 refine R.capp1 (128) hs rfl rfl Tryz.underlying80 Tryz.by5 (by rfl) rfl (by exact hs.ldA) (by decide) (by omega) (by omega) ?_
 intro v10 w10 F10 r10 hs
 refine R.ev rfl (E.assign rfl) (R.done (X.keep [(0, _), (3, _)] ⟨rfl, rfl, trivial⟩ (X.next (C.seq (C.block ?_)))))
 refine C.loop (T := Nat × Value × Hl) [(0, _)] (fun (_, v, _) => [(3, v)]) (fun (k, v, F) w' => k ≤ 38 ∧ RowL 5 encB 1 v (bs ++ padz k) F ∧ Sat K w' (F :: Hs)) (fun (k, _) => 38 - k) ((0, v10, F10)) ⟨rfl, rfl, trivial⟩ ⟨Nat.zero_le _, r10, hs.to⟩ ?_
 rintro ⟨k, v1, F1⟩ w1 ⟨hk, r1, hs⟩
 have hzl := padz_len k
 have hl1 : (bs ++ padz k).length = 18 + k := by rw [List.length_append, h, hzl]; omega
 obtain ⟨ad1, cap1, rfl, _⟩ := r1.val
 refine C.keep [(0, _), (3, _)] ⟨rfl, rfl, trivial⟩ (C.seq (C.seq (C.region (R.ev rfl (E.move rfl) (R.ev rfl (E.lenSl rfl Tryz.underlying80) ?_)))))
 refine R.ev rfl ((E.rem rfl rfl (by omega) (by omega)).isI (c := (((18 + k) % 64 : Nat) : Int)) (by omega)) ?_
 refine R.ev rfl (E.neq rfl rfl) (R.done (X.keep [(0, _), (3, _), (14, _)] ⟨rfl, rfl, rfl, trivial⟩ (X.next ?_)))
 refine C.cdec rfl (fun h14 => ?_) (fun h14 => ?_)
 refine C.skip (X.next (C.block (C.region (R.ev rfl (E.move rfl) ?_))))
 refine R.buildSlice1 (parts := [(0, _)]) (vs := [_]) rfl rfl rfl Tryz.underlying80 Tryz.sz5 Tryz.zr5 rfl (by simp [Value.oneCell']) (by decide) ?_
 intro b16 w16 n16
 have hs := hs.new n16
 refine R.capp1 (0) hs rfl rfl Tryz.underlying80 Tryz.by5 (by rfl) rfl (by exact hs.ldA) (by decide) (by omega) (by omega) ?_
 intro v17 w17 F17 r17 hs
 rw [List.append_assoc, padz_snoc] at r17
 refine R.ev rfl (E.assign rfl) (R.done (X.keep [(0, _), (3, _)] ⟨rfl, rfl, trivial⟩ (X.blockNormal ?_)))
 exact X.again (k + 1, v17, F17) ⟨rfl, rfl, trivial⟩ ⟨by omega, r17, hs.to⟩ (by show _ - _ < _ - _; omega)
 refine C.exit (X.thenExit (X.loopExit (X.blockExit (X.next (C.seq (C.region ?_))))))
 obtain rfl : k = 38 := by omega
 have r1 : RowL 5 encB 1 (.slice ad1 (bs ++ padz 38).length cap1) (bs ++ padn 0) F1 := by rw [show padn 0 = padz 38 from by simp [padn]]; exact r1
 generalize hv1 : Value.slice ad1 (bs ++ padz 38).length cap1 = v1 at r1
 refine R.ev rfl (E.move rfl) (R.ev rfl (E.lenSl rfl Tryz.underlying80) (R.ev rfl (E.conv rfl Tryz.underlying3 Tryz.underlying135) ?_))
 refine R.ev rfl ((E.mulW rfl rfl).isI (c := 136) (by rw [show m = 17 by omega]; decide +kernel)) ?_
 refine R.ev rfl (E.assign rfl) (R.done (X.keep [(3, _), (4, _)] ⟨rfl, rfl, trivial⟩ (X.next (C.seq (C.seq (C.region (R.ev rfl (E.assign rfl) (R.done ?_))))))))
 refine X.keep [(3, _), (4, _), (5, _)] ⟨rfl, rfl, rfl, trivial⟩ (X.next (C.block ?_))
 refine C.loop (T := Nat × Value × Hl) [(4, _)] (fun (k, v, _) => [(3, v), (5, .int .i64 (7 - (k : Nat)))]) (fun (k, v, F) w' => k ≤ 8 ∧ RowL 5 encB 1 v (bs ++ padn k) F ∧ Sat K w' (F :: Hs)) (fun (k, _) => 8 - k) ((0, v1, F1)) ⟨rfl, rfl, rfl, trivial⟩ ⟨Nat.zero_le _, r1, hs⟩ ?_
 rintro ⟨k, v2, F2⟩ w2 ⟨hk, r2, hs⟩
 have hnl := padn_len k
 have hl2 : (bs ++ padn k).length = 56 + k := by rw [List.length_append, h, hnl]; omega
 obtain ⟨ad2, cap2, rfl, _⟩ := r2.val
 refine C.keep [(3, _), (4, _), (5, _)] ⟨rfl, rfl, rfl, trivial⟩ (C.seq (C.seq (C.region (R.ev rfl (E.move rfl) (R.ev rfl (E.geq rfl rfl) (R.done (X.keep [(3, _), (4, _), (5, _), (23, _)] ⟨rfl, rfl, rfl, rfl, trivial⟩ (X.next ?_))))))))
 refine C.cdec rfl (fun h23 => ?_) (fun h23 => ?_)
 refine C.skip (X.next (C.seq (C.block (C.region (R.ev rfl (E.move rfl) (R.ev rfl (E.move rfl) (R.ev rfl (E.move rfl) ?_)))))))
 refine R.ev rfl ((E.mul rfl rfl (by omega) (by omega)).isI (c := ((56 - 8 * k : Nat) : Int)) (by omega)) ?_
 refine R.ev rfl (E.shr rfl rfl (by omega)) ?_
 refine R.ev rfl ((E.conv rfl Tryz.underlying135 Tryz.underlying5).as (u := ub (pb k)) (by rw [pb_eq k (by omega)])) ?_
 refine R.buildSlice1 (parts := [(0, .tmp 31)]) (vs := [_]) rfl rfl rfl Tryz.underlying80 Tryz.sz5 Tryz.zr5 rfl (by simp [Value.oneCell']) (by decide) ?_
 intro b32 w32 n32
 have hs := hs.new n32
 refine R.capp1 (pb k) hs rfl rfl Tryz.underlying80 Tryz.by5 (by rfl) rfl (by exact hs.ldA) (by decide) (by omega) (by omega) ?_
 intro v33 w33 F33 r33 hs
 rw [List.append_assoc, padn_snoc] at r33
 refine R.ev rfl (E.assign rfl) (R.done (X.keep [(3, _), (4, _), (5, _)] ⟨rfl, rfl, rfl, trivial⟩ (X.blockNormal (X.next (C.region (R.ev rfl (E.move rfl) ?_))))))
 refine R.ev rfl ((E.sub rfl rfl (by omega) (by omega)).isI (c := 7 - ((k + 1 : Nat) : Int)) (by omega)) ?_
 refine R.ev rfl (E.assign rfl) (R.done (X.keep [(3, _), (4, _), (5, _)] ⟨rfl, rfl, rfl, trivial⟩ ?_))
 exact X.again (k + 1, v33, F33) ⟨rfl, rfl, rfl, trivial⟩ ⟨by omega, r33, hs.to⟩ (by show _ - _ < _ - _; omega)
 refine C.exit (X.thenExit (X.loopExit (X.blockExit (X.next (C.seq (C.region ?_))))))
 obtain rfl : k = 8 := by omega
 have e : bs ++ padn 8 = pad17 bs := by rw [padn_8]; simp [pad17]
 refine R.ev rfl (E.move rfl) (R.ev rfl (E.assign rfl) (R.done (X.keep [(2, _)] ⟨rfl, trivial⟩ (X.next (C.ret (X.ret1 rfl rfl ?_))))))
 exact ⟨F2, by rw [← e]; exact r2, hs⟩
/-- the words of the schedule, of which k are there -/
def schL (m : Nat → Wd) (k : Nat) : List Value := (List.range k).map (fun t => uw (sw m t)) ++ List.replicate (64 - k) (uw 0)
theorem schL_len (m : Nat → Wd) {k : Nat} (h : k ≤ 64) : (schL m k).length = 64 := by simp [schL]; omega
theorem schL_set (m : Nat → Wd) {k : Nat} (h : k < 64) : (schL m k).set k (uw (sw m k)) = schL m (k + 1) := set_fill (fun t => uw (sw m t)) (uw 0) h
theorem schL_at (m : Nat → Wd) {k j : Nat} (h : j < k) : (schL m k)[j]? = some (uw (sw m j)) := by
 rw [schL, List.getElem?_append_left (by simpa using h), List.getElem?_map, List.getElem?_range h]; rfl
theorem schL_full (m : Nat → Wd) : schL m 64 = ((List.range 64).map (sw m)).map uw := by rw [schL, fill_full, List.map_map]; rfl
theorem schedule_any {L : List UInt8} {ad : Option Addr} {cp : Nat} (h : L.length = 64) (hs : Sat K w Hs) [hr : Rd encB 1 K Hs (.slice ad 64 cp) L] : Ret Tryz.prog 70 #[.slice ad 64 cp] w fun v w' => v = .agg (((List.range 64).map (sw (blkW L))).map uw).toArray ∧ Sat K w' Hs := by
 have hwl : (((List.range 64).map (sw (blkW L))).map uw).length = 64 := by simp
 refine Ret.enter (n := 86) (args := [.slice ad 64 cp]) Tryz.func70 rfl rfl ?_
 refine C.keep [(0, _)] ⟨rfl, trivial⟩ (C.seq (C.region ?_))
 refine R.sallocA hs Tryz.zr141 rfl ?_
 intro b2 w2 hs
 refine R.done (X.keep [(0, _), (2, _)] ⟨rfl, rfl, trivial⟩ (X.next (C.seq (C.region ?_))))
 refine R.sallocA hs Tryz.zr141 rfl ?_
 intro b3 w3 hs
 refine R.done (X.keep [(0, _), (2, _), (3, _)] ⟨rfl, rfl, rfl, trivial⟩ (X.next (C.seq (C.seq (C.region (R.ev rfl (E.assign rfl) (R.done (X.keep [(0, _), (2, _), (3, _), (4, _)] ⟨rfl, rfl, rfl, rfl, trivial⟩ ?_))))))))
 refine X.next (C.block ?_)
 refine C.loop  [(0, _), (2, _), (3, _)] (fun k => [(4, .int .i64 (k : Nat))]) (fun k w' => k ≤ 64 ∧ Sat K w' (row b3 141 (schL (blkW L) k) :: row b2 141 (schL (blkW L) 0) :: Hs)) (fun k => 64 - k) (0) ⟨rfl, rfl, rfl, rfl, trivial⟩ ⟨Nat.zero_le _, hs⟩ ?_
 rintro k w1 ⟨hk, hs⟩
 have hsl := schL_len (blkW L) hk
 refine C.keep [(0, _), (2, _), (3, _), (4, _)] ⟨rfl, rfl, rfl, rfl, trivial⟩ (C.seq (C.seq (C.region (R.ev rfl (E.move rfl) (R.ev rfl (E.lss rfl rfl) (R.done (X.keep [(0, _), (2, _), (3, _), (4, _), (8, _)] ⟨rfl, rfl, rfl, rfl, rfl, trivial⟩ (X.next ?_))))))))
 refine C.cdec rfl (fun h8 => ?_) (fun h8 => ?_)
 refine C.skip (X.next (C.seq (C.block (C.seq (C.seq (C.region (R.ev rfl (E.move rfl) (R.ev rfl (E.lss rfl rfl) ?_))))))))
 refine R.done (X.keep [(0, _), (2, _), (3, _), (4, _), (12, _)] ⟨rfl, rfl, rfl, rfl, rfl, trivial⟩ (X.next ?_))
 refine C.cdec rfl (fun h12 => ?_) (fun h12 => ?_)
 obtain ⟨y0, bk, of_, hy0, _, _, rfl, A0⟩ := hs.el (i := 4 * k) (ad := ad) (n := 64) (c := cp) (by omega)
 obtain ⟨y1, hy1⟩ : ∃ y, L[4 * k + 1]? = some y := ⟨_, List.getElem?_eq_getElem (by omega)⟩
 obtain ⟨y2, hy2⟩ : ∃ y, L[4 * k + 2]? = some y := ⟨_, List.getElem?_eq_getElem (by omega)⟩
 obtain ⟨y3, hy3⟩ : ∃ y, L[4 * k + 3]? = some y := ⟨_, List.getElem?_eq_getElem (by omega)⟩
 have A1 := hs.elAt (b := bk) (off := of_) (n := 64) cp hy1
 have A2 := hs.elAt (b := bk) (off := of_) (n := 64) cp hy2
 have A3 := hs.elAt (b := bk) (off := of_) (n := 64) cp hy3
 have hwd : wd4 y0 y1 y2 y3 = sw (blkW L) k := by rw [sw_lt (by omega), blkW, List.getD_eq_getElem?_getD, List.getD_eq_getElem?_getD, List.getD_eq_getElem?_getD, List.getD_eq_getElem?_getD, hy0, hy1, hy2, hy3]; rfl
 refine C.seq ?_
 refine C.drawn (SatS hs) ([5, 13, 22, 31], [0, 1, 2, 3, 4, 6, 7, 8, 9, 10, 11, 12, 14, 15, 16, 17, 18, 19, 20, 21, 23, 24, 25, 26, 27, 28, 29, 30, 32, 33, 34]) (by kernel_rfl) ?_
 have hs := hs.drew
 refine D.evP 0 rfl (by kernel_rfl) rfl (fun _ => hs.to) (fun _ => E.move rfl) (D.evP 1 rfl (by kernel_rfl) rfl (fun _ => hs.to) (fun _ => E.move rfl) (D.evP 2 rfl (by kernel_rfl) rfl (fun _ => hs.to) (fun _ => E.move rfl) ?_))
 refine D.evP 3 rfl (by kernel_rfl) rfl (fun _ => hs.to) (fun _ => (E.mul rfl rfl (by omega) (by omega)).isI (c := ((4 * k : Nat) : Int)) (by omega)) ?_
 refine D.evP 4 rfl (by kernel_rfl) rfl (fun _ => hs.to) (fun _ => E.indexAddr (i := 4 * k) rfl rfl Tryz.underlying80 Tryz.sz5 rfl (by omega)) ?_
 refine D.evP 8 rfl (by kernel_rfl) rfl (fun _ => hs.to) (fun _ => E.move rfl) (D.evP 9 rfl (by kernel_rfl) rfl (fun _ => hs.to) (fun _ => E.move rfl) (D.evP 10 rfl (by kernel_rfl) rfl (fun _ => hs.to) (fun _ => E.mul rfl rfl (by omega) (by omega)) ?_))
 refine D.evP 11 rfl (by kernel_rfl) rfl (fun _ => hs.to) (fun _ => (E.add rfl rfl (by omega) (by omega)).isI (c := ((4 * k + 1 : Nat) : Int)) (by omega)) ?_
 refine D.evP 12 rfl (by kernel_rfl) rfl (fun _ => hs.to) (fun _ => E.indexAddr (i := 4 * k + 1) rfl rfl Tryz.underlying80 Tryz.sz5 rfl (by omega)) ?_
 refine D.evP 17 rfl (by kernel_rfl) rfl (fun _ => hs.to) (fun _ => E.move rfl) (D.evP 18 rfl (by kernel_rfl) rfl (fun _ => hs.to) (fun _ => E.move rfl) (D.evP 19 rfl (by kernel_rfl) rfl (fun _ => hs.to) (fun _ => E.mul rfl rfl (by omega) (by omega)) ?_))
 refine D.evP 20 rfl (by kernel_rfl) rfl (fun _ => hs.to) (fun _ => (E.add rfl rfl (by omega) (by omega)).isI (c := ((4 * k + 2 : Nat) : Int)) (by omega)) ?_
 refine D.evP 21 rfl (by kernel_rfl) rfl (fun _ => hs.to) (fun _ => E.indexAddr (i := 4 * k + 2) rfl rfl Tryz.underlying80 Tryz.sz5 rfl (by omega)) ?_
 refine D.evP 26 rfl (by kernel_rfl) rfl (fun _ => hs.to) (fun _ => E.move rfl) (D.evP 27 rfl (by kernel_rfl) rfl (fun _ => hs.to) (fun _ => E.move rfl) (D.evP 28 rfl (by kernel_rfl) rfl (fun _ => hs.to) (fun _ => E.mul rfl rfl (by omega) (by omega)) ?_))
 refine D.evP 29 rfl (by kernel_rfl) rfl (fun _ => hs.to) (fun _ => (E.add rfl rfl (by omega) (by omega)).isI (c := ((4 * k + 3 : Nat) : Int)) (by omega)) ?_
 refine D.evP 30 rfl (by kernel_rfl) rfl (fun _ => hs.to) (fun _ => E.indexAddr (i := 4 * k + 3) rfl rfl Tryz.underlying80 Tryz.sz5 rfl (by omega)) ?_
 refine D.ev 5 rfl (by kernel_rfl) rfl hs.to (fun _ hS => E.load1 rfl Tryz.underlying5 rfl (A0 _ hS 0 _ rfl)) (D.evP 6 rfl (by kernel_rfl) rfl (fun _ => hs.to) (fun _ => E.wconv rfl Tryz.underlying5 Tryz.underlying133) ?_)
 refine D.evP 7 rfl (by kernel_rfl) rfl (fun _ => hs.to) (fun _ => E.wshl (j := 24) rfl rfl (by decide)) ?_
 refine D.ev 13 rfl (by kernel_rfl) rfl hs.to (fun _ hS => E.load1 rfl Tryz.underlying5 rfl (A1 _ hS 0 _ rfl)) (D.evP 14 rfl (by kernel_rfl) rfl (fun _ => hs.to) (fun _ => E.wconv rfl Tryz.underlying5 Tryz.underlying133) ?_)
 refine D.evP 15 rfl (by kernel_rfl) rfl (fun _ => hs.to) (fun _ => E.wshl (j := 16) rfl rfl (by decide)) ?_
 refine D.evP 16 rfl (by kernel_rfl) rfl (fun _ => hs.to) (fun _ => E.wor rfl rfl) (D.ev 22 rfl (by kernel_rfl) rfl hs.to (fun _ hS => E.load1 rfl Tryz.underlying5 rfl (A2 _ hS 0 _ rfl)) (D.evP 23 rfl (by kernel_rfl) rfl (fun _ => hs.to) (fun _ => E.wconv rfl Tryz.underlying5 Tryz.underlying133) ?_))
 refine D.evP 24 rfl (by kernel_rfl) rfl (fun _ => hs.to) (fun _ => E.wshl (j := 8) rfl rfl (by decide)) ?_
 refine D.evP 25 rfl (by kernel_rfl) rfl (fun _ => hs.to) (fun _ => E.wor rfl rfl) (D.ev 31 rfl (by kernel_rfl) rfl hs.to (fun _ hS => E.load1 rfl Tryz.underlying5 rfl (A3 _ hS 0 _ rfl)) (D.evP 32 rfl (by kernel_rfl) rfl (fun _ => hs.to) (fun _ => E.wconv rfl Tryz.underlying5 Tryz.underlying133) (D.evP 33 rfl (by kernel_rfl) rfl (fun _ => hs.to) (fun _ => E.wor rfl rfl) (D.evP 34 rfl (by kernel_rfl) rfl (fun _ => hs.to) (fun _ => E.indexAddrW k rfl rfl Tryz.underlying141 Tryz.sz133 rfl (by omega)) (D.act 35 rfl (by kernel_rfl) ?_)))))
 refine R.cstore1 hs rfl rfl Tryz.sz133 (by omega) rfl ?_
 intro w35 hs
 have hs : Sat K w35 (row b3 141 ((schL (blkW L) k).set k (uw (wd4 y0 y1 y2 y3))) :: row b2 141 (schL (blkW L) 0) :: Hs) := hs
 rw [hwd, schL_set _ (by omega)] at hs
 refine D.backT (by kernel_rfl) (D.done rfl (by kernel_rfl) (X.keep [(0, _), (2, _), (3, _), (4, _)] ⟨rfl, rfl, rfl, rfl, trivial⟩ (X.next (C.exit (X.thenExit (X.blockExit (X.next (C.region ?_))))))))
 refine R.ev rfl (E.move rfl) (R.ev rfl (E.add rfl rfl (by omega) (by omega)) (R.ev rfl (E.assign rfl) (R.done (X.keep [(0, _), (2, _), (3, _), (4, _)] ⟨rfl, rfl, rfl, rfl, trivial⟩ ?_))))
 exact X.again (k + 1) ⟨rfl, rfl, rfl, rfl, trivial⟩ ⟨by omega, hs⟩ (by omega)
 refine C.skip (X.next (C.seq ?_))
 refine C.drawn (SatS hs) ([3, 7], [0, 1, 2, 4, 5, 6, 8, 9]) (by kernel_rfl) ?_
 have hs := hs.drew
 refine D.evP 0 rfl (by kernel_rfl) rfl (fun _ => hs.to) (fun _ => E.move rfl) ?_
 refine D.evP 1 rfl (by kernel_rfl) rfl (fun _ => hs.to) (fun _ => (E.sub rfl rfl (by omega) (by omega)).isI (c := ((k - 2 : Nat) : Int)) (by omega)) ?_
 refine D.evP 2 rfl (by kernel_rfl) rfl (fun _ => hs.to) (fun _ => E.indexAddrW (k - 2) rfl rfl Tryz.underlying141 Tryz.sz133 rfl (by omega)) (D.evP 4 rfl (by kernel_rfl) rfl (fun _ => hs.to) (fun _ => E.move rfl) ?_)
 refine D.evP 5 rfl (by kernel_rfl) rfl (fun _ => hs.to) (fun _ => (E.sub rfl rfl (by omega) (by omega)).isI (c := ((k - 15 : Nat) : Int)) (by omega)) ?_
 refine D.evP 6 rfl (by kernel_rfl) rfl (fun _ => hs.to) (fun _ => E.indexAddrW (k - 15) rfl rfl Tryz.underlying141 Tryz.sz133 rfl (by omega)) (D.ev 3 rfl (by kernel_rfl) rfl hs.to (fun _ hS => E.load1 rfl Tryz.underlying133 rfl (hS.ld (schL_at _ (by omega)))) (D.evP 8 rfl (by kernel_rfl) rfl (fun _ => hs.to) (fun _ => E.assign rfl) (D.ev 7 rfl (by kernel_rfl) rfl hs.to (fun _ hS => E.load1 rfl Tryz.underlying133 rfl (hS.ld (schL_at _ (by omega)))) (D.evP 9 rfl (by kernel_rfl) rfl (fun _ => hs.to) (fun _ => E.assign rfl) (D.done rfl (by kernel_rfl) (X.keep [(0, _), (2, _), (3, _), (4, _), (5, _), (6, _)] ⟨rfl, rfl, rfl, rfl, rfl, rfl, trivial⟩ (X.next ?_)))))))
 refine C.drawn (SatS hs) ([12, 26], [0, 1, 3, 5, 6, 7, 8, 9, 10, 11, 13, 14, 16, 18, 19, 20, 21, 22, 23, 24, 25, 27, 28]) (by kernel_rfl) ?_
 have hs := hs.drew
 refine D.evP 0 rfl (by kernel_rfl) rfl (fun _ => hs.to) (fun _ => E.move rfl) (D.evP 1 rfl (by kernel_rfl) rfl (fun _ => hs.to) (fun _ => E.move rfl) (D.evP 3 rfl (by kernel_rfl) rfl (fun _ => hs.to) (fun _ => E.move rfl) (D.evP 6 rfl (by kernel_rfl) rfl (fun _ => hs.to) (fun _ => E.move rfl) ?_)))
 refine D.evP 7 rfl (by kernel_rfl) rfl (fun _ => hs.to) (fun _ => E.wshr (j := 10) rfl rfl (by decide)) ?_
 refine D.evP 9 rfl (by kernel_rfl) rfl (fun _ => hs.to) (fun _ => E.move rfl) ?_
 refine D.evP 10 rfl (by kernel_rfl) rfl (fun _ => hs.to) (fun _ => (E.sub rfl rfl (by omega) (by omega)).isI (c := ((k - 7 : Nat) : Int)) (by omega)) ?_
 refine D.evP 11 rfl (by kernel_rfl) rfl (fun _ => hs.to) (fun _ => E.indexAddrW (k - 7) rfl rfl Tryz.underlying141 Tryz.sz133 rfl (by omega)) (D.evP 14 rfl (by kernel_rfl) rfl (fun _ => hs.to) (fun _ => E.move rfl) (D.evP 16 rfl (by kernel_rfl) rfl (fun _ => hs.to) (fun _ => E.move rfl) (D.evP 19 rfl (by kernel_rfl) rfl (fun _ => hs.to) (fun _ => E.move rfl) ?_)))
 refine D.evP 20 rfl (by kernel_rfl) rfl (fun _ => hs.to) (fun _ => E.wshr (j := 3) rfl rfl (by decide)) ?_
 refine D.evP 23 rfl (by kernel_rfl) rfl (fun _ => hs.to) (fun _ => E.move rfl) ?_
 refine D.evP 24 rfl (by kernel_rfl) rfl (fun _ => hs.to) (fun _ => (E.sub rfl rfl (by omega) (by omega)).isI (c := ((k - 16 : Nat) : Int)) (by omega)) ?_
 refine D.evP 25 rfl (by kernel_rfl) rfl (fun _ => hs.to) (fun _ => E.indexAddrW (k - 16) rfl rfl Tryz.underlying141 Tryz.sz133 rfl (by omega)) (D.ev 12 rfl (by kernel_rfl) rfl hs.to (fun _ hS => E.load1 rfl Tryz.underlying133 rfl (hS.ld (schL_at _ (by omega)))) (D.ev 26 rfl (by kernel_rfl) rfl hs.to (fun _ hS => E.load1 rfl Tryz.underlying133 rfl (hS.ld (schL_at _ (by omega)))) (D.act 2 rfl (by kernel_rfl) ?_)))
 refine R.call ⟨_, _, Tryz.func71, rfl, by kernel_rfl⟩ rfl rfl (rrot_any 17 (by decide) (by decide) hs) ?_
 rintro _ w58 ⟨rfl, hs⟩
 refine D.back hs.to (D.act 4 rfl (by kernel_rfl) ?_)
 refine R.call ⟨_, _, Tryz.func71, rfl, by kernel_rfl⟩ rfl rfl (rrot_any 19 (by decide) (by decide) hs) ?_
 rintro _ w60 ⟨rfl, hs⟩
 refine D.back hs.to (D.evP 5 rfl (by kernel_rfl) rfl (fun _ => hs.to) (fun _ => E.wxor rfl rfl) (D.evP 8 rfl (by kernel_rfl) rfl (fun _ => hs.to) (fun _ => E.wxor rfl rfl) (D.evP 13 rfl (by kernel_rfl) rfl (fun _ => hs.to) (fun _ => E.wadd rfl rfl) (D.act 15 rfl (by kernel_rfl) ?_))))
 refine R.call ⟨_, _, Tryz.func71, rfl, by kernel_rfl⟩ rfl rfl (rrot_any 7 (by decide) (by decide) hs) ?_
 rintro _ w71 ⟨rfl, hs⟩
 refine D.back hs.to (D.act 17 rfl (by kernel_rfl) ?_)
 refine R.call ⟨_, _, Tryz.func71, rfl, by kernel_rfl⟩ rfl rfl (rrot_any 18 (by decide) (by decide) hs) ?_
 rintro _ w73 ⟨rfl, hs⟩
 refine D.back hs.to (D.evP 18 rfl (by kernel_rfl) rfl (fun _ => hs.to) (fun _ => E.wxor rfl rfl) (D.evP 21 rfl (by kernel_rfl) rfl (fun _ => hs.to) (fun _ => E.wxor rfl rfl) (D.evP 22 rfl (by kernel_rfl) rfl (fun _ => hs.to) (fun _ => E.wadd rfl rfl) (D.evP 27 rfl (by kernel_rfl) rfl (fun _ => hs.to) (fun _ => E.wadd rfl rfl) (D.evP 28 rfl (by kernel_rfl) rfl (fun _ => hs.to) (fun _ => E.indexAddrW k rfl rfl Tryz.underlying141 Tryz.sz133 rfl (by omega)) (D.act 29 rfl (by kernel_rfl) ?_))))))
 refine R.cstore1 hs rfl rfl Tryz.sz133 (by omega) rfl ?_
 intro w829 hs
 have hs : Sat K w829 (row b3 141 ((schL (blkW L) k).set k (uw (sg1 (sw (blkW L) (k - 2)) + sw (blkW L) (k - 7) + sg0 (sw (blkW L) (k - 15)) + sw (blkW L) (k - 16)))) :: row b2 141 (schL (blkW L) 0) :: Hs) := hs
 rw [← sw_ge (by omega), schL_set _ (by omega)] at hs
 refine D.backT (by kernel_rfl) (D.done rfl (by kernel_rfl) (X.keep [(0, _), (2, _), (3, _), (4, _)] ⟨rfl, rfl, rfl, rfl, trivial⟩ (X.blockNormal (X.next (C.region (R.ev rfl (E.move rfl) (R.ev rfl (E.add rfl rfl (by omega) (by omega)) (R.ev rfl (E.assign rfl) ?_))))))))
 refine R.done (X.keep [(0, _), (2, _), (3, _), (4, _)] ⟨rfl, rfl, rfl, rfl, trivial⟩ ?_)
 exact X.again (k + 1) ⟨rfl, rfl, rfl, rfl, trivial⟩ ⟨by omega, hs⟩ (by omega)
 refine C.exit (X.thenExit (X.loopExit (X.blockExit (X.next (C.seq (C.region ?_))))))
 obtain rfl : k = 64 := by omega
 rw [schL_full] at hs
 refine R.ev rfl (E.loadRowC rfl Tryz.underlying141 rfl Tryz.sz141 (by exact ⟨hs.ldA, by rfl⟩)) ?_
 refine R.cstoreAll hs rfl rfl Tryz.sz141 (by rfl) (by rfl) (by exact OneL.all) ?_
 intro w9_1 hs
 try simp only [List.set_cons_zero, List.set_cons_succ] at hs
 refine R.done (X.keep [(2, _)] ⟨rfl, trivial⟩ (X.next (C.ret ?_)))
 refine X.resC rfl rfl Tryz.underlying141 rfl Tryz.sz141 (by exact ⟨hs.ldA, by rfl⟩) ?_
 exact ⟨rfl, hs.to⟩
/-- the words of a state to which those of another one are added, of which i are done -/
def hvL (s u : St) (i : Nat) : List Wd := (List.range 8).map fun j => if j < i then s.l.getD j 0 + u.l.getD j 0 else s.l.getD j 0
theorem hvL_8 (s u : St) : hvL s u 8 = (s.add u).l := rfl
theorem hvL_len (s u : St) (i : Nat) : ((hvL s u i).map uw).length = 8 := rfl
theorem hvL_at (s u : St) : ∀ {i : Nat}, i < 8 → ((hvL s u i).map uw)[i]? = some (uw (s.l.getD i 0))
 | 0, _ => rfl
 | 1, _ => rfl
 | 2, _ => rfl
 | 3, _ => rfl
 | 4, _ => rfl
 | 5, _ => rfl
 | 6, _ => rfl
 | 7, _ => rfl
theorem hvL_set (s u : St) : ∀ {i : Nat}, i < 8 → ((hvL s u i).map uw).set i (uw (s.l.getD i 0 + u.l.getD i 0)) = (hvL s u (i + 1)).map uw
 | 0, _ => rfl
 | 1, _ => rfl
 | 2, _ => rfl
 | 3, _ => rfl
 | 4, _ => rfl
 | 5, _ => rfl
 | 6, _ => rfl
 | 7, _ => rfl
theorem stl_at (u : St) {i : Nat} (h : i < 8) : (encSt u)[i]? = some (uw (u.l.getD i 0)) := by
 rw [encSt, List.getElem?_map, List.getD_eq_getElem?_getD, List.getElem?_eq_getElem (show i < u.l.length from h)]; rfl
theorem rsum_any {bs : List UInt8} {ad : Option Addr} {m c : Nat} (h : bs.length = 17) (hs : Sat K w Hs) [hr : Rd encB 1 K Hs (.slice ad m c) bs] : Ret Tryz.prog 52 #[.slice ad m c] w fun v w' => v = idV (digL (sha1 (pad17 bs))) ∧ Sat K w' Hs := by
 have hpl : (pad17 bs).length = 64 := by simp [pad17, h]
 have hdl : (digL (sha1 (pad17 bs))).length = 32 := by simp [digL]
 generalize hm : blkW (pad17 bs) = mm
 refine Ret.enter (n := 150) (args := [.slice ad m c]) Tryz.func52 rfl rfl ?_
 refine C.keep [(0, _)] ⟨rfl, trivial⟩ (C.seq (C.region ?_))
 refine R.sallocA hs Tryz.zr36 rfl ?_
 intro b2 w2 hs
 refine R.done (X.keep [(0, _), (2, _)] ⟨rfl, rfl, trivial⟩ (X.next (C.seq (C.region ?_))))
 refine R.ev rfl ((E.buildFull rfl Tryz.underlying140 Tryz.zr140 Tryz.sz133 rfl rfl rfl (Enc.one (enc := encSt) st0)).as (u := .agg (encSt st0).toArray) rfl) ?_
 refine R.sallocA hs Tryz.zr140 rfl ?_
 intro b3 w3 hs
 refine R.cstoreAll hs rfl rfl Tryz.sz140 (by rfl) (by rfl) (by exact Enc.one _) ?_
 intro w1_2 hs
 try simp only [List.set_cons_zero, List.set_cons_succ] at hs
 refine R.done (X.keep [(0, _), (2, _), (3, _)] ⟨rfl, rfl, rfl, trivial⟩ (X.next (C.seq (C.region ?_))))
 refine R.call ⟨_, _, Tryz.func68, rfl, by kernel_rfl⟩ rfl rfl (rconst_any hs) ?_
 rintro _ w2 ⟨rfl, hs⟩
 have hkl : (kcL.map uw).length = 64 := rfl
 refine R.sallocA hs Tryz.zr141 rfl ?_
 intro b4 w4 hs
 refine R.cstoreAll hs rfl rfl Tryz.sz141 (by rfl) (by rfl) (by exact OneL.all) ?_
 intro w2_2 hs
 try simp only [List.set_cons_zero, List.set_cons_succ] at hs
 refine R.done (X.keep [(0, _), (2, _), (3, _), (4, _)] ⟨rfl, rfl, rfl, rfl, trivial⟩ (X.next (C.seq (C.region (R.ev rfl (E.move rfl) ?_)))))
 refine R.call ⟨_, _, Tryz.func69, rfl, by kernel_rfl⟩ rfl rfl (padded_any h hs) ?_
 rintro v5 w5 ⟨F5, r5, hs⟩
 obtain ⟨ad5, cap5, rfl, hc5, _⟩ := r5.val
 have hs : Sat K w5 (F5 :: row b4 141 (kcL.map uw) :: row b3 140 (encSt st0) :: row b2 36 (digP (sha1 (pad17 bs)) 0) :: Hs) := hs
 rw [hpl] at r5 hc5
 have hlen5 : (Value.slice ad5 (pad17 bs).length cap5) = .slice ad5 64 cap5 := by rw [hpl]
 rw [hpl]
 refine R.ev rfl (E.assign rfl) (R.done (X.keep [(2, _), (3, _), (4, _), (5, _)] ⟨rfl, rfl, rfl, rfl, trivial⟩ (X.next (C.seq (C.seq (C.region (R.ev rfl (E.assign rfl) (R.done ?_))))))))
 refine X.keep [(2, _), (3, _), (4, _), (5, _), (6, _)] ⟨rfl, rfl, rfl, rfl, rfl, trivial⟩ (X.next (C.block ?_))
 refine C.loop (T := Bool) [(2, _), (3, _), (4, _), (5, _)] (fun d => [(6, .int .i64 ((cond d 64 0 : Nat) : Int))]) (fun d w' => Sat K w' (F5 :: row b4 141 (kcL.map uw) :: row b3 140 (encSt (cond d (sha1 (pad17 bs)) st0)) :: row b2 36 (digP (sha1 (pad17 bs)) 0) :: Hs)) (fun d => cond d 0 1) (false) ⟨rfl, rfl, rfl, rfl, rfl, trivial⟩ hs ?_
 rintro d w1 hs
 refine C.keep [(2, _), (3, _), (4, _), (5, _), (6, _)] ⟨rfl, rfl, rfl, rfl, rfl, trivial⟩ (C.seq (C.seq (C.region ?_)))
 rcases d with _ | _
 all_goals simp only [cond_true, cond_false] at hs
 refine R.ev rfl (E.move rfl) (R.ev rfl (E.move rfl) (R.ev rfl (E.lenSl rfl Tryz.underlying80) (R.ev rfl ((E.lss rfl rfl).isT (by decide)) (R.done (X.keep [(2, _), (3, _), (4, _), (5, _), (6, _), (22, _)] ⟨rfl, rfl, rfl, rfl, rfl, rfl, trivial⟩ (X.next (C.ctrue rfl (C.skip ?_))))))))
 refine X.next (C.seq (C.block (C.seq (C.region (R.ev rfl (E.move rfl) (R.ev rfl (E.move rfl) (R.ev rfl (E.move rfl) ?_)))))))
 refine R.ev rfl ((E.add rfl rfl (by decide) (by decide)).isI (c := ((64 : Nat) : Int)) (by decide)) ?_
 refine R.ev rfl ((E.sliceLHs (a := 0) (b := 64) rfl rfl rfl Tryz.underlying80 Tryz.sz5 rfl rfl (by decide) (by omega)).as (u := .slice ad5 64 cap5) (by unfold subAd; rw [if_neg (by omega)]; cases ad5 <;> simp [Addr.add])) ?_
 refine R.call ⟨_, _, Tryz.func70, rfl, by kernel_rfl⟩ rfl rfl (schedule_any (L := pad17 bs) hpl hs) ?_
 rintro _ w7 ⟨rfl, hs⟩
 rw [hm]
 have hswl : (((List.range 64).map (sw mm)).map uw).length = 64 := by simp
 refine R.sallocA hs Tryz.zr141 rfl ?_
 intro b7 w7 hs
 refine R.cstoreAll hs rfl rfl Tryz.sz141 (by rfl) (by rfl) (by exact OneL.all) ?_
 intro w7_7 hs
 try simp only [List.set_cons_zero, List.set_cons_succ] at hs
 refine R.done (X.keep [(2, _), (3, _), (4, _), (5, _), (6, _), (7, _)] ⟨rfl, rfl, rfl, rfl, rfl, rfl, trivial⟩ (X.next (C.seq (C.region (R.ev rfl (E.loadRowC rfl Tryz.underlying140 rfl Tryz.sz140 (by exact ⟨hs.ldA, by rfl⟩)) ?_)))))
 refine R.sallocA hs Tryz.zr140 rfl ?_
 intro b8 w8 hs
 refine R.cstoreAll hs rfl rfl Tryz.sz140 (by rfl) (by rfl) (by exact Enc.one _) ?_
 intro w8_2 hs
 try simp only [List.set_cons_zero, List.set_cons_succ] at hs
 refine R.done (X.keep [(2, _), (3, _), (4, _), (5, _), (6, _), (7, _), (8, _)] ⟨rfl, rfl, rfl, rfl, rfl, rfl, rfl, trivial⟩ (X.next (C.seq (C.seq (C.region (R.ev rfl (E.assign rfl) (R.done (X.keep [(2, _), (3, _), (4, _), (5, _), (6, _), (7, _), (8, _), (9, _)] ⟨rfl, rfl, rfl, rfl, rfl, rfl, rfl, rfl, trivial⟩ ?_))))))))
 refine X.next (C.block ?_)
 refine C.loop  [(2, _), (3, _), (4, _), (5, _), (6, _), (7, _), (8, _)] (fun t => [(9, .int .i64 (t : Nat))]) (fun t w' => t ≤ 64 ∧ Sat K w' (row b8 140 (encSt (stN mm st0 t)) :: row b7 141 (((List.range 64).map (sw mm)).map uw) :: F5 :: row b4 141 (kcL.map uw) :: row b3 140 (encSt st0) :: row b2 36 (digP (sha1 (pad17 bs)) 0) :: Hs)) (fun t => 64 - t) (0) ⟨rfl, rfl, rfl, rfl, rfl, rfl, rfl, rfl, trivial⟩ ⟨Nat.zero_le _, hs⟩ ?_
 rintro t w2 ⟨ht, hs⟩
 refine C.keep [(2, _), (3, _), (4, _), (5, _), (6, _), (7, _), (8, _), (9, _)] ⟨rfl, rfl, rfl, rfl, rfl, rfl, rfl, rfl, trivial⟩ (C.seq (C.seq (C.region (R.ev rfl (E.move rfl) (R.ev rfl (E.lss rfl rfl) (R.done (X.keep [(2, _), (3, _), (4, _), (5, _), (6, _), (7, _), (8, _), (9, _), (33, _)] ⟨rfl, rfl, rfl, rfl, rfl, rfl, rfl, rfl, rfl, trivial⟩ (X.next ?_))))))))
 refine C.cdec rfl (fun h33 => ?_) (fun h33 => ?_)
 refine C.skip (X.next (C.seq (C.block (C.seq ?_))))
 refine C.drawn (SatS hs) ([1, 3, 6, 10, 15, 17, 20, 23, 29, 33], [0, 2, 5, 8, 9, 12, 13, 14, 16, 18, 19, 21, 22, 24, 25, 26, 27, 28, 30, 31, 32, 34, 35]) (by kernel_rfl) ?_
 have hs := hs.drew
 refine D.evP 0 rfl (by kernel_rfl) rfl (fun _ => hs.to) (fun _ => E.indexAddrA0 7 7 rfl rfl Tryz.underlying140 Tryz.sz133 rfl rfl) (D.evP 2 rfl (by kernel_rfl) rfl (fun _ => hs.to) (fun _ => E.indexAddrA0 4 4 rfl rfl Tryz.underlying140 Tryz.sz133 rfl rfl) (D.evP 5 rfl (by kernel_rfl) rfl (fun _ => hs.to) (fun _ => E.indexAddrA0 4 4 rfl rfl Tryz.underlying140 Tryz.sz133 rfl rfl) (D.evP 9 rfl (by kernel_rfl) rfl (fun _ => hs.to) (fun _ => E.indexAddrA0 4 4 rfl rfl Tryz.underlying140 Tryz.sz133 rfl rfl) (D.evP 14 rfl (by kernel_rfl) rfl (fun _ => hs.to) (fun _ => E.indexAddrA0 4 4 rfl rfl Tryz.underlying140 Tryz.sz133 rfl rfl) (D.evP 16 rfl (by kernel_rfl) rfl (fun _ => hs.to) (fun _ => E.indexAddrA0 5 5 rfl rfl Tryz.underlying140 Tryz.sz133 rfl rfl) (D.evP 19 rfl (by kernel_rfl) rfl (fun _ => hs.to) (fun _ => E.indexAddrA0 4 4 rfl rfl Tryz.underlying140 Tryz.sz133 rfl rfl) (D.evP 22 rfl (by kernel_rfl) rfl (fun _ => hs.to) (fun _ => E.indexAddrA0 6 6 rfl rfl Tryz.underlying140 Tryz.sz133 rfl rfl) (D.evP 27 rfl (by kernel_rfl) rfl (fun _ => hs.to) (fun _ => E.move rfl) ?_))))))))
 refine D.evP 28 rfl (by kernel_rfl) rfl (fun _ => hs.to) (fun _ => E.indexAddrW t rfl rfl Tryz.underlying141 Tryz.sz133 rfl (by omega)) (D.evP 31 rfl (by kernel_rfl) rfl (fun _ => hs.to) (fun _ => E.move rfl) (D.evP 32 rfl (by kernel_rfl) rfl (fun _ => hs.to) (fun _ => E.indexAddrW t rfl rfl Tryz.underlying141 Tryz.sz133 rfl (by omega)) (D.ev 1 rfl (by kernel_rfl) rfl hs.to (fun _ hS => E.load1 rfl Tryz.underlying133 rfl (by exact hS.ldc)) (D.ev 3 rfl (by kernel_rfl) rfl hs.to (fun _ hS => E.load1 rfl Tryz.underlying133 rfl (by exact hS.ldc)) (D.ev 6 rfl (by kernel_rfl) rfl hs.to (fun _ hS => E.load1 rfl Tryz.underlying133 rfl (by exact hS.ldc)) (D.ev 10 rfl (by kernel_rfl) rfl hs.to (fun _ hS => E.load1 rfl Tryz.underlying133 rfl (by exact hS.ldc)) (D.ev 15 rfl (by kernel_rfl) rfl hs.to (fun _ hS => E.load1 rfl Tryz.underlying133 rfl (by exact hS.ldc)) (D.ev 17 rfl (by kernel_rfl) rfl hs.to (fun _ hS => E.load1 rfl Tryz.underlying133 rfl (by exact hS.ldc)) ?_))))))))
 refine D.evP 18 rfl (by kernel_rfl) rfl (fun _ => hs.to) (fun _ => E.wand rfl rfl) (D.ev 20 rfl (by kernel_rfl) rfl hs.to (fun _ hS => E.load1 rfl Tryz.underlying133 rfl (by exact hS.ldc)) (D.evP 21 rfl (by kernel_rfl) rfl (fun _ => hs.to) (fun _ => E.wnot rfl) (D.ev 23 rfl (by kernel_rfl) rfl hs.to (fun _ hS => E.load1 rfl Tryz.underlying133 rfl (by exact hS.ldc)) (D.evP 24 rfl (by kernel_rfl) rfl (fun _ => hs.to) (fun _ => E.wand rfl rfl) (D.evP 25 rfl (by kernel_rfl) rfl (fun _ => hs.to) (fun _ => E.wxor rfl rfl) ?_)))))
 refine D.ev 29 rfl (by kernel_rfl) rfl hs.to (fun _ hS => E.load1 rfl Tryz.underlying133 rfl (hS.ld (b := b4) (v := uw (kc t)) (by rw [List.getElem?_map, kc_at (by omega)]; rfl))) ?_
 refine D.ev 33 rfl (by kernel_rfl) rfl hs.to (fun _ hS => E.load1 rfl Tryz.underlying133 rfl (hS.ld (b := b7) (v := uw (sw mm t)) (by rw [List.getElem?_map, List.getElem?_map, List.getElem?_range (by omega)]; rfl))) ?_
 refine D.act 4 rfl (by kernel_rfl) ?_
 refine R.call ⟨_, _, Tryz.func71, rfl, by kernel_rfl⟩ rfl rfl (rrot_any 6 (by decide) (by decide) hs) ?_
 rintro _ w40 ⟨rfl, hs⟩
 refine D.back hs.to (D.act 7 rfl (by kernel_rfl) ?_)
 refine R.call ⟨_, _, Tryz.func71, rfl, by kernel_rfl⟩ rfl rfl (rrot_any 11 (by decide) (by decide) hs) ?_
 rintro _ w43 ⟨rfl, hs⟩
 refine D.back hs.to (D.evP 8 rfl (by kernel_rfl) rfl (fun _ => hs.to) (fun _ => E.wxor rfl rfl) (D.act 11 rfl (by kernel_rfl) ?_))
 refine R.call ⟨_, _, Tryz.func71, rfl, by kernel_rfl⟩ rfl rfl (rrot_any 25 (by decide) (by decide) hs) ?_
 rintro _ w47 ⟨rfl, hs⟩
 refine D.back hs.to (D.evP 12 rfl (by kernel_rfl) rfl (fun _ => hs.to) (fun _ => E.wxor rfl rfl) (D.evP 13 rfl (by kernel_rfl) rfl (fun _ => hs.to) (fun _ => E.wadd rfl rfl) (D.evP 26 rfl (by kernel_rfl) rfl (fun _ => hs.to) (fun _ => E.wadd rfl rfl) (D.evP 30 rfl (by kernel_rfl) rfl (fun _ => hs.to) (fun _ => E.wadd rfl rfl) (D.evP 34 rfl (by kernel_rfl) rfl (fun _ => hs.to) (fun _ => E.wadd rfl rfl) (D.evP 35 rfl (by kernel_rfl) rfl (fun _ => hs.to) (fun _ => E.assign rfl) (D.done rfl (by kernel_rfl) (X.keep [(2, _), (3, _), (4, _), (5, _), (6, _), (7, _), (8, _), (9, _), (10, _)] ⟨rfl, rfl, rfl, rfl, rfl, rfl, rfl, rfl, rfl, trivial⟩ ?_))))))))
 refine X.next (C.seq ?_)
 refine C.drawn (SatS hs) ([1, 4, 8, 12, 14, 17, 19, 23, 25], [0, 3, 6, 7, 10, 11, 13, 15, 16, 18, 20, 21, 22, 24, 26, 27, 28, 29]) (by kernel_rfl) ?_
 have hs := hs.drew
 refine D.evP 0 rfl (by kernel_rfl) rfl (fun _ => hs.to) (fun _ => E.indexAddrA0 0 0 rfl rfl Tryz.underlying140 Tryz.sz133 rfl rfl) (D.evP 3 rfl (by kernel_rfl) rfl (fun _ => hs.to) (fun _ => E.indexAddrA0 0 0 rfl rfl Tryz.underlying140 Tryz.sz133 rfl rfl) (D.evP 7 rfl (by kernel_rfl) rfl (fun _ => hs.to) (fun _ => E.indexAddrA0 0 0 rfl rfl Tryz.underlying140 Tryz.sz133 rfl rfl) (D.evP 11 rfl (by kernel_rfl) rfl (fun _ => hs.to) (fun _ => E.indexAddrA0 0 0 rfl rfl Tryz.underlying140 Tryz.sz133 rfl rfl) (D.evP 13 rfl (by kernel_rfl) rfl (fun _ => hs.to) (fun _ => E.indexAddrA0 1 1 rfl rfl Tryz.underlying140 Tryz.sz133 rfl rfl) (D.evP 16 rfl (by kernel_rfl) rfl (fun _ => hs.to) (fun _ => E.indexAddrA0 0 0 rfl rfl Tryz.underlying140 Tryz.sz133 rfl rfl) (D.evP 18 rfl (by kernel_rfl) rfl (fun _ => hs.to) (fun _ => E.indexAddrA0 2 2 rfl rfl Tryz.underlying140 Tryz.sz133 rfl rfl) (D.evP 22 rfl (by kernel_rfl) rfl (fun _ => hs.to) (fun _ => E.indexAddrA0 1 1 rfl rfl Tryz.underlying140 Tryz.sz133 rfl rfl) (D.evP 24 rfl (by kernel_rfl) rfl (fun _ => hs.to) (fun _ => E.indexAddrA0 2 2 rfl rfl Tryz.underlying140 Tryz.sz133 rfl rfl) ?_))))))))
 refine D.ev 1 rfl (by kernel_rfl) rfl hs.to (fun _ hS => E.load1 rfl Tryz.underlying133 rfl (by exact hS.ldc)) (D.ev 4 rfl (by kernel_rfl) rfl hs.to (fun _ hS => E.load1 rfl Tryz.underlying133 rfl (by exact hS.ldc)) (D.ev 8 rfl (by kernel_rfl) rfl hs.to (fun _ hS => E.load1 rfl Tryz.underlying133 rfl (by exact hS.ldc)) (D.ev 12 rfl (by kernel_rfl) rfl hs.to (fun _ hS => E.load1 rfl Tryz.underlying133 rfl (by exact hS.ldc)) (D.ev 14 rfl (by kernel_rfl) rfl hs.to (fun _ hS => E.load1 rfl Tryz.underlying133 rfl (by exact hS.ldc)) (D.evP 15 rfl (by kernel_rfl) rfl (fun _ => hs.to) (fun _ => E.wand rfl rfl) (D.ev 17 rfl (by kernel_rfl) rfl hs.to (fun _ hS => E.load1 rfl Tryz.underlying133 rfl (by exact hS.ldc)) (D.ev 19 rfl (by kernel_rfl) rfl hs.to (fun _ hS => E.load1 rfl Tryz.underlying133 rfl (by exact hS.ldc)) (D.evP 20 rfl (by kernel_rfl) rfl (fun _ => hs.to) (fun _ => E.wand rfl rfl) ?_))))))))
 refine D.evP 21 rfl (by kernel_rfl) rfl (fun _ => hs.to) (fun _ => E.wxor rfl rfl) (D.ev 23 rfl (by kernel_rfl) rfl hs.to (fun _ hS => E.load1 rfl Tryz.underlying133 rfl (by exact hS.ldc)) (D.ev 25 rfl (by kernel_rfl) rfl hs.to (fun _ hS => E.load1 rfl Tryz.underlying133 rfl (by exact hS.ldc)) (D.evP 26 rfl (by kernel_rfl) rfl (fun _ => hs.to) (fun _ => E.wand rfl rfl) (D.evP 27 rfl (by kernel_rfl) rfl (fun _ => hs.to) (fun _ => E.wxor rfl rfl) (D.act 2 rfl (by kernel_rfl) ?_)))))
 refine R.call ⟨_, _, Tryz.func71, rfl, by kernel_rfl⟩ rfl rfl (rrot_any 2 (by decide) (by decide) hs) ?_
 rintro _ w73 ⟨rfl, hs⟩
 refine D.back hs.to (D.act 5 rfl (by kernel_rfl) ?_)
 refine R.call ⟨_, _, Tryz.func71, rfl, by kernel_rfl⟩ rfl rfl (rrot_any 13 (by decide) (by decide) hs) ?_
 rintro _ w76 ⟨rfl, hs⟩
 refine D.back hs.to (D.evP 6 rfl (by kernel_rfl) rfl (fun _ => hs.to) (fun _ => E.wxor rfl rfl) (D.act 9 rfl (by kernel_rfl) ?_))
 refine R.call ⟨_, _, Tryz.func71, rfl, by kernel_rfl⟩ rfl rfl (rrot_any 22 (by decide) (by decide) hs) ?_
 rintro _ w80 ⟨rfl, hs⟩
 refine D.back hs.to (D.evP 10 rfl (by kernel_rfl) rfl (fun _ => hs.to) (fun _ => E.wxor rfl rfl) (D.evP 28 rfl (by kernel_rfl) rfl (fun _ => hs.to) (fun _ => E.wadd rfl rfl) (D.evP 29 rfl (by kernel_rfl) rfl (fun _ => hs.to) (fun _ => E.assign rfl) (D.done rfl (by kernel_rfl) (X.keep [(2, _), (3, _), (4, _), (5, _), (6, _), (7, _), (8, _), (9, _), (10, _), (11, _)] ⟨rfl, rfl, rfl, rfl, rfl, rfl, rfl, rfl, rfl, rfl, trivial⟩ (X.next (C.region (R.ev rfl (E.move rfl) ?_))))))))
 refine R.ev rfl (E.move rfl) (R.ev rfl (E.wadd rfl rfl) (R.ev rfl (E.indexAddrA0 0 0 rfl rfl Tryz.underlying140 Tryz.sz133 rfl rfl) (R.ev rfl (E.load1 rfl Tryz.underlying133 rfl (by exact hs.ldc)) (R.ev rfl (E.indexAddrA0 1 1 rfl rfl Tryz.underlying140 Tryz.sz133 rfl rfl) (R.ev rfl (E.load1 rfl Tryz.underlying133 rfl (by exact hs.ldc)) (R.ev rfl (E.indexAddrA0 2 2 rfl rfl Tryz.underlying140 Tryz.sz133 rfl rfl) (R.ev rfl (E.load1 rfl Tryz.underlying133 rfl (by exact hs.ldc)) (R.ev rfl (E.indexAddrA0 3 3 rfl rfl Tryz.underlying140 Tryz.sz133 rfl rfl) ?_))))))))
 refine R.ev rfl (E.load1 rfl Tryz.underlying133 rfl (by exact hs.ldc)) (R.ev rfl (E.move rfl) (R.ev rfl (E.wadd rfl rfl) (R.ev rfl (E.indexAddrA0 4 4 rfl rfl Tryz.underlying140 Tryz.sz133 rfl rfl) (R.ev rfl (E.load1 rfl Tryz.underlying133 rfl (by exact hs.ldc)) (R.ev rfl (E.indexAddrA0 5 5 rfl rfl Tryz.underlying140 Tryz.sz133 rfl rfl) (R.ev rfl (E.load1 rfl Tryz.underlying133 rfl (by exact hs.ldc)) (R.ev rfl (E.indexAddrA0 6 6 rfl rfl Tryz.underlying140 Tryz.sz133 rfl rfl) (R.ev rfl (E.load1 rfl Tryz.underlying133 rfl (by exact hs.ldc)) ?_))))))))
 refine R.ev rfl ((E.buildFull rfl Tryz.underlying140 Tryz.zr140 Tryz.sz133 rfl rfl rfl (Enc.one (enc := encSt) ((stN mm st0 t).rd (kc t) (sw mm t)))).as (u := .agg (encSt ((stN mm st0 t).rd (kc t) (sw mm t))).toArray) rfl) ?_
 refine R.cstoreAll hs rfl rfl Tryz.sz140 (by rfl) (by rfl) (by exact Enc.one _) ?_
 intro w14_20 hs
 try simp only [List.set_cons_zero, List.set_cons_succ] at hs
 refine R.done (X.keep [(2, _), (3, _), (4, _), (5, _), (6, _), (7, _), (8, _), (9, _)] ⟨rfl, rfl, rfl, rfl, rfl, rfl, rfl, rfl, trivial⟩ (X.blockNormal (X.next (C.region (R.ev rfl (E.move rfl) (R.ev rfl (E.add rfl rfl (by omega) (by omega)) (R.ev rfl (E.assign rfl) (R.done ?_))))))))
 refine X.keep [(2, _), (3, _), (4, _), (5, _), (6, _), (7, _), (8, _), (9, _)] ⟨rfl, rfl, rfl, rfl, rfl, rfl, rfl, rfl, trivial⟩ ?_
 rw [show (stN mm st0 t).rd (kc t) (sw mm t) = stN mm st0 (t + 1) from rfl] at hs
 exact X.again (t + 1) ⟨rfl, rfl, rfl, rfl, rfl, rfl, rfl, rfl, trivial⟩ ⟨by omega, hs⟩ (by omega)
 refine C.exit (X.thenExit (X.loopExit (X.blockExit (X.next (C.seq (C.region ?_))))))
 obtain rfl : t = 64 := by omega
 refine R.ev rfl (E.assign rfl) (R.done (X.keep [(2, _), (3, _), (4, _), (5, _), (6, _), (8, _), (12, _)] ⟨rfl, rfl, rfl, rfl, rfl, rfl, rfl, trivial⟩ (X.next (C.block ?_))))
 refine C.loop  [(2, _), (3, _), (4, _), (5, _), (6, _), (8, _)] (fun i => [(12, .int .i64 (i : Nat))]) (fun i w' => i ≤ 8 ∧ Sat K w' (row b8 140 (encSt (stN mm st0 64)) :: F5 :: row b4 141 (kcL.map uw) :: row b3 140 ((hvL st0 (stN mm st0 64) i).map uw) :: row b2 36 (digP (sha1 (pad17 bs)) 0) :: Hs)) (fun i => 8 - i) (0) ⟨rfl, rfl, rfl, rfl, rfl, rfl, rfl, trivial⟩ ⟨Nat.zero_le _, (show Sat K _ (row b8 140 (encSt (stN mm st0 64)) :: row b7 141 (((List.range 64).map (sw mm)).map uw) :: F5 :: row b4 141 (kcL.map uw) :: row b3 140 ((hvL st0 (stN mm st0 64) 0).map uw) :: row b2 36 (digP (sha1 (pad17 bs)) 0) :: Hs) from hs).to⟩ ?_
 rintro i w3 ⟨hi, hs⟩
 have hvl := hvL_len st0 (stN mm st0 64) i
 refine C.keep [(2, _), (3, _), (4, _), (5, _), (6, _), (8, _), (12, _)] ⟨rfl, rfl, rfl, rfl, rfl, rfl, rfl, trivial⟩ (C.seq (C.seq (C.region (R.ev rfl (E.move rfl) (R.ev rfl (E.lss rfl rfl) (R.done (X.keep [(2, _), (3, _), (4, _), (5, _), (6, _), (8, _), (12, _), (121, _)] ⟨rfl, rfl, rfl, rfl, rfl, rfl, rfl, rfl, trivial⟩ (X.next ?_))))))))
 refine C.cdec rfl (fun h121 => ?_) (fun h121 => ?_)
 refine C.skip (X.next (C.seq (C.block ?_)))
 refine C.drawn (SatS hs) ([3, 6], [0, 1, 2, 4, 5, 7, 8]) (by kernel_rfl) ?_
 have hs := hs.drew
 refine D.evP 0 rfl (by kernel_rfl) rfl (fun _ => hs.to) (fun _ => E.move rfl) (D.evP 1 rfl (by kernel_rfl) rfl (fun _ => hs.to) (fun _ => E.move rfl) (D.evP 2 rfl (by kernel_rfl) rfl (fun _ => hs.to) (fun _ => E.indexAddrW i rfl rfl Tryz.underlying140 Tryz.sz133 rfl (by omega)) (D.evP 4 rfl (by kernel_rfl) rfl (fun _ => hs.to) (fun _ => E.move rfl) (D.evP 5 rfl (by kernel_rfl) rfl (fun _ => hs.to) (fun _ => E.indexAddrW i rfl rfl Tryz.underlying140 Tryz.sz133 rfl (by omega)) ?_))))
 refine D.ev 3 rfl (by kernel_rfl) rfl hs.to (fun _ hS => E.load1 rfl Tryz.underlying133 rfl (hS.ld (b := b3) (hvL_at st0 (stN mm st0 64) (by omega)))) ?_
 refine D.ev 6 rfl (by kernel_rfl) rfl hs.to (fun _ hS => E.load1 rfl Tryz.underlying133 rfl (hS.ld (b := b8) (stl_at (stN mm st0 64) (by omega)))) ?_
 refine D.evP 7 rfl (by kernel_rfl) rfl (fun _ => hs.to) (fun _ => E.wadd rfl rfl) (D.evP 8 rfl (by kernel_rfl) rfl (fun _ => hs.to) (fun _ => E.indexAddrW i rfl rfl Tryz.underlying140 Tryz.sz133 rfl (by omega)) (D.act 9 rfl (by kernel_rfl) ?_))
 refine R.cstore1 (b := b3) hs rfl rfl Tryz.sz133 (by omega) rfl ?_
 intro w189 hs
 rw [hvL_set _ _ (by omega)] at hs
 refine D.backT (by kernel_rfl) (D.done rfl (by kernel_rfl) (X.keep [(2, _), (3, _), (4, _), (5, _), (6, _), (8, _), (12, _)] ⟨rfl, rfl, rfl, rfl, rfl, rfl, rfl, trivial⟩ (X.blockNormal (X.next (C.region (R.ev rfl (E.move rfl) (R.ev rfl (E.add rfl rfl (by omega) (by omega)) (R.ev rfl (E.assign rfl) ?_))))))))
 refine R.done (X.keep [(2, _), (3, _), (4, _), (5, _), (6, _), (8, _), (12, _)] ⟨rfl, rfl, rfl, rfl, rfl, rfl, rfl, trivial⟩ ?_)
 exact X.again (i + 1) ⟨rfl, rfl, rfl, rfl, rfl, rfl, rfl, trivial⟩ ⟨by omega, hs⟩ (by omega)
 refine C.exit (X.thenExit (X.loopExit (X.blockExit (X.blockNormal (X.next (C.region ?_))))))
 obtain rfl : i = 8 := by omega
 refine R.ev rfl (E.move rfl) ?_
 refine R.ev rfl ((E.add rfl rfl (by decide) (by decide)).isI (c := ((cond true 64 0 : Nat) : Int)) (by decide)) ?_
 refine R.ev rfl (E.assign rfl) (R.done (X.keep [(2, _), (3, _), (4, _), (5, _), (6, _)] ⟨rfl, rfl, rfl, rfl, rfl, trivial⟩ ?_))
 rw [hvL_8] at hs
 have e8 : sha1 (pad17 bs) = st0.add (stN mm st0 64) := by rw [sha1, hm]
 rw [← e8, show (sha1 (pad17 bs)).l.map uw = encSt (sha1 (pad17 bs)) from rfl] at hs
 exact X.again true ⟨rfl, rfl, rfl, rfl, rfl, trivial⟩ (by simp only [cond_true]; exact hs.to) (by decide)
 refine R.ev rfl (E.move rfl) (R.ev rfl (E.move rfl) (R.ev rfl (E.lenSl rfl Tryz.underlying80) (R.ev rfl ((E.lss rfl rfl).isF (by decide)) (R.done (X.keep [(2, _), (3, _), (4, _), (5, _), (6, _), (22, _)] ⟨rfl, rfl, rfl, rfl, rfl, rfl, trivial⟩ (X.next (C.cfalse rfl (C.exit ?_))))))))
 refine X.thenExit (X.loopExit (X.blockExit (X.next (C.seq (C.region ?_)))))
 refine R.sallocA hs Tryz.zr36 rfl ?_
 intro b13 w13 hs
 refine R.done (X.keep [(2, _), (3, _), (13, _)] ⟨rfl, rfl, rfl, trivial⟩ (X.next (C.seq (C.seq (C.region (R.ev rfl (E.assign rfl) (R.done (X.keep [(2, _), (3, _), (13, _), (14, _)] ⟨rfl, rfl, rfl, rfl, trivial⟩ ?_))))))))
 refine X.next (C.block ?_)
 refine C.loop  [(2, _), (3, _), (13, _)] (fun n => [(14, .int .i64 (n : Nat))]) (fun n w' => n ≤ 32 ∧ Sat K w' (row b13 36 (digP (sha1 (pad17 bs)) n) :: row b3 140 (encSt (sha1 (pad17 bs))) :: row b2 36 (digP (sha1 (pad17 bs)) 0) :: Hs)) (fun n => 32 - n) (0) ⟨rfl, rfl, rfl, rfl, trivial⟩ ⟨Nat.zero_le _, (show Sat K _ (row b13 36 (digP (sha1 (pad17 bs)) 0) :: F5 :: row b4 141 (kcL.map uw) :: row b3 140 (encSt (sha1 (pad17 bs))) :: row b2 36 (digP (sha1 (pad17 bs)) 0) :: Hs) from hs).to⟩ ?_
 rintro n w4 ⟨hn, hs⟩
 have hpl2 := digP_len (sha1 (pad17 bs)) hn
 refine C.keep [(2, _), (3, _), (13, _), (14, _)] ⟨rfl, rfl, rfl, rfl, trivial⟩ (C.seq (C.seq (C.region (R.ev rfl (E.move rfl) (R.ev rfl (E.lss rfl rfl) (R.done (X.keep [(2, _), (3, _), (13, _), (14, _), (134, _)] ⟨rfl, rfl, rfl, rfl, rfl, trivial⟩ (X.next ?_))))))))
 refine C.cdec rfl (fun h134 => ?_) (fun h134 => ?_)
 refine C.skip (X.next (C.seq (C.block (C.region (R.ev rfl (E.move rfl) (R.ev rfl (E.move rfl) ?_))))))
 refine R.ev rfl ((E.quo rfl rfl (by omega) (by omega) (by omega)).isI (c := ((n / 4 : Nat) : Int)) (by omega)) ?_
 refine R.ev rfl (E.indexAddrW (n / 4) rfl rfl Tryz.underlying140 Tryz.sz133 rfl (by omega)) ?_
 refine R.ev rfl (E.load1 rfl Tryz.underlying133 rfl (hs.ld (b := b3) (stl_at (sha1 (pad17 bs)) (by omega)))) ?_
 refine R.ev rfl (E.move rfl) ?_
 refine R.ev rfl ((E.rem rfl rfl (by omega) (by omega)).isI (c := ((n % 4 : Nat) : Int)) (by omega)) ?_
 refine R.ev rfl (E.mul rfl rfl (by omega) (by omega)) ?_
 refine R.ev rfl ((E.sub rfl rfl (by omega) (by omega)).isI (c := ((24 - 8 * (n % 4) : Nat) : Int)) (by omega)) ?_
 refine R.ev rfl (E.wshr (j := 24 - 8 * (n % 4)) rfl rfl (by omega)) ?_
 refine R.ev rfl (E.bconv rfl Tryz.underlying133 Tryz.underlying5) (R.ev rfl (E.indexAddrW n rfl rfl Tryz.underlying36 Tryz.sz5 rfl (by omega)) ?_)
 refine R.cstore1 (b := b13) hs rfl rfl Tryz.sz5 (by omega) rfl ?_
 intro w12 hs
 have hs : Sat K w12 (row b13 36 ((digP (sha1 (pad17 bs)) n).set n (ub (outB (sha1 (pad17 bs)).l n))) :: row b3 140 (encSt (sha1 (pad17 bs))) :: row b2 36 (digP (sha1 (pad17 bs)) 0) :: Hs) := hs
 rw [digP_set _ (by omega)] at hs
 refine R.done (X.keep [(2, _), (3, _), (13, _), (14, _)] ⟨rfl, rfl, rfl, rfl, trivial⟩ (X.blockNormal (X.next (C.region (R.ev rfl (E.move rfl) (R.ev rfl (E.add rfl rfl (by omega) (by omega)) (R.ev rfl (E.assign rfl) (R.done ?_))))))))
 refine X.keep [(2, _), (3, _), (13, _), (14, _)] ⟨rfl, rfl, rfl, rfl, trivial⟩ ?_
 exact X.again (n + 1) ⟨rfl, rfl, rfl, rfl, trivial⟩ ⟨by omega, hs⟩ (by omega)
 refine C.exit (X.thenExit (X.loopExit (X.blockExit (X.next (C.seq (C.region ?_))))))
 obtain rfl : n = 32 := by omega
 rw [digP_full] at hs
 refine R.ev rfl (E.loadRowC rfl Tryz.underlying36 rfl Tryz.sz36 (by exact ⟨hs.ldA, by rfl⟩)) ?_
 refine R.cstoreAll hs rfl rfl Tryz.sz36 (by rfl) (by rfl) (by exact OneL.all) ?_
 intro w24_1 hs
 try simp only [List.set_cons_zero, List.set_cons_succ] at hs
 refine R.done (X.keep [(2, _)] ⟨rfl, trivial⟩ (X.next (C.ret ?_)))
 refine X.resC rfl rfl Tryz.underlying36 rfl Tryz.sz36 (by exact ⟨hs.ldA, by rfl⟩) ?_
 exact ⟨rfl, hs.to⟩
theorem rhalf_any {bs : List UInt8} {ad : Option Addr} {m c : Nat} (h : bs.length = 17) (hs : Sat K w Hs) [hr : Rd encB 1 K Hs (.slice ad m c) bs] : Ret Tryz.prog 38 #[.slice ad m c] w fun v w' => v = idV (half17 bs) ∧ Sat K w' Hs := by
 have hdl : (digL (sha1 (pad17 bs))).length = 32 := by simp [digL]
 have hhl := half17_len bs
 have hne : half17 bs ≠ [] := by intro e; rw [e] at hhl; simp at hhl
 refine Ret.enter (n := 11) (args := [.slice ad m c]) Tryz.func38 rfl rfl ?_
 refine C.keep [(0, _)] ⟨rfl, trivial⟩ (C.seq (C.region ?_))
 refine R.sallocA hs Tryz.zr28 rfl ?_
 intro b2 w2 hs
 refine R.done (X.keep [(0, _), (2, _)] ⟨rfl, rfl, trivial⟩ (X.next (C.seq (C.region (R.ev rfl (E.move rfl) ?_)))))
 refine R.call ⟨_, _, Tryz.func52, rfl, by kernel_rfl⟩ rfl rfl (rsum_any h hs) ?_
 rintro _ w1 ⟨rfl, hs⟩
 obtain ⟨Y, hX⟩ : ∃ Y, (digL (sha1 (pad17 bs))).map ub = (half17 bs).map ub ++ Y := ⟨_, digL_half bs⟩
 generalize digL (sha1 (pad17 bs)) = Dg at hdl hs hX ⊢
 generalize half17 bs = Hf at hhl hne hX ⊢
 refine R.sallocA hs Tryz.zr36 rfl ?_
 intro b3 w3 hs
 refine R.cstoreAll hs rfl rfl Tryz.sz36 (by rfl) (by exact len_ub (by assumption)) (by exact OneL.all) ?_
 intro w1_3 hs
 try simp only [List.set_cons_zero, List.set_cons_succ] at hs
 refine R.done (X.keep [(2, _), (3, _)] ⟨rfl, rfl, trivial⟩ (X.next (C.seq (C.region ?_))))
 refine R.sallocA hs Tryz.zr28 rfl ?_
 intro b4 w4 hs
 refine R.done (X.keep [(2, _), (3, _), (4, _)] ⟨rfl, rfl, rfl, trivial⟩ (X.next (C.seq ?_)))
 refine C.drawn (SatS hs) ([], [0, 1]) (by kernel_rfl) ?_
 have hs := hs.drew
 refine D.evP 0 rfl (by kernel_rfl) rfl (np (by kernel_rfl)) (fun _ => E.sliceA rfl Tryz.underlying28 Tryz.sz5) ?_
 refine D.evP 1 rfl (by kernel_rfl) rfl (np (by kernel_rfl)) (fun _ => E.sliceAH (b := 16) rfl rfl Tryz.underlying36 Tryz.sz5 rfl (by decide)) ?_
 refine D.act 2 rfl (by kernel_rfl) ?_
 have hrd : Rd encB 1 K (row b4 28 ((List.replicate 16 (0 : UInt8)).map ub) :: row b3 36 ((Dg).map ub) :: row b2 28 ((List.replicate 16 (0 : UInt8)).map ub) :: Hs) (.slice (some ⟨b3, 0, none⟩) 16 (31 + 1)) (Hf) := Rd.bytes (c1 := []) hX rfl hhl (by decide)
 refine R.ccopyB hs rfl rfl Tryz.underlying80 Tryz.sz5 (by decide) (M := Hf) hne (by decide) ?_
 intro w32 hs
 rw [show ((List.replicate 16 (0 : UInt8)).map ub).take 0 ++ ((Hf).take (15 + 1)).map ub ++ ((List.replicate 16 (0 : UInt8)).map ub).drop (0 + ((Hf).take (15 + 1)).length) = (Hf).map ub from by rw [List.take_of_length_le (show (Hf).length ≤ 15 + 1 by omega), hhl]; simp] at hs
 refine D.backT (by kernel_rfl) (D.done rfl (by kernel_rfl) (X.keep [(2, _), (4, _)] ⟨rfl, rfl, trivial⟩ (X.next (C.seq (C.region (R.ev rfl (E.loadRowC rfl Tryz.underlying28 rfl Tryz.sz28 (by exact ⟨hs.ldA, by exact len_ub (by assumption)⟩)) ?_))))))
 refine R.cstoreAll hs rfl rfl Tryz.sz28 (by rfl) (by exact len_ub (by assumption)) (by exact OneL.all) ?_
 intro w4_1 hs
 try simp only [List.set_cons_zero, List.set_cons_succ] at hs
 refine R.done (X.keep [(2, _)] ⟨rfl, trivial⟩ (X.next (C.ret ?_)))
 refine X.resC rfl rfl Tryz.underlying28 rfl Tryz.sz28 (by exact ⟨hs.ldA, by exact len_ub (by assumption)⟩) ?_
 exact ⟨rfl, hs.to⟩
theorem rbytes_any (h : Int) (r : Vec 16) (hs : Sat K w Hs) : Ret Tryz.prog 39 #[.int .i64 h, idV r.1] w fun v w' => ∃ F', RowL 5 encB 1 v (hbyte h :: r.1) F' ∧ Sat K w' (F' :: Hs) := by
 have hpl := r.2
 refine Ret.enter (n := 10) (args := [.int .i64 h, idV r.1]) Tryz.func39 rfl rfl ?_
 refine C.keep [(0, _), (1, _)] ⟨rfl, rfl, trivial⟩ (C.seq (C.region ?_))
 refine R.sboxA hs rfl rfl ?_
 intro b3 w3 hs
 refine R.ev rfl (E.assign rfl) (R.done (X.keep [(0, _), (3, _)] ⟨rfl, rfl, trivial⟩ (X.next (C.seq (C.region (R.ev rfl (E.move rfl) ?_))))))
 refine R.ev rfl ((E.conv rfl Tryz.underlying3 Tryz.underlying5).as (u := ub (hbyte h)) (by rw [hbyte_eq])) ?_
 refine R.buildSlice1 (parts := [(0, .tmp 6)]) (vs := [_]) rfl rfl rfl Tryz.underlying80 Tryz.sz5 Tryz.zr5 rfl (by simp [Value.oneCell']) (by decide) ?_
 intro b7 w7 n7
 have hs := hs.new n7
 refine R.ev rfl (E.sliceA rfl Tryz.underlying28 Tryz.sz5) ?_
 have r6 := rowB1 b7 (hbyte h)
 have hrd : Rd encB 1 K (row b7 5 [ub (hbyte h)] :: row b3 28 (r.1.map ub) :: Hs) (.slice (some ⟨b3, 0, none⟩) (15 + 1) (15 + 1)) r.1 := Rd.bytes (c1 := []) (c3 := []) (by simp) rfl r.2 (by omega)
 refine R.cappSl hs rfl rfl Tryz.underlying80 Tryz.by5 (by rfl) rfl (by decide) (by simp [hpl]) (by simp [hpl]) ?_
 intro v9 w9 F9 r9 hs
 refine R.ev rfl (E.assign rfl) (R.done (X.keep [(4, _)] ⟨rfl, trivial⟩ (X.next (C.ret (X.ret1 rfl rfl ?_)))))
 exact ⟨F9, r9, hs.to⟩
theorem rauthor_any (p : PK) (hs : Sat K w Hs) : Ret Tryz.prog 20 #[.int .i64 p.h, idV p.r.1] w fun v w' => v = idV (ofP p).1 ∧ Sat K w' Hs := by
 have hpl := p.r.2
 refine Ret.enter (n := 9) (args := [.int .i64 p.h, idV p.r.1]) Tryz.func20 rfl rfl ?_
 refine C.keep [(0, _), (1, _)] ⟨rfl, rfl, trivial⟩ (C.seq (C.region ?_))
 refine R.sboxA hs rfl rfl ?_
 intro b3 w3 hs
 refine R.sallocA hs Tryz.zr28 rfl ?_
 intro b4 w4 hs
 refine R.done (X.keep [(0, _), (3, _), (4, _)] ⟨rfl, rfl, rfl, trivial⟩ (X.next (C.seq (C.region (R.ev rfl (E.move rfl) (R.ev rfl (E.loadRowC rfl Tryz.underlying28 rfl Tryz.sz28 (by exact ⟨hs.ldA, by exact encV_len _⟩)) ?_))))))
 refine R.call ⟨_, _, Tryz.func39, rfl, by kernel_rfl⟩ rfl rfl (rbytes_any p.h p.r hs) ?_
 rintro v7 w7 ⟨F7, r7, hs⟩
 obtain ⟨ad7, cap7, rfl, _⟩ := r7.val
 refine R.call ⟨_, _, Tryz.func38, rfl, by kernel_rfl⟩ rfl rfl (rhalf_any (bs := hbyte p.h :: p.r.1) (by simp [hpl]) hs) ?_
 rintro _ w8 ⟨rfl, hs⟩
 have hhl := half17_len (hbyte p.h :: p.r.1)
 refine R.cstoreAll hs rfl rfl Tryz.sz28 (by rfl) (by rfl) (by exact OneL.all) ?_
 intro w1_4 hs
 try simp only [List.set_cons_zero, List.set_cons_succ] at hs
 refine R.done (X.keep [(4, _)] ⟨rfl, trivial⟩ (X.next (C.ret ?_)))
 refine X.resC rfl rfl Tryz.underlying28 rfl Tryz.sz28 (by exact ⟨hs.ldA, by rfl⟩) ?_
 exact ⟨rfl, hs.to⟩
theorem rOf_any (p : PK) (hs : Sat K w Hs) : Ret Tryz.prog 6 #[.agg (encP p).toArray] w fun v w' => v = idV (ofP p).1 ∧ Sat K w' Hs := by
 have hpl := p.r.2
 have hol := (ofP p).2
 refine Ret.enter (n := 8) (args := [.agg (encP p).toArray]) Tryz.func6 rfl rfl ?_
 refine C.keep [(0, _)] ⟨rfl, trivial⟩ (C.seq (C.region ?_))
 refine R.sboxA hs rfl rfl ?_
 intro b1 w1 hs
 refine R.sallocA hs Tryz.zr28 rfl ?_
 intro b2 w2 hs
 refine R.done (X.keep [(1, _), (2, _)] ⟨rfl, rfl, trivial⟩ (X.next (C.seq (C.region (R.ev rfl (E.fieldAddr0 0 rfl Tryz.underlying31 rfl Tryz.sz3 rfl) (R.ev rfl (E.load1 rfl Tryz.underlying3 rfl (by exact hs.ldc)) (R.ev rfl (E.fieldAddr0 1 rfl Tryz.underlying31 rfl Tryz.sz28 rfl) (R.ev rfl (E.loadRowC rfl Tryz.underlying28 rfl Tryz.sz28 (by exact hs.ldp)) ?_))))))))
 refine R.call ⟨_, _, Tryz.func20, rfl, by kernel_rfl⟩ rfl rfl (rauthor_any p hs) ?_
 rintro _ w1 ⟨rfl, hs⟩
 refine R.cstoreAll hs rfl rfl Tryz.sz28 (by rfl) (by rfl) (by exact OneL.all) ?_
 intro w1_5 hs
 try simp only [List.set_cons_zero, List.set_cons_succ] at hs
 refine R.done (X.keep [(2, _)] ⟨rfl, trivial⟩ (X.next (C.ret ?_)))
 refine X.resC rfl rfl Tryz.underlying28 rfl Tryz.sz28 (by exact ⟨hs.ldA, by rfl⟩) ?_
 exact ⟨rfl, hs.to⟩
end Go.Proofs.YtbkgibgomohdjaaGreatDoor
