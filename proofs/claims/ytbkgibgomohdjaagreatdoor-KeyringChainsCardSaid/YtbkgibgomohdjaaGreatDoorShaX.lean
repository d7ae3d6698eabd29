/-
 Package sha256 and package signer: a digest of 17 bytes; the identity of an author.
-/
import Derived.Test.YtbkgibgomohdjaaGreatDoorShaW
namespace Go.Proofs.YtbkgibgomohdjaaGreatDoor
open Go.Eng Go.RowKit Go.Sort
variable {K K' : Kn} {Hs Rs : List Hl} {F : Hl} {w : World} {v : Value}
/-! lists that are filled from the front -/
theorem set_fill {α : Type} (f : Nat → α) (z : α) {n m : Nat} (h : n < m) : ((List.range n).map f ++ List.replicate (m - n) z).set n (f n) = (List.range (n + 1)).map f ++ List.replicate (m - (n + 1)) z := by
 obtain ⟨d, rfl⟩ : ∃ d, m = n + 1 + d := ⟨m - (n + 1), by omega⟩
 rw [show n + 1 + d - n = d + 1 by omega, show n + 1 + d - (n + 1) = d by omega, List.replicate_succ, List.set_append, List.range_succ, List.map_append]
 simp
theorem fill_full {α : Type} (f : Nat → α) (z : α) (m : Nat) : (List.range m).map f ++ List.replicate (m - m) z = (List.range m).map f := by simp
/-- the words of a block, of which k bytes are loaded -/
def partW (bs : List UInt8) (j : Nat) : Nat → Wd
 | 0 => 0#32
 | n + 1 => partW bs j n <<< 8 ||| (bs.getD (4 * j + n) 0).toBitVec.setWidth 32
theorem partW_4 (bs : List UInt8) (j : Nat) : partW bs j 4 = blkW bs j := by
 show ((((0#32 <<< 8 ||| _) <<< 8 ||| _) <<< 8 ||| _) <<< 8 ||| _) = _
 rw [wd4_eq]; rfl
def loadL (bs : List UInt8) (k : Nat) : List Wd := (List.range 16).map fun j => partW bs j (min (k - 4 * j) 4)
def blkL (bs : List UInt8) : List Wd := (List.range 16).map (blkW bs)
theorem loadL_zero (bs : List UInt8) : loadL bs 0 = List.replicate 16 0#32 := by
 unfold loadL
 simp only [Nat.zero_sub, Nat.zero_min, partW]
 rfl
theorem loadL_full (bs : List UInt8) : loadL bs 64 = blkL bs := by
 unfold loadL blkL
 apply List.map_congr_left
 intro j hj
 have := List.mem_range.1 hj
 rw [show min (64 - 4 * j) 4 = 4 by omega, partW_4]
theorem loadL_len (bs : List UInt8) (k : Nat) : (loadL bs k).length = 16 := by simp [loadL]
theorem loadL_at (bs : List UInt8) {k : Nat} (hk : k < 64) : ((loadL bs k).map uw)[k / 4]? = some (uw (partW bs (k / 4) (k % 4))) := by
 rw [List.getElem?_map, loadL, List.getElem?_map, List.getElem?_range (by omega)]
 simp only [Option.map_some]
 rw [show min (k - 4 * (k / 4)) 4 = k % 4 by omega]
theorem loadL_set (bs : List UInt8) {k : Nat} (hk : k < 64) {b : UInt8} (hb : bs[k]? = some b) : ((loadL bs k).map uw).set (k / 4) (uw (partW bs (k / 4) (k % 4) <<< 8 ||| b.toBitVec.setWidth 32)) = (loadL bs (k + 1)).map uw := by
 have e : partW bs (k / 4) (k % 4) <<< 8 ||| b.toBitVec.setWidth 32 = partW bs (k / 4) (k % 4 + 1) := by
   rw [partW, show 4 * (k / 4) + k % 4 = k by omega, List.getD_eq_getElem?_getD, hb]; rfl
 rw [e, ← List.map_set]
 congr 1
 apply List.ext_getElem?
 intro i
 rw [List.getElem?_set]
 unfold loadL
 simp only [List.length_map, List.length_range, List.getElem?_map]
 by_cases hi : i < 16
 · rw [List.getElem?_range hi]
   simp only [Option.map_some]
   by_cases h : k / 4 = i
   · subst h
     rw [if_pos rfl, if_pos hi, show min (k + 1 - 4 * (k / 4)) 4 = k % 4 + 1 by omega]
   · rw [if_neg h, show min (k + 1 - 4 * i) 4 = min (k - 4 * i) 4 by omega]
 · rw [List.getElem?_eq_none (by simp; omega)]
   simp; omega
theorem blkL_ring (bs : List UInt8) : RingOk (blkW bs) 0 (blkL bs) := RingOk.start (by simp [blkL]) fun s h => by rw [blkL, List.getElem?_map, List.getElem?_range h]; rfl
theorem load_any (bs : Vec 64) (hs : Sat K w Hs) : Ret Tryz.prog 96 #[idV bs.1] w fun v w' => v = .agg ((blkL bs.1).map uw).toArray ∧ Sat K w' Hs := by
 have hbl := bs.2
 refine Ret.enter (n := 24) (args := [idV bs.1]) Tryz.func96 rfl rfl ?_
 refine C.keep [(0, _)] ⟨rfl, trivial⟩ (C.seq (C.region ?_))
 refine R.sboxA hs rfl rfl ?_
 intro b1 w1 hs
 refine R.sallocA hs Tryz.zr176 rfl ?_
 intro b2 w2 hs
 refine R.done (X.keep [(1, _), (2, _)] ⟨rfl, rfl, trivial⟩ (X.next (C.seq (C.region ?_))))
 refine R.sallocA hs Tryz.zr176 rfl ?_
 intro b3 w3 hs
 refine R.done (X.keep [(1, _), (2, _), (3, _)] ⟨rfl, rfl, rfl, trivial⟩ (X.next (C.seq (C.seq (C.region (R.ev rfl (E.loadRowC rfl Tryz.underlying171 rfl Tryz.sz171 (by exact ⟨hs.ldA, by exact encV_len _⟩)) (R.ev rfl (E.move rfl) (R.done ?_))))))))
 refine X.keep [(2, _), (3, _), (6, _), (7, _)] ⟨rfl, rfl, rfl, rfl, trivial⟩ (X.next (C.block ?_))
 refine C.loop  [(2, _), (3, _), (6, _)] (fun k => [(7, .int .i64 (k : Nat))]) (fun k w' => k ≤ 64 ∧ Sat K w' (row b3 176 ((loadL bs.1 k).map uw) :: row b2 176 ((List.replicate 16 0#32).map uw) :: Hs)) (fun k => 64 - k) (0) ⟨rfl, rfl, rfl, rfl, trivial⟩ ⟨Nat.zero_le _, by rw [loadL_zero]; exact (show Sat K _ (row b3 176 ((List.replicate 16 0#32).map uw) :: row b2 176 ((List.replicate 16 0#32).map uw) :: row b1 171 (bs.1.map ub) :: Hs) from hs).to⟩ ?_
 rintro k w1 ⟨hk, hs⟩
 have hll := loadL_len bs.1 k
 refine C.keep [(2, _), (3, _), (6, _), (7, _)] ⟨rfl, rfl, rfl, rfl, trivial⟩ (C.seq (C.region (R.ev rfl (E.lss rfl rfl) (R.done (X.keep [(2, _), (3, _), (6, _), (7, _), (8, _)] ⟨rfl, rfl, rfl, rfl, rfl, trivial⟩ (X.next (C.seq ?_)))))))
 refine C.cdec rfl (fun h8 => ?_) (fun h8 => ?_)
 obtain ⟨b, hb⟩ : ∃ b, bs.1[k]? = some b := ⟨_, List.getElem?_eq_getElem (by omega)⟩
 refine C.skip (X.next (C.seq (C.block (C.seq (C.region (R.ev rfl (E.move rfl) ?_))))))
 refine R.ev rfl (E.aindex1 (v := ub b) rfl rfl Tryz.underlying171 Tryz.underlying5 rfl Tryz.sz5 rfl (by omega) (by rw [List.getElem?_map, hb]; rfl)) ?_
 refine R.ev rfl (E.assign rfl) (R.ev rfl (E.assign rfl) (R.done (X.keep [(2, _), (3, _), (4, _), (5, _), (6, _), (7, _)] ⟨rfl, rfl, rfl, rfl, rfl, rfl, trivial⟩ (X.next (C.region (R.ev rfl (E.move rfl) ?_))))))
 refine R.ev rfl ((E.quo rfl rfl (by omega) (by omega) (by omega)).isI (c := ((k / 4 : Nat) : Int)) (by omega)) ?_
 refine R.ev rfl (E.move rfl) ?_
 refine R.ev rfl ((E.quo rfl rfl (by omega) (by omega) (by omega)).isI (c := ((k / 4 : Nat) : Int)) (by omega)) ?_
 refine R.ev rfl (E.indexAddrW (k / 4) rfl rfl Tryz.underlying176 Tryz.sz133 rfl (by omega)) (R.ev rfl (E.load1 rfl Tryz.underlying133 rfl (hs.ld (loadL_at bs.1 (by omega)))) ?_)
 refine R.ev rfl (E.wshl (j := 8) rfl rfl (by decide)) ?_
 refine R.ev rfl (E.move rfl) (R.ev rfl (E.wconv rfl Tryz.underlying5 Tryz.underlying133) (R.ev rfl (E.wor rfl rfl) (R.ev rfl (E.indexAddrW (k / 4) rfl rfl Tryz.underlying176 Tryz.sz133 rfl (by omega)) ?_)))
 refine R.cstore1 hs rfl rfl Tryz.sz133 (by rw [List.length_map, hll]; omega) rfl ?_
 intro w11 hs
 rw [loadL_set bs.1 (by omega) hb] at hs
 refine R.done (X.keep [(2, _), (3, _), (6, _), (7, _)] ⟨rfl, rfl, rfl, rfl, trivial⟩ (X.blockNormal (X.next (C.region (R.ev rfl (E.add rfl rfl (by omega) (by omega)) (R.ev rfl (E.move rfl) (R.done (X.keep [(2, _), (3, _), (6, _), (7, _)] ⟨rfl, rfl, rfl, rfl, trivial⟩ ?_))))))))
 exact X.again (k + 1) ⟨rfl, rfl, rfl, rfl, trivial⟩ ⟨by omega, hs.to⟩ (by omega)
 refine C.exit (X.thenExit (X.loopExit (X.blockExit (X.next (C.seq (C.region ?_))))))
 obtain rfl : k = 64 := by omega
 rw [loadL_full] at hs
 have hbl2 : ((blkL bs.1).map uw).length = 16 := by simp [blkL]
 refine R.ev rfl (E.loadRowC rfl Tryz.underlying176 rfl Tryz.sz176 (by exact ⟨hs.ldA, by rfl⟩)) ?_
 refine R.cstoreAll hs rfl rfl Tryz.sz176 (by rfl) (by rfl) (by exact OneL.all) ?_
 intro w7_1 hs
 try simp only [List.set_cons_zero, List.set_cons_succ] at hs
 refine R.done (X.keep [(2, _)] ⟨rfl, trivial⟩ (X.next (C.ret ?_)))
 refine X.resC rfl rfl Tryz.underlying176 rfl Tryz.sz176 (by exact ⟨hs.ldA, by rfl⟩) ?_
 exact ⟨rfl, hs.to⟩
theorem initial_any (hs : Sat K w Hs) : Ret Tryz.prog 94 #[] w fun v w' => v = .agg (encSt st0).toArray ∧ Sat K w' Hs := by
 refine Ret.enter (n := 2) (args := []) Tryz.func94 rfl rfl ?_
 refine C.keep [] trivial (C.seq (C.region ?_))
 refine R.sallocA hs Tryz.zr170 rfl ?_
 intro b0 w0 hs
 refine R.done (X.keep [(0, _)] ⟨rfl, trivial⟩ (X.next (C.seq (C.region ?_))))
 refine R.ev rfl (E.buildG (r := encSt st0) rfl Tryz.underlying170 Tryz.zr170 Tryz.ql170 (by kernel_rfl) (by kernel_rfl) ⟨⟨_, rfl, by rfl⟩, ⟨_, rfl, by rfl⟩, ⟨_, rfl, by rfl⟩, ⟨_, rfl, by rfl⟩, ⟨_, rfl, by rfl⟩, ⟨_, rfl, by rfl⟩, ⟨_, rfl, by rfl⟩, ⟨_, rfl, by rfl⟩, trivial⟩ (by rfl)) ?_
 refine R.cstoreAll hs rfl rfl Tryz.sz170 (by rfl) (by rfl) (by exact Enc.one _) ?_
 intro w1_1 hs
 try simp only [List.set_cons_zero, List.set_cons_succ] at hs
 refine R.done (X.keep [(0, _)] ⟨rfl, trivial⟩ (X.next (C.ret ?_)))
 refine X.resC rfl rfl Tryz.underlying170 rfl Tryz.sz170 (by exact ⟨hs.ldA, by rfl⟩) ?_
 exact ⟨rfl, hs.to⟩
/-- a digest's bytes -/
def digL (s : St) : List UInt8 := (List.range 32).map (outB s.l)
def digP (s : St) (n : Nat) : List Value := (List.range n).map (fun j => ub (outB s.l j)) ++ List.replicate (32 - n) (ub 0)
theorem digP_len (s : St) {n : Nat} (h : n ≤ 32) : (digP s n).length = 32 := by simp [digP]; omega
theorem digP_full (s : St) : digP s 32 = (digL s).map ub := by rw [digP, fill_full, digL, List.map_map]; rfl
theorem digP_set (s : St) {n : Nat} (h : n < 32) : (digP s n).set n (ub (outB s.l n)) = digP s (n + 1) := set_fill (fun j => ub (outB s.l j)) (ub 0) h
theorem digest_any (s : St) (hs : Sat K w Hs) : Ret Tryz.prog 97 #[.agg (encSt s).toArray] w fun v w' => v = idV (digL s) ∧ Sat K w' Hs := by
 have hsl : s.l.length = 8 := rfl
 refine Ret.enter (n := 45) (args := [.agg (encSt s).toArray]) Tryz.func97 rfl rfl ?_
 refine C.keep [(0, _)] ⟨rfl, trivial⟩ (C.seq (C.region ?_))
 refine R.sboxA hs rfl rfl ?_
 intro b1 w1 hs
 refine R.sallocA hs Tryz.zr157 rfl ?_
 intro b2 w2 hs
 refine R.done (X.keep [(1, _), (2, _)] ⟨rfl, rfl, trivial⟩ (X.next (C.seq (C.region ?_))))
 refine R.sallocA hs Tryz.zr157 rfl ?_
 intro b3 w3 hs
 refine R.done (X.keep [(1, _), (2, _), (3, _)] ⟨rfl, rfl, rfl, trivial⟩ (X.next (C.seq (C.seq (C.region (R.ev rfl (E.fieldAddr0 0 rfl Tryz.underlying170 rfl Tryz.sz133 rfl) (R.ev rfl (E.load1 rfl Tryz.underlying133 rfl (by exact hs.ldc)) (R.ev rfl (E.fieldAddr0 1 rfl Tryz.underlying170 rfl Tryz.sz133 rfl) ?_))))))))
 refine R.ev rfl (E.load1 rfl Tryz.underlying133 rfl (by exact hs.ldc)) (R.ev rfl (E.fieldAddr0 2 rfl Tryz.underlying170 rfl Tryz.sz133 rfl) (R.ev rfl (E.load1 rfl Tryz.underlying133 rfl (by exact hs.ldc)) (R.ev rfl (E.fieldAddr0 3 rfl Tryz.underlying170 rfl Tryz.sz133 rfl) (R.ev rfl (E.load1 rfl Tryz.underlying133 rfl (by exact hs.ldc)) (R.ev rfl (E.fieldAddr0 4 rfl Tryz.underlying170 rfl Tryz.sz133 rfl) (R.ev rfl (E.load1 rfl Tryz.underlying133 rfl (by exact hs.ldc)) (R.ev rfl (E.fieldAddr0 5 rfl Tryz.underlying170 rfl Tryz.sz133 rfl) (R.ev rfl (E.load1 rfl Tryz.underlying133 rfl (by exact hs.ldc)) ?_))))))))
 refine R.ev rfl (E.fieldAddr0 6 rfl Tryz.underlying170 rfl Tryz.sz133 rfl) (R.ev rfl (E.load1 rfl Tryz.underlying133 rfl (by exact hs.ldc)) (R.ev rfl (E.fieldAddr0 7 rfl Tryz.underlying170 rfl Tryz.sz133 rfl) (R.ev rfl (E.load1 rfl Tryz.underlying133 rfl (by exact hs.ldc)) ?_)))
 refine R.ev rfl ((E.buildFull rfl Tryz.underlying140 Tryz.zr140 Tryz.sz133 rfl rfl rfl (Enc.one (enc := encSt) s)).as (u := .agg (encSt s).toArray) rfl) ?_
 refine R.ev rfl (E.move rfl) (R.done (X.keep [(2, _), (3, _), (23, _), (24, _)] ⟨rfl, rfl, rfl, rfl, trivial⟩ (X.next (C.block ?_))))
 refine C.loop  [(2, _), (3, _), (23, _)] (fun i => [(24, .int .i64 (i : Nat))]) (fun i w' => i ≤ 8 ∧ Sat K w' (row b3 157 (digP s (4 * i)) :: row b2 157 ((List.replicate 32 (0 : UInt8)).map ub) :: Hs)) (fun i => 8 - i) (0) ⟨rfl, rfl, rfl, rfl, trivial⟩ ⟨Nat.zero_le _, (show Sat K _ (row b3 157 (digP s 0) :: row b2 157 ((List.replicate 32 (0 : UInt8)).map ub) :: row b1 170 (encSt s) :: Hs) from hs).to⟩ ?_
 rintro i w1 ⟨hi, hs⟩
 refine C.keep [(2, _), (3, _), (23, _), (24, _)] ⟨rfl, rfl, rfl, rfl, trivial⟩ (C.seq (C.region (R.ev rfl (E.lss rfl rfl) (R.done (X.keep [(2, _), (3, _), (23, _), (24, _), (25, _)] ⟨rfl, rfl, rfl, rfl, rfl, trivial⟩ (X.next (C.seq ?_)))))))
 refine C.cdec rfl (fun h25 => ?_) (fun h25 => ?_)
 obtain ⟨x, hx⟩ : ∃ x, s.l[i]? = some x := ⟨_, List.getElem?_eq_getElem (by omega)⟩
 have hxe : encSt s = s.l.map uw := rfl
 refine C.skip (X.next (C.seq (C.block (C.seq (C.region (R.ev rfl (E.move rfl) ?_))))))
 refine R.ev rfl (E.aindex1 (v := uw x) rfl rfl Tryz.underlying140 Tryz.underlying133 rfl Tryz.sz133 rfl (by omega) (by rw [hxe, List.getElem?_map, hx]; rfl)) ?_
 refine R.ev rfl (E.assign rfl) (R.ev rfl (E.assign rfl) (R.done (X.keep [(2, _), (3, _), (4, _), (5, _), (23, _), (24, _)] ⟨rfl, rfl, rfl, rfl, rfl, rfl, trivial⟩ (X.next (C.seq (C.region (R.ev rfl (E.move rfl) (R.done ?_))))))))
 refine X.keep [(2, _), (3, _), (4, _), (5, _), (23, _), (24, _), (28, _)] ⟨rfl, rfl, rfl, rfl, rfl, rfl, rfl, trivial⟩ (X.next (C.block ?_))
 refine C.loop  [(2, _), (3, _), (4, _), (5, _), (23, _), (24, _)] (fun k => [(28, .int .i64 (k : Nat))]) (fun k w' => k ≤ 4 ∧ Sat K w' (row b3 157 (digP s (4 * i + k)) :: row b2 157 ((List.replicate 32 (0 : UInt8)).map ub) :: Hs)) (fun k => 4 - k) (0) ⟨rfl, rfl, rfl, rfl, rfl, rfl, rfl, trivial⟩ ⟨Nat.zero_le _, hs⟩ ?_
 rintro k w2 ⟨hk, hs⟩
 refine C.keep [(2, _), (3, _), (4, _), (5, _), (23, _), (24, _), (28, _)] ⟨rfl, rfl, rfl, rfl, rfl, rfl, rfl, trivial⟩ (C.seq (C.region (R.ev rfl (E.lss rfl rfl) (R.done (X.keep [(2, _), (3, _), (4, _), (5, _), (23, _), (24, _), (28, _), (29, _)] ⟨rfl, rfl, rfl, rfl, rfl, rfl, rfl, rfl, trivial⟩ (X.next (C.seq ?_)))))))
 refine C.cdec rfl (fun h29 => ?_) (fun h29 => ?_)
 have hdl := digP_len s (n := 4 * i + k) (by omega)
 have hout : UInt8.ofNat (x >>> (24 - 8 * k)).toNat = outB s.l (4 * i + k) := by rw [outB, show (4 * i + k) / 4 = i by omega, show (4 * i + k) % 4 = k by omega, List.getD_eq_getElem?_getD, hx]; rfl
 refine C.skip (X.next (C.seq (C.block (C.seq (C.region (R.ev rfl (E.move rfl) (R.ev rfl (E.assign rfl) (R.done ?_))))))))
 refine X.keep [(2, _), (3, _), (4, _), (5, _), (6, _), (23, _), (24, _), (28, _)] ⟨rfl, rfl, rfl, rfl, rfl, rfl, rfl, rfl, trivial⟩ (X.next (C.region (R.ev rfl (E.move rfl) (R.ev rfl (E.mul rfl rfl (by omega) (by omega)) (R.ev rfl (E.move rfl) ?_)))))
 refine R.ev rfl ((E.add rfl rfl (by omega) (by omega)).isI (c := ((4 * i + k : Nat) : Int)) (by omega)) ?_
 refine R.ev rfl (E.move rfl) (R.ev rfl (E.move rfl) (R.ev rfl (E.mul rfl rfl (by omega) (by omega)) ?_))
 refine R.ev rfl ((E.sub rfl rfl (by omega) (by omega)).isI (c := ((24 - 8 * k : Nat) : Int)) (by omega)) ?_
 refine R.ev rfl (E.wshr (j := 24 - 8 * k) rfl rfl (by omega)) ?_
 refine R.ev rfl (E.bconv rfl Tryz.underlying133 Tryz.underlying5) (R.ev rfl (E.indexAddrW (4 * i + k) rfl rfl Tryz.underlying157 Tryz.sz5 rfl (by omega)) ?_)
 refine R.cstore1 hs rfl rfl Tryz.sz5 (by omega) rfl ?_
 intro w11 hs
 rw [hout, digP_set s (by omega)] at hs
 refine R.done (X.keep [(2, _), (3, _), (4, _), (5, _), (23, _), (24, _), (28, _)] ⟨rfl, rfl, rfl, rfl, rfl, rfl, rfl, trivial⟩ (X.blockNormal (X.next (C.region (R.ev rfl (E.add rfl rfl (by omega) (by omega)) (R.ev rfl (E.move rfl) (R.done (X.keep [(2, _), (3, _), (4, _), (5, _), (23, _), (24, _), (28, _)] ⟨rfl, rfl, rfl, rfl, rfl, rfl, rfl, trivial⟩ ?_))))))))
 exact X.again (k + 1) ⟨rfl, rfl, rfl, rfl, rfl, rfl, rfl, trivial⟩ ⟨by omega, hs.to⟩ (by omega)
 refine C.exit (X.thenExit (X.loopExit (X.blockExit (X.blockNormal (X.next (C.region (R.ev rfl (E.add rfl rfl (by omega) (by omega)) (R.ev rfl (E.move rfl) ?_))))))))
 refine R.done (X.keep [(2, _), (3, _), (23, _), (24, _)] ⟨rfl, rfl, rfl, rfl, trivial⟩ ?_)
 obtain rfl : k = 4 := by omega
 exact X.again (i + 1) ⟨rfl, rfl, rfl, rfl, trivial⟩ ⟨by omega, hs⟩ (by omega)
 refine C.exit (X.thenExit (X.loopExit (X.blockExit (X.next (C.seq (C.region ?_))))))
 obtain rfl : i = 8 := by omega
 rw [show 4 * 8 = 32 from rfl, digP_full] at hs
 have hdl : (digL s).length = 32 := by simp [digL]
 refine R.ev rfl (E.loadRowC rfl Tryz.underlying157 rfl Tryz.sz157 (by exact ⟨hs.ldA, by rfl⟩)) ?_
 refine R.cstoreAll hs rfl rfl Tryz.sz157 (by rfl) (by rfl) (by exact OneL.all) ?_
 intro w11_1 hs
 try simp only [List.set_cons_zero, List.set_cons_succ] at hs
 refine R.done (X.keep [(2, _)] ⟨rfl, trivial⟩ (X.next (C.ret ?_)))
 refine X.resC rfl rfl Tryz.underlying157 rfl Tryz.sz157 (by exact ⟨hs.ldA, by rfl⟩) ?_
 exact ⟨rfl, hs.to⟩
end Go.Proofs.YtbkgibgomohdjaaGreatDoor
