/-
 Package sha256: New, Write, Sum of 17 bytes; package signer: the identity of an author.
-/
import Derived.Test.YtbkgibgomohdjaaGreatDoorShaX
namespace Go.Proofs.YtbkgibgomohdjaaGreatDoor
open Go.Eng Go.RowKit Go.Sort
variable {K K' : Kn} {Hs Rs : List Hl} {F : Hl} {w : World} {v : Value}
/-- a Hash: the state, the block, the number of bytes -/
def encH (s : St) (blk : List UInt8) (n : Nat) : List Value := encSt s ++ (blk.map ub ++ [.int .i64 (n : Nat)])
theorem encH_len {s : St} {blk : List UInt8} {n : Nat} (h : blk.length = 64) : (encH s blk n).length = 73 := by simp [encH, encSt, St.l, h]
def stz : St := ⟨0, 0, 0, 0, 0, 0, 0, 0⟩
theorem hash_new_any (hs : Sat K w Hs) : Ret Tryz.prog 90 #[] w fun v w' => ∃ p, v = ptr p ∧ Sat K w' (row p 173 (encH stz (List.replicate 64 0) 0) :: Hs) := by
 refine Ret.enter (n := 2) (args := []) Tryz.func90 rfl rfl ?_
 refine C.keep [] trivial (C.seq (C.region (R.ev rfl (E.assign rfl) (R.done (X.keep [] trivial (X.next (C.seq (C.region ?_))))))))
 refine R.sallocA hs Tryz.zr173 rfl ?_
 intro b1 w1 hs
 refine R.ev rfl (E.assign rfl) (R.done (X.keep [(0, _)] ⟨rfl, trivial⟩ (X.next (C.ret (X.ret1 rfl rfl ?_)))))
 exact ⟨b1, rfl, hs⟩
theorem encH_st {s s' : St} {blk : List UInt8} {n : Nat} : (encH s blk n).take 0 ++ encSt s' ++ (encH s blk n).drop (0 + 8) = encH s' blk n := by
 simp [encH, encSt, St.l]
theorem encH_blk {s : St} {blk bs : List UInt8} {n m : Nat} (hb : blk.length = 64) (h : n + bs.length ≤ 64) (hm : bs.length ≤ m) : (encH s blk n).take (8 + n) ++ (bs.take m).map ub ++ (encH s blk n).drop (8 + n + (bs.take m).length) = encH s (blk.take n ++ bs ++ blk.drop (n + bs.length)) n := by
 rw [List.take_of_length_le hm]
 have e8 : (encSt s).length = 8 := rfl
 have h1 : (encH s blk n).take (8 + n) = encSt s ++ (blk.take n).map ub := by
   rw [encH, List.take_append, List.take_of_length_le (by omega), e8, show 8 + n - 8 = n by omega, List.take_append, List.length_map, show n - blk.length = 0 by omega, List.take_zero, List.append_nil, List.map_take]
 have h2 : (encH s blk n).drop (8 + n + bs.length) = (blk.drop (n + bs.length)).map ub ++ [.int .i64 (n : Nat)] := by
   rw [encH, List.drop_append, List.drop_eq_nil_of_le (by omega), e8, show 8 + n + bs.length - 8 = n + bs.length by omega, List.nil_append, List.drop_append, List.length_map, show n + bs.length - blk.length = 0 by omega, List.drop_zero, List.map_drop]
 rw [h1, h2, encH]
 simp
theorem encH_n {s : St} {blk : List UInt8} {n m : Nat} (hb : blk.length = 64) : (encH s blk n).set 72 (.int .i64 (m : Nat)) = encH s blk m := by
 rw [encH, encH, List.set_append, if_neg (by simp [encSt, St.l]), List.set_append, if_neg (by simp [encSt, St.l, hb])]
 simp [encSt, St.l, hb]
theorem encH_parts {s : St} {blk : List UInt8} {n : Nat} (hb : blk.length = 64) : PartOf (encH s blk n) 0 8 (encSt s) ∧ PartOf (encH s blk n) 8 64 (blk.map ub) ∧ CellOf (encH s blk n) 72 (.int .i64 (n : Nat)) :=
 ⟨PartOf.mk' (c1 := []) rfl rfl rfl, PartOf.mk' (c1 := encSt s) (c3 := [.int .i64 (n : Nat)]) rfl rfl (by simp [hb]), ⟨by simp [encH, encSt, St.l, List.getElem?_append, hb]⟩⟩
/-- the state behind what was written -/
def wrS (s : St) (n : Nat) : St := if n = 0 then st0 else s
def wrB (blk bs : List UInt8) (n : Nat) : List UInt8 := blk.take n ++ bs ++ blk.drop (n + bs.length)
theorem wrB_len {blk bs : List UInt8} {n : Nat} (hb : blk.length = 64) (h : n + bs.length ≤ 64) : (wrB blk bs n).length = 64 := by simp [wrB]; omega
def wrE (s : St) (blk bs : List UInt8) (n : Nat) : St := if n + bs.length = 64 then (wrS s n).add (stN (blkW (wrB blk bs n)) (wrS s n) 64) else wrS s n
theorem wrE_T {s : St} {blk bs : List UInt8} {n : Nat} (h : ((n + bs.length : Nat) : Int) % 64 = 0) (h1 : n + bs.length ≤ 64) (h2 : 0 < bs.length) : wrE s blk bs n = (wrS s n).add (stN (blkW (wrB blk bs n)) (wrS s n) 64) := by unfold wrE; rw [if_pos (by omega)]
theorem wrE_F {s : St} {blk bs : List UInt8} {n : Nat} (h : ¬ ((n + bs.length : Nat) : Int) % 64 = 0) (h1 : n + bs.length ≤ 64) (_h2 : 0 < bs.length) : wrE s blk bs n = wrS s n := by unfold wrE; rw [if_neg (by omega)]
theorem write_any {s : St} {blk : List UInt8} {n p m c : Nat} {ad : Option Addr} {bs : List UInt8} (hb : blk.length = 64) (hne : bs ≠ []) (hle : n + bs.length ≤ 64) [HasKc K] (hs : Sat K w (row p 173 (encH s blk n) :: Rs)) [hr : Rd encB 1 K Rs (.slice ad m c) bs] :
   Ret Tryz.prog 91 #[ptr p, .slice ad m c] w fun v w' => v = .int .i64 0 ∧ Sat K w' (row p 173 (encH (wrE s blk bs n) (wrB blk bs n) (n + bs.length)) :: Rs) := by
 obtain ⟨hlen, hmc⟩ := hr.len
 have hpos : 0 < bs.length := by rcases Nat.eq_zero_or_pos bs.length with h | h; exact absurd (List.length_eq_zero_iff.1 h) hne; exact h
 have hel := encH_len (s := s) (n := n) hb
 have hpt := encH_parts (s := s) (n := n) hb
 have hp1 := hpt.1
 have hp2 := hpt.2.1
 have hp3 := hpt.2.2
 refine Ret.enter (n := 61) (args := [ptr p, .slice ad m c]) Tryz.func91 rfl rfl ?_
 refine C.keep [(0, _), (1, _)] ⟨rfl, rfl, trivial⟩ (C.seq (C.region (R.ev rfl (E.assign rfl) (R.done (X.keep [(0, _), (1, _)] ⟨rfl, rfl, trivial⟩ (X.next (C.seq (C.seq ?_))))))))
 refine C.region (R.ev rfl (E.move rfl) (R.ev rfl (E.eqlNilF rfl rfl Tryz.underlying164) (R.done (X.keep [(0, _), (1, _), (7, _)] ⟨rfl, rfl, rfl, trivial⟩ (X.next (C.cfalse rfl (C.skip (X.next ?_))))))))
 refine C.seq (C.seq (C.region (R.ev rfl (E.move rfl) (R.ev rfl (E.nilCheck rfl) (R.ev rfl (E.fieldAddr0 72 rfl Tryz.underlying173 rfl Tryz.sz3 rfl) (R.ev rfl (E.load1 rfl Tryz.underlying3 rfl (by exact hs.ldc)) (R.ev rfl (E.eql rfl rfl) (R.done ?_))))))))
 refine X.keep [(0, _), (1, _), (12, _)] ⟨rfl, rfl, rfl, trivial⟩ (X.next ?_)
 refine C.cut [(0, _), (1, _)] (fun (_ : Unit) => []) (fun _ w' => Sat K w' (row p 173 (encH (wrS s n) blk n) :: Rs)) ⟨rfl, rfl, trivial⟩ ?_ ?_
 refine C.cdec rfl (fun h12 => ?_) (fun h12 => ?_)
 refine C.region (R.ev rfl (E.move rfl) ?_)
 refine R.call ⟨_, _, Tryz.func94, rfl, by kernel_rfl⟩ rfl rfl (initial_any hs) ?_
 rintro _ w4 ⟨rfl, hs⟩
 refine R.ev rfl (E.nilCheck rfl) (R.ev rfl (E.fieldAddr0 0 rfl Tryz.underlying173 rfl Tryz.sz170 rfl) ?_)
 refine R.cstore hs rfl rfl Tryz.sz170 rfl (by omega) (Enc.one (enc := encSt) st0) ?_
 intro w44 hs
 rw [encH_st] at hs
 refine R.done (X.keep [(0, _), (1, _)] ⟨rfl, rfl, trivial⟩ ?_)
 exact X.cut (()) ⟨rfl, rfl, trivial⟩ (by rw [show wrS s n = st0 by unfold wrS; rw [if_pos (by omega)]]; exact hs)
 refine C.skip ?_
 exact X.cut (()) ⟨rfl, rfl, trivial⟩ (by rw [show wrS s n = s by unfold wrS; rw [if_neg (by omega)]]; exact hs)
 rintro _ w5 hs; have hel := encH_len (s := wrS s n) (n := n) hb; have hpt := encH_parts (s := wrS s n) (n := n) hb; have hp1 := hpt.1; have hp2 := hpt.2.1; have hp3 := hpt.2.2
 refine X.keep [(0, _), (1, _)] ⟨rfl, rfl, trivial⟩ (X.next (C.seq (C.block ?_)))
 refine C.loop (T := Bool × Value) [(0, _)] (fun (_, v) => [(1, v)]) (fun (d, v) w' => (d = false ∧ v = .slice ad m c ∧ Sat K w' (row p 173 (encH (wrS s n) blk n) :: Rs)) ∨ (d = true ∧ (∃ ad2 c2, v = .slice ad2 0 c2) ∧ Sat K w' (row p 173 (encH (wrE s blk bs n) (wrB blk bs n) (n + bs.length)) :: Rs))) (fun (d, _) => if d then 0 else 1) ((false, .slice ad m c)) ⟨rfl, rfl, trivial⟩ (.inl ⟨rfl, rfl, hs⟩) ?_
 rintro ⟨d, v1⟩ w1 hJ
 refine C.keep [(0, _), (1, _)] ⟨rfl, rfl, trivial⟩ (C.seq (C.seq (C.region ?_)))
 rcases hJ with ⟨rfl, rfl, hs⟩ | ⟨rfl, ⟨ad2, c2, rfl⟩, hs⟩
 refine R.ev rfl (E.move rfl) (R.ev rfl (E.lenSl rfl Tryz.underlying80) (R.ev rfl ((E.gtr rfl rfl).isT (by omega)) (R.done (X.keep [(0, _), (1, _), (19, _)] ⟨rfl, rfl, rfl, trivial⟩ (X.next (C.ctrue rfl (C.skip (X.next ?_))))))))
 refine C.block (C.seq ?_)
 refine C.drawn (SatS hs) ([6], [0, 1, 2, 3, 4, 5, 7, 8, 9, 11]) (by kernel_rfl) ?_
 have hs := hs.drew
 refine D.evP 0 rfl (by kernel_rfl) rfl (fun _ => hs.to) (fun _ => E.move rfl) (D.evP 1 rfl (by kernel_rfl) rfl (fun _ => hs.to) (fun _ => E.nilCheck rfl) (D.evP 2 rfl (by kernel_rfl) rfl (fun _ => hs.to) (fun _ => E.fieldAddr0 8 rfl Tryz.underlying173 rfl Tryz.sz171 rfl) (D.evP 3 rfl (by kernel_rfl) rfl (fun _ => hs.to) (fun _ => E.move rfl) (D.evP 4 rfl (by kernel_rfl) rfl (fun _ => hs.to) (fun _ => E.nilCheck rfl) (D.evP 5 rfl (by kernel_rfl) rfl (fun _ => hs.to) (fun _ => E.fieldAddr0 72 rfl Tryz.underlying173 rfl Tryz.sz3 rfl) (D.evP 9 rfl (by kernel_rfl) rfl (fun _ => hs.to) (fun _ => E.move rfl) (D.ev 6 rfl (by kernel_rfl) rfl hs.to (fun _ hS => E.load1 rfl Tryz.underlying3 rfl (by exact hS.ldc)) ?_)))))))
 refine D.evP 7 rfl (by kernel_rfl) rfl (fun _ => hs.to) (fun _ => (E.rem rfl rfl (by omega) (by omega)).isI (c := ((n : Nat) : Int)) (by omega)) ?_
 refine D.evP 8 rfl (by kernel_rfl) rfl (fun _ => hs.to) (fun _ => E.sliceAL (a := n) rfl rfl Tryz.underlying171 Tryz.sz5 rfl (by omega)) ?_
 refine D.act 10 rfl (by kernel_rfl) ?_
 refine R.ccopyB hs rfl rfl Tryz.underlying80 Tryz.sz5 (by decide) (M := bs) hne (by omega) ?_
 intro w10 hs
 rw [encH_blk hb hle (by omega), show min bs.length (63 + 1 - n) = bs.length by omega, show blk.take n ++ bs ++ blk.drop (n + bs.length) = wrB blk bs n from rfl] at *
 have hwl := wrB_len hb hle
 have hel := encH_len (s := wrS s n) (n := n) hwl
 have hpt := encH_parts (s := wrS s n) (n := n) hwl
 have hp1 := hpt.1
 have hp2 := hpt.2.1
 have hp3 := hpt.2.2
 refine D.backT (by kernel_rfl) (D.evP 11 rfl (by kernel_rfl) rfl (np (by kernel_rfl)) (fun _ => E.assign rfl) (D.done rfl (by kernel_rfl) (X.keep [(0, _), (1, _), (5, _)] ⟨rfl, rfl, rfl, trivial⟩ (X.next (C.seq (C.region (R.ev rfl (E.move rfl) (R.ev rfl (E.move rfl) ?_))))))))
 refine R.ev rfl (E.sliceLs (a := bs.length) rfl rfl Tryz.underlying80 Tryz.sz5 rfl (by omega)) ?_
 refine R.ev rfl (E.assign rfl) (R.done (X.keep [(0, _), (1, _), (5, _)] ⟨rfl, rfl, rfl, trivial⟩ (X.next (C.seq (C.region (R.ev rfl (E.move rfl) (R.ev rfl (E.nilCheck rfl) (R.ev rfl (E.fieldAddr0 72 rfl Tryz.underlying173 rfl Tryz.sz3 rfl) ?_))))))))
 refine R.ev rfl (E.load1 rfl Tryz.underlying3 rfl (by exact hs.ldc)) (R.ev rfl (E.move rfl) ?_)
 refine R.ev rfl ((E.add rfl rfl (by omega) (by omega)).isI (c := ((n + bs.length : Nat) : Int)) (by omega)) ?_
 refine R.ev rfl (E.nilCheck rfl) (R.ev rfl (E.fieldAddr0 72 rfl Tryz.underlying173 rfl Tryz.sz3 rfl) ?_)
 refine R.cstore1 hs rfl rfl Tryz.sz3 (by omega) rfl ?_
 intro w88 hs
 rw [encH_n hwl] at hs
 have hel := encH_len (s := wrS s n) (n := n + bs.length) hwl
 have hpt := encH_parts (s := wrS s n) (n := n + bs.length) hwl
 have hp1 := hpt.1
 have hp2 := hpt.2.1
 have hp3 := hpt.2.2
 refine R.done (X.keep [(0, _), (1, _)] ⟨rfl, rfl, trivial⟩ (X.next (C.seq (C.region (R.ev rfl (E.move rfl) (R.ev rfl (E.nilCheck rfl) (R.ev rfl (E.fieldAddr0 72 rfl Tryz.underlying173 rfl Tryz.sz3 rfl) (R.ev rfl (E.load1 rfl Tryz.underlying3 rfl (by exact hs.ldc)) ?_))))))))
 refine R.ev rfl (E.rem rfl rfl (by omega) (by omega)) (R.ev rfl (E.eql rfl rfl) (R.done (X.keep [(0, _), (1, _), (47, _)] ⟨rfl, rfl, rfl, trivial⟩ (X.next ?_))))
 refine C.cdec rfl (fun h47 => ?_) (fun h47 => ?_)
 refine C.drawn (SatS hs) ([4, 8], [0, 1, 2, 3, 5, 6, 7, 11, 12]) (by kernel_rfl) ?_
 have hs := hs.drew
 refine D.evP 0 rfl (by kernel_rfl) rfl (fun _ => hs.to) (fun _ => E.move rfl) (D.evP 1 rfl (by kernel_rfl) rfl (fun _ => hs.to) (fun _ => E.move rfl) (D.evP 2 rfl (by kernel_rfl) rfl (fun _ => hs.to) (fun _ => E.nilCheck rfl) (D.evP 3 rfl (by kernel_rfl) rfl (fun _ => hs.to) (fun _ => E.fieldAddr0 0 rfl Tryz.underlying173 rfl Tryz.sz170 rfl) (D.evP 5 rfl (by kernel_rfl) rfl (fun _ => hs.to) (fun _ => E.move rfl) (D.evP 6 rfl (by kernel_rfl) rfl (fun _ => hs.to) (fun _ => E.nilCheck rfl) (D.evP 7 rfl (by kernel_rfl) rfl (fun _ => hs.to) (fun _ => E.fieldAddr0 8 rfl Tryz.underlying173 rfl Tryz.sz171 rfl) (D.ev 4 rfl (by kernel_rfl) rfl hs.to (fun _ hS => E.loadRowC rfl Tryz.underlying170 rfl Tryz.sz170 (by exact ⟨hS.ldP rfl, by rfl⟩)) (D.ev 8 rfl (by kernel_rfl) rfl hs.to (fun _ hS => E.loadRowC rfl Tryz.underlying171 rfl Tryz.sz171 (by exact ⟨hS.ldM rfl rfl, by exact len_ub (by assumption)⟩)) ?_))))))))
 refine D.act 9 rfl (by kernel_rfl) ?_
 refine R.call ⟨_, _, Tryz.func96, rfl, by kernel_rfl⟩ rfl rfl (load_any ⟨wrB blk bs n, hwl⟩ hs) ?_
 rintro _ w9 ⟨rfl, hs⟩
 refine D.back hs.to (D.act 10 rfl (by kernel_rfl) ?_)
 refine R.call ⟨_, _, Tryz.func95, rfl, by kernel_rfl⟩ rfl rfl (process_any (wrS s n) (blkL_ring _) hs) ?_
 rintro _ w10 ⟨rfl, hs⟩
 refine D.backT (by kernel_rfl) (D.evP 11 rfl (by kernel_rfl) rfl (np (by kernel_rfl)) (fun _ => E.nilCheck rfl) (D.evP 12 rfl (by kernel_rfl) rfl (np (by kernel_rfl)) (fun _ => E.fieldAddr0 0 rfl Tryz.underlying173 rfl Tryz.sz170 rfl) (D.act 13 rfl (by kernel_rfl) ?_)))
 refine R.cstore hs rfl rfl Tryz.sz170 rfl (by omega) (Enc.one (enc := encSt) _) ?_
 intro w13 hs
 rw [encH_st] at hs
 refine D.backT (by kernel_rfl) (D.done rfl (by kernel_rfl) (X.keep [(0, _), (1, _)] ⟨rfl, rfl, trivial⟩ (X.blockNormal ?_)))
 refine X.again (true, _) ⟨rfl, rfl, trivial⟩ (.inr ⟨rfl, ⟨_, _, by rw [show m - bs.length = 0 by omega]⟩, ?_⟩) (by show (0 : Nat) < 1; decide)
 (rw [wrE_T h47 hle hpos]; exact hs)
 refine C.skip (X.blockNormal ?_)
 refine X.again (true, _) ⟨rfl, rfl, trivial⟩ (.inr ⟨rfl, ⟨_, _, by rw [show m - bs.length = 0 by omega]⟩, ?_⟩) (by show (0 : Nat) < 1; decide)
 (rw [wrE_F h47 hle hpos]; exact hs)
 refine R.ev rfl (E.move rfl) (R.ev rfl (E.lenSl rfl Tryz.underlying80) (R.ev rfl ((E.gtr rfl rfl).isF (by decide)) (R.done (X.keep [(0, _), (1, _), (19, _)] ⟨rfl, rfl, rfl, trivial⟩ (X.next (C.cfalse rfl (C.exit (X.thenExit ?_))))))))
 refine X.loopExit (X.blockExit (X.next (C.seq (C.region (R.ev rfl (E.assign rfl) (R.done (X.keep [(4, _)] ⟨rfl, trivial⟩ (X.next ?_))))))))
 refine C.ret (X.ret1 rfl rfl ?_)
 exact ⟨rfl, hs⟩
theorem rowB1 (b : Nat) (c : UInt8) : RowL 5 encB 1 (.slice (some ⟨b, 0, none⟩) 1 1) [c] (row b 5 [ub c]) :=
 ⟨⟨rfl, .inr ⟨b, 1, [], rfl, rfl, Nat.le_refl _, by unfold maxLen; omega, rfl⟩⟩, fun _ _ => rfl⟩
/-- the padding behind 17 bytes -/
def padz (k : Nat) : List UInt8 := 128 :: List.replicate k 0
def pb (k : Nat) : UInt8 := if k = 7 then 136 else 0
def padn (k : Nat) : List UInt8 := padz 38 ++ (List.range k).map pb
theorem padn_8 : padn 8 = 128 :: List.replicate 38 0 ++ [0, 0, 0, 0, 0, 0, 0, 136] := by decide
theorem padz_len (k : Nat) : (padz k).length = k + 1 := by simp [padz]
theorem padz_snoc (k : Nat) : padz k ++ [0] = padz (k + 1) := by simp [padz, List.replicate_succ']
theorem padn_len (k : Nat) : (padn k).length = 39 + k := by simp [padn, padz_len]
theorem padn_snoc (k : Nat) : padn k ++ [pb k] = padn (k + 1) := by simp [padn, List.range_succ]
theorem pb_eq : ∀ k : Nat, k < 8 → IntKind.u8.wrap ((136 : Int).fdiv (2 ^ (min ((56 - 8 * k : Nat) : Int).toNat IntKind.u64.bits))) = ((pb k).toNat : Int) := by decide +kernel
theorem cnt_eq : IntKind.u64.wrap (8 * IntKind.u64.wrap ((17 : Nat) : Int)) = 136 := by decide +kernel
/-- 17 bytes at the start of a block, then the padding -/
theorem wr17 {bs : List UInt8} (h : bs.length = 17) : wrE (wrE stz (List.replicate 64 0) bs 0) (wrB (List.replicate 64 0) bs 0) (padn 8) 17 = sha1 (pad17 bs) := by
 have e1 : wrE stz (List.replicate 64 0) bs 0 = st0 := by unfold wrE; rw [if_neg (by omega), wrS, if_pos rfl]
 have e2 : wrB (List.replicate 64 0) bs 0 = bs ++ List.replicate 47 0 := by simp [wrB, h]
 have e3 : wrB (bs ++ List.replicate 47 0) (padn 8) 17 = pad17 bs := by
   unfold wrB
   rw [List.take_left' h, List.drop_eq_nil_of_le (by simp [h, padn_len]), List.append_nil, padn_8]
   simp [pad17]
 have e4 : wrS st0 17 = st0 := rfl
 rw [e1, e2, wrE, if_pos (by rw [padn_len]), e3, e4]
 rfl
theorem hsum_any {bs : List UInt8} {p : Nat} (h : bs.length = 17) [HasKc K] (hs : Sat K w (row p 173 (encH (wrE stz (List.replicate 64 0) bs 0) (wrB (List.replicate 64 0) bs 0) 17) :: Rs)) :
   Ret Tryz.prog 92 #[ptr p] w fun v w' => v = idV (digL (sha1 (pad17 bs))) ∧ Sat K w' Rs := by
 have hw17 := wr17 h
 have hbl := wrB_len (blk := List.replicate 64 0) (bs := bs) (n := 0) (by simp) (by omega)
 generalize wrE stz (List.replicate 64 0) bs 0 = s0 at hs hw17
 generalize wrB (List.replicate 64 0) bs 0 = blk at hs hw17 hbl
 have hel := encH_len (s := s0) (n := 17) hbl
 have hpt := encH_parts (s := s0) (n := 17) hbl
 have hp1 := hpt.1
 have hp2 := hpt.2.1
 have hp3 := hpt.2.2
 refine Ret.enter (n := 50) (args := [ptr p]) Tryz.func92 rfl rfl ?_
 refine C.keep [(0, _)] ⟨rfl, trivial⟩ (C.seq (C.region ?_))
 refine R.sallocA hs Tryz.zr157 rfl ?_
 intro b2 w2 hs
 refine R.done (X.keep [(0, _), (2, _)] ⟨rfl, rfl, trivial⟩ (X.next (C.seq (C.seq (C.region (R.ev rfl (E.move rfl) (R.ev rfl (E.eqlNilF rfl rfl Tryz.underlying164) (R.done ?_))))))))
 refine X.keep [(0, _), (2, _), (8, _)] ⟨rfl, rfl, rfl, trivial⟩ (X.next (C.cfalse rfl (C.skip (X.next (C.seq (C.region ?_))))))
 refine R.buildSlice1 (parts := [(0, _)]) (vs := [_]) rfl rfl rfl Tryz.underlying80 Tryz.sz5 Tryz.zr5 rfl (by simp [Value.oneCell']) (by decide) ?_
 intro b10 w10 n10
 have hs := hs.new n10
 have r10 := rowB1 b10 128
 refine R.ev rfl (E.assign rfl) (R.done (X.keep [(0, _), (2, _), (3, _)] ⟨rfl, rfl, rfl, trivial⟩ (X.next (C.seq (C.block ?_)))))
 refine C.loop (T := Nat × Value × Hl) [(0, _), (2, _)] (fun (_, v, _) => [(3, v)]) (fun (k, v, F) w' => k ≤ 38 ∧ RowL 5 encB 1 v (padz k) F ∧ Sat K w' (F :: row b2 157 ((List.replicate 32 (0 : UInt8)).map ub) :: row p 173 (encH s0 blk 17) :: Rs)) (fun (k, _) => 38 - k) ((0, _, _)) ⟨rfl, rfl, rfl, trivial⟩ ⟨Nat.zero_le _, r10, hs⟩ ?_
 rintro ⟨k, v1, F1⟩ w1 ⟨hk, r1, hs⟩
 have hzl := padz_len k
 obtain ⟨ad1, cap1, rfl, _⟩ := r1.val
 refine C.keep [(0, _), (2, _), (3, _)] ⟨rfl, rfl, rfl, trivial⟩ (C.seq (C.seq (C.region (R.ev rfl (E.move rfl) (R.ev rfl (E.nilCheck rfl) (R.ev rfl (E.fieldAddr0 72 rfl Tryz.underlying173 rfl Tryz.sz3 rfl) (R.ev rfl (E.load1 rfl Tryz.underlying3 rfl (by exact hs.ldc)) (R.ev rfl (E.move rfl) ?_))))))))
 refine R.ev rfl (E.lenSl rfl Tryz.underlying80) ?_
 refine R.ev rfl ((E.add rfl rfl (by omega) (by omega)).isI (c := ((17 + (k + 1) : Nat) : Int)) (by omega)) ?_
 refine R.ev rfl ((E.rem rfl rfl (by omega) (by omega)).isI (c := (((17 + (k + 1)) % 64 : Nat) : Int)) (by omega)) ?_
 refine R.ev rfl (E.neq rfl rfl) (R.done (X.keep [(0, _), (2, _), (3, _), (19, _)] ⟨rfl, rfl, rfl, rfl, trivial⟩ (X.next ?_)))
 refine C.cdec rfl (fun h19 => ?_) (fun h19 => ?_)
 refine C.skip (X.next (C.block (C.region (R.ev rfl (E.move rfl) ?_))))
 refine R.buildSlice1 (parts := [(0, _)]) (vs := [_]) rfl rfl rfl Tryz.underlying80 Tryz.sz5 Tryz.zr5 rfl (by simp [Value.oneCell']) (by decide) ?_
 intro b21 w21 n21
 have hs := hs.new n21
 refine R.capp1 (0) hs rfl rfl Tryz.underlying80 Tryz.by5 (by rfl) rfl (by exact hs.ldA) (by decide) (by omega) (by omega) ?_
 intro v22 w22 F22 r22 hs
 rw [padz_snoc] at r22
 refine R.ev rfl (E.assign rfl) (R.done (X.keep [(0, _), (2, _), (3, _)] ⟨rfl, rfl, rfl, trivial⟩ (X.blockNormal ?_)))
 exact X.again (k + 1, v22, F22) ⟨rfl, rfl, rfl, trivial⟩ ⟨by omega, r22, hs.to⟩ (by show _ - _ < _ - _; omega)
 refine C.exit (X.thenExit (X.loopExit (X.blockExit (X.next (C.seq (C.region ?_))))))
 obtain rfl : k = 38 := by omega
 refine R.ev rfl (E.move rfl) (R.ev rfl (E.nilCheck rfl) (R.ev rfl (E.fieldAddr0 72 rfl Tryz.underlying173 rfl Tryz.sz3 rfl) (R.ev rfl (E.load1 rfl Tryz.underlying3 rfl (by exact hs.ldc)) (R.ev rfl (E.conv rfl Tryz.underlying3 Tryz.underlying135) ?_))))
 refine R.ev rfl ((E.mulW rfl rfl).isI (c := 136) cnt_eq) ?_
 refine R.ev rfl (E.assign rfl) (R.done (X.keep [(0, _), (2, _), (3, _), (4, _)] ⟨rfl, rfl, rfl, rfl, trivial⟩ (X.next (C.seq (C.seq (C.region (R.ev rfl (E.move rfl) (R.done ?_))))))))
 refine X.keep [(0, _), (2, _), (3, _), (4, _), (29, _)] ⟨rfl, rfl, rfl, rfl, rfl, trivial⟩ (X.next (C.block ?_))
 refine C.loop (T := Nat × Value × Hl) [(0, _), (2, _), (4, _)] (fun (k, v, _) => [(3, v), (29, .int .i64 (k : Nat))]) (fun (k, v, F) w' => k ≤ 8 ∧ RowL 5 encB 1 v (padn k) F ∧ Sat K w' (F :: row b2 157 ((List.replicate 32 (0 : UInt8)).map ub) :: row p 173 (encH s0 blk 17) :: Rs)) (fun (k, _) => 8 - k) ((0, _, _)) ⟨rfl, rfl, rfl, rfl, rfl, trivial⟩ ⟨Nat.zero_le _, (by rw [show padn 0 = padz 38 from by simp [padn]]; exact r1), hs⟩ ?_
 rintro ⟨k, v2, F2⟩ w2 ⟨hk, r2, hs⟩
 have hnl := padn_len k
 obtain ⟨ad2, cap2, rfl, _⟩ := r2.val
 refine C.keep [(0, _), (2, _), (3, _), (4, _), (29, _)] ⟨rfl, rfl, rfl, rfl, rfl, trivial⟩ (C.seq (C.region (R.ev rfl (E.lss rfl rfl) (R.done (X.keep [(0, _), (2, _), (3, _), (4, _), (29, _), (30, _)] ⟨rfl, rfl, rfl, rfl, rfl, rfl, trivial⟩ (X.next (C.seq ?_)))))))
 refine C.cdec rfl (fun h30 => ?_) (fun h30 => ?_)
 refine C.skip (X.next (C.seq (C.block (C.seq (C.region (R.ev rfl (E.move rfl) (R.ev rfl (E.assign rfl) (R.done ?_))))))))
 refine X.keep [(0, _), (2, _), (3, _), (4, _), (5, _), (29, _)] ⟨rfl, rfl, rfl, rfl, rfl, rfl, trivial⟩ (X.next (C.region (R.ev rfl (E.move rfl) (R.ev rfl (E.move rfl) (R.ev rfl (E.move rfl) (R.ev rfl (E.mul rfl rfl (by omega) (by omega)) ?_))))))
 refine R.ev rfl ((E.sub rfl rfl (by omega) (by omega)).isI (c := ((56 - 8 * k : Nat) : Int)) (by omega)) ?_
 refine R.ev rfl (E.shr rfl rfl (by omega)) ?_
 refine R.ev rfl ((E.conv rfl Tryz.underlying135 Tryz.underlying5).as (u := ub (pb k)) (by rw [pb_eq k (by omega)])) ?_
 refine R.buildSlice1 (parts := [(0, .tmp 38)]) (vs := [_]) rfl rfl rfl Tryz.underlying80 Tryz.sz5 Tryz.zr5 rfl (by simp [Value.oneCell']) (by decide) ?_
 intro b39 w39 n39
 have hs := hs.new n39
 refine R.capp1 (pb k) hs rfl rfl Tryz.underlying80 Tryz.by5 (by rfl) rfl (by exact hs.ldA) (by decide) (by omega) (by omega) ?_
 intro v40 w40 F40 r40 hs
 rw [padn_snoc] at r40
 refine R.ev rfl (E.assign rfl) (R.done (X.keep [(0, _), (2, _), (3, _), (4, _), (29, _)] ⟨rfl, rfl, rfl, rfl, rfl, trivial⟩ (X.blockNormal (X.next (C.region (R.ev rfl (E.add rfl rfl (by omega) (by omega)) (R.ev rfl (E.move rfl) (R.done ?_))))))))
 refine X.keep [(0, _), (2, _), (3, _), (4, _), (29, _)] ⟨rfl, rfl, rfl, rfl, rfl, trivial⟩ ?_
 exact X.again (k + 1, v40, F40) ⟨rfl, rfl, rfl, rfl, rfl, trivial⟩ ⟨by omega, r40, hs.to⟩ (by show _ - _ < _ - _; omega)
 refine C.exit (X.thenExit (X.loopExit (X.blockExit (X.next (C.seq (C.region ?_))))))
 obtain rfl : k = 8 := by omega
 have hzr : (encH stz (List.replicate 64 0) 0).length = 73 := rfl
 refine R.ev rfl (E.move rfl) (R.ev rfl (E.nilCheck rfl) (R.ev rfl (E.loadRowC rfl Tryz.underlying173 rfl Tryz.sz173 (by exact ⟨hs.ldA, by assumption⟩)) ?_))
 refine R.sallocA hs Tryz.zr173 rfl ?_
 intro b6 w6 hs
 have hs : Sat K w6 (row b6 173 (encH stz (List.replicate 64 0) 0) :: F2 :: row b2 157 ((List.replicate 32 (0 : UInt8)).map ub) :: row p 173 (encH s0 blk 17) :: Rs) := hs
 refine R.cstoreAll hs rfl rfl Tryz.sz173 hzr hel (by intro u hu; simp only [encH, List.mem_append, List.mem_singleton] at hu; rcases hu with hu | hu | rfl; exact Enc.one (enc := encSt) _ u hu; exact ub_all _ u hu; rfl) ?_
 intro w124 hs
 refine R.done (X.keep [(2, _), (3, _), (6, _)] ⟨rfl, rfl, rfl, trivial⟩ (X.next (C.seq (C.region (R.ev rfl (E.move rfl) ?_)))))
 refine R.call ⟨_, _, Tryz.func91, rfl, by kernel_rfl⟩ rfl rfl (write_any (bs := padn 8) hbl (by decide) (by decide) hs) ?_
 rintro _ w13 ⟨rfl, hs⟩
 rw [hw17] at hs
 have hwl := wrB_len (blk := blk) (bs := padn 8) (n := 17) hbl (by decide)
 have hpt := encH_parts (s := sha1 (pad17 bs)) (n := 17 + (padn 8).length) hwl
 have hp1 := hpt.1
 refine R.done (X.keep [(2, _), (6, _)] ⟨rfl, rfl, trivial⟩ (X.next (C.seq (C.region (R.ev rfl (E.fieldAddr0 0 rfl Tryz.underlying173 rfl Tryz.sz170 rfl) (R.ev rfl (E.loadRowC rfl Tryz.underlying170 rfl Tryz.sz170 (by exact ⟨hs.ldP rfl, by rfl⟩)) ?_))))))
 refine R.call ⟨_, _, Tryz.func97, rfl, by kernel_rfl⟩ rfl rfl (digest_any _ hs) ?_
 rintro _ w14 ⟨rfl, hs⟩
 have hdl : (digL (sha1 (pad17 bs))).length = 32 := by simp [digL]
 refine R.cstoreAll hs rfl rfl Tryz.sz157 (by rfl) (by rfl) (by exact OneL.all) ?_
 intro w14_3 hs
 try simp only [List.set_cons_zero, List.set_cons_succ] at hs
 refine R.done (X.keep [(2, _)] ⟨rfl, trivial⟩ (X.next (C.ret ?_)))
 refine X.resC rfl rfl Tryz.underlying157 rfl Tryz.sz157 (by exact ⟨hs.ldA, by rfl⟩) ?_
 exact ⟨rfl, hs.to⟩
end Go.Proofs.YtbkgibgomohdjaaGreatDoor
