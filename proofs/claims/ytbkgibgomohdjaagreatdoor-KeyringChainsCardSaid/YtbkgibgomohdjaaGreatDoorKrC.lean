/-
 Chapter 19: Add.
-/
import Derived.Test.YtbkgibgomohdjaaGreatDoorKrB
namespace Go.Proofs.YtbkgibgomohdjaaGreatDoor
open Go.Eng Go.RowKit Go.Sort
/-- what an article and its command hold, as far as it matters -/
def encCt (r : RO) (body : List UInt8) : List Value := [str []] ++ (r.au.1.map ub ++ ([.int .i64 0, .slice none 0 0, str [], .slice none 0 0] ++ (kvz.1.map ub ++ ([str [], str [], .int .i64 r.n] ++ (encP r.pu ++ [.int .i64 r.leaf, str body])))))
def encCm (kind to : Int) (q : PK) : List Value := [.int .i64 kind] ++ (kvz.1.map ub ++ ([str [], .int .i64 0, .bool false, .slice none 0 0, str [], .int .i64 to] ++ encP q))
instance {r : RO} {b : List UInt8} : PartOf (encCt r b) 1 16 (r.au.1.map ub) := PartOf.mk' (c1 := [str []]) rfl rfl (encV_len _)
instance {r : RO} {b : List UInt8} : CellOf (encCt r b) 55 (.int .i64 r.n) := ⟨by simp [encCt, r.au.2, kvz.2, List.getElem?_append]⟩
instance {r : RO} {b : List UInt8} : PartOf (encCt r b) 56 17 (encP r.pu) := PartOf.mk' (c1 := [str []] ++ (r.au.1.map ub ++ ([.int .i64 0, .slice none 0 0, str [], .slice none 0 0] ++ (kvz.1.map ub ++ [str [], str [], .int .i64 r.n])))) (c3 := [.int .i64 r.leaf, str b]) (by simp [encCt]) (by simp [r.au.2, kvz.2]) (encP_len _)
instance {r : RO} {b : List UInt8} : CellOf (encCt r b) 56 (.int .i64 r.pu.h) := ⟨by simp [encCt, encP, r.au.2, kvz.2, List.getElem?_append]⟩
instance {r : RO} {b : List UInt8} : CellOf (encCt r b) 73 (.int .i64 r.leaf) := ⟨by simp [encCt, r.au.2, kvz.2, encP_len, List.getElem?_append]⟩
instance {k t : Int} {q : PK} : CellOf (encCm k t q) 0 (.int .i64 k) := ⟨rfl⟩
instance {k t : Int} {q : PK} : CellOf (encCm k t q) 38 (.int .i64 t) := ⟨by simp [encCm, kvz.2, List.getElem?_append]⟩
instance {k t : Int} {q : PK} : PartOf (encCm k t q) 39 17 (encP q) := PartOf.mk' (c1 := [.int .i64 k] ++ (kvz.1.map ub ++ [str [], .int .i64 0, .bool false, .slice none 0 0, str [], .int .i64 t])) (c3 := []) (by simp [encCm]) (by simp [kvz.2]) (encP_len _)
variable {K : Kn} {Hs Rs : List Hl} {F : Hl} {w : World} {v : Value} {L : List RO} {p : Nat} {MK : MKn} {MR : MRo}
theorem fine_h {p : PK} (h : fine p = true) : 1 ≤ p.h ∧ p.h ≤ 8 := by simpa [fine] using h
theorem shl_h {p : PK} (h : fine p = true) : IntKind.i64.wrap (1 * 2 ^ (min p.h.toNat IntKind.i64.bits)) = (2 : Int) ^ p.h.toNat := by
 have := fine_h h
 obtain ⟨m, hm⟩ : ∃ m : Nat, p.h = m := ⟨p.h.toNat, by omega⟩
 rw [hm, Int.toNat_natCast]
 have : ∀ m : Nat, 1 ≤ m → m ≤ 8 → IntKind.i64.wrap (1 * 2 ^ (min m IntKind.i64.bits)) = (2 : Int) ^ m := by
   intro m h1 h2
   rcases (show m = 1 ∨ m = 2 ∨ m = 3 ∨ m = 4 ∨ m = 5 ∨ m = 6 ∨ m = 7 ∨ m = 8 by omega) with rfl | rfl | rfl | rfl | rfl | rfl | rfl | rfl <;> decide +kernel
 exact this m (by omega) (by omega)
theorem kb_pu {r : RO} (h : fine r.pu = false) : keyBad r = true := by simp [keyBad, h]
theorem kb_nw {r : RO} (h : fine r.nw = false) : keyBad r = true := by simp [keyBad, h]
theorem kb_eq {r : RO} (h : r.pu = r.nw) : keyBad r = true := by simp [keyBad, h]
theorem kb_neg {r : RO} (h : r.leaf < 0) : keyBad r = true := by simp [keyBad, h]
theorem kb_big {r : RO} (h : (2 : Int) ^ r.pu.h.toNat ≤ r.leaf) : keyBad r = true := by simp [keyBad, h]
theorem kb_no {r : RO} (h1 : fine r.pu = true) (h2 : fine r.nw = true) (h3 : r.pu ≠ r.nw) (h4 : ¬ r.leaf < 0) (h5 : ¬ (2 : Int) ^ r.pu.h.toNat ≤ r.leaf) : ¬ keyBad r = true := by
 simp [keyBad, h1, h2, h3]; omega
theorem addE_k {r : RO} {k t : Int} (h : ¬ k = 5) : addE L r k t = 11 := by rw [addE, if_pos h]
theorem addE_n {r : RO} {k t : Int} (h : k = 5) (h2 : r.n < 0 ∨ 999 < r.n) : addE L r k t = 2 := by rw [addE, if_neg (fun g => g h), if_pos h2]
theorem addE_t {r : RO} {k t : Int} (h : k = 5) (h2 : ¬ (r.n < 0 ∨ 999 < r.n)) (h3 : ¬ t = r.n + 1) : addE L r k t = 30 := by rw [addE, if_neg (fun g => g h), if_neg h2, if_pos h3]
theorem addE_b {r : RO} {k t : Int} (h : k = 5) (h2 : ¬ (r.n < 0 ∨ 999 < r.n)) (h3 : t = r.n + 1) (h4 : keyBad r = true) : addE L r k t = 18 := by rw [addE, if_neg (fun g => g h), if_neg h2, if_neg (fun g => g h3), if_pos h4]
theorem addE_a {r : RO} {k t : Int} (h : k = 5) (h2 : ¬ (r.n < 0 ∨ 999 < r.n)) (h3 : t = r.n + 1) (h4 : ¬ keyBad r = true) (h5 : r.n = 0 ∧ ofP r.pu ≠ r.au) : addE L r k t = 20 := by rw [addE, if_neg (fun g => g h), if_neg h2, if_neg (fun g => g h3), if_neg h4, if_pos h5]
theorem addE_d {r : RO} {k t : Int} (h : k = 5) (h2 : ¬ (r.n < 0 ∨ 999 < r.n)) (h3 : t = r.n + 1) (h4 : ¬ keyBad r = true) (h5 : ¬ (r.n = 0 ∧ ofP r.pu ≠ r.au)) (h6 : hasR L r.id = true) : addE L r k t = 7 := by rw [addE, if_neg (fun g => g h), if_neg h2, if_neg (fun g => g h3), if_neg h4, if_neg h5, if_pos h6]
theorem addE_0 {r : RO} {k t : Int} (h : k = 5) (h2 : ¬ (r.n < 0 ∨ 999 < r.n)) (h3 : t = r.n + 1) (h4 : ¬ keyBad r = true) (h5 : ¬ (r.n = 0 ∧ ofP r.pu ≠ r.au)) (h6 : hasR L r.id = false) : addE L r k t = 0 := by rw [addE, if_neg (fun g => g h), if_neg h2, if_neg (fun g => g h3), if_neg h4, if_neg h5, if_neg (by rw [h6]; decide)]
theorem add_any (r : RO) (kind to : Int) (body : List UInt8) [HasKc K] (hI : KInv MK MR L) (hlen : L.length < 60000) (hs : Sat K w (F :: Rs)) [hw : KrL p MK MR F] : Ret Tryz.prog 15 #[ptr p, idV r.id.1, .agg (encCt r body).toArray, .agg (encCm kind to r.nw).toArray] w fun v w' => v = .int .i64 (addE L r kind to) ∧ AddP K Rs p (addL L r kind to) w' := by
 have e1 := encV_len r.id
 have hsame : ∀ {w'}, addE L r kind to ≠ 0 → Sat K w' (F :: Rs) → AddP K Rs p (addL L r kind to) w' := fun h1 h2 => ⟨MK, MR, F, by rw [addL, if_neg h1]; exact hI, hw, h2⟩
 refine Ret.enter (n := 98) (args := [ptr p, idV r.id.1, .agg (encCt r body).toArray, .agg (encCm kind to r.nw).toArray]) Tryz.func15 rfl rfl ?_
 refine C.keep [(0, _), (1, _), (2, _), (3, _)] ⟨rfl, rfl, rfl, rfl, trivial⟩ (C.seq (C.region ?_))
 refine R.sboxA hs rfl rfl ?_
 intro b5 w5 hs
 refine R.sboxA hs rfl rfl ?_
 intro b6 w6 hs
 refine R.sboxA hs rfl rfl ?_
 intro b7 w7 hs
 refine R.ev rfl (E.assign rfl) (R.done (X.keep [(0, _), (5, _), (6, _), (7, _)] ⟨rfl, rfl, rfl, rfl, trivial⟩ (X.next (C.seq (C.block (C.seq (C.region (R.ev rfl (E.move rfl) ?_))))))))
 refine R.ev rfl (E.eqlNilF rfl rfl Tryz.underlying24) (R.ev rfl (E.assign rfl) (R.done (X.keep [(0, _), (5, _), (6, _), (7, _), (9, _)] ⟨rfl, rfl, rfl, rfl, rfl, trivial⟩ (X.next (C.cfalse rfl (C.seq (C.region (R.ev rfl (E.fieldAddr0 0 rfl Tryz.underlying60 rfl Tryz.sz3 rfl) ?_))))))))
 refine R.ev rfl (E.load1 rfl Tryz.underlying3 rfl (by exact hs.ldc)) (R.ev rfl (E.neq rfl rfl) (R.ev rfl (E.assign rfl) (R.done (X.keep [(0, _), (5, _), (6, _), (7, _), (12, _)] ⟨rfl, rfl, rfl, rfl, rfl, trivial⟩ (X.next ?_)))))
 refine C.cdec rfl (fun h12 => ?_) (fun h12 => ?_)
 refine C.seq (C.region (R.ev rfl (E.assign rfl) (R.done (X.keep [(8, _)] ⟨rfl, trivial⟩ (X.next (C.ret (X.blockRet (X.thenRet ?_))))))))
 refine X.ret1 rfl rfl ?_
 exact ⟨by rw [addE_k h12], hsame (by rw [addE_k h12]; decide) hs.to⟩
 refine C.seq (C.region ?_)
 have hk5 := Decidable.not_not.1 h12
 refine R.ev rfl (E.fieldAddr0 55 rfl Tryz.underlying57 rfl Tryz.sz3 rfl) (R.ev rfl (E.load1 rfl Tryz.underlying3 rfl (by exact hs.ldc)) (R.ev rfl (E.lss rfl rfl) (R.ev rfl (E.move rfl) ?_)))
 refine R.split 20 rfl (fun h20 => ?_) (fun h20 => ?_)
 refine R.gskip rfl rfl rfl (R.gskip rfl rfl rfl (R.gskip rfl rfl rfl (R.ev rfl (E.pickT rfl rfl) (R.ev rfl (E.assign rfl) (R.done (X.keep [(0, _), (5, _), (6, _), (7, _), (16, _)] ⟨rfl, rfl, rfl, rfl, rfl, trivial⟩ (X.next (C.ctrue rfl ?_))))))))
 refine C.seq (C.region (R.ev rfl (E.assign rfl) (R.done (X.keep [(8, _)] ⟨rfl, trivial⟩ (X.next (C.ret (X.blockRet (X.thenRet ?_))))))))
 refine X.ret1 rfl rfl ?_
 have hr : r.n < 0 ∨ 999 < r.n := by
   exact .inl (of_decide_eq_true h20)
 exact ⟨by rw [addE_n hk5 hr], hsame (by rw [addE_n hk5 hr]; decide) hs.to⟩
 refine R.gyes rfl rfl (R.ev rfl (E.fieldAddr0 55 rfl Tryz.underlying57 rfl Tryz.sz3 rfl) (R.gyes rfl rfl (R.ev rfl (E.load1 rfl Tryz.underlying3 rfl (by exact hs.ldc)) (R.gyes rfl rfl (R.ev rfl (E.geq rfl rfl) (R.ev rfl (E.pickF rfl rfl) (R.ev rfl (E.assign rfl) (R.done ?_))))))))
 refine X.keep [(0, _), (5, _), (6, _), (7, _), (16, _)] ⟨rfl, rfl, rfl, rfl, rfl, trivial⟩ (X.next ?_)
 refine C.cdec rfl (fun h16 => ?_) (fun h16 => ?_)
 refine C.seq (C.region (R.ev rfl (E.assign rfl) (R.done (X.keep [(8, _)] ⟨rfl, trivial⟩ (X.next (C.ret (X.blockRet (X.thenRet ?_))))))))
 refine X.ret1 rfl rfl ?_
 have hr : r.n < 0 ∨ 999 < r.n := by
   exact .inr (by omega)
 exact ⟨by rw [addE_n hk5 hr], hsame (by rw [addE_n hk5 hr]; decide) hs.to⟩
 refine C.seq (C.region ?_)
 have hr : ¬ (r.n < 0 ∨ 999 < r.n) := by have := of_decide_eq_false h20; omega
 refine R.ev rfl (E.fieldAddr0 38 rfl Tryz.underlying60 rfl Tryz.sz3 rfl) (R.ev rfl (E.load1 rfl Tryz.underlying3 rfl (by exact hs.ldc)) (R.ev rfl (E.fieldAddr0 55 rfl Tryz.underlying57 rfl Tryz.sz3 rfl) (R.ev rfl (E.load1 rfl Tryz.underlying3 rfl (by exact hs.ldc)) (R.ev rfl (E.add rfl rfl (by omega) (by omega)) (R.ev rfl (E.neq rfl rfl) (R.ev rfl (E.assign rfl) (R.done (X.keep [(0, _), (5, _), (6, _), (7, _), (25, _)] ⟨rfl, rfl, rfl, rfl, rfl, trivial⟩ ?_))))))))
 refine X.next ?_
 refine C.cdec rfl (fun h25 => ?_) (fun h25 => ?_)
 refine C.seq (C.region (R.ev rfl (E.assign rfl) (R.done (X.keep [(8, _)] ⟨rfl, trivial⟩ (X.next (C.ret (X.blockRet (X.thenRet ?_))))))))
 refine X.ret1 rfl rfl ?_
 exact ⟨by rw [addE_t hk5 hr h25], hsame (by rw [addE_t hk5 hr h25]; decide) hs.to⟩
 refine C.seq (C.region ?_)
 have ht := Decidable.not_not.1 h25
 refine R.ev rfl (E.fieldAddr0 56 rfl Tryz.underlying57 rfl Tryz.sz35 rfl) (R.ev rfl (E.loadRowC rfl Tryz.underlying35 rfl Tryz.sz35 (by exact hs.ldp)) ?_)
 refine R.call ⟨_, _, Tryz.func32, rfl, by kernel_rfl⟩ rfl rfl (check_any r.pu hs) ?_
 rintro _ w92 ⟨rfl, hs⟩
 refine R.ev rfl ((E.neq rfl rfl).isB (c := !(fine r.pu)) (by cases fine r.pu <;> rfl)) ?_
 refine R.ev rfl (E.move rfl) ?_
 refine R.split 37 rfl (fun h37 => ?_) (fun h37 => ?_)
 refine R.gskip rfl rfl rfl (R.gskip rfl rfl rfl (R.gskip rfl rfl rfl (R.gskip rfl rfl rfl (R.ev rfl (E.pickT rfl rfl) (R.ev rfl (E.move rfl) (R.gskip rfl rfl rfl (R.gskip rfl rfl rfl (R.gskip rfl rfl rfl ?_))))))))
 refine R.gskip rfl rfl rfl (R.gskip rfl rfl rfl (R.ev rfl (E.pickT rfl rfl) (R.ev rfl (E.assign rfl) (R.done (X.keep [(0, _), (5, _), (6, _), (7, _), (32, _)] ⟨rfl, rfl, rfl, rfl, rfl, trivial⟩ (X.next (C.ctrue rfl (C.seq ?_))))))))
 refine C.region (R.ev rfl (E.assign rfl) (R.done (X.keep [(8, _)] ⟨rfl, trivial⟩ (X.next (C.ret (X.blockRet (X.thenRet (X.ret1 rfl rfl ?_))))))))
 have hb : keyBad r = true := by
   exact kb_pu (by simpa using h37)
 exact ⟨by rw [addE_b hk5 hr ht hb], hsame (by rw [addE_b hk5 hr ht hb]; decide) hs.to⟩
 refine R.gyes rfl rfl (R.ev rfl (E.fieldAddr0 39 rfl Tryz.underlying60 rfl Tryz.sz35 rfl) (R.gyes rfl rfl (R.ev rfl (E.loadRowC rfl Tryz.underlying35 rfl Tryz.sz35 (by exact hs.ldp)) (R.gyes rfl rfl ?_))))
 refine R.call ⟨_, _, Tryz.func32, rfl, by kernel_rfl⟩ rfl rfl (check_any r.nw hs) ?_
 rintro _ w97 ⟨rfl, hs⟩
 refine R.gyes rfl rfl ?_
 refine R.ev rfl ((E.neq rfl rfl).isB (c := !(fine r.nw)) (by cases fine r.nw <;> rfl)) ?_
 refine R.ev rfl (E.pickF rfl rfl) (R.ev rfl (E.move rfl) ?_)
 refine R.split 43 rfl (fun h43 => ?_) (fun h43 => ?_)
 refine R.gskip rfl rfl rfl (R.gskip rfl rfl rfl (R.gskip rfl rfl rfl (R.gskip rfl rfl rfl (R.gskip rfl rfl rfl (R.ev rfl (E.pickT rfl rfl) (R.ev rfl (E.assign rfl) (R.done (X.keep [(0, _), (5, _), (6, _), (7, _), (32, _)] ⟨rfl, rfl, rfl, rfl, rfl, trivial⟩ ?_))))))))
 refine X.next (C.ctrue rfl (C.seq (C.region (R.ev rfl (E.assign rfl) (R.done (X.keep [(8, _)] ⟨rfl, trivial⟩ (X.next (C.ret ?_))))))))
 refine X.blockRet (X.thenRet (X.ret1 rfl rfl ?_))
 have hb : keyBad r = true := by
   exact kb_nw (by simpa using h43)
 exact ⟨by rw [addE_b hk5 hr ht hb], hsame (by rw [addE_b hk5 hr ht hb]; decide) hs.to⟩
 refine R.gyes rfl rfl (R.ev rfl (E.fieldAddr0 56 rfl Tryz.underlying57 rfl Tryz.sz35 rfl) (R.gyes rfl rfl (R.ev rfl (E.loadRowC rfl Tryz.underlying35 rfl Tryz.sz35 (by exact hs.ldp)) (R.gyes rfl rfl (R.ev rfl (E.fieldAddr0 39 rfl Tryz.underlying60 rfl Tryz.sz35 rfl) (R.gyes rfl rfl (R.ev rfl (E.loadRowC rfl Tryz.underlying35 rfl Tryz.sz35 (by exact hs.ldp)) (R.gyes rfl rfl ?_))))))))
 refine R.ev rfl ((E.eqlAgg 10 rfl rfl Tryz.lv35 rfl Tryz.underlying35 rfl Tryz.gd35 (encP_fits r.pu) (encP_fits r.nw)).isB (c := decide (r.pu = r.nw)) encP_eq) ?_
 refine R.ev rfl (E.pickF rfl rfl) (R.ev rfl (E.assign rfl) (R.done (X.keep [(0, _), (5, _), (6, _), (7, _), (32, _)] ⟨rfl, rfl, rfl, rfl, rfl, trivial⟩ (X.next ?_))))
 refine C.cdec rfl (fun h32 => ?_) (fun h32 => ?_)
 refine C.seq (C.region (R.ev rfl (E.assign rfl) (R.done (X.keep [(8, _)] ⟨rfl, trivial⟩ (X.next (C.ret (X.blockRet (X.thenRet ?_))))))))
 refine X.ret1 rfl rfl ?_
 have hb : keyBad r = true := by
   exact kb_eq h32
 exact ⟨by rw [addE_b hk5 hr ht hb], hsame (by rw [addE_b hk5 hr ht hb]; decide) hs.to⟩
 refine C.seq ?_
 refine C.drawn (SatS hs) ([1, 5, 8], [0, 2, 3, 4, 6, 7, 9, 10, 11, 12]) (by kernel_rfl) ?_
 have hs := hs.drew
 have hf1 : fine r.pu = true := by simpa using h37
 have hf2 : fine r.nw = true := by simpa using h43
 have hh := fine_h hf1
 refine D.evP 0 rfl (by kernel_rfl) rfl (fun _ => hs.to) (fun _ => E.fieldAddr0 73 rfl Tryz.underlying57 rfl Tryz.sz3 rfl) (D.ev 1 rfl (by kernel_rfl) rfl hs.to (fun _ hS => E.load1 rfl Tryz.underlying3 rfl (by exact hS.ldc)) (D.evP 2 rfl (by kernel_rfl) rfl (fun _ => hs.to) (fun _ => E.lss rfl rfl) (D.evP 3 rfl (by kernel_rfl) rfl (fun _ => hs.to) (fun _ => E.move rfl) ?_)))
 refine D.split 54 rfl (fun h54 => ?_) (fun h54 => ?_)
 refine D.skipP 4 rfl (by kernel_rfl) rfl rfl rfl (fun _ => hs.to) (D.skipP 6 rfl (by kernel_rfl) rfl rfl rfl (fun _ => hs.to) (D.skipP 7 rfl (by kernel_rfl) rfl rfl rfl (fun _ => hs.to) (D.skip 5 rfl (by kernel_rfl) rfl rfl rfl hs.to (D.skip 8 rfl (by kernel_rfl) rfl rfl rfl hs.to (D.skipP 9 rfl (by kernel_rfl) rfl rfl rfl (fun _ => hs.to) (D.skipP 10 rfl (by kernel_rfl) rfl rfl rfl (fun _ => hs.to) (D.evP 11 rfl (by kernel_rfl) rfl (fun _ => hs.to) (fun _ => E.pickT rfl rfl) (D.evP 12 rfl (by kernel_rfl) rfl (fun _ => hs.to) (fun _ => E.assign rfl) ?_))))))))
 refine D.done rfl (by kernel_rfl) (X.keep [(0, _), (5, _), (6, _), (7, _), (50, _)] ⟨rfl, rfl, rfl, rfl, rfl, trivial⟩ (X.next (C.ctrue rfl (C.seq (C.region (R.ev rfl (E.assign rfl) (R.done (X.keep [(8, _)] ⟨rfl, trivial⟩ ?_))))))))
 refine X.next (C.ret (X.blockRet (X.thenRet (X.ret1 rfl rfl ?_))))
 have hb : keyBad r = true := by
   exact kb_neg (of_decide_eq_true h54)
 exact ⟨by rw [addE_b hk5 hr ht hb], hsame (by rw [addE_b hk5 hr ht hb]; decide) hs.to⟩
 refine D.evPG 4 rfl (by kernel_rfl) rfl rfl rfl (fun _ => hs.to) (fun _ => E.fieldAddr0 73 rfl Tryz.underlying57 rfl Tryz.sz3 rfl) (D.evPG 6 rfl (by kernel_rfl) rfl rfl rfl (fun _ => hs.to) (fun _ => E.fieldAddr0 56 rfl Tryz.underlying57 rfl Tryz.sz35 rfl) (D.evPG 7 rfl (by kernel_rfl) rfl rfl rfl (fun _ => hs.to) (fun _ => E.fieldAddrN 0 rfl Tryz.underlying35 rfl Tryz.sz3 rfl) (D.evG 5 rfl (by kernel_rfl) rfl rfl rfl hs.to (fun _ hS => E.load1 rfl Tryz.underlying3 rfl (by exact hS.ldc)) ?_)))
 refine D.evG 8 rfl (by kernel_rfl) rfl rfl rfl hs.to (fun _ hS => E.load1 rfl Tryz.underlying3 rfl (hS.ldc (b := b6) (i := 56))) ?_
 refine D.evPG 9 rfl (by kernel_rfl) rfl rfl rfl (fun _ => hs.to) (fun _ => (E.shl rfl rfl (by omega)).isI (c := (2 : Int) ^ r.pu.h.toNat) (shl_h hf1)) ?_
 refine D.evPG 10 rfl (by kernel_rfl) rfl rfl rfl (fun _ => hs.to) (fun _ => E.geq rfl rfl) (D.evP 11 rfl (by kernel_rfl) rfl (fun _ => hs.to) (fun _ => E.pickF rfl rfl) (D.evP 12 rfl (by kernel_rfl) rfl (fun _ => hs.to) (fun _ => E.assign rfl) (D.done rfl (by kernel_rfl) (X.keep [(0, _), (5, _), (6, _), (7, _), (50, _)] ⟨rfl, rfl, rfl, rfl, rfl, trivial⟩ (X.next ?_)))))
 refine C.cdec rfl (fun h50 => ?_) (fun h50 => ?_)
 refine C.seq (C.region (R.ev rfl (E.assign rfl) (R.done (X.keep [(8, _)] ⟨rfl, trivial⟩ (X.next (C.ret (X.blockRet (X.thenRet ?_))))))))
 refine X.ret1 rfl rfl ?_
 have hb : keyBad r = true := by
   exact kb_big h50
 exact ⟨by rw [addE_b hk5 hr ht hb], hsame (by rw [addE_b hk5 hr ht hb]; decide) hs.to⟩
 refine C.seq (C.region ?_)
 have hb : ¬ keyBad r = true := kb_no hf1 hf2 h32 (of_decide_eq_false h54) h50
 refine R.ev rfl (E.fieldAddr0 55 rfl Tryz.underlying57 rfl Tryz.sz3 rfl) (R.ev rfl (E.load1 rfl Tryz.underlying3 rfl (by exact hs.ldc)) (R.ev rfl (E.eql rfl rfl) (R.ev rfl (E.move rfl) ?_)))
 refine R.split 67 rfl (fun h67 => ?_) (fun h67 => ?_)
 refine R.gyes rfl rfl (R.ev rfl (E.fieldAddr0 1 rfl Tryz.underlying57 rfl Tryz.sz54 rfl) (R.gyes rfl rfl (R.ev rfl (E.loadRowC rfl Tryz.underlying54 rfl Tryz.sz54 (by exact ⟨hs.ldM rfl rfl, by exact encV_len _⟩)) (R.gyes rfl rfl (R.ev rfl (E.fieldAddr0 56 rfl Tryz.underlying57 rfl Tryz.sz35 rfl) (R.gyes rfl rfl (R.ev rfl (E.loadRowC rfl Tryz.underlying35 rfl Tryz.sz35 (by exact hs.ldp)) (R.gyes rfl rfl ?_))))))))
 refine R.call ⟨_, _, Tryz.func33, rfl, by kernel_rfl⟩ rfl rfl (isFirst_any r.au r.pu hs) ?_
 rintro _ w138 ⟨rfl, hs⟩
 refine R.gyes rfl rfl ?_
 refine R.ev rfl ((E.not rfl).isB (c := decide (ofP r.pu ≠ r.au)) (by rw [hf1]; simp)) ?_
 refine R.ev rfl (E.pickT rfl rfl) (R.ev rfl (E.assign rfl) (R.done (X.keep [(0, _), (5, _), (6, _), (7, _), (63, _)] ⟨rfl, rfl, rfl, rfl, rfl, trivial⟩ (X.next ?_))))
 refine C.cdec rfl (fun h63 => ?_) (fun h63 => ?_)
 refine C.seq (C.region (R.ev rfl (E.assign rfl) (R.done (X.keep [(8, _)] ⟨rfl, trivial⟩ (X.next (C.ret (X.blockRet (X.thenRet ?_))))))))
 refine X.ret1 rfl rfl ?_
 have ha : r.n = 0 ∧ ofP r.pu ≠ r.au := ⟨of_decide_eq_true h67, h63⟩
 exact ⟨by rw [addE_a hk5 hr ht hb ha], hsame (by rw [addE_a hk5 hr ht hb ha]; decide) hs.to⟩
 refine C.seq (C.region ?_)
 have ha : ¬ (r.n = 0 ∧ ofP r.pu ≠ r.au) := by
   exact fun g => h63 g.2
 refine R.ev rfl (E.move rfl) (R.ev rfl (E.loadRowC rfl Tryz.underlying37 rfl Tryz.sz37 (by exact ⟨hs.ldA, by assumption⟩)) ?_)
 refine R.call ⟨_, _, Tryz.func34, rfl, by kernel_rfl⟩ rfl rfl (has_any r.id hI hs) ?_
 rintro _ w152 ⟨rfl, hs⟩
 refine R.ev rfl (E.assign rfl) (R.done (X.keep [(0, _), (5, _), (6, _), (7, _), (75, _)] ⟨rfl, rfl, rfl, rfl, rfl, trivial⟩ (X.next ?_)))
 refine C.cbool rfl (fun h75 => ?_) (fun h75 => ?_)
 refine C.seq (C.region (R.ev rfl (E.assign rfl) (R.done (X.keep [(8, _)] ⟨rfl, trivial⟩ (X.next (C.ret (X.blockRet (X.thenRet ?_))))))))
 refine X.ret1 rfl rfl ?_
 exact ⟨by rw [addE_d hk5 hr ht hb ha h75], hsame (by rw [addE_d hk5 hr ht hb ha h75]; decide) hs.to⟩
 refine C.seq (C.region (R.ev rfl (E.move rfl) ?_))
 refine R.call ⟨_, _, Tryz.func18, rfl, by kernel_rfl⟩ rfl rfl (len_any hI hs) ?_
 rintro _ w171 ⟨rfl, hs⟩
 refine R.ev rfl ((E.geq rfl rfl).isF (by omega)) (R.ev rfl (E.assign rfl) (R.done (X.keep [(0, _), (5, _), (6, _), (7, _), (79, _)] ⟨rfl, rfl, rfl, rfl, rfl, trivial⟩ (X.next (C.cfalse rfl (C.skip (X.blockNormal (X.next ?_))))))))
 refine C.seq (C.region ?_)
 have hE := addE_0 (L := L) hk5 hr ht hb ha h75
 have hgd := (addE_zero hE).2.2.1
 have l1 := encT_len (rsl r)
 have l2 := encP_len r.pu
 have l3 := encP_len r.nw
 refine R.ev rfl (E.move rfl) (R.ev rfl (E.loadRowC rfl Tryz.underlying37 rfl Tryz.sz37 (by exact ⟨hs.ldA, by assumption⟩)) (R.ev rfl (E.fieldAddr0 1 rfl Tryz.underlying57 rfl Tryz.sz54 rfl) (R.ev rfl (E.loadRowC rfl Tryz.underlying54 rfl Tryz.sz54 (by exact ⟨hs.ldM rfl rfl, by exact encV_len _⟩)) (R.ev rfl (E.fieldAddr0 55 rfl Tryz.underlying57 rfl Tryz.sz3 rfl) (R.ev rfl (E.load1 rfl Tryz.underlying3 rfl (by exact hs.ldc)) ?_)))))
 refine R.ev rfl (E.buildG (r := encT (rsl r)) rfl Tryz.underlying88 Tryz.zr88 Tryz.ql88 (by kernel_rfl) (by kernel_rfl) ⟨⟨_, rfl, by exact vsz _⟩, ⟨_, rfl, by rfl⟩, trivial⟩ (by rfl)) ?_
 refine R.ev rfl (E.fieldAddr0 56 rfl Tryz.underlying57 rfl Tryz.sz35 rfl) (R.ev rfl (E.loadRowC rfl Tryz.underlying35 rfl Tryz.sz35 (by exact hs.ldp)) (R.ev rfl (E.fieldAddr0 73 rfl Tryz.underlying57 rfl Tryz.sz3 rfl) (R.ev rfl (E.load1 rfl Tryz.underlying3 rfl (by exact hs.ldc)) (R.ev rfl (E.fieldAddr0 39 rfl Tryz.underlying60 rfl Tryz.sz35 rfl) (R.ev rfl (E.loadRowC rfl Tryz.underlying35 rfl Tryz.sz35 (by exact hs.ldp)) ?_)))))
 refine R.ev rfl (E.buildG (r := encO r) rfl Tryz.underlying90 Tryz.zr90 Tryz.ql90 (by kernel_rfl) (by kernel_rfl) ⟨⟨_, rfl, by exact vsz _⟩, ⟨_, rfl, by simp [Value.cells, *]⟩, ⟨_, rfl, by simp [Value.cells, *]⟩, ⟨_, rfl, by rfl⟩, ⟨_, rfl, by simp [Value.cells, *]⟩, trivial⟩ (by simp [setF, fieldsOf, Value.cells, encO, encT, rsl])) ?_
 refine R.call ⟨_, _, Tryz.func35, rfl, by kernel_rfl⟩ rfl rfl (insert_any hgd h75 hI (by omega) (hs.front (F := F))) ?_
 rintro v1914 w1914 ⟨MK2, MR2, F2, hI2, hw2, hs1⟩
 have hs := hs.back (F := F) hs1
 refine R.done (X.keep [] trivial (X.next (C.seq (C.region (R.ev rfl (E.assign rfl) (R.done (X.keep [(8, _)] ⟨rfl, trivial⟩ (X.next ?_))))))))
 refine C.ret (X.ret1 rfl rfl ?_)
 exact ⟨by rw [hE], MK2, MR2, F2, by rw [addL, if_pos hE]; exact hI2, hw2, hs.to⟩
 refine R.gskip rfl rfl rfl (R.gskip rfl rfl rfl (R.gskip rfl rfl rfl (R.gskip rfl rfl rfl (R.gskip rfl rfl rfl (R.gskip rfl rfl rfl (R.ev rfl (E.pickF rfl rfl) (R.ev rfl (E.assign rfl) (R.done ?_))))))))
 refine X.keep [(0, _), (5, _), (6, _), (7, _), (63, _)] ⟨rfl, rfl, rfl, rfl, rfl, trivial⟩ (X.next (C.cfalse rfl (C.seq (C.region ?_))))
 have ha : ¬ (r.n = 0 ∧ ofP r.pu ≠ r.au) := by
   exact fun g => of_decide_eq_false h67 g.1
 refine R.ev rfl (E.move rfl) (R.ev rfl (E.loadRowC rfl Tryz.underlying37 rfl Tryz.sz37 (by exact ⟨hs.ldA, by assumption⟩)) ?_)
 refine R.call ⟨_, _, Tryz.func34, rfl, by kernel_rfl⟩ rfl rfl (has_any r.id hI hs) ?_
 rintro _ w152 ⟨rfl, hs⟩
 refine R.ev rfl (E.assign rfl) (R.done (X.keep [(0, _), (5, _), (6, _), (7, _), (75, _)] ⟨rfl, rfl, rfl, rfl, rfl, trivial⟩ (X.next ?_)))
 refine C.cbool rfl (fun h75 => ?_) (fun h75 => ?_)
 refine C.seq (C.region (R.ev rfl (E.assign rfl) (R.done (X.keep [(8, _)] ⟨rfl, trivial⟩ (X.next (C.ret (X.blockRet (X.thenRet ?_))))))))
 refine X.ret1 rfl rfl ?_
 exact ⟨by rw [addE_d hk5 hr ht hb ha h75], hsame (by rw [addE_d hk5 hr ht hb ha h75]; decide) hs.to⟩
 refine C.seq (C.region (R.ev rfl (E.move rfl) ?_))
 refine R.call ⟨_, _, Tryz.func18, rfl, by kernel_rfl⟩ rfl rfl (len_any hI hs) ?_
 rintro _ w171 ⟨rfl, hs⟩
 refine R.ev rfl ((E.geq rfl rfl).isF (by omega)) (R.ev rfl (E.assign rfl) (R.done (X.keep [(0, _), (5, _), (6, _), (7, _), (79, _)] ⟨rfl, rfl, rfl, rfl, rfl, trivial⟩ (X.next (C.cfalse rfl (C.skip (X.blockNormal (X.next ?_))))))))
 refine C.seq (C.region ?_)
 have hE := addE_0 (L := L) hk5 hr ht hb ha h75
 have hgd := (addE_zero hE).2.2.1
 have l1 := encT_len (rsl r)
 have l2 := encP_len r.pu
 have l3 := encP_len r.nw
 refine R.ev rfl (E.move rfl) (R.ev rfl (E.loadRowC rfl Tryz.underlying37 rfl Tryz.sz37 (by exact ⟨hs.ldA, by assumption⟩)) (R.ev rfl (E.fieldAddr0 1 rfl Tryz.underlying57 rfl Tryz.sz54 rfl) (R.ev rfl (E.loadRowC rfl Tryz.underlying54 rfl Tryz.sz54 (by exact ⟨hs.ldM rfl rfl, by exact encV_len _⟩)) (R.ev rfl (E.fieldAddr0 55 rfl Tryz.underlying57 rfl Tryz.sz3 rfl) (R.ev rfl (E.load1 rfl Tryz.underlying3 rfl (by exact hs.ldc)) ?_)))))
 refine R.ev rfl (E.buildG (r := encT (rsl r)) rfl Tryz.underlying88 Tryz.zr88 Tryz.ql88 (by kernel_rfl) (by kernel_rfl) ⟨⟨_, rfl, by exact vsz _⟩, ⟨_, rfl, by rfl⟩, trivial⟩ (by rfl)) ?_
 refine R.ev rfl (E.fieldAddr0 56 rfl Tryz.underlying57 rfl Tryz.sz35 rfl) (R.ev rfl (E.loadRowC rfl Tryz.underlying35 rfl Tryz.sz35 (by exact hs.ldp)) (R.ev rfl (E.fieldAddr0 73 rfl Tryz.underlying57 rfl Tryz.sz3 rfl) (R.ev rfl (E.load1 rfl Tryz.underlying3 rfl (by exact hs.ldc)) (R.ev rfl (E.fieldAddr0 39 rfl Tryz.underlying60 rfl Tryz.sz35 rfl) (R.ev rfl (E.loadRowC rfl Tryz.underlying35 rfl Tryz.sz35 (by exact hs.ldp)) ?_)))))
 refine R.ev rfl (E.buildG (r := encO r) rfl Tryz.underlying90 Tryz.zr90 Tryz.ql90 (by kernel_rfl) (by kernel_rfl) ⟨⟨_, rfl, by exact vsz _⟩, ⟨_, rfl, by simp [Value.cells, *]⟩, ⟨_, rfl, by simp [Value.cells, *]⟩, ⟨_, rfl, by rfl⟩, ⟨_, rfl, by simp [Value.cells, *]⟩, trivial⟩ (by simp [setF, fieldsOf, Value.cells, encO, encT, rsl])) ?_
 refine R.call ⟨_, _, Tryz.func35, rfl, by kernel_rfl⟩ rfl rfl (insert_any hgd h75 hI (by omega) (hs.front (F := F))) ?_
 rintro v1914 w1914 ⟨MK2, MR2, F2, hI2, hw2, hs1⟩
 have hs := hs.back (F := F) hs1
 refine R.done (X.keep [] trivial (X.next (C.seq (C.region (R.ev rfl (E.assign rfl) (R.done (X.keep [(8, _)] ⟨rfl, trivial⟩ (X.next ?_))))))))
 refine C.ret (X.ret1 rfl rfl ?_)
 exact ⟨by rw [hE], MK2, MR2, F2, by rw [addL, if_pos hE]; exact hI2, hw2, hs.to⟩
end Go.Proofs.YtbkgibgomohdjaaGreatDoor
