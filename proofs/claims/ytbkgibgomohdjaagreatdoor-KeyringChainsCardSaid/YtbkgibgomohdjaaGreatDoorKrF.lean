/-
 Chapter 19, the reference: compare, Fine, less, Has, Add.
-/
import Derived.Test.YtbkgibgomohdjaaGreatDoorKrE
namespace Go.Eng
open Go.RowKit
section
variable {P : Program} {n : Nn} {g : Env} {w : World} {dst : Option Nat} {ty : TypeId} {pos : String} {af : Array Edge} {gu : Option (Nat × Bool)} {x y : Operand} {t t' : TypeId}
theorem E.indexAddr1 (i : Nat) {b off len cap : Nat} {j : Int} {k : IntKind} {e : TypeId} (hx : look g x = some (.slice (some ⟨b, off, none⟩) len cap)) (hy : look g y = some (.int k j)) (hu : P.underlying t = some (.slice e)) (hs : szOf P e = some 1) (hj : j = (i : Int)) (hi : i < len) :
   Ev P n g ⟨dst, .indexAddr t x y, ty, pos, af, gu⟩ w (.pointer (some ⟨b, off + i, none⟩)) := by
 have := E.indexAddr (w := w) (n := n) (dst := dst) (ty := ty) (pos := pos) (af := af) (gu := gu) hx hy hu hs hj hi
 rwa [Nat.mul_one] at this
end
theorem cmpL_lt : ∀ (a b : List UInt8) (k : Nat) {x y : UInt8}, a.take k = b.take k → a[k]? = some x → b[k]? = some y → x < y → cmpL a b = -1
 | [], _, k, x, y, _, h, _, _ => by simp at h
 | _ :: _, [], k, x, y, _, _, h, _ => by simp at h
 | u :: a, v :: b, 0, x, y, _, h1, h2, h => by simp at h1 h2; subst h1 h2; simp [cmpL, h]
 | u :: a, v :: b, k + 1, x, y, h0, h1, h2, h => by
   simp only [List.take_succ_cons, List.cons.injEq] at h0
   obtain ⟨rfl, h0⟩ := h0
   have := cmpL_lt a b k h0 (by simpa using h1) (by simpa using h2) h
   simpa [cmpL, UInt8.lt_irrefl] using this
theorem cmpL_gt : ∀ (a b : List UInt8) (k : Nat) {x y : UInt8}, a.take k = b.take k → a[k]? = some x → b[k]? = some y → y < x → cmpL a b = 1
 | [], _, k, x, y, _, h, _, _ => by simp at h
 | _ :: _, [], k, x, y, _, _, h, _ => by simp at h
 | u :: a, v :: b, 0, x, y, _, h1, h2, h => by
   simp at h1 h2; subst h1 h2
   have : ¬ u < v := fun g => UInt8.lt_asymm h g
   simp [cmpL, h, this]
 | u :: a, v :: b, k + 1, x, y, h0, h1, h2, h => by
   simp only [List.take_succ_cons, List.cons.injEq] at h0
   obtain ⟨rfl, h0⟩ := h0
   have := cmpL_gt a b k h0 (by simpa using h1) (by simpa using h2) h
   simpa [cmpL, UInt8.lt_irrefl] using this
end Go.Eng
namespace Go.Proofs.YtbkgibgomohdjaaGreatDoor
open Go.Eng Go.RowKit Go.Sort
variable {K : Kn} {Hs Rs : List Hl} {F : Hl} {w : World} {v : Value} {L : List RO}
theorem u8_not {x y : UInt8} (h1 : ¬ ((x.toNat : Int) < y.toNat)) (h2 : ¬ ((y.toNat : Int) < x.toNat)) : x = y := UInt8.toNat_inj.1 (by omega)
theorem rcompare_any {m b1 o1 c1 b2 o2 c2 : Nat} (a b : Vec m) (hm : m < 1000) (hs : Sat K w Hs) (hA : ∀ w', Sat K w' Hs → At w' b1 o1 (a.1.map ub)) (hB : ∀ w', Sat K w' Hs → At w' b2 o2 (b.1.map ub)) : Ret Tryz.prog 27 #[.slice (some ⟨b1, o1, none⟩) m c1, .slice (some ⟨b2, o2, none⟩) m c2] w fun v w' => v = .int .i64 (cmpL a.1 b.1) ∧ Sat K w' Hs := by
 have ha := a.2
 have hb := b.2
 refine Ret.enter (n := 41) (args := [.slice (some ⟨b1, o1, none⟩) m c1, .slice (some ⟨b2, o2, none⟩) m c2]) Tryz.func27 rfl rfl ?_
 refine C.keep [(0, _), (1, _)] ⟨rfl, rfl, trivial⟩ (C.seq (C.region (R.ev rfl (E.assign rfl) (R.done (X.keep [(0, _), (1, _)] ⟨rfl, rfl, trivial⟩ (X.next (C.seq (C.seq ?_))))))))
 refine C.region (R.ev rfl (E.assign rfl) (R.done (X.keep [(0, _), (1, _), (5, _)] ⟨rfl, rfl, rfl, trivial⟩ (X.next (C.block ?_)))))
 refine C.loop  [(0, _), (1, _)] (fun k => [(5, .int .i64 (k : Nat))]) (fun k w' => k ≤ m ∧ a.1.take k = b.1.take k ∧ Sat K w' Hs) (fun k => m - k) (0) ⟨rfl, rfl, rfl, trivial⟩ ⟨Nat.zero_le _, rfl, hs⟩ ?_
 rintro k w1 ⟨hk, htk, hs⟩
 refine C.keep [(0, _), (1, _), (5, _)] ⟨rfl, rfl, rfl, trivial⟩ (C.seq (C.seq (C.region (R.ev rfl (E.move rfl) (R.ev rfl (E.move rfl) (R.ev rfl (E.lenSl rfl Tryz.underlying80) (R.ev rfl (E.lss rfl rfl) (R.ev rfl (E.move rfl) ?_))))))))
 refine R.split 10 rfl (fun h10 => ?_) (fun h10 => ?_)
 refine R.gyes rfl rfl (R.ev rfl (E.move rfl) (R.gyes rfl rfl (R.ev rfl (E.move rfl) (R.gyes rfl rfl (R.ev rfl (E.lenSl rfl Tryz.underlying80) (R.gyes rfl rfl ?_))))))
 refine R.ev rfl ((E.lss rfl rfl).isB (c := true) (by have := of_decide_eq_true h10; exact decide_eq_true (by omega))) ?_
 refine R.ev rfl (E.pickT rfl rfl) (R.done (X.keep [(0, _), (1, _), (5, _), (15, _)] ⟨rfl, rfl, rfl, rfl, trivial⟩ (X.next (C.ctrue rfl (C.skip (X.next (C.seq (C.block ?_))))))))
 refine C.seq (C.seq ?_)
 refine C.drawn (SatS hs) ([3, 7], [0, 1, 2, 4, 5, 6, 8]) (by kernel_rfl) ?_
 have hs := hs.drew
 have hkm : k < m := by have := of_decide_eq_true h10; omega
 obtain ⟨x, hx⟩ : ∃ x, a.1[k]? = some x := ⟨_, List.getElem?_eq_getElem (by omega)⟩
 obtain ⟨y, hy⟩ : ∃ y, b.1[k]? = some y := ⟨_, List.getElem?_eq_getElem (by omega)⟩
 refine D.evP 0 rfl (by kernel_rfl) rfl (fun _ => hs.to) (fun _ => E.move rfl) (D.evP 1 rfl (by kernel_rfl) rfl (fun _ => hs.to) (fun _ => E.move rfl) ?_)
 refine D.evP 2 rfl (by kernel_rfl) rfl (fun _ => hs.to) (fun _ => E.indexAddr1 k rfl rfl Tryz.underlying80 Tryz.sz5 rfl (by have := of_decide_eq_true h10; omega)) ?_
 refine D.evP 4 rfl (by kernel_rfl) rfl (fun _ => hs.to) (fun _ => E.move rfl) (D.evP 5 rfl (by kernel_rfl) rfl (fun _ => hs.to) (fun _ => E.move rfl) ?_)
 refine D.evP 6 rfl (by kernel_rfl) rfl (fun _ => hs.to) (fun _ => E.indexAddr1 k rfl rfl Tryz.underlying80 Tryz.sz5 rfl (by have := of_decide_eq_true h10; omega)) ?_
 refine D.ev 3 rfl (by kernel_rfl) rfl hs.to (fun _ hS => E.load1 rfl Tryz.underlying5 rfl (hA _ hS k (ub x) (by rw [List.getElem?_map, hx]; rfl))) ?_
 refine D.ev 7 rfl (by kernel_rfl) rfl hs.to (fun _ hS => E.load1 rfl Tryz.underlying5 rfl (hB _ hS k (ub y) (by rw [List.getElem?_map, hy]; rfl))) ?_
 refine D.evP 8 rfl (by kernel_rfl) rfl (fun _ => hs.to) (fun _ => E.lss rfl rfl) (D.done rfl (by kernel_rfl) (X.keep [(0, _), (1, _), (5, _), (26, _)] ⟨rfl, rfl, rfl, rfl, trivial⟩ (X.next ?_)))
 refine C.cdec rfl (fun h26 => ?_) (fun h26 => ?_)
 refine C.seq (C.region (R.ev rfl (E.assign rfl) (R.done (X.keep [(4, _)] ⟨rfl, trivial⟩ (X.next (C.ret (X.thenRet (X.blockRet ?_))))))))
 refine X.thenRet (X.loopRet (X.blockRet (X.thenRet (X.ret1 rfl rfl ?_))))
 exact ⟨by rw [cmpL_lt _ _ k htk hx hy (by rw [UInt8.lt_iff_toNat_lt]; omega)], hs⟩
 refine C.skip (X.next (C.seq ?_))
 refine C.drawn (SatS hs) ([3, 7], [0, 1, 2, 4, 5, 6, 8]) (by kernel_rfl) ?_
 have hs := hs.drew
 refine D.evP 0 rfl (by kernel_rfl) rfl (fun _ => hs.to) (fun _ => E.move rfl) (D.evP 1 rfl (by kernel_rfl) rfl (fun _ => hs.to) (fun _ => E.move rfl) ?_)
 refine D.evP 2 rfl (by kernel_rfl) rfl (fun _ => hs.to) (fun _ => E.indexAddr1 k rfl rfl Tryz.underlying80 Tryz.sz5 rfl (by have := of_decide_eq_true h10; omega)) ?_
 refine D.evP 4 rfl (by kernel_rfl) rfl (fun _ => hs.to) (fun _ => E.move rfl) (D.evP 5 rfl (by kernel_rfl) rfl (fun _ => hs.to) (fun _ => E.move rfl) ?_)
 refine D.evP 6 rfl (by kernel_rfl) rfl (fun _ => hs.to) (fun _ => E.indexAddr1 k rfl rfl Tryz.underlying80 Tryz.sz5 rfl (by have := of_decide_eq_true h10; omega)) ?_
 refine D.ev 3 rfl (by kernel_rfl) rfl hs.to (fun _ hS => E.load1 rfl Tryz.underlying5 rfl (hA _ hS k (ub x) (by rw [List.getElem?_map, hx]; rfl))) ?_
 refine D.ev 7 rfl (by kernel_rfl) rfl hs.to (fun _ hS => E.load1 rfl Tryz.underlying5 rfl (hB _ hS k (ub y) (by rw [List.getElem?_map, hy]; rfl))) ?_
 refine D.evP 8 rfl (by kernel_rfl) rfl (fun _ => hs.to) (fun _ => E.gtr rfl rfl) (D.done rfl (by kernel_rfl) (X.keep [(0, _), (1, _), (5, _), (35, _)] ⟨rfl, rfl, rfl, rfl, trivial⟩ (X.next ?_)))
 refine C.cdec rfl (fun h35 => ?_) (fun h35 => ?_)
 refine C.seq (C.region (R.ev rfl (E.assign rfl) (R.done (X.keep [(4, _)] ⟨rfl, trivial⟩ (X.next (C.ret (X.blockRet (X.thenRet ?_))))))))
 refine X.loopRet (X.blockRet (X.thenRet (X.ret1 rfl rfl ?_)))
 exact ⟨by rw [cmpL_gt _ _ k htk hx hy (by rw [UInt8.lt_iff_toNat_lt]; omega)], hs⟩
 refine C.skip (X.blockNormal (X.next (C.region (R.ev rfl (E.move rfl) (R.ev rfl (E.add rfl rfl (by omega) (by omega)) (R.ev rfl (E.assign rfl) (R.done (X.keep [(0, _), (1, _), (5, _)] ⟨rfl, rfl, rfl, trivial⟩ ?_))))))))
 have hxy := u8_not h26 h35
 exact X.again (k + 1) ⟨rfl, rfl, rfl, trivial⟩ ⟨by omega, by rw [take_snoc hx, take_snoc hy, htk, hxy], hs⟩ (by omega)
 refine R.gskip rfl rfl rfl (R.gskip rfl rfl rfl (R.gskip rfl rfl rfl (R.gskip rfl rfl rfl (R.ev rfl (E.pickF rfl rfl) (R.done (X.keep [(0, _), (1, _), (5, _), (15, _)] ⟨rfl, rfl, rfl, rfl, trivial⟩ (X.next (C.cfalse rfl ?_))))))))
 refine C.exit (X.thenExit (X.loopExit (X.blockExit (X.next (C.seq (C.region (R.ev rfl (E.move rfl) (R.ev rfl (E.lenSl rfl Tryz.underlying80) ?_))))))))
 refine R.ev rfl (E.move rfl) (R.ev rfl (E.lenSl rfl Tryz.underlying80) (R.ev rfl (E.sub rfl rfl (by omega) (by omega)) (R.ev rfl (E.assign rfl) (R.done (X.keep [(4, _)] ⟨rfl, trivial⟩ (X.next (C.ret (X.ret1 rfl rfl ?_))))))))
 have hkm : k = m := by have := of_decide_eq_false h10; omega
 rw [List.take_of_length_le (by omega), List.take_of_length_le (by omega)] at htk
 exact ⟨by rw [(cmpL_zero _ _).2 htk, Int.sub_self], hs⟩
theorem rfine_any (p : PK) (hs : Sat K w Hs) : Ret Tryz.prog 50 #[.agg (encP p).toArray] w fun v w' => v = .bool (fine p) ∧ Sat K w' Hs := by
 refine Ret.enter (n := 11) (args := [.agg (encP p).toArray]) Tryz.func50 rfl rfl ?_
 refine C.keep [(0, _)] ⟨rfl, trivial⟩ (C.seq (C.region ?_))
 refine R.sboxA hs rfl rfl ?_
 intro b1 w1 hs
 refine R.ev rfl (E.assign rfl) (R.done (X.keep [(1, _)] ⟨rfl, trivial⟩ (X.next (C.seq (C.region (R.ev rfl (E.fieldAddr0 0 rfl Tryz.underlying31 rfl Tryz.sz3 rfl) (R.ev rfl (E.load1 rfl Tryz.underlying3 rfl (by exact hs.ldc)) (R.ev rfl (E.geq rfl rfl) ?_))))))))
 refine R.ev rfl (E.move rfl) ?_
 refine R.split 6 rfl (fun h6 => ?_) (fun h6 => ?_)
 refine R.gyes rfl rfl (R.ev rfl (E.fieldAddr0 0 rfl Tryz.underlying31 rfl Tryz.sz3 rfl) (R.gyes rfl rfl (R.ev rfl (E.load1 rfl Tryz.underlying3 rfl (by exact hs.ldc)) (R.gyes rfl rfl (R.ev rfl (E.leq rfl rfl) (R.ev rfl (E.pickT rfl rfl) (R.ev rfl (E.assign rfl) (R.done ?_))))))))
 refine X.keep [(2, _)] ⟨rfl, trivial⟩ (X.next (C.ret (X.ret1 rfl rfl ?_)))
 exact ⟨by rw [fine, h6]; rfl, hs.to⟩
 refine R.gskip rfl rfl rfl (R.gskip rfl rfl rfl (R.gskip rfl rfl rfl (R.ev rfl (E.pickF rfl rfl) (R.ev rfl (E.assign rfl) (R.done (X.keep [(2, _)] ⟨rfl, trivial⟩ (X.next (C.ret ?_))))))))
 refine X.ret1 rfl rfl ?_
 exact ⟨by rw [fine, h6]; rfl, hs.to⟩
theorem rless_any (p q : PK) (hs : Sat K w Hs) : Ret Tryz.prog 21 #[.agg (encP p).toArray, .agg (encP q).toArray] w fun v w' => v = .bool (ltP p q) ∧ Sat K w' Hs := by
 refine Ret.enter (n := 25) (args := [.agg (encP p).toArray, .agg (encP q).toArray]) Tryz.func21 rfl rfl ?_
 refine C.keep [(0, _), (1, _)] ⟨rfl, rfl, trivial⟩ (C.seq (C.region ?_))
 refine R.sboxA hs rfl rfl ?_
 intro b2 w2 hs
 refine R.sboxA hs rfl rfl ?_
 intro b3 w3 hs
 refine R.ev rfl (E.assign rfl) (R.done (X.keep [(2, _), (3, _)] ⟨rfl, rfl, trivial⟩ (X.next (C.seq ?_))))
 refine C.drawn (SatS hs) ([1, 3, 7, 9], [0, 2, 4, 5, 6, 8, 10, 11, 12, 13, 14, 15, 17, 18, 19, 20]) (by kernel_rfl) ?_
 have hs := hs.drew
 refine D.evP 0 rfl (by kernel_rfl) rfl (fun _ => hs.to) (fun _ => E.fieldAddr0 0 rfl Tryz.underlying31 rfl Tryz.sz3 rfl) (D.evP 2 rfl (by kernel_rfl) rfl (fun _ => hs.to) (fun _ => E.fieldAddr0 0 rfl Tryz.underlying31 rfl Tryz.sz3 rfl) (D.ev 1 rfl (by kernel_rfl) rfl hs.to (fun _ hS => E.load1 rfl Tryz.underlying3 rfl (by exact hS.ldc)) (D.ev 3 rfl (by kernel_rfl) rfl hs.to (fun _ hS => E.load1 rfl Tryz.underlying3 rfl (by exact hS.ldc)) (D.evP 4 rfl (by kernel_rfl) rfl (fun _ => hs.to) (fun _ => E.lss rfl rfl) (D.evP 5 rfl (by kernel_rfl) rfl (fun _ => hs.to) (fun _ => E.move rfl) ?_)))))
 refine D.split 10 rfl (fun h10 => ?_) (fun h10 => ?_)
 refine D.skipP 6 rfl (by kernel_rfl) rfl rfl rfl (fun _ => hs.to) (D.skipP 8 rfl (by kernel_rfl) rfl rfl rfl (fun _ => hs.to) (D.skip 7 rfl (by kernel_rfl) rfl rfl rfl hs.to (D.skip 9 rfl (by kernel_rfl) rfl rfl rfl hs.to (D.skipP 10 rfl (by kernel_rfl) rfl rfl rfl (fun _ => hs.to) (D.skipP 11 rfl (by kernel_rfl) rfl rfl rfl (fun _ => hs.to) (D.undefP 12 rfl (by kernel_rfl) rfl rfl (fun _ => hs.to) (D.undefP 13 rfl (by kernel_rfl) rfl rfl (fun _ => hs.to) (D.undefP 14 rfl (by kernel_rfl) rfl rfl (fun _ => hs.to) ?_))))))))
 refine D.undefP 15 rfl (by kernel_rfl) rfl rfl (fun _ => hs.to) (D.act 16 rfl (by kernel_rfl) (R.gundef rfl rfl (D.backT (by kernel_rfl) (D.undefP 17 rfl (by kernel_rfl) rfl rfl (np (by kernel_rfl)) (D.skipP 18 rfl (by kernel_rfl) rfl rfl rfl (np (by kernel_rfl)) (D.evP 19 rfl (by kernel_rfl) rfl (np (by kernel_rfl)) (fun _ => E.pickT rfl rfl) (D.evP 20 rfl (by kernel_rfl) rfl (np (by kernel_rfl)) (fun _ => E.assign rfl) (D.done rfl (by kernel_rfl) ?_))))))))
 refine X.keep [(4, _)] ⟨rfl, trivial⟩ (X.next (C.ret (X.ret1 rfl rfl ?_)))
 exact ⟨by rw [show ltP p q = true from lt2_iff.2 (.inl (of_decide_eq_true h10))], hs.to⟩
 refine D.evPG 6 rfl (by kernel_rfl) rfl rfl rfl (fun _ => hs.to) (fun _ => E.fieldAddr0 0 rfl Tryz.underlying31 rfl Tryz.sz3 rfl) (D.evPG 8 rfl (by kernel_rfl) rfl rfl rfl (fun _ => hs.to) (fun _ => E.fieldAddr0 0 rfl Tryz.underlying31 rfl Tryz.sz3 rfl) (D.evG 7 rfl (by kernel_rfl) rfl rfl rfl hs.to (fun _ hS => E.load1 rfl Tryz.underlying3 rfl (by exact hS.ldc)) (D.evG 9 rfl (by kernel_rfl) rfl rfl rfl hs.to (fun _ hS => E.load1 rfl Tryz.underlying3 rfl (by exact hS.ldc)) (D.evPG 10 rfl (by kernel_rfl) rfl rfl rfl (fun _ => hs.to) (fun _ => E.eql rfl rfl) (D.evPG 11 rfl (by kernel_rfl) rfl rfl rfl (fun _ => hs.to) (fun _ => E.move rfl) ?_)))))
 refine D.split 16 rfl (fun h16 => ?_) (fun h16 => ?_)
 refine D.evPG 12 rfl (by kernel_rfl) rfl rfl rfl (fun _ => hs.to) (fun _ => E.fieldAddr0 1 rfl Tryz.underlying31 rfl Tryz.sz28 rfl) (D.evPG 13 rfl (by kernel_rfl) rfl rfl rfl (fun _ => hs.to) (fun _ => E.sliceA rfl Tryz.underlying28 Tryz.sz5) (D.evPG 14 rfl (by kernel_rfl) rfl rfl rfl (fun _ => hs.to) (fun _ => E.fieldAddr0 1 rfl Tryz.underlying31 rfl Tryz.sz28 rfl) (D.evPG 15 rfl (by kernel_rfl) rfl rfl rfl (fun _ => hs.to) (fun _ => E.sliceA rfl Tryz.underlying28 Tryz.sz5) (D.act 16 rfl (by kernel_rfl) (R.gyes rfl rfl ?_)))))
 refine R.call ⟨_, _, Tryz.func27, rfl, by kernel_rfl⟩ rfl rfl (rcompare_any p.r q.r (by decide) hs (fun _ h => (h.ldp (b := b2) (m := 16) (l := encP p)).1) (fun _ h => (h.ldp (b := b3) (m := 16) (l := encP q)).1)) ?_
 rintro _ w16 ⟨rfl, hs⟩
 refine D.backT (by kernel_rfl) (D.evPG 17 rfl (by kernel_rfl) rfl rfl rfl (np (by kernel_rfl)) (fun _ => E.lss rfl rfl) (D.evPG 18 rfl (by kernel_rfl) rfl rfl rfl (np (by kernel_rfl)) (fun _ => E.pickT rfl rfl) (D.evP 19 rfl (by kernel_rfl) rfl (np (by kernel_rfl)) (fun _ => E.pickF rfl rfl) (D.evP 20 rfl (by kernel_rfl) rfl (np (by kernel_rfl)) (fun _ => E.assign rfl) (D.done rfl (by kernel_rfl) (X.keep [(4, _)] ⟨rfl, trivial⟩ (X.next (C.ret ?_))))))))
 refine X.ret1 rfl rfl ?_
 (have e : ltP p q = decide (cmpL p.r.1 q.r.1 < 0) := by
    have g1 := of_decide_eq_false h10
    have g2 := of_decide_eq_true h16
    rw [ltP, lt2, cmpI, if_neg g1, if_neg (by omega)]; rfl
  exact ⟨by rw [e], hs.to⟩)
 refine D.skipP 12 rfl (by kernel_rfl) rfl rfl rfl (fun _ => hs.to) (D.skipP 13 rfl (by kernel_rfl) rfl rfl rfl (fun _ => hs.to) (D.skipP 14 rfl (by kernel_rfl) rfl rfl rfl (fun _ => hs.to) (D.skipP 15 rfl (by kernel_rfl) rfl rfl rfl (fun _ => hs.to) (D.act 16 rfl (by kernel_rfl) (R.gskip rfl rfl rfl (D.backT (by kernel_rfl) (D.skipP 17 rfl (by kernel_rfl) rfl rfl rfl (np (by kernel_rfl)) (D.evPG 18 rfl (by kernel_rfl) rfl rfl rfl (np (by kernel_rfl)) (fun _ => E.pickF rfl rfl) ?_))))))))
 refine D.evP 19 rfl (by kernel_rfl) rfl (np (by kernel_rfl)) (fun _ => E.pickF rfl rfl) (D.evP 20 rfl (by kernel_rfl) rfl (np (by kernel_rfl)) (fun _ => E.assign rfl) (D.done rfl (by kernel_rfl) (X.keep [(4, _)] ⟨rfl, trivial⟩ (X.next (C.ret (X.ret1 rfl rfl ?_))))))
 (have e : ltP p q = false := by
    have g1 := of_decide_eq_false h10
    have g2 := of_decide_eq_false h16
    rw [ltP, lt2_false]; exact .inl (by omega)
  exact ⟨by rw [e], hs.to⟩)
theorem hasR_snoc {r : RO} {a : Vec 32} : hasR (L ++ [r]) a = (hasR L a || decide (r.id = a)) := by simp [hasR]
theorem rhas_any (a : Vec 32) (hs : Sat K w Hs) [hr : KRow encO 84 K v L] (hL : L.length ≤ 1000000) : Ret Tryz.prog 51 #[v, idV a.1] w fun r w' => r = .bool (hasR L a) ∧ Sat K w' Hs := by
 obtain ⟨ad, cap, rfl, hsl, hc⟩ := hr.ex
 have e1 := encV_len a
 refine Ret.enter (n := 19) (args := [.slice ad L.length cap, idV a.1]) Tryz.func51 rfl rfl ?_
 refine C.keep [(0, _), (1, _)] ⟨rfl, rfl, trivial⟩ (C.seq (C.region ?_))
 refine R.sboxA hs rfl rfl ?_
 intro b3 w3 hs
 refine R.ev rfl (E.assign rfl) (R.done (X.keep [(0, _), (3, _)] ⟨rfl, rfl, trivial⟩ (X.next (C.seq (C.seq (C.region (R.ev rfl (E.assign rfl) (R.done ?_))))))))
 refine X.keep [(0, _), (3, _), (5, _)] ⟨rfl, rfl, rfl, trivial⟩ (X.next (C.block ?_))
 refine C.loop  [(0, _), (3, _)] (fun k => [(5, .int .i64 (k : Nat))]) (fun k w' => k ≤ L.length ∧ hasR (L.take k) a = false ∧ Sat K w' (row b3 36 (a.1.map ub) :: Hs)) (fun k => L.length - k) (0) ⟨rfl, rfl, rfl, trivial⟩ ⟨Nat.zero_le _, rfl, hs⟩ ?_
 rintro k w1 ⟨hk, hno, hs⟩
 refine C.keep [(0, _), (3, _), (5, _)] ⟨rfl, rfl, rfl, trivial⟩ (C.seq (C.seq (C.region (R.ev rfl (E.move rfl) (R.ev rfl (E.move rfl) (R.ev rfl (E.lenSl rfl Tryz.underlying25) (R.ev rfl (E.lss rfl rfl) (R.done ?_))))))))
 refine X.keep [(0, _), (3, _), (5, _), (9, _)] ⟨rfl, rfl, rfl, rfl, trivial⟩ (X.next ?_)
 refine C.cdec rfl (fun h9 => ?_) (fun h9 => ?_)
 obtain ⟨y, bk_y, of_y, hy, my, ly, rfl, Ay⟩ := hs.el (i := k) (ad := ad) (n := L.length) (c := cap) (by omega)
 have ay := Ay _ hs
 have e2 := encV_len y.id
 refine C.skip (X.next (C.seq (C.block (C.seq ?_))))
 refine C.drawn (SatS hs) ([4, 5], [0, 1, 2, 3, 6]) (by kernel_rfl) ?_
 have hs := hs.drew
 refine D.evP 0 rfl (by kernel_rfl) rfl (fun _ => hs.to) (fun _ => E.move rfl) (D.evP 1 rfl (by kernel_rfl) rfl (fun _ => hs.to) (fun _ => E.move rfl) (D.evP 2 rfl (by kernel_rfl) rfl (fun _ => hs.to) (fun _ => E.indexAddr rfl rfl Tryz.underlying25 Tryz.sz69 rfl (by omega)) (D.evP 3 rfl (by kernel_rfl) rfl (fun _ => hs.to) (fun _ => E.fieldAddrN 0 rfl Tryz.underlying69 rfl Tryz.sz36 rfl) ?_)))
 refine D.ev 4 rfl (by kernel_rfl) rfl hs.to (fun _ hS => E.loadRow (cs := y.id.1.map ub) rfl Tryz.underlying36 rfl Tryz.sz36 (Ay _ hS).app.1 e2) ?_
 refine D.ev 5 rfl (by kernel_rfl) rfl hs.to (fun _ hS => E.loadRowC rfl Tryz.underlying36 rfl Tryz.sz36 (by exact ⟨hS.ldA, by assumption⟩)) ?_
 refine D.evP 6 rfl (by kernel_rfl) rfl (fun _ => hs.to) (fun _ => (E.eqV 10 (a := y.id) (b := a) rfl rfl Tryz.lv36 rfl Tryz.underlying36 rfl Tryz.gd36)) ?_
 refine D.done rfl (by kernel_rfl) (X.keep [(0, _), (3, _), (5, _), (18, _)] ⟨rfl, rfl, rfl, rfl, trivial⟩ (X.next ?_))
 refine C.cbool rfl (fun h18 => ?_) (fun h18 => ?_)
 refine C.seq (C.region (R.ev rfl (E.assign rfl) (R.done (X.keep [(4, _)] ⟨rfl, trivial⟩ (X.next (C.ret (X.blockRet (X.thenRet ?_))))))))
 refine X.loopRet (X.blockRet (X.thenRet (X.ret1 rfl rfl ?_)))
 exact ⟨by rw [hasR_iff.2 (List.mem_map.2 ⟨y, my, of_decide_eq_true h18⟩)], hs.to⟩
 refine C.skip (X.blockNormal (X.next (C.region (R.ev rfl (E.move rfl) (R.ev rfl (E.add rfl rfl (by omega) (by omega)) (R.ev rfl (E.assign rfl) (R.done (X.keep [(0, _), (3, _), (5, _)] ⟨rfl, rfl, rfl, trivial⟩ ?_))))))))
 exact X.again (k + 1) ⟨rfl, rfl, rfl, trivial⟩ ⟨by omega, by rw [take_snoc hy, hasR_snoc, hno, h18]; rfl, hs⟩ (by omega)
 refine C.exit (X.thenExit (X.loopExit (X.blockExit (X.next (C.seq (C.region (R.ev rfl (E.assign rfl) (R.done ?_))))))))
 refine X.keep [(4, _)] ⟨rfl, trivial⟩ (X.next (C.ret (X.ret1 rfl rfl ?_)))
 exact ⟨by rw [List.take_of_length_le (show L.length ≤ k by omega)] at hno; rw [hno], hs.to⟩
def XPost (K : Kn) (Hs : List Hl) (L : List RO) (f : Value → Value) (r : Value) (w' : World) : Prop := ∃ K' v', r = f v' ∧ KLe K K' ∧ KRow encO 84 K' v' L ∧ Sat K' w' Hs
theorem XPost.same {f : Value → Value} (h : KRow encO 84 K v L) (hs : Sat K w Hs) : XPost K Hs L f (f v) w := ⟨K, v, rfl, KLe.refl K, h, hs⟩
theorem XPost.new {f : Value → Value} {e : TypeId} (h : RowL e encO 84 v L F) (hs : Sat K w (F :: Hs)) : XPost K Hs L f (f v) w := by
 obtain ⟨K1, hk1, r1, hs1⟩ := h.freezeK hs
 exact ⟨K1, v, rfl, hk1, r1, hs1⟩
theorem radd_any (r : RO) (kind to : Int) (hs : Sat K w Hs) [hr : KRow encO 84 K v L] (hL : L.length ≤ 100000) : Ret Tryz.prog 37 #[v, .agg (encO r).toArray, .int .i64 kind, .int .i64 to] w fun x w' => XPost K Hs (addL L r kind to) (fun v => .tuple #[v, .int .i64 (addE L r kind to)]) x w' := by
 have o1 : OneC v := ⟨KRow.oneC' hr⟩
 obtain ⟨ad, cap, rfl, hsl, hc⟩ := hr.ex
 have hsame : ∀ {w'} {e : Int}, addE L r kind to = e → e ≠ 0 → Sat K w' Hs → XPost K Hs (addL L r kind to) (fun v => .tuple #[v, .int .i64 (addE L r kind to)]) (.tuple #[.slice ad L.length cap, .int .i64 e]) w' := fun h1 h2 h3 => by
   have h4 : addL L r kind to = L := by rw [addL, if_neg (by rw [h1]; exact h2)]
   rw [h4, ← h1]
   exact XPost.same (f := fun v => .tuple #[v, .int .i64 (addE L r kind to)]) hr h3
 refine Ret.enter (n := 89) (args := [.slice ad L.length cap, .agg (encO r).toArray, .int .i64 kind, .int .i64 to]) Tryz.func37 rfl rfl ?_
 refine C.keep [(0, _), (1, _), (2, _), (3, _)] ⟨rfl, rfl, rfl, rfl, trivial⟩ (C.seq (C.region ?_))
 refine R.sboxA hs rfl rfl ?_
 intro b5 w5 hs
 refine R.ev rfl (E.assign rfl) (R.ev rfl (E.assign rfl) (R.done (X.keep [(0, _), (2, _), (3, _), (5, _)] ⟨rfl, rfl, rfl, rfl, trivial⟩ (X.next (C.seq (C.block (C.seq (C.region ?_))))))))
 refine R.ev rfl (E.move rfl) (R.ev rfl (E.neq rfl rfl) (R.ev rfl (E.assign rfl) (R.done (X.keep [(0, _), (3, _), (5, _), (10, _)] ⟨rfl, rfl, rfl, rfl, trivial⟩ (X.next ?_)))))
 refine C.cdec rfl (fun h10 => ?_) (fun h10 => ?_)
 refine C.seq (C.region (R.ev rfl (E.move rfl) (R.ev rfl (E.assign rfl) (R.ev rfl (E.assign rfl) (R.done (X.keep [(8, _), (9, _)] ⟨rfl, rfl, trivial⟩ (X.next (C.ret ?_))))))))
 refine X.blockRet (X.thenRet (X.ret2 rfl rfl rfl ?_))
 exact hsame (addE_k h10) (by decide) hs.to
 refine C.seq (C.region ?_)
 have hk5 := Decidable.not_not.1 h10
 refine R.ev rfl (E.fieldAddr0 48 rfl Tryz.underlying69 rfl Tryz.sz3 rfl) (R.ev rfl (E.load1 rfl Tryz.underlying3 rfl (by exact hs.ldc)) (R.ev rfl (E.lss rfl rfl) (R.ev rfl (E.move rfl) ?_)))
 refine R.split 18 rfl (fun h18 => ?_) (fun h18 => ?_)
 refine R.gskip rfl rfl rfl (R.gskip rfl rfl rfl (R.gskip rfl rfl rfl (R.ev rfl (E.pickT rfl rfl) (R.ev rfl (E.assign rfl) (R.done (X.keep [(0, _), (3, _), (5, _), (14, _)] ⟨rfl, rfl, rfl, rfl, trivial⟩ (X.next (C.ctrue rfl ?_))))))))
 refine C.seq (C.region (R.ev rfl (E.move rfl) (R.ev rfl (E.assign rfl) (R.ev rfl (E.assign rfl) (R.done (X.keep [(8, _), (9, _)] ⟨rfl, rfl, trivial⟩ (X.next (C.ret ?_))))))))
 refine X.blockRet (X.thenRet (X.ret2 rfl rfl rfl ?_))
 have hr : r.n < 0 ∨ 999 < r.n := by
   exact .inl (of_decide_eq_true h18)
 exact hsame (addE_n hk5 hr) (by decide) hs.to
 refine R.gyes rfl rfl (R.ev rfl (E.fieldAddr0 48 rfl Tryz.underlying69 rfl Tryz.sz3 rfl) (R.gyes rfl rfl (R.ev rfl (E.load1 rfl Tryz.underlying3 rfl (by exact hs.ldc)) (R.gyes rfl rfl (R.ev rfl (E.gtr rfl rfl) (R.ev rfl (E.pickF rfl rfl) (R.ev rfl (E.assign rfl) (R.done ?_))))))))
 refine X.keep [(0, _), (3, _), (5, _), (14, _)] ⟨rfl, rfl, rfl, rfl, trivial⟩ (X.next ?_)
 refine C.cdec rfl (fun h14 => ?_) (fun h14 => ?_)
 refine C.seq (C.region (R.ev rfl (E.move rfl) (R.ev rfl (E.assign rfl) (R.ev rfl (E.assign rfl) (R.done (X.keep [(8, _), (9, _)] ⟨rfl, rfl, trivial⟩ (X.next (C.ret ?_))))))))
 refine X.blockRet (X.thenRet (X.ret2 rfl rfl rfl ?_))
 have hr : r.n < 0 ∨ 999 < r.n := by
   exact .inr (by omega)
 exact hsame (addE_n hk5 hr) (by decide) hs.to
 refine C.seq (C.region ?_)
 have hrn : ¬ (r.n < 0 ∨ 999 < r.n) := by have := of_decide_eq_false h18; omega
 refine R.ev rfl (E.move rfl) (R.ev rfl (E.fieldAddr0 48 rfl Tryz.underlying69 rfl Tryz.sz3 rfl) (R.ev rfl (E.load1 rfl Tryz.underlying3 rfl (by exact hs.ldc)) (R.ev rfl (E.add rfl rfl (by omega) (by omega)) (R.ev rfl (E.neq rfl rfl) (R.ev rfl (E.assign rfl) (R.done (X.keep [(0, _), (5, _), (24, _)] ⟨rfl, rfl, rfl, trivial⟩ (X.next ?_))))))))
 refine C.cdec rfl (fun h24 => ?_) (fun h24 => ?_)
 refine C.seq (C.region (R.ev rfl (E.move rfl) (R.ev rfl (E.assign rfl) (R.ev rfl (E.assign rfl) (R.done (X.keep [(8, _), (9, _)] ⟨rfl, rfl, trivial⟩ (X.next (C.ret ?_))))))))
 refine X.blockRet (X.thenRet (X.ret2 rfl rfl rfl ?_))
 exact hsame (addE_t hk5 hrn h24) (by decide) hs.to
 refine C.seq ?_
 refine C.drawn (SatS hs) ([1, 6, 12, 14, 19, 24, 27], [0, 3, 4, 5, 8, 9, 10, 11, 13, 15, 16, 17, 18, 20, 21, 22, 23, 25, 26, 28, 29, 30, 31]) (by kernel_rfl) ?_
 have hs := hs.drew
 have ht := Decidable.not_not.1 h24
 refine D.evP 0 rfl (by kernel_rfl) rfl (fun _ => hs.to) (fun _ => E.fieldAddr0 49 rfl Tryz.underlying69 rfl Tryz.sz31 rfl) (D.ev 1 rfl (by kernel_rfl) rfl hs.to (fun _ hS => E.loadRowC rfl Tryz.underlying31 rfl Tryz.sz31 (by exact hS.ldp)) (D.act 2 rfl (by kernel_rfl) ?_))
 refine R.call ⟨_, _, Tryz.func50, rfl, by kernel_rfl⟩ rfl rfl (rfine_any r.pu hs) ?_
 rintro _ w72 ⟨rfl, hs⟩
 refine D.back hs.to ?_
 refine D.evP 3 rfl (by kernel_rfl) rfl (fun _ => hs.to) (fun _ => (E.not rfl).isB (c := !(fine r.pu)) rfl) ?_
 refine D.evP 4 rfl (by kernel_rfl) rfl (fun _ => hs.to) (fun _ => E.move rfl) ?_
 refine D.split 36 rfl (fun h36 => ?_) (fun h36 => ?_)
 refine D.skipP 5 rfl (by kernel_rfl) rfl rfl rfl (fun _ => hs.to) (D.skip 6 rfl (by kernel_rfl) rfl rfl rfl hs.to (D.act 7 rfl (by kernel_rfl) (R.gskip rfl rfl rfl (D.back hs.to (D.skipP 8 rfl (by kernel_rfl) rfl rfl rfl (fun _ => hs.to) (D.evP 9 rfl (by kernel_rfl) rfl (fun _ => hs.to) (fun _ => E.pickT rfl rfl) (D.evP 10 rfl (by kernel_rfl) rfl (fun _ => hs.to) (fun _ => E.move rfl) (D.skipP 11 rfl (by kernel_rfl) rfl rfl rfl (fun _ => hs.to) ?_))))))))
 refine D.skipP 13 rfl (by kernel_rfl) rfl rfl rfl (fun _ => hs.to) (D.skip 12 rfl (by kernel_rfl) rfl rfl rfl hs.to (D.skip 14 rfl (by kernel_rfl) rfl rfl rfl hs.to (D.skipP 15 rfl (by kernel_rfl) rfl rfl rfl (fun _ => hs.to) (D.evP 16 rfl (by kernel_rfl) rfl (fun _ => hs.to) (fun _ => E.pickT rfl rfl) (D.evP 17 rfl (by kernel_rfl) rfl (fun _ => hs.to) (fun _ => E.move rfl) (D.skipP 18 rfl (by kernel_rfl) rfl rfl rfl (fun _ => hs.to) (D.skip 19 rfl (by kernel_rfl) rfl rfl rfl hs.to (D.skipP 20 rfl (by kernel_rfl) rfl rfl rfl (fun _ => hs.to) ?_))))))))
 refine D.evP 21 rfl (by kernel_rfl) rfl (fun _ => hs.to) (fun _ => E.pickT rfl rfl) (D.evP 22 rfl (by kernel_rfl) rfl (fun _ => hs.to) (fun _ => E.move rfl) (D.skipP 23 rfl (by kernel_rfl) rfl rfl rfl (fun _ => hs.to) (D.skipP 25 rfl (by kernel_rfl) rfl rfl rfl (fun _ => hs.to) (D.skipP 26 rfl (by kernel_rfl) rfl rfl rfl (fun _ => hs.to) (D.skip 24 rfl (by kernel_rfl) rfl rfl rfl hs.to (D.skip 27 rfl (by kernel_rfl) rfl rfl rfl hs.to (D.skipP 28 rfl (by kernel_rfl) rfl rfl rfl (fun _ => hs.to) (D.skipP 29 rfl (by kernel_rfl) rfl rfl rfl (fun _ => hs.to) ?_))))))))
 refine D.evP 30 rfl (by kernel_rfl) rfl (fun _ => hs.to) (fun _ => E.pickT rfl rfl) (D.evP 31 rfl (by kernel_rfl) rfl (fun _ => hs.to) (fun _ => E.assign rfl) (D.done rfl (by kernel_rfl) (X.keep [(0, _), (5, _), (31, _)] ⟨rfl, rfl, rfl, trivial⟩ (X.next (C.ctrue rfl (C.seq (C.region (R.ev rfl (E.move rfl) ?_))))))))
 refine R.ev rfl (E.assign rfl) (R.ev rfl (E.assign rfl) (R.done (X.keep [(8, _), (9, _)] ⟨rfl, rfl, trivial⟩ (X.next (C.ret (X.blockRet (X.thenRet (X.ret2 rfl rfl rfl ?_))))))))
 have hb : keyBad r = true := by
   exact kb_pu (by simpa using h36)
 exact hsame (addE_b hk5 hrn ht hb) (by decide) hs.to
 refine D.evPG 5 rfl (by kernel_rfl) rfl rfl rfl (fun _ => hs.to) (fun _ => E.fieldAddr0 67 rfl Tryz.underlying69 rfl Tryz.sz31 rfl) (D.evG 6 rfl (by kernel_rfl) rfl rfl rfl hs.to (fun _ hS => E.loadRowC rfl Tryz.underlying31 rfl Tryz.sz31 (by exact hS.ldp)) (D.act 7 rfl (by kernel_rfl) (R.gyes rfl rfl ?_)))
 refine R.call ⟨_, _, Tryz.func50, rfl, by kernel_rfl⟩ rfl rfl (rfine_any r.nw hs) ?_
 rintro _ w77 ⟨rfl, hs⟩
 refine D.back hs.to ?_
 refine D.evPG 8 rfl (by kernel_rfl) rfl rfl rfl (fun _ => hs.to) (fun _ => (E.not rfl).isB (c := !(fine r.nw)) rfl) ?_
 refine D.evP 9 rfl (by kernel_rfl) rfl (fun _ => hs.to) (fun _ => E.pickF rfl rfl) (D.evP 10 rfl (by kernel_rfl) rfl (fun _ => hs.to) (fun _ => E.move rfl) ?_)
 refine D.split 42 rfl (fun h42 => ?_) (fun h42 => ?_)
 refine D.skipP 11 rfl (by kernel_rfl) rfl rfl rfl (fun _ => hs.to) (D.skipP 13 rfl (by kernel_rfl) rfl rfl rfl (fun _ => hs.to) (D.skip 12 rfl (by kernel_rfl) rfl rfl rfl hs.to (D.skip 14 rfl (by kernel_rfl) rfl rfl rfl hs.to (D.skipP 15 rfl (by kernel_rfl) rfl rfl rfl (fun _ => hs.to) (D.evP 16 rfl (by kernel_rfl) rfl (fun _ => hs.to) (fun _ => E.pickT rfl rfl) (D.evP 17 rfl (by kernel_rfl) rfl (fun _ => hs.to) (fun _ => E.move rfl) (D.skipP 18 rfl (by kernel_rfl) rfl rfl rfl (fun _ => hs.to) (D.skip 19 rfl (by kernel_rfl) rfl rfl rfl hs.to ?_))))))))
 refine D.skipP 20 rfl (by kernel_rfl) rfl rfl rfl (fun _ => hs.to) (D.evP 21 rfl (by kernel_rfl) rfl (fun _ => hs.to) (fun _ => E.pickT rfl rfl) (D.evP 22 rfl (by kernel_rfl) rfl (fun _ => hs.to) (fun _ => E.move rfl) (D.skipP 23 rfl (by kernel_rfl) rfl rfl rfl (fun _ => hs.to) (D.skipP 25 rfl (by kernel_rfl) rfl rfl rfl (fun _ => hs.to) (D.skipP 26 rfl (by kernel_rfl) rfl rfl rfl (fun _ => hs.to) (D.skip 24 rfl (by kernel_rfl) rfl rfl rfl hs.to (D.skip 27 rfl (by kernel_rfl) rfl rfl rfl hs.to (D.skipP 28 rfl (by kernel_rfl) rfl rfl rfl (fun _ => hs.to) ?_))))))))
 refine D.skipP 29 rfl (by kernel_rfl) rfl rfl rfl (fun _ => hs.to) (D.evP 30 rfl (by kernel_rfl) rfl (fun _ => hs.to) (fun _ => E.pickT rfl rfl) (D.evP 31 rfl (by kernel_rfl) rfl (fun _ => hs.to) (fun _ => E.assign rfl) (D.done rfl (by kernel_rfl) (X.keep [(0, _), (5, _), (31, _)] ⟨rfl, rfl, rfl, trivial⟩ (X.next (C.ctrue rfl (C.seq (C.region ?_))))))))
 refine R.ev rfl (E.move rfl) (R.ev rfl (E.assign rfl) (R.ev rfl (E.assign rfl) (R.done (X.keep [(8, _), (9, _)] ⟨rfl, rfl, trivial⟩ (X.next (C.ret (X.blockRet (X.thenRet ?_))))))))
 refine X.ret2 rfl rfl rfl ?_
 have hb : keyBad r = true := by
   exact kb_nw (by simpa using h42)
 exact hsame (addE_b hk5 hrn ht hb) (by decide) hs.to
 refine D.evPG 11 rfl (by kernel_rfl) rfl rfl rfl (fun _ => hs.to) (fun _ => E.fieldAddr0 49 rfl Tryz.underlying69 rfl Tryz.sz31 rfl) (D.evPG 13 rfl (by kernel_rfl) rfl rfl rfl (fun _ => hs.to) (fun _ => E.fieldAddr0 67 rfl Tryz.underlying69 rfl Tryz.sz31 rfl) (D.evG 12 rfl (by kernel_rfl) rfl rfl rfl hs.to (fun _ hS => E.loadRowC rfl Tryz.underlying31 rfl Tryz.sz31 (by exact hS.ldp)) (D.evG 14 rfl (by kernel_rfl) rfl rfl rfl hs.to (fun _ hS => E.loadRowC rfl Tryz.underlying31 rfl Tryz.sz31 (by exact hS.ldp)) ?_)))
 refine D.evPG 15 rfl (by kernel_rfl) rfl rfl rfl (fun _ => hs.to) (fun _ => (E.eqlAgg 10 rfl rfl Tryz.lv31 rfl Tryz.underlying31 rfl Tryz.gd31 (encP_fits r.pu) (encP_fits r.nw)).isB (c := decide (r.pu = r.nw)) encP_eq) ?_
 refine D.evP 16 rfl (by kernel_rfl) rfl (fun _ => hs.to) (fun _ => E.pickF rfl rfl) (D.evP 17 rfl (by kernel_rfl) rfl (fun _ => hs.to) (fun _ => E.move rfl) ?_)
 refine D.split 49 rfl (fun h49 => ?_) (fun h49 => ?_)
 refine D.skipP 18 rfl (by kernel_rfl) rfl rfl rfl (fun _ => hs.to) (D.skip 19 rfl (by kernel_rfl) rfl rfl rfl hs.to (D.skipP 20 rfl (by kernel_rfl) rfl rfl rfl (fun _ => hs.to) (D.evP 21 rfl (by kernel_rfl) rfl (fun _ => hs.to) (fun _ => E.pickT rfl rfl) (D.evP 22 rfl (by kernel_rfl) rfl (fun _ => hs.to) (fun _ => E.move rfl) (D.skipP 23 rfl (by kernel_rfl) rfl rfl rfl (fun _ => hs.to) (D.skipP 25 rfl (by kernel_rfl) rfl rfl rfl (fun _ => hs.to) (D.skipP 26 rfl (by kernel_rfl) rfl rfl rfl (fun _ => hs.to) (D.skip 24 rfl (by kernel_rfl) rfl rfl rfl hs.to ?_))))))))
 refine D.skip 27 rfl (by kernel_rfl) rfl rfl rfl hs.to (D.skipP 28 rfl (by kernel_rfl) rfl rfl rfl (fun _ => hs.to) (D.skipP 29 rfl (by kernel_rfl) rfl rfl rfl (fun _ => hs.to) (D.evP 30 rfl (by kernel_rfl) rfl (fun _ => hs.to) (fun _ => E.pickT rfl rfl) (D.evP 31 rfl (by kernel_rfl) rfl (fun _ => hs.to) (fun _ => E.assign rfl) (D.done rfl (by kernel_rfl) (X.keep [(0, _), (5, _), (31, _)] ⟨rfl, rfl, rfl, trivial⟩ (X.next (C.ctrue rfl ?_))))))))
 refine C.seq (C.region (R.ev rfl (E.move rfl) (R.ev rfl (E.assign rfl) (R.ev rfl (E.assign rfl) (R.done (X.keep [(8, _), (9, _)] ⟨rfl, rfl, trivial⟩ (X.next (C.ret ?_))))))))
 refine X.blockRet (X.thenRet (X.ret2 rfl rfl rfl ?_))
 have hb : keyBad r = true := by
   exact kb_eq (of_decide_eq_true h49)
 exact hsame (addE_b hk5 hrn ht hb) (by decide) hs.to
 refine D.evPG 18 rfl (by kernel_rfl) rfl rfl rfl (fun _ => hs.to) (fun _ => E.fieldAddr0 66 rfl Tryz.underlying69 rfl Tryz.sz3 rfl) (D.evG 19 rfl (by kernel_rfl) rfl rfl rfl hs.to (fun _ hS => E.load1 rfl Tryz.underlying3 rfl (by exact hS.ldc)) (D.evPG 20 rfl (by kernel_rfl) rfl rfl rfl (fun _ => hs.to) (fun _ => E.lss rfl rfl) (D.evP 21 rfl (by kernel_rfl) rfl (fun _ => hs.to) (fun _ => E.pickF rfl rfl) (D.evP 22 rfl (by kernel_rfl) rfl (fun _ => hs.to) (fun _ => E.move rfl) ?_))))
 refine D.split 54 rfl (fun h54 => ?_) (fun h54 => ?_)
 refine D.skipP 23 rfl (by kernel_rfl) rfl rfl rfl (fun _ => hs.to) (D.skipP 25 rfl (by kernel_rfl) rfl rfl rfl (fun _ => hs.to) (D.skipP 26 rfl (by kernel_rfl) rfl rfl rfl (fun _ => hs.to) (D.skip 24 rfl (by kernel_rfl) rfl rfl rfl hs.to (D.skip 27 rfl (by kernel_rfl) rfl rfl rfl hs.to (D.skipP 28 rfl (by kernel_rfl) rfl rfl rfl (fun _ => hs.to) (D.skipP 29 rfl (by kernel_rfl) rfl rfl rfl (fun _ => hs.to) (D.evP 30 rfl (by kernel_rfl) rfl (fun _ => hs.to) (fun _ => E.pickT rfl rfl) (D.evP 31 rfl (by kernel_rfl) rfl (fun _ => hs.to) (fun _ => E.assign rfl) ?_))))))))
 refine D.done rfl (by kernel_rfl) (X.keep [(0, _), (5, _), (31, _)] ⟨rfl, rfl, rfl, trivial⟩ (X.next (C.ctrue rfl (C.seq (C.region (R.ev rfl (E.move rfl) (R.ev rfl (E.assign rfl) (R.ev rfl (E.assign rfl) ?_))))))))
 refine R.done (X.keep [(8, _), (9, _)] ⟨rfl, rfl, trivial⟩ (X.next (C.ret (X.blockRet (X.thenRet (X.ret2 rfl rfl rfl ?_))))))
 have hb : keyBad r = true := by
   exact kb_neg (of_decide_eq_true h54)
 exact hsame (addE_b hk5 hrn ht hb) (by decide) hs.to
 refine D.evPG 23 rfl (by kernel_rfl) rfl rfl rfl (fun _ => hs.to) (fun _ => E.fieldAddr0 66 rfl Tryz.underlying69 rfl Tryz.sz3 rfl) (D.evPG 25 rfl (by kernel_rfl) rfl rfl rfl (fun _ => hs.to) (fun _ => E.fieldAddr0 49 rfl Tryz.underlying69 rfl Tryz.sz31 rfl) (D.evPG 26 rfl (by kernel_rfl) rfl rfl rfl (fun _ => hs.to) (fun _ => E.fieldAddrN 0 rfl Tryz.underlying31 rfl Tryz.sz3 rfl) (D.evG 24 rfl (by kernel_rfl) rfl rfl rfl hs.to (fun _ hS => E.load1 rfl Tryz.underlying3 rfl (by exact hS.ldc)) ?_)))
 refine D.evG 27 rfl (by kernel_rfl) rfl rfl rfl hs.to (fun _ hS => E.load1 rfl Tryz.underlying3 rfl (hS.ldc (b := b5) (i := 49))) ?_
 have hf1 : fine r.pu = true := by simpa using h36
 have hh := fine_h hf1
 refine D.evPG 28 rfl (by kernel_rfl) rfl rfl rfl (fun _ => hs.to) (fun _ => (E.shl rfl rfl (by omega)).isI (c := (2 : Int) ^ r.pu.h.toNat) (shl_h hf1)) ?_
 refine D.evPG 29 rfl (by kernel_rfl) rfl rfl rfl (fun _ => hs.to) (fun _ => E.geq rfl rfl) (D.evP 30 rfl (by kernel_rfl) rfl (fun _ => hs.to) (fun _ => E.pickF rfl rfl) (D.evP 31 rfl (by kernel_rfl) rfl (fun _ => hs.to) (fun _ => E.assign rfl) (D.done rfl (by kernel_rfl) (X.keep [(0, _), (5, _), (31, _)] ⟨rfl, rfl, rfl, trivial⟩ (X.next ?_)))))
 refine C.cdec rfl (fun h31 => ?_) (fun h31 => ?_)
 refine C.seq (C.region (R.ev rfl (E.move rfl) (R.ev rfl (E.assign rfl) (R.ev rfl (E.assign rfl) (R.done (X.keep [(8, _), (9, _)] ⟨rfl, rfl, trivial⟩ (X.next (C.ret ?_))))))))
 refine X.blockRet (X.thenRet (X.ret2 rfl rfl rfl ?_))
 have hb : keyBad r = true := by
   exact kb_big h31
 exact hsame (addE_b hk5 hrn ht hb) (by decide) hs.to
 refine C.seq ?_
 refine C.drawn (SatS hs) ([1, 5, 8], [0, 2, 3, 4, 7, 9, 10, 11]) (by kernel_rfl) ?_
 have hs := hs.drew
 have hb : ¬ keyBad r = true := kb_no (by simpa using h36) (by simpa using h42) (of_decide_eq_false h49) (of_decide_eq_false h54) h31
 refine D.evP 0 rfl (by kernel_rfl) rfl (fun _ => hs.to) (fun _ => E.fieldAddr0 48 rfl Tryz.underlying69 rfl Tryz.sz3 rfl) (D.ev 1 rfl (by kernel_rfl) rfl hs.to (fun _ hS => E.load1 rfl Tryz.underlying3 rfl (by exact hS.ldc)) (D.evP 2 rfl (by kernel_rfl) rfl (fun _ => hs.to) (fun _ => E.eql rfl rfl) (D.evP 3 rfl (by kernel_rfl) rfl (fun _ => hs.to) (fun _ => E.move rfl) ?_)))
 refine D.split 68 rfl (fun h68 => ?_) (fun h68 => ?_)
 refine D.evPG 4 rfl (by kernel_rfl) rfl rfl rfl (fun _ => hs.to) (fun _ => E.fieldAddr0 49 rfl Tryz.underlying69 rfl Tryz.sz31 rfl) (D.evPG 7 rfl (by kernel_rfl) rfl rfl rfl (fun _ => hs.to) (fun _ => E.fieldAddr0 32 rfl Tryz.underlying69 rfl Tryz.sz28 rfl) (D.evG 5 rfl (by kernel_rfl) rfl rfl rfl hs.to (fun _ hS => E.loadRowC rfl Tryz.underlying31 rfl Tryz.sz31 (by exact hS.ldp)) (D.evG 8 rfl (by kernel_rfl) rfl rfl rfl hs.to (fun _ hS => E.loadRowC rfl Tryz.underlying28 rfl Tryz.sz28 (by exact hS.ldp)) (D.act 6 rfl (by kernel_rfl) (R.gyes rfl rfl ?_)))))
 refine R.call ⟨_, _, Tryz.func6, rfl, by kernel_rfl⟩ rfl rfl (rOf_any r.pu hs) ?_
 rintro _ w96 ⟨rfl, hs⟩
 refine D.back hs.to (D.evPG 9 rfl (by kernel_rfl) rfl rfl rfl (fun _ => hs.to) (fun _ => E.neV 10 rfl rfl Tryz.lv28 rfl Tryz.underlying28 rfl Tryz.gd28) (D.evP 10 rfl (by kernel_rfl) rfl (fun _ => hs.to) (fun _ => E.pickT rfl rfl) (D.evP 11 rfl (by kernel_rfl) rfl (fun _ => hs.to) (fun _ => E.assign rfl) (D.done rfl (by kernel_rfl) (X.keep [(0, _), (5, _), (64, _)] ⟨rfl, rfl, rfl, trivial⟩ (X.next ?_))))))
 refine C.cbool rfl (fun h64 => ?_) (fun h64 => ?_)
 refine C.seq (C.region (R.ev rfl (E.move rfl) (R.ev rfl (E.assign rfl) (R.ev rfl (E.assign rfl) (R.done (X.keep [(8, _), (9, _)] ⟨rfl, rfl, trivial⟩ (X.next (C.ret ?_))))))))
 refine X.blockRet (X.thenRet (X.ret2 rfl rfl rfl ?_))
 have ha : r.n = 0 ∧ ofP r.pu ≠ r.au := ⟨of_decide_eq_true h68, of_decide_eq_true h64⟩
 exact hsame (addE_a hk5 hrn ht hb ha) (by decide) hs.to
 refine C.seq (C.region ?_)
 have ha : ¬ (r.n = 0 ∧ ofP r.pu ≠ r.au) := by
   exact fun g => of_decide_eq_false h64 g.2
 refine R.ev rfl (E.move rfl) (R.ev rfl (E.fieldAddr0 0 rfl Tryz.underlying69 rfl Tryz.sz36 rfl) (R.ev rfl (E.loadRowC rfl Tryz.underlying36 rfl Tryz.sz36 (by exact ⟨hs.ldP rfl, by exact encV_len _⟩)) ?_))
 refine R.call ⟨_, _, Tryz.func51, rfl, by kernel_rfl⟩ rfl rfl (rhas_any r.id hs (by omega)) ?_
 rintro _ w113 ⟨rfl, hs⟩
 refine R.ev rfl (E.assign rfl) (R.done (X.keep [(0, _), (5, _), (77, _)] ⟨rfl, rfl, rfl, trivial⟩ (X.next ?_)))
 refine C.cbool rfl (fun h77 => ?_) (fun h77 => ?_)
 refine C.seq (C.region (R.ev rfl (E.move rfl) (R.ev rfl (E.assign rfl) (R.ev rfl (E.assign rfl) (R.done (X.keep [(8, _), (9, _)] ⟨rfl, rfl, trivial⟩ (X.next (C.ret ?_))))))))
 refine X.blockRet (X.thenRet (X.ret2 rfl rfl rfl ?_))
 exact hsame (addE_d hk5 hrn ht hb ha h77) (by decide) hs.to
 refine C.skip (X.blockNormal (X.next (C.seq ?_)))
 refine C.drawn (SatS hs) ([3], [1, 6, 7]) (by kernel_rfl) ?_
 have hs := hs.drew
 refine D.evP 1 rfl (by kernel_rfl) rfl (fun _ => hs.to) (fun _ => E.move rfl) (D.ev 3 rfl (by kernel_rfl) rfl hs.to (fun _ hS => E.loadRowC rfl Tryz.underlying69 rfl Tryz.sz69 (by exact ⟨hS.ldA, by exact Enc.len _⟩)) ?_)
 refine D.act2 0 4 rfl rfl (by kernel_rfl) ?_ ?_
 have hE := addE_0 (L := L) hk5 hrn ht hb ha h77
 refine R.sbuild0 (enc := encO) hs Tryz.underlying25 Tryz.sz69 rfl ?_
 intro v83 w83 F83 r83 nn83 hs
 refine D.back hs.to ?_
 refine D.act2 2 4 rfl rfl (by kernel_rfl) ?_ ?_
 refine R.cappSl hs rfl rfl Tryz.underlying25 Tryz.by69 (by rfl) rfl (by decide) (by (simp only [List.length_append, List.length_cons, List.length_nil] at *; omega)) (by (simp only [List.length_append, List.length_cons, List.length_nil] at *; omega)) ?_
 intro v85 w85 F85 r85 hs
 rw [List.nil_append] at r85
 refine D.back hs.to (D.act 4 rfl (by kernel_rfl) (R.buildSliceA rfl Tryz.underlying25 Tryz.sz69 Tryz.zr69 rfl (by exact Enc.len _) (by decide) (by decide) ?_))
 intro b87 w87 n87
 have hs := hs.new n87
 refine D.backT (by kernel_rfl) (D.act 5 rfl (by kernel_rfl) ?_)
 refine R.capp1 (r) hs rfl rfl Tryz.underlying25 Tryz.by69 (by rfl) rfl (by exact hs.ldA) (by decide) (by omega) (by omega) ?_
 intro v88 w88 F88 r88 hs
 refine D.backT (by kernel_rfl) (D.evP 6 rfl (by kernel_rfl) rfl (np (by kernel_rfl)) (fun _ => E.assign rfl) (D.evP 7 rfl (by kernel_rfl) rfl (np (by kernel_rfl)) (fun _ => E.assign rfl) (D.done rfl (by kernel_rfl) (X.keep [(8, _), (9, _)] ⟨rfl, rfl, trivial⟩ (X.next (C.ret (X.ret2 rfl rfl rfl ?_)))))))
 rw [addL, hE, if_pos rfl]
 exact XPost.new r88 hs.to
 refine R.buildSliceA rfl Tryz.underlying25 Tryz.sz69 Tryz.zr69 rfl (by exact Enc.len _) (by decide) (by decide) ?_
 intro b87 w87 n87
 have hs := hs.new n87
 refine D.backT (by kernel_rfl) (D.act 2 rfl (by kernel_rfl) ?_)
 refine R.cappSl hs rfl rfl Tryz.underlying25 Tryz.by69 (by rfl) rfl (by decide) (by (simp only [List.length_append, List.length_cons, List.length_nil] at *; omega)) (by (simp only [List.length_append, List.length_cons, List.length_nil] at *; omega)) ?_
 intro v85 w85 F85 r85 hs
 rw [List.nil_append] at r85
 refine D.backT (by kernel_rfl) (D.act 5 rfl (by kernel_rfl) ?_)
 refine R.capp1 (r) hs rfl rfl Tryz.underlying25 Tryz.by69 (by rfl) rfl (by exact hs.ldA) (by decide) (by omega) (by omega) ?_
 intro v88 w88 F88 r88 hs
 refine D.backT (by kernel_rfl) (D.evP 6 rfl (by kernel_rfl) rfl (np (by kernel_rfl)) (fun _ => E.assign rfl) (D.evP 7 rfl (by kernel_rfl) rfl (np (by kernel_rfl)) (fun _ => E.assign rfl) (D.done rfl (by kernel_rfl) (X.keep [(8, _), (9, _)] ⟨rfl, rfl, trivial⟩ (X.next (C.ret (X.ret2 rfl rfl rfl ?_)))))))
 rw [addL, hE, if_pos rfl]
 exact XPost.new r88 hs.to
 refine R.buildSliceA rfl Tryz.underlying25 Tryz.sz69 Tryz.zr69 rfl (by exact Enc.len _) (by decide) (by decide) ?_
 intro b87 w87 n87
 have hs := hs.new n87
 refine D.backT (by kernel_rfl) ?_
 have hE := addE_0 (L := L) hk5 hrn ht hb ha h77
 refine D.act 0 rfl (by kernel_rfl) ?_
 refine R.sbuild0 (enc := encO) hs Tryz.underlying25 Tryz.sz69 rfl ?_
 intro v83 w83 F83 r83 nn83 hs
 refine D.backT (by kernel_rfl) (D.act 2 rfl (by kernel_rfl) ?_)
 refine R.cappSl hs rfl rfl Tryz.underlying25 Tryz.by69 (by rfl) rfl (by decide) (by (simp only [List.length_append, List.length_cons, List.length_nil] at *; omega)) (by (simp only [List.length_append, List.length_cons, List.length_nil] at *; omega)) ?_
 intro v85 w85 F85 r85 hs
 rw [List.nil_append] at r85
 refine D.backT (by kernel_rfl) (D.act 5 rfl (by kernel_rfl) ?_)
 refine R.capp1 (r) hs rfl rfl Tryz.underlying25 Tryz.by69 (by rfl) rfl (by exact hs.ldA) (by decide) (by omega) (by omega) ?_
 intro v88 w88 F88 r88 hs
 refine D.backT (by kernel_rfl) (D.evP 6 rfl (by kernel_rfl) rfl (np (by kernel_rfl)) (fun _ => E.assign rfl) (D.evP 7 rfl (by kernel_rfl) rfl (np (by kernel_rfl)) (fun _ => E.assign rfl) (D.done rfl (by kernel_rfl) (X.keep [(8, _), (9, _)] ⟨rfl, rfl, trivial⟩ (X.next (C.ret (X.ret2 rfl rfl rfl ?_)))))))
 rw [addL, hE, if_pos rfl]
 exact XPost.new r88 hs.to
 refine D.skipP 4 rfl (by kernel_rfl) rfl rfl rfl (fun _ => hs.to) (D.skipP 7 rfl (by kernel_rfl) rfl rfl rfl (fun _ => hs.to) (D.skip 5 rfl (by kernel_rfl) rfl rfl rfl hs.to (D.skip 8 rfl (by kernel_rfl) rfl rfl rfl hs.to (D.act 6 rfl (by kernel_rfl) (R.gskip rfl rfl rfl (D.back hs.to (D.skipP 9 rfl (by kernel_rfl) rfl rfl rfl (fun _ => hs.to) (D.evP 10 rfl (by kernel_rfl) rfl (fun _ => hs.to) (fun _ => E.pickF rfl rfl) ?_))))))))
 refine D.evP 11 rfl (by kernel_rfl) rfl (fun _ => hs.to) (fun _ => E.assign rfl) (D.done rfl (by kernel_rfl) (X.keep [(0, _), (5, _), (64, _)] ⟨rfl, rfl, rfl, trivial⟩ (X.next (C.cfalse rfl (C.seq (C.region ?_))))))
 have ha : ¬ (r.n = 0 ∧ ofP r.pu ≠ r.au) := by
   exact fun g => of_decide_eq_false h68 g.1
 refine R.ev rfl (E.move rfl) (R.ev rfl (E.fieldAddr0 0 rfl Tryz.underlying69 rfl Tryz.sz36 rfl) (R.ev rfl (E.loadRowC rfl Tryz.underlying36 rfl Tryz.sz36 (by exact ⟨hs.ldP rfl, by exact encV_len _⟩)) ?_))
 refine R.call ⟨_, _, Tryz.func51, rfl, by kernel_rfl⟩ rfl rfl (rhas_any r.id hs (by omega)) ?_
 rintro _ w113 ⟨rfl, hs⟩
 refine R.ev rfl (E.assign rfl) (R.done (X.keep [(0, _), (5, _), (77, _)] ⟨rfl, rfl, rfl, trivial⟩ (X.next ?_)))
 refine C.cbool rfl (fun h77 => ?_) (fun h77 => ?_)
 refine C.seq (C.region (R.ev rfl (E.move rfl) (R.ev rfl (E.assign rfl) (R.ev rfl (E.assign rfl) (R.done (X.keep [(8, _), (9, _)] ⟨rfl, rfl, trivial⟩ (X.next (C.ret ?_))))))))
 refine X.blockRet (X.thenRet (X.ret2 rfl rfl rfl ?_))
 exact hsame (addE_d hk5 hrn ht hb ha h77) (by decide) hs.to
 refine C.skip (X.blockNormal (X.next (C.seq ?_)))
 refine C.drawn (SatS hs) ([3], [1, 6, 7]) (by kernel_rfl) ?_
 have hs := hs.drew
 refine D.evP 1 rfl (by kernel_rfl) rfl (fun _ => hs.to) (fun _ => E.move rfl) (D.ev 3 rfl (by kernel_rfl) rfl hs.to (fun _ hS => E.loadRowC rfl Tryz.underlying69 rfl Tryz.sz69 (by exact ⟨hS.ldA, by exact Enc.len _⟩)) ?_)
 refine D.act2 0 4 rfl rfl (by kernel_rfl) ?_ ?_
 have hE := addE_0 (L := L) hk5 hrn ht hb ha h77
 refine R.sbuild0 (enc := encO) hs Tryz.underlying25 Tryz.sz69 rfl ?_
 intro v83 w83 F83 r83 nn83 hs
 refine D.back hs.to ?_
 refine D.act2 2 4 rfl rfl (by kernel_rfl) ?_ ?_
 refine R.cappSl hs rfl rfl Tryz.underlying25 Tryz.by69 (by rfl) rfl (by decide) (by (simp only [List.length_append, List.length_cons, List.length_nil] at *; omega)) (by (simp only [List.length_append, List.length_cons, List.length_nil] at *; omega)) ?_
 intro v85 w85 F85 r85 hs
 rw [List.nil_append] at r85
 refine D.back hs.to (D.act 4 rfl (by kernel_rfl) (R.buildSliceA rfl Tryz.underlying25 Tryz.sz69 Tryz.zr69 rfl (by exact Enc.len _) (by decide) (by decide) ?_))
 intro b87 w87 n87
 have hs := hs.new n87
 refine D.backT (by kernel_rfl) (D.act 5 rfl (by kernel_rfl) ?_)
 refine R.capp1 (r) hs rfl rfl Tryz.underlying25 Tryz.by69 (by rfl) rfl (by exact hs.ldA) (by decide) (by omega) (by omega) ?_
 intro v88 w88 F88 r88 hs
 refine D.backT (by kernel_rfl) (D.evP 6 rfl (by kernel_rfl) rfl (np (by kernel_rfl)) (fun _ => E.assign rfl) (D.evP 7 rfl (by kernel_rfl) rfl (np (by kernel_rfl)) (fun _ => E.assign rfl) (D.done rfl (by kernel_rfl) (X.keep [(8, _), (9, _)] ⟨rfl, rfl, trivial⟩ (X.next (C.ret (X.ret2 rfl rfl rfl ?_)))))))
 rw [addL, hE, if_pos rfl]
 exact XPost.new r88 hs.to
 refine R.buildSliceA rfl Tryz.underlying25 Tryz.sz69 Tryz.zr69 rfl (by exact Enc.len _) (by decide) (by decide) ?_
 intro b87 w87 n87
 have hs := hs.new n87
 refine D.backT (by kernel_rfl) (D.act 2 rfl (by kernel_rfl) ?_)
 refine R.cappSl hs rfl rfl Tryz.underlying25 Tryz.by69 (by rfl) rfl (by decide) (by (simp only [List.length_append, List.length_cons, List.length_nil] at *; omega)) (by (simp only [List.length_append, List.length_cons, List.length_nil] at *; omega)) ?_
 intro v85 w85 F85 r85 hs
 rw [List.nil_append] at r85
 refine D.backT (by kernel_rfl) (D.act 5 rfl (by kernel_rfl) ?_)
 refine R.capp1 (r) hs rfl rfl Tryz.underlying25 Tryz.by69 (by rfl) rfl (by exact hs.ldA) (by decide) (by omega) (by omega) ?_
 intro v88 w88 F88 r88 hs
 refine D.backT (by kernel_rfl) (D.evP 6 rfl (by kernel_rfl) rfl (np (by kernel_rfl)) (fun _ => E.assign rfl) (D.evP 7 rfl (by kernel_rfl) rfl (np (by kernel_rfl)) (fun _ => E.assign rfl) (D.done rfl (by kernel_rfl) (X.keep [(8, _), (9, _)] ⟨rfl, rfl, trivial⟩ (X.next (C.ret (X.ret2 rfl rfl rfl ?_)))))))
 rw [addL, hE, if_pos rfl]
 exact XPost.new r88 hs.to
 refine R.buildSliceA rfl Tryz.underlying25 Tryz.sz69 Tryz.zr69 rfl (by exact Enc.len _) (by decide) (by decide) ?_
 intro b87 w87 n87
 have hs := hs.new n87
 refine D.backT (by kernel_rfl) ?_
 have hE := addE_0 (L := L) hk5 hrn ht hb ha h77
 refine D.act 0 rfl (by kernel_rfl) ?_
 refine R.sbuild0 (enc := encO) hs Tryz.underlying25 Tryz.sz69 rfl ?_
 intro v83 w83 F83 r83 nn83 hs
 refine D.backT (by kernel_rfl) (D.act 2 rfl (by kernel_rfl) ?_)
 refine R.cappSl hs rfl rfl Tryz.underlying25 Tryz.by69 (by rfl) rfl (by decide) (by (simp only [List.length_append, List.length_cons, List.length_nil] at *; omega)) (by (simp only [List.length_append, List.length_cons, List.length_nil] at *; omega)) ?_
 intro v85 w85 F85 r85 hs
 rw [List.nil_append] at r85
 refine D.backT (by kernel_rfl) (D.act 5 rfl (by kernel_rfl) ?_)
 refine R.capp1 (r) hs rfl rfl Tryz.underlying25 Tryz.by69 (by rfl) rfl (by exact hs.ldA) (by decide) (by omega) (by omega) ?_
 intro v88 w88 F88 r88 hs
 refine D.backT (by kernel_rfl) (D.evP 6 rfl (by kernel_rfl) rfl (np (by kernel_rfl)) (fun _ => E.assign rfl) (D.evP 7 rfl (by kernel_rfl) rfl (np (by kernel_rfl)) (fun _ => E.assign rfl) (D.done rfl (by kernel_rfl) (X.keep [(8, _), (9, _)] ⟨rfl, rfl, trivial⟩ (X.next (C.ret (X.ret2 rfl rfl rfl ?_)))))))
 rw [addL, hE, if_pos rfl]
 exact XPost.new r88 hs.to
end Go.Proofs.YtbkgibgomohdjaaGreatDoor
