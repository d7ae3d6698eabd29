/-
  Chapter 41: To, rows, Valid, Outdoes; the reference's Valid, Outdoes, Find.
-/
import Derived.Test.YtmjmichghfepkaaSupP
namespace Go.Proofs.Ytmjmichghfepkaa
open Go.Eng Go.RowKit Go.Sort
variable {K : Kn} {Hs Rs : List Hl} {F : Hl} {w : World} {v : Value}
/-! strings in slices -/
theorem idxFS_any {fid : FuncId} {first cap : List Value} {p : List UInt8 → Bool} {L : List (List UInt8)} {ad : Option Addr} {n c : Nat} (hcal : Callable Try.prog fid) (hs : Sat K w Hs) [hrd : Rd encS 1 K Hs (.slice ad n c) L] (hn : n ≤ 9223372036854775807)
    (hf : ∀ y ∈ L, ∀ w', Sat K w' Hs → Ret Try.prog fid (first ++ [str y] ++ cap).toArray w' fun v w'' => v = .bool (p y) ∧ Sat K w'' Hs) :
    Ret Try.prog 75 #[.slice ad n c, .func (.func fid) first.toArray cap.toArray] w fun v w' => v = .int .i64 (idxP p L) ∧ Sat K w' Hs := by
  have hln := hrd.len
  refine Ret.enter (n := 19) (args := [.slice ad n c, .func (.func fid) first.toArray cap.toArray]) Try.func75 rfl rfl ?_
  refine C.keep [(0, _), (1, _)] ⟨rfl, rfl, trivial⟩ ?_
  refine C.seq ?_
  refine C.region ?_
  refine R.ev rfl (E.assign rfl) ?_
  refine R.done ?_
  refine X.keep [(0, _), (1, _)] ⟨rfl, rfl, trivial⟩ ?_
  refine X.next ?_
  refine C.seq ?_
  refine C.seq ?_
  refine C.region ?_
  refine R.ev rfl (E.move rfl) ?_
  refine R.ev rfl (E.lenSl rfl Try.underlying39) ?_
  refine R.ev rfl (E.move rfl) ?_
  refine R.done ?_
  refine X.keep [(0, _), (1, _), (7, _), (8, _)] ⟨rfl, rfl, rfl, rfl, trivial⟩ ?_
  refine X.next ?_
  refine C.block ?_
  refine C.loop  [(0, _), (1, _), (7, _)] (fun k => [(8, .int .i64 (k : Nat))]) (fun k w' => k ≤ n ∧ Sat K w' Hs ∧ ∀ j, j < k → ∀ y, L[j]? = some y → p y = false) (fun k => n - k) (0) ⟨rfl, rfl, rfl, rfl, trivial⟩ ⟨Nat.zero_le _, hs, fun j h => by omega⟩ ?_
  rintro k w1 ⟨hk, hs, hno⟩
  refine C.keep [(0, _), (1, _), (7, _), (8, _)] ⟨rfl, rfl, rfl, rfl, trivial⟩ ?_
  refine C.seq ?_
  refine C.region ?_
  refine R.ev rfl (E.lss rfl rfl) ?_
  refine R.done ?_
  refine X.keep [(0, _), (1, _), (7, _), (8, _), (9, _)] ⟨rfl, rfl, rfl, rfl, rfl, trivial⟩ ?_
  refine X.next ?_
  refine C.seq ?_
  refine C.cdec rfl (fun h9 => ?_) (fun h9 => ?_)
  obtain ⟨y, bk_y, of_y, hy, my, ly, rfl, Ay⟩ := hs.el (i := k) (ad := ad) (n := n) (c := c) (by omega)
  have ay := Ay _ hs
  refine C.skip ?_
  refine X.next ?_
  refine C.seq ?_
  refine C.block ?_
  refine C.seq ?_
  refine C.region ?_
  refine R.ev rfl (E.move rfl) ?_
  refine R.ev rfl (E.assign rfl) ?_
  refine R.done ?_
  refine X.keep [(0, _), (1, _), (5, _), (7, _), (8, _)] ⟨rfl, rfl, rfl, rfl, rfl, trivial⟩ ?_
  refine X.next ?_
  refine C.seq ?_
  refine C.region ?_
  refine R.ev rfl (E.move rfl) ?_
  refine R.ev rfl (E.move rfl) ?_
  refine R.ev rfl (E.move rfl) ?_
  refine R.ev rfl (E.indexAddr rfl rfl Try.underlying39 Try.sz9 rfl (by omega)) ?_
  refine R.ev rfl (E.load1 rfl Try.underlying9 rfl (ay 0 _ rfl)) ?_
  refine R.callV hcal rfl rfl rfl (hf y my _ hs) ?_
  rintro _ w2 ⟨rfl, hs⟩
  refine R.done ?_
  refine X.keep [(0, _), (1, _), (5, _), (7, _), (8, _), (16, _)] ⟨rfl, rfl, rfl, rfl, rfl, rfl, trivial⟩ ?_
  refine X.next ?_
  refine C.cbool rfl (fun h16 => ?_) (fun h16 => ?_)
  refine C.seq ?_
  refine C.region ?_
  refine R.ev rfl (E.move rfl) ?_
  refine R.ev rfl (E.assign rfl) ?_
  refine R.done ?_
  refine X.keep [(4, _)] ⟨rfl, trivial⟩ ?_
  refine X.next ?_
  refine C.ret ?_
  refine X.blockRet ?_
  refine X.thenRet ?_
  refine X.loopRet ?_
  refine X.blockRet ?_
  refine X.thenRet ?_
  refine X.ret1 rfl rfl ?_
  exact ⟨by rw [idxP_some hy h16 hno], hs⟩
  refine C.skip ?_
  refine X.blockNormal ?_
  refine X.next ?_
  refine C.region ?_
  refine R.ev rfl (E.add rfl rfl (by omega) (by omega)) ?_
  refine R.ev rfl (E.move rfl) ?_
  refine R.done ?_
  refine X.keep [(0, _), (1, _), (7, _), (8, _)] ⟨rfl, rfl, rfl, rfl, trivial⟩ ?_
  exact X.again (k + 1) ⟨rfl, rfl, rfl, rfl, trivial⟩ ⟨by omega, hs, idxP_step hy h16 hno⟩ (by omega)
  refine C.exit ?_
  refine X.thenExit ?_
  refine X.loopExit ?_
  refine X.blockExit ?_
  refine X.next ?_
  refine C.seq ?_
  refine C.region ?_
  refine R.ev rfl (E.assign rfl) ?_
  refine R.done ?_
  refine X.keep [(4, _)] ⟨rfl, trivial⟩ ?_
  refine X.next ?_
  refine C.ret ?_
  refine X.ret1 rfl rfl ?_
  exact ⟨by rw [idxP_none hno (by omega)], hs⟩
theorem conFS_any {fid : FuncId} {first cap : List Value} {p : List UInt8 → Bool} {L : List (List UInt8)} {ad : Option Addr} {n c : Nat} (hcal : Callable Try.prog fid) (hs : Sat K w Hs) [hrd : Rd encS 1 K Hs (.slice ad n c) L] (hn : n ≤ 9223372036854775807)
    (hf : ∀ y ∈ L, ∀ w', Sat K w' Hs → Ret Try.prog fid (first ++ [str y] ++ cap).toArray w' fun v w'' => v = .bool (p y) ∧ Sat K w'' Hs) :
    Ret Try.prog 58 #[.slice ad n c, .func (.func fid) first.toArray cap.toArray] w fun v w' => v = .bool (L.any p) ∧ Sat K w' Hs := by
  refine Ret.enter (n := 9) (args := [.slice ad n c, .func (.func fid) first.toArray cap.toArray]) Try.func58 rfl rfl ?_
  refine C.keep [(0, _), (1, _)] ⟨rfl, rfl, trivial⟩ ?_
  refine C.seq ?_
  refine C.region ?_
  refine R.ev rfl (E.assign rfl) ?_
  refine R.done ?_
  refine X.keep [(0, _), (1, _)] ⟨rfl, rfl, trivial⟩ ?_
  refine X.next ?_
  refine C.seq ?_
  refine C.region ?_
  refine R.ev rfl (E.move rfl) ?_
  refine R.ev rfl (E.move rfl) ?_
  refine R.call ⟨_, _, Try.func75, rfl, by kernel_rfl⟩ rfl rfl (idxFS_any (p := p) (L := L) hcal hs hn hf) ?_
  rintro _ w1 ⟨rfl, hs⟩
  refine R.ev rfl ((E.geq rfl rfl).isB (c := L.any p) (by rw [Bool.eq_iff_iff, decide_eq_true_eq, idxP_nonneg_iff, List.any_eq_true])) ?_
  refine R.ev rfl (E.assign rfl) ?_
  refine R.done ?_
  refine X.keep [(4, _)] ⟨rfl, trivial⟩ ?_
  refine X.next ?_
  refine C.ret ?_
  refine X.ret1 rfl rfl ?_
  exact ⟨rfl, hs⟩
theorem idxS_any (a : List UInt8) {L : List (List UInt8)} {ad : Option Addr} {n c : Nat} (hs : Sat K w Hs) [hrd : Rd encS 1 K Hs (.slice ad n c) L] (hn : n ≤ 9223372036854775807) :
    Ret Try.prog 76 #[.slice ad n c, str a] w fun v w' => v = .int .i64 (idxP (fun y => decide (a = y)) L) ∧ Sat K w' Hs := by
  have hln := hrd.len
  refine Ret.enter (n := 19) (args := [.slice ad n c, str a]) Try.func76 rfl rfl ?_
  refine C.keep [(0, _), (1, _)] ⟨rfl, rfl, trivial⟩ ?_
  refine C.seq ?_
  refine C.region ?_
  refine R.ev rfl (E.assign rfl) ?_
  refine R.done ?_
  refine X.keep [(0, _), (1, _)] ⟨rfl, rfl, trivial⟩ ?_
  refine X.next ?_
  refine C.seq ?_
  refine C.seq ?_
  refine C.region ?_
  refine R.ev rfl (E.move rfl) ?_
  refine R.ev rfl (E.lenSl rfl Try.underlying39) ?_
  refine R.ev rfl (E.move rfl) ?_
  refine R.done ?_
  refine X.keep [(0, _), (1, _), (7, _), (8, _)] ⟨rfl, rfl, rfl, rfl, trivial⟩ ?_
  refine X.next ?_
  refine C.block ?_
  refine C.loop  [(0, _), (1, _), (7, _)] (fun k => [(8, .int .i64 (k : Nat))]) (fun k w' => k ≤ n ∧ Sat K w' Hs ∧ ∀ j, j < k → ∀ y, L[j]? = some y → decide (a = y) = false) (fun k => n - k) (0) ⟨rfl, rfl, rfl, rfl, trivial⟩ ⟨Nat.zero_le _, hs, fun j h => by omega⟩ ?_
  rintro k w1 ⟨hk, hs, hno⟩
  refine C.keep [(0, _), (1, _), (7, _), (8, _)] ⟨rfl, rfl, rfl, rfl, trivial⟩ ?_
  refine C.seq ?_
  refine C.region ?_
  refine R.ev rfl (E.lss rfl rfl) ?_
  refine R.done ?_
  refine X.keep [(0, _), (1, _), (7, _), (8, _), (9, _)] ⟨rfl, rfl, rfl, rfl, rfl, trivial⟩ ?_
  refine X.next ?_
  refine C.seq ?_
  refine C.cdec rfl (fun h9 => ?_) (fun h9 => ?_)
  obtain ⟨y, bk_y, of_y, hy, my, ly, rfl, Ay⟩ := hs.el (i := k) (ad := ad) (n := n) (c := c) (by omega)
  have ay := Ay _ hs
  refine C.skip ?_
  refine X.next ?_
  refine C.seq ?_
  refine C.block ?_
  refine C.seq ?_
  refine C.region ?_
  refine R.ev rfl (E.move rfl) ?_
  refine R.ev rfl (E.assign rfl) ?_
  refine R.done ?_
  refine X.keep [(0, _), (1, _), (5, _), (7, _), (8, _)] ⟨rfl, rfl, rfl, rfl, rfl, trivial⟩ ?_
  refine X.next ?_
  refine C.seq ?_
  refine C.region ?_
  refine R.ev rfl (E.move rfl) ?_
  refine R.ev rfl (E.move rfl) ?_
  refine R.ev rfl (E.move rfl) ?_
  refine R.ev rfl (E.indexAddr rfl rfl Try.underlying39 Try.sz9 rfl (by omega)) ?_
  refine R.ev rfl (E.load1 rfl Try.underlying9 rfl (ay 0 _ rfl)) ?_
  refine R.ev rfl (E.seql rfl rfl) ?_
  refine R.done ?_
  refine X.keep [(0, _), (1, _), (5, _), (7, _), (8, _), (16, _)] ⟨rfl, rfl, rfl, rfl, rfl, rfl, trivial⟩ ?_
  refine X.next ?_
  refine C.cbool rfl (fun h16 => ?_) (fun h16 => ?_)
  refine C.seq ?_
  refine C.region ?_
  refine R.ev rfl (E.move rfl) ?_
  refine R.ev rfl (E.assign rfl) ?_
  refine R.done ?_
  refine X.keep [(4, _)] ⟨rfl, trivial⟩ ?_
  refine X.next ?_
  refine C.ret ?_
  refine X.blockRet ?_
  refine X.thenRet ?_
  refine X.loopRet ?_
  refine X.blockRet ?_
  refine X.thenRet ?_
  refine X.ret1 rfl rfl ?_
  exact ⟨by rw [idxP_some (p := fun y => decide (a = y)) hy h16 hno], hs⟩
  refine C.skip ?_
  refine X.blockNormal ?_
  refine X.next ?_
  refine C.region ?_
  refine R.ev rfl (E.add rfl rfl (by omega) (by omega)) ?_
  refine R.ev rfl (E.move rfl) ?_
  refine R.done ?_
  refine X.keep [(0, _), (1, _), (7, _), (8, _)] ⟨rfl, rfl, rfl, rfl, trivial⟩ ?_
  exact X.again (k + 1) ⟨rfl, rfl, rfl, rfl, trivial⟩ ⟨by omega, hs, idxP_step (p := fun y => decide (a = y)) hy h16 hno⟩ (by omega)
  refine C.exit ?_
  refine X.thenExit ?_
  refine X.loopExit ?_
  refine X.blockExit ?_
  refine X.next ?_
  refine C.seq ?_
  refine C.region ?_
  refine R.ev rfl (E.assign rfl) ?_
  refine R.done ?_
  refine X.keep [(4, _)] ⟨rfl, trivial⟩ ?_
  refine X.next ?_
  refine C.ret ?_
  refine X.ret1 rfl rfl ?_
  exact ⟨by rw [idxP_none (p := fun y => decide (a = y)) hno (by omega)], hs⟩
theorem conS_any (a : List UInt8) {L : List (List UInt8)} {ad : Option Addr} {n c : Nat} (hs : Sat K w Hs) [hrd : Rd encS 1 K Hs (.slice ad n c) L] (hn : n ≤ 9223372036854775807) :
    Ret Try.prog 60 #[.slice ad n c, str a] w fun v w' => v = .bool (decide (a ∈ L)) ∧ Sat K w' Hs := by
  refine Ret.enter (n := 9) (args := [.slice ad n c, str a]) Try.func60 rfl rfl ?_
  refine C.keep [(0, _), (1, _)] ⟨rfl, rfl, trivial⟩ ?_
  refine C.seq ?_
  refine C.region ?_
  refine R.ev rfl (E.assign rfl) ?_
  refine R.done ?_
  refine X.keep [(0, _), (1, _)] ⟨rfl, rfl, trivial⟩ ?_
  refine X.next ?_
  refine C.seq ?_
  refine C.region ?_
  refine R.ev rfl (E.move rfl) ?_
  refine R.ev rfl (E.move rfl) ?_
  refine R.call ⟨_, _, Try.func76, rfl, by kernel_rfl⟩ rfl rfl (idxS_any a (L := L) hs hn) ?_
  rintro _ w1 ⟨rfl, hs⟩
  refine R.ev rfl ((E.geq rfl rfl).isB (c := decide (a ∈ L)) (by rw [decide_eq_decide, idxP_nonneg_iff]; constructor; rintro ⟨y, hy, h⟩; (have := of_decide_eq_true h; subst this; exact hy); exact fun h => ⟨a, h, by simp⟩)) ?_
  refine R.ev rfl (E.assign rfl) ?_
  refine R.done ?_
  refine X.keep [(4, _)] ⟨rfl, trivial⟩ ?_
  refine X.next ?_
  refine C.ret ?_
  refine X.ret1 rfl rfl ?_
  exact ⟨rfl, hs⟩
/-! bytes compared -/
theorem isNaNB_any (a : UInt8) (w : World) : Ret Try.prog 103 #[ub a] w fun v w' => v = .bool false ∧ w = w' := by
  refine Ret.enter (n := 6) (args := [ub a]) Try.func103 rfl rfl ?_
  refine C.keep [(0, _)] ⟨rfl, trivial⟩ ?_
  refine C.seq ?_
  refine C.region ?_
  refine R.ev rfl (E.assign rfl) ?_
  refine R.done ?_
  refine X.keep [(0, _)] ⟨rfl, trivial⟩ ?_
  refine X.next ?_
  refine C.seq ?_
  refine C.region ?_
  refine R.ev rfl (E.move rfl) ?_
  refine R.ev rfl (E.move rfl) ?_
  refine R.ev rfl ((E.neq rfl rfl).isF (by simp)) ?_
  refine R.ev rfl (E.assign rfl) ?_
  refine R.done ?_
  refine X.keep [(2, _)] ⟨rfl, trivial⟩ ?_
  refine X.next ?_
  refine C.ret ?_
  refine X.ret1 rfl rfl ?_
  exact ⟨rfl, rfl⟩
def cmpB (a b : UInt8) : Int := if a < b then -1 else if b < a then 1 else 0
theorem cmpByte_any (a b : UInt8) (w : World) : Ret Try.prog 84 #[ub a, ub b] w fun v w' => v = .int .i64 (cmpB a b) ∧ w = w' := by
  refine Ret.enter (n := 20) (args := [ub a, ub b]) Try.func84 rfl rfl ?_
  refine C.keep [(0, _), (1, _)] ⟨rfl, rfl, trivial⟩ ?_
  refine C.seq ?_
  refine C.region ?_
  refine R.ev rfl (E.assign rfl) ?_
  refine R.done ?_
  refine X.keep [(0, _), (1, _)] ⟨rfl, rfl, trivial⟩ ?_
  refine X.next ?_
  refine C.seq ?_
  refine C.region ?_
  refine R.ev rfl (E.move rfl) ?_
  refine R.call ⟨_, _, Try.func103, rfl, by kernel_rfl⟩ rfl rfl (isNaNB_any a _) ?_
  rintro _ _ ⟨rfl, rfl⟩
  refine R.ev rfl (E.assign rfl) ?_
  refine R.done ?_
  refine X.keep [(0, _), (1, _), (5, _)] ⟨rfl, rfl, rfl, trivial⟩ ?_
  refine X.next ?_
  refine C.seq ?_
  refine C.region ?_
  refine R.ev rfl (E.move rfl) ?_
  refine R.call ⟨_, _, Try.func103, rfl, by kernel_rfl⟩ rfl rfl (isNaNB_any b _) ?_
  rintro _ _ ⟨rfl, rfl⟩
  refine R.ev rfl (E.assign rfl) ?_
  refine R.done ?_
  refine X.keep [(0, _), (1, _), (5, _), (6, _)] ⟨rfl, rfl, rfl, rfl, trivial⟩ ?_
  refine X.next ?_
  refine C.seq ?_
  refine C.seq ?_
  refine C.region ?_
  refine R.ev rfl (E.move rfl) ?_
  refine R.done ?_
  refine X.keep [(0, _), (1, _), (6, _), (11, _)] ⟨rfl, rfl, rfl, rfl, trivial⟩ ?_
  refine X.next ?_
  refine C.cfalse rfl ?_
  refine C.skip ?_
  refine X.next ?_
  refine C.seq ?_
  refine C.seq ?_
  refine C.region ?_
  refine R.ev rfl (E.move rfl) ?_
  refine R.done ?_
  refine X.keep [(0, _), (1, _), (13, _)] ⟨rfl, rfl, rfl, trivial⟩ ?_
  refine X.next ?_
  refine C.cfalse rfl ?_
  refine C.skip ?_
  refine X.next ?_
  refine C.seq ?_
  refine C.seq ?_
  refine C.region ?_
  refine R.ev rfl (E.move rfl) ?_
  refine R.ev rfl (E.move rfl) ?_
  refine R.ev rfl (E.lss rfl rfl) ?_
  refine R.done ?_
  refine X.keep [(0, _), (1, _), (16, _)] ⟨rfl, rfl, rfl, trivial⟩ ?_
  refine X.next ?_
  refine C.cdec rfl (fun h16 => ?_) (fun h16 => ?_)
  refine C.seq ?_
  refine C.region ?_
  refine R.ev rfl (E.assign rfl) ?_
  refine R.done ?_
  refine X.keep [(4, _)] ⟨rfl, trivial⟩ ?_
  refine X.next ?_
  refine C.ret ?_
  refine X.thenRet ?_
  refine X.ret1 rfl rfl ?_
  exact ⟨by rw [cmpB, if_pos (UInt8.lt_iff_toNat_lt.2 (by omega))], rfl⟩
  refine C.skip ?_
  refine X.next ?_
  refine C.seq ?_
  refine C.seq ?_
  refine C.region ?_
  refine R.ev rfl (E.move rfl) ?_
  refine R.ev rfl (E.move rfl) ?_
  refine R.ev rfl (E.gtr rfl rfl) ?_
  refine R.done ?_
  refine X.keep [(19, _)] ⟨rfl, trivial⟩ ?_
  refine X.next ?_
  refine C.cdec rfl (fun h19 => ?_) (fun h19 => ?_)
  refine C.seq ?_
  refine C.region ?_
  refine R.ev rfl (E.assign rfl) ?_
  refine R.done ?_
  refine X.keep [(4, _)] ⟨rfl, trivial⟩ ?_
  refine X.next ?_
  refine C.ret ?_
  refine X.thenRet ?_
  refine X.ret1 rfl rfl ?_
  exact ⟨by rw [cmpB, if_neg (by rw [UInt8.lt_iff_toNat_lt]; omega), if_pos (UInt8.lt_iff_toNat_lt.2 (by omega))], rfl⟩
  refine C.skip ?_
  refine X.next ?_
  refine C.seq ?_
  refine C.region ?_
  refine R.ev rfl (E.assign rfl) ?_
  refine R.done ?_
  refine X.keep [(4, _)] ⟨rfl, trivial⟩ ?_
  refine X.next ?_
  refine C.ret ?_
  refine X.ret1 rfl rfl ?_
  exact ⟨by rw [cmpB, if_neg (by rw [UInt8.lt_iff_toNat_lt]; omega), if_neg (by rw [UInt8.lt_iff_toNat_lt]; omega)], rfl⟩
theorem cmpL_at : ∀ {k : Nat} {l m : List UInt8} {a b : UInt8}, l.take k = m.take k → l[k]? = some a → m[k]? = some b → cmpB a b ≠ 0 → cmpL l m = cmpB a b
  | 0, x :: l, y :: m, a, b, _, h1, h2, h3 => by
    simp at h1 h2; subst h1 h2
    unfold cmpB at h3 ⊢
    unfold cmpL
    by_cases h : x < y
    · simp [h]
    · by_cases h' : y < x
      · simp [h, h']
      · simp [h, h'] at h3
  | k + 1, x :: l, y :: m, a, b, h, h1, h2, h3 => by
    simp only [List.take_succ_cons, List.cons.injEq] at h
    obtain ⟨rfl, h⟩ := h
    have := cmpL_at h (by simpa using h1) (by simpa using h2) h3
    unfold cmpL
    simp [this]
  | 0, [], _, a, b, _, h1, _, _ => by simp at h1
  | 0, _ :: _, [], a, b, _, _, h2, _ => by simp at h2
  | k + 1, [], _, a, b, _, h1, _, _ => by simp at h1
  | k + 1, _ :: _, [], a, b, _, _, h2, _ => by simp at h2
theorem cmpB_zero {a b : UInt8} (h : cmpB a b = 0) : a = b := by
  unfold cmpB at h
  split at h
  · omega
  · split at h
    · omega
    · rename_i h1 h2; exact u8_tri a b h1 h2
theorem sliceCmp_any {b off cap b' off' cap' n : Nat} {l m : List UInt8} (hl : l.length = n) (hm : m.length = n) (hs : Sat K w Hs) (hnn : n ≤ 1000000) (A1 : ∀ w', Sat K w' Hs → At w' b off (l.map ub)) (A2 : ∀ w', Sat K w' Hs → At w' b' off' (m.map ub)) :
    Ret Try.prog 78 #[.slice (some ⟨b, off, none⟩) n cap, .slice (some ⟨b', off', none⟩) n cap'] w fun v w' => v = .int .i64 (cmpL l m) ∧ Sat K w' Hs := by
  refine Ret.enter (n := 36) (args := [.slice (some ⟨b, off, none⟩) n cap, .slice (some ⟨b', off', none⟩) n cap']) Try.func78 rfl rfl ?_
  refine C.keep [(0, _), (1, _)] ⟨rfl, rfl, trivial⟩ ?_
  refine C.seq ?_
  refine C.region ?_
  refine R.ev rfl (E.assign rfl) ?_
  refine R.done ?_
  refine X.keep [(0, _), (1, _)] ⟨rfl, rfl, trivial⟩ ?_
  refine X.next ?_
  refine C.seq ?_
  refine C.seq ?_
  refine C.region ?_
  refine R.ev rfl (E.move rfl) ?_
  refine R.ev rfl (E.lenSl rfl Try.underlying105) ?_
  refine R.ev rfl (E.move rfl) ?_
  refine R.done ?_
  refine X.keep [(0, _), (1, _), (9, _), (10, _), (11, _)] ⟨rfl, rfl, rfl, rfl, rfl, trivial⟩ ?_
  refine X.next ?_
  refine C.block ?_
  refine C.loop  [(0, _), (1, _), (9, _), (10, _)] (fun k => [(11, .int .i64 (k : Nat))]) (fun k w' => k ≤ n ∧ l.take k = m.take k ∧ Sat K w' Hs) (fun k => n - k) (0) ⟨rfl, rfl, rfl, rfl, rfl, trivial⟩ ⟨Nat.zero_le _, rfl, hs⟩ ?_
  rintro k w1 ⟨hk, htk, hs⟩
  refine C.keep [(0, _), (1, _), (9, _), (10, _), (11, _)] ⟨rfl, rfl, rfl, rfl, rfl, trivial⟩ ?_
  refine C.seq ?_
  refine C.region ?_
  refine R.ev rfl (E.lss rfl rfl) ?_
  refine R.done ?_
  refine X.keep [(0, _), (1, _), (9, _), (10, _), (11, _), (12, _)] ⟨rfl, rfl, rfl, rfl, rfl, rfl, trivial⟩ ?_
  refine X.next ?_
  refine C.seq ?_
  refine C.cdec rfl (fun h12 => ?_) (fun h12 => ?_)
  obtain ⟨x, hx⟩ : ∃ x, l[k]? = some x := ⟨_, List.getElem?_eq_getElem (by omega)⟩
  obtain ⟨y, hy⟩ : ∃ y, m[k]? = some y := ⟨_, List.getElem?_eq_getElem (by omega)⟩
  have c1 : w1.cell? ⟨b, off + k * 1, none⟩ = some (ub x) := by rw [Nat.mul_one]; exact A1 _ hs k _ (by rw [List.getElem?_map, hx]; rfl)
  have c2 : w1.cell? ⟨b', off' + k * 1, none⟩ = some (ub y) := by rw [Nat.mul_one]; exact A2 _ hs k _ (by rw [List.getElem?_map, hy]; rfl)
  refine C.skip ?_
  refine X.next ?_
  refine C.seq ?_
  refine C.block ?_
  refine C.seq ?_
  refine C.region ?_
  refine R.ev rfl (E.move rfl) ?_
  refine R.ev rfl (E.indexAddr rfl rfl Try.underlying105 Try.sz5 rfl (by omega)) ?_
  refine R.ev rfl (E.load1 rfl Try.underlying5 rfl (by exact by assumption)) ?_
  refine R.ev rfl (E.assign rfl) ?_
  refine R.ev rfl (E.assign rfl) ?_
  refine R.done ?_
  refine X.keep [(0, _), (1, _), (5, _), (6, _), (9, _), (10, _), (11, _)] ⟨rfl, rfl, rfl, rfl, rfl, rfl, rfl, trivial⟩ ?_
  refine X.next ?_
  refine C.seq ?_
  refine C.seq ?_
  refine C.region ?_
  refine R.ev rfl (E.move rfl) ?_
  refine R.ev rfl (E.move rfl) ?_
  refine R.ev rfl (E.lenSl rfl Try.underlying105) ?_
  refine R.ev rfl ((E.geq rfl rfl).isF (by omega)) ?_
  refine R.done ?_
  refine X.keep [(0, _), (1, _), (5, _), (6, _), (9, _), (10, _), (11, _), (19, _)] ⟨rfl, rfl, rfl, rfl, rfl, rfl, rfl, rfl, trivial⟩ ?_
  refine X.next ?_
  refine C.cfalse rfl ?_
  refine C.skip ?_
  refine X.next ?_
  refine C.seq ?_
  refine C.region ?_
  refine R.ev rfl (E.move rfl) ?_
  refine R.ev rfl (E.move rfl) ?_
  refine R.ev rfl (E.indexAddr rfl rfl Try.underlying105 Try.sz5 rfl (by omega)) ?_
  refine R.ev rfl (E.load1 rfl Try.underlying5 rfl (by exact by assumption)) ?_
  refine R.ev rfl (E.assign rfl) ?_
  refine R.done ?_
  refine X.keep [(0, _), (1, _), (6, _), (7, _), (9, _), (10, _), (11, _)] ⟨rfl, rfl, rfl, rfl, rfl, rfl, rfl, trivial⟩ ?_
  refine X.next ?_
  refine C.seq ?_
  refine C.region ?_
  refine R.ev rfl (E.move rfl) ?_
  refine R.ev rfl (E.move rfl) ?_
  refine R.call ⟨_, _, Try.func84, rfl, by kernel_rfl⟩ rfl rfl (cmpByte_any x y _) ?_
  rintro _ _ ⟨rfl, rfl⟩
  refine R.ev rfl (E.assign rfl) ?_
  refine R.done ?_
  refine X.keep [(0, _), (1, _), (8, _), (9, _), (10, _), (11, _)] ⟨rfl, rfl, rfl, rfl, rfl, rfl, trivial⟩ ?_
  refine X.next ?_
  refine C.seq ?_
  refine C.region ?_
  refine R.ev rfl (E.move rfl) ?_
  refine R.ev rfl (E.neq rfl rfl) ?_
  refine R.done ?_
  refine X.keep [(0, _), (1, _), (8, _), (9, _), (10, _), (11, _), (28, _)] ⟨rfl, rfl, rfl, rfl, rfl, rfl, rfl, trivial⟩ ?_
  refine X.next ?_
  refine C.cdec rfl (fun h28 => ?_) (fun h28 => ?_)
  refine C.seq ?_
  refine C.region ?_
  refine R.ev rfl (E.move rfl) ?_
  refine R.ev rfl (E.assign rfl) ?_
  refine R.done ?_
  refine X.keep [(4, _)] ⟨rfl, trivial⟩ ?_
  refine X.next ?_
  refine C.ret ?_
  refine X.blockRet ?_
  refine X.thenRet ?_
  refine X.loopRet ?_
  refine X.blockRet ?_
  refine X.thenRet ?_
  refine X.ret1 rfl rfl ?_
  exact ⟨by rw [cmpL_at htk hx hy h28], hs⟩
  refine C.skip ?_
  refine X.blockNormal ?_
  refine X.next ?_
  refine C.region ?_
  refine R.ev rfl (E.add rfl rfl (by omega) (by omega)) ?_
  refine R.ev rfl (E.move rfl) ?_
  refine R.done ?_
  refine X.keep [(0, _), (1, _), (9, _), (10, _), (11, _)] ⟨rfl, rfl, rfl, rfl, rfl, trivial⟩ ?_
  exact X.again (k + 1) ⟨rfl, rfl, rfl, rfl, rfl, trivial⟩ ⟨by omega, by rw [take_snoc hx, take_snoc hy, htk, cmpB_zero (Decidable.not_not.1 h28)], hs⟩ (by omega)
  refine C.exit ?_
  refine X.thenExit ?_
  refine X.loopExit ?_
  refine X.blockExit ?_
  refine X.next ?_
  refine C.seq ?_
  refine C.seq ?_
  refine C.region ?_
  refine R.ev rfl (E.move rfl) ?_
  refine R.ev rfl (E.lenSl rfl Try.underlying105) ?_
  refine R.ev rfl (E.move rfl) ?_
  refine R.ev rfl (E.lenSl rfl Try.underlying105) ?_
  refine R.ev rfl ((E.lss rfl rfl).isF (by omega)) ?_
  refine R.done ?_
  refine X.keep [(35, _)] ⟨rfl, trivial⟩ ?_
  refine X.next ?_
  refine C.cfalse rfl ?_
  refine C.skip ?_
  refine X.next ?_
  refine C.seq ?_
  refine C.region ?_
  refine R.ev rfl (E.assign rfl) ?_
  refine R.done ?_
  refine X.keep [(4, _)] ⟨rfl, trivial⟩ ?_
  refine X.next ?_
  refine C.ret ?_
  refine X.ret1 rfl rfl ?_
  have hlm : l = m := by rwa [show k = n by omega, List.take_of_length_le (by omega), List.take_of_length_le (by omega)] at htk
  exact ⟨by rw [hlm, cmpL_refl], hs⟩
theorem cmpIds_any (a b : Vec 32) (hs : Sat K w Hs) : Ret Try.prog 63 #[idV a.1, idV b.1] w fun v w' => v = .int .i64 (cmpL a.1 b.1) ∧ Sat K w' Hs := by
  have e1 := encV_len a
  have e2 := encV_len b
  refine Ret.enter (n := 8) (args := [idV a.1, idV b.1]) Try.func63 rfl rfl ?_
  refine C.keep [(0, _), (1, _)] ⟨rfl, rfl, trivial⟩ ?_
  refine C.seq ?_
  refine C.region ?_
  refine R.sboxA hs rfl rfl ?_
  intro b2 w2 hs
  refine R.sboxA hs rfl rfl ?_
  intro b3 w3 hs
  refine R.ev rfl (E.assign rfl) ?_
  refine R.done ?_
  refine X.keep [(2, _), (3, _)] ⟨rfl, rfl, trivial⟩ ?_
  refine X.next ?_
  refine C.seq ?_
  refine C.drawn (SatS hs) ([], [0, 1, 3]) (by kernel_rfl) ?_
  have hs := hs.drew
  refine D.evP 0 rfl (by kernel_rfl) rfl (np (by kernel_rfl)) (fun _ => E.sliceA rfl Try.underlying37 Try.sz5) ?_
  refine D.evP 1 rfl (by kernel_rfl) rfl (np (by kernel_rfl)) (fun _ => E.sliceA rfl Try.underlying37 Try.sz5) ?_
  refine D.act 2 rfl (by kernel_rfl) ?_
  refine R.call ⟨_, _, Try.func78, rfl, by kernel_rfl⟩ rfl rfl (sliceCmp_any (cap := 32) (cap' := 32) a.2 b.2 hs (by omega) (fun w' h => h.ldA) (fun w' h => h.ldA)) ?_
  rintro _ w2 ⟨rfl, hs⟩
  refine D.backT (by kernel_rfl) ?_
  refine D.evP 3 rfl (by kernel_rfl) rfl (np (by kernel_rfl)) (fun _ => E.assign rfl) ?_
  refine D.done rfl (by kernel_rfl) ?_
  refine X.keep [(4, _)] ⟨rfl, trivial⟩ ?_
  refine X.next ?_
  refine C.ret ?_
  refine X.ret1 rfl rfl ?_
  exact ⟨rfl, hs.to⟩
theorem better_any (x y : RA) (hs : Sat K w Hs) : Ret Try.prog 45 #[evA x, evA y] w fun v w' => v = .int .i64 (orI (cmpI y.x.date x.x.date) (cmpL x.x.id.1 y.x.id.1)) ∧ Sat K w' Hs := by
  refine Ret.enter (n := 17) (args := [evA x, evA y]) Try.func45 rfl rfl ?_
  refine C.keep [(0, _), (1, _)] ⟨rfl, rfl, trivial⟩ ?_
  refine C.seq ?_
  refine C.region ?_
  refine R.sboxA hs rfl rfl ?_
  intro b2 w2 hs
  refine R.sboxA hs rfl rfl ?_
  intro b3 w3 hs
  refine R.ev rfl (E.assign rfl) ?_
  refine R.done ?_
  refine X.keep [(2, _), (3, _)] ⟨rfl, rfl, trivial⟩ ?_
  refine X.next ?_
  refine C.seq ?_
  refine C.drawn (SatS hs) ([1, 3, 6, 8], [0, 2, 5, 7, 12]) (by kernel_rfl) ?_
  have hs := hs.drew
  refine D.evP 0 rfl (by kernel_rfl) rfl (fun _ => hs.to) (fun _ => E.fieldAddr0 48 rfl Try.underlying42 rfl Try.sz3 rfl) ?_
  refine D.evP 2 rfl (by kernel_rfl) rfl (fun _ => hs.to) (fun _ => E.fieldAddr0 48 rfl Try.underlying42 rfl Try.sz3 rfl) ?_
  refine D.evP 5 rfl (by kernel_rfl) rfl (fun _ => hs.to) (fun _ => E.fieldAddr0 0 rfl Try.underlying42 rfl Try.sz37 rfl) ?_
  refine D.evP 7 rfl (by kernel_rfl) rfl (fun _ => hs.to) (fun _ => E.fieldAddr0 0 rfl Try.underlying42 rfl Try.sz37 rfl) ?_
  refine D.ev 1 rfl (by kernel_rfl) rfl hs.to (fun _ hS => E.load1 rfl Try.underlying3 rfl (by exact hS.ldc)) ?_
  refine D.ev 3 rfl (by kernel_rfl) rfl hs.to (fun _ hS => E.load1 rfl Try.underlying3 rfl (by exact hS.ldc)) ?_
  refine D.ev 6 rfl (by kernel_rfl) rfl hs.to (fun _ hS => E.loadRowC rfl Try.underlying37 rfl Try.sz37 (by exact ⟨hS.ldP rfl, by exact encV_len _⟩)) ?_
  refine D.ev 8 rfl (by kernel_rfl) rfl hs.to (fun _ hS => E.loadRowC rfl Try.underlying37 rfl Try.sz37 (by exact ⟨hS.ldP rfl, by exact encV_len _⟩)) ?_
  refine D.act 4 rfl (by kernel_rfl) ?_
  refine R.call ⟨_, _, Try.func62, rfl, by kernel_rfl⟩ rfl rfl (cmpCompare_any y.x.date x.x.date _) ?_
  rintro _ _ ⟨rfl, rfl⟩
  refine D.back hs.to ?_
  refine D.act 9 rfl (by kernel_rfl) ?_
  refine R.call ⟨_, _, Try.func63, rfl, by kernel_rfl⟩ rfl rfl (cmpIds_any x.x.id y.x.id hs) ?_
  rintro _ w9 ⟨rfl, hs⟩
  refine D.backT (by kernel_rfl) ?_
  refine D.act 10 rfl (by kernel_rfl) ?_
  refine R.buildSlice1 (parts := [(0, .tmp 9), (1, .tmp 14)]) (vs := [_, _]) rfl rfl rfl Try.underlying70 Try.sz3 Try.zr3 rfl (by simp [Value.oneCell']) (by decide) ?_
  intro b15 w15 n15
  have hs := hs.new n15
  refine D.backT (by kernel_rfl) ?_
  refine D.act 11 rfl (by kernel_rfl) ?_
  refine R.call ⟨_, _, Try.func61, rfl, by kernel_rfl⟩ rfl rfl (cmpOr_any (cmpI y.x.date x.x.date) (cmpL x.x.id.1 y.x.id.1) hs) ?_
  rintro _ w11 ⟨rfl, hs⟩
  refine D.backT (by kernel_rfl) ?_
  refine D.evP 12 rfl (by kernel_rfl) rfl (np (by kernel_rfl)) (fun _ => E.assign rfl) ?_
  refine D.done rfl (by kernel_rfl) ?_
  refine X.keep [(4, _)] ⟨rfl, trivial⟩ ?_
  refine X.next ?_
  refine C.ret ?_
  refine X.ret1 rfl rfl ?_
  exact ⟨rfl, hs.to⟩
theorem isDate_any (x : RA) (hs : Sat K w Hs) : Ret Try.prog 43 #[evA x] w fun v w' => v = .bool (isMin x.x.date) ∧ Sat K w' Hs := by
  refine Ret.enter (n := 11) (args := [evA x]) Try.func43 rfl rfl ?_
  refine C.keep [(0, _)] ⟨rfl, trivial⟩ ?_
  refine C.seq ?_
  refine C.region ?_
  refine R.sboxA hs rfl rfl ?_
  intro b1 w1 hs
  refine R.ev rfl (E.assign rfl) ?_
  refine R.done ?_
  refine X.keep [(1, _)] ⟨rfl, trivial⟩ ?_
  refine X.next ?_
  refine C.seq ?_
  refine C.region ?_
  refine R.ev rfl (E.fieldAddr0 48 rfl Try.underlying42 rfl Try.sz3 rfl) ?_
  refine R.ev rfl (E.load1 rfl Try.underlying3 rfl (by exact hs.ldc)) ?_
  refine R.ev rfl (E.geq rfl rfl) ?_
  refine R.ev rfl (E.move rfl) ?_
  refine R.split 6 rfl (fun h6 => ?_) (fun h6 => ?_)
  refine R.gyes rfl rfl ?_
  refine R.ev rfl (E.fieldAddr0 48 rfl Try.underlying42 rfl Try.sz3 rfl) ?_
  refine R.gyes rfl rfl ?_
  refine R.ev rfl (E.load1 rfl Try.underlying3 rfl (by exact hs.ldc)) ?_
  refine R.gyes rfl rfl ?_
  refine R.ev rfl (E.leq rfl rfl) ?_
  refine R.ev rfl (E.pickT rfl rfl) ?_
  refine R.ev rfl (E.assign rfl) ?_
  refine R.done ?_
  refine X.keep [(2, _)] ⟨rfl, trivial⟩ ?_
  refine X.next ?_
  refine C.ret ?_
  refine X.ret1 rfl rfl ?_
  exact ⟨by (simp_all [isMin]; done), hs.to⟩
  refine R.gskip rfl rfl rfl ?_
  refine R.gskip rfl rfl rfl ?_
  refine R.gskip rfl rfl rfl ?_
  refine R.ev rfl (E.pickF rfl rfl) ?_
  refine R.ev rfl (E.assign rfl) ?_
  refine R.done ?_
  refine X.keep [(2, _)] ⟨rfl, trivial⟩ ?_
  refine X.next ?_
  refine C.ret ?_
  refine X.ret1 rfl rfl ?_
  exact ⟨by (simp_all [isMin]; omega), hs.to⟩
/-! contains, Valid, Outdoes -/
theorem contains1_any {b : Nat} {x : RA} (hg : GOk K x) (s : List UInt8) (hs : Sat K w Hs) [hb : InH b (.cells (encA x).toArray 42 (0, 0)) Hs] : Ret Try.prog 59 #[str s, ptr b] w fun v w' => v = .bool (!(decide (s ∈ grp x.x.g))) ∧ Sat K w' Hs := by
  have hk : KRow encS 1 K x.gv (grp x.x.g) := hg
  have hl := grp_len x.x.g
  have hp := hk.parts
  refine Ret.enter (n := 9) (args := [str s, ptr b]) Try.func59 rfl rfl ?_
  refine C.keep [(0, _), (1, _)] ⟨rfl, rfl, trivial⟩ ?_
  refine C.seq ?_
  refine C.region ?_
  refine R.ev rfl (E.assign rfl) ?_
  refine R.done ?_
  refine X.keep [(0, _), (1, _)] ⟨rfl, rfl, trivial⟩ ?_
  refine X.next ?_
  refine C.seq ?_
  refine C.region ?_
  refine R.ev rfl (E.fieldAddr0 49 rfl Try.underlying42 rfl Try.sz39 rfl) ?_
  refine R.ev rfl (E.load1 rfl Try.underlying39 rfl (by exact hs.ldc)) ?_
  refine R.ev rfl (E.move rfl) ?_
  refine R.call ⟨_, _, Try.func60, rfl, by kernel_rfl⟩ rfl rfl (conS_any s (L := grp x.x.g) hs (by omega)) ?_
  rintro _ w3 ⟨rfl, hs⟩
  refine R.ev rfl ((E.not rfl).isB (c := !(decide (s ∈ grp x.x.g))) rfl) ?_
  refine R.ev rfl (E.assign rfl) ?_
  refine R.done ?_
  refine X.keep [(3, _)] ⟨rfl, trivial⟩ ?_
  refine X.next ?_
  refine C.ret ?_
  refine X.ret1 rfl rfl ?_
  exact ⟨rfl, hs⟩
theorem any_sub {p x : UInt8} : (!((grp p).any fun s => !(decide (s ∈ grp x)))) = subG p x := by
  rw [Bool.eq_iff_iff, ← subG_grp, Bool.not_eq_true', List.any_eq_false]
  constructor
  · intro h s hs
    have := h s hs
    simpa using this
  · intro h s hs
    simpa using h s hs
theorem contains_any {x p : RA} (hx : GOk K x) (hp : GOk K p) (hs : Sat K w Hs) : Ret Try.prog 44 #[evA x, evA p] w fun v w' => v = .bool (subG p.x.g x.x.g) ∧ Sat K w' Hs := by
  have hk : KRow encS 1 K p.gv (grp p.x.g) := hp
  have hl := grp_len p.x.g
  have hpp := hk.parts
  refine Ret.enter (n := 10) (args := [evA x, evA p]) Try.func44 rfl rfl ?_
  refine C.keep [(0, _), (1, _)] ⟨rfl, rfl, trivial⟩ ?_
  refine C.seq ?_
  refine C.region ?_
  refine R.sboxA hs rfl rfl ?_
  intro b2 w2 hs
  refine R.sboxA hs rfl rfl ?_
  intro b3 w3 hs
  refine R.ev rfl (E.assign rfl) ?_
  refine R.done ?_
  refine X.keep [(2, _), (3, _)] ⟨rfl, rfl, trivial⟩ ?_
  refine X.next ?_
  refine C.seq ?_
  refine C.region ?_
  refine R.ev rfl (E.fieldAddr0 49 rfl Try.underlying42 rfl Try.sz39 rfl) ?_
  refine R.ev rfl (E.load1 rfl Try.underlying39 rfl (by exact hs.ldc)) ?_
  refine R.ev rfl (E.makeFunc rfl rfl) ?_
  refine R.call ⟨_, _, Try.func58, rfl, by kernel_rfl⟩ rfl rfl (conFS_any (first := []) (cap := [ptr b2]) (p := fun s => !(decide (s ∈ grp x.x.g))) (L := grp p.x.g) ⟨_, _, Try.func59, rfl, by kernel_rfl⟩ hs (by omega) (fun s _ w' h => contains1_any hx s h)) ?_
  rintro _ w3 ⟨rfl, hs⟩
  refine R.ev rfl ((E.not rfl).isB (c := subG p.x.g x.x.g) any_sub) ?_
  refine R.ev rfl (E.assign rfl) ?_
  refine R.done ?_
  refine X.keep [(4, _)] ⟨rfl, trivial⟩ ?_
  refine X.next ?_
  refine C.ret ?_
  refine X.ret1 rfl rfl ?_
  exact ⟨rfl, hs.to⟩
theorem valid_any {t s : RA} (ht : GOk K t) (hss : GOk K s) (hs : Sat K w Hs) : Ret Try.prog 17 #[evA t, evA s] w fun v w' => v = .bool (valid t.x s.x) ∧ Sat K w' Hs := by
  refine Ret.enter (n := 42) (args := [evA t, evA s]) Try.func17 rfl rfl ?_
  refine C.keep [(0, _), (1, _)] ⟨rfl, rfl, trivial⟩ ?_
  refine C.seq ?_
  refine C.region ?_
  refine R.sboxA hs rfl rfl ?_
  intro b2 w2 hs
  refine R.sboxA hs rfl rfl ?_
  intro b3 w3 hs
  refine R.ev rfl (E.assign rfl) ?_
  refine R.done ?_
  refine X.keep [(2, _), (3, _)] ⟨rfl, rfl, trivial⟩ ?_
  refine X.next ?_
  refine C.seq ?_
  refine C.region ?_
  refine R.ev rfl (E.fieldAddr0 51 rfl Try.underlying42 rfl Try.sz37 rfl) ?_
  refine R.ev rfl (E.loadRowC rfl Try.underlying37 rfl Try.sz37 (by exact hs.ldp)) ?_
  refine R.ev rfl ((E.buildA rfl Try.underlying37 Try.zr37 Try.sz5 rfl).as (u := .agg (encV vz).toArray) (by rfl)) ?_
  refine R.ev rfl (E.neV 10 rfl rfl Try.lv37 rfl Try.underlying37 rfl Try.gd37) ?_
  refine R.ev rfl (E.move rfl) ?_
  refine R.split 9 rfl (fun h9 => ?_) (fun h9 => ?_)
  refine R.gyes rfl rfl ?_
  refine R.ev rfl (E.fieldAddr0 51 rfl Try.underlying42 rfl Try.sz37 rfl) ?_
  refine R.gyes rfl rfl ?_
  refine R.ev rfl (E.loadRowC rfl Try.underlying37 rfl Try.sz37 (by exact hs.ldp)) ?_
  refine R.gyes rfl rfl ?_
  refine R.ev rfl (E.fieldAddr0 0 rfl Try.underlying42 rfl Try.sz37 rfl) ?_
  refine R.gyes rfl rfl ?_
  refine R.ev rfl (E.loadRowC rfl Try.underlying37 rfl Try.sz37 (by exact ⟨hs.ldP rfl, by exact encV_len _⟩)) ?_
  refine R.gyes rfl rfl ?_
  refine R.ev rfl (E.eqV 10 rfl rfl Try.lv37 rfl Try.underlying37 rfl Try.gd37) ?_
  refine R.ev rfl (E.pickT rfl rfl) ?_
  refine R.ev rfl (E.move rfl) ?_
  refine R.split 16 rfl (fun h16 => ?_) (fun h16 => ?_)
  refine R.gyes rfl rfl ?_
  refine R.ev rfl (E.fieldAddr0 0 rfl Try.underlying42 rfl Try.sz37 rfl) ?_
  refine R.gyes rfl rfl ?_
  refine R.ev rfl (E.loadRowC rfl Try.underlying37 rfl Try.sz37 (by exact ⟨hs.ldP rfl, by exact encV_len _⟩)) ?_
  refine R.gyes rfl rfl ?_
  refine R.ev rfl (E.fieldAddr0 0 rfl Try.underlying42 rfl Try.sz37 rfl) ?_
  refine R.gyes rfl rfl ?_
  refine R.ev rfl (E.loadRowC rfl Try.underlying37 rfl Try.sz37 (by exact ⟨hs.ldP rfl, by exact encV_len _⟩)) ?_
  refine R.gyes rfl rfl ?_
  refine R.ev rfl ((E.neV 10 rfl rfl Try.lv37 rfl Try.underlying37 rfl Try.gd37).isB (c := decide (t.x.id ≠ s.x.id)) (by rw [decide_eq_decide]; exact ⟨fun h e => h e.symm, fun h e => h e.symm⟩)) ?_
  refine R.ev rfl (E.pickT rfl rfl) ?_
  refine R.ev rfl (E.move rfl) ?_
  refine R.split 23 rfl (fun h23 => ?_) (fun h23 => ?_)
  refine R.gyes rfl rfl ?_
  refine R.ev rfl (E.fieldAddr0 32 rfl Try.underlying42 rfl Try.sz38 rfl) ?_
  refine R.gyes rfl rfl ?_
  refine R.ev rfl (E.loadRowC rfl Try.underlying38 rfl Try.sz38 (by exact hs.ldp)) ?_
  refine R.gyes rfl rfl ?_
  refine R.ev rfl (E.fieldAddr0 32 rfl Try.underlying42 rfl Try.sz38 rfl) ?_
  refine R.gyes rfl rfl ?_
  refine R.ev rfl (E.loadRowC rfl Try.underlying38 rfl Try.sz38 (by exact hs.ldp)) ?_
  refine R.gyes rfl rfl ?_
  refine R.ev rfl ((E.eqV 10 rfl rfl Try.lv38 rfl Try.underlying38 rfl Try.gd38).isB (c := decide (t.x.au = s.x.au)) (by rw [decide_eq_decide]; exact ⟨fun h => h.symm, fun h => h.symm⟩)) ?_
  refine R.ev rfl (E.pickT rfl rfl) ?_
  refine R.ev rfl (E.move rfl) ?_
  refine R.split 30 rfl (fun h30 => ?_) (fun h30 => ?_)
  refine R.gyes rfl rfl ?_
  refine R.ev rfl (E.fieldAddr0 48 rfl Try.underlying42 rfl Try.sz3 rfl) ?_
  refine R.gyes rfl rfl ?_
  refine R.ev rfl (E.load1 rfl Try.underlying3 rfl (by exact hs.ldc)) ?_
  refine R.gyes rfl rfl ?_
  refine R.ev rfl (E.fieldAddr0 48 rfl Try.underlying42 rfl Try.sz3 rfl) ?_
  refine R.gyes rfl rfl ?_
  refine R.ev rfl (E.load1 rfl Try.underlying3 rfl (by exact hs.ldc)) ?_
  refine R.gyes rfl rfl ?_
  refine R.ev rfl (E.geq rfl rfl) ?_
  refine R.ev rfl (E.pickT rfl rfl) ?_
  refine R.ev rfl (E.move rfl) ?_
  refine R.split 37 rfl (fun h37 => ?_) (fun h37 => ?_)
  refine R.gyes rfl rfl ?_
  refine R.ev rfl (E.loadRowC rfl Try.underlying42 rfl Try.sz42 (by exact ⟨hs.ldA, by exact Enc.len _⟩)) ?_
  refine R.gyes rfl rfl ?_
  refine R.ev rfl (E.loadRowC rfl Try.underlying42 rfl Try.sz42 (by exact ⟨hs.ldA, by exact Enc.len _⟩)) ?_
  refine R.gyes rfl rfl ?_
  refine R.call ⟨_, _, Try.func44, rfl, by kernel_rfl⟩ rfl rfl (contains_any hss ht hs) ?_
  rintro _ w35 ⟨rfl, hs⟩
  refine R.ev rfl (E.pickT rfl rfl) ?_
  refine R.ev rfl (E.assign rfl) ?_
  refine R.done ?_
  refine X.keep [(4, _)] ⟨rfl, trivial⟩ ?_
  refine X.next ?_
  refine C.ret ?_
  refine X.ret1 rfl rfl ?_
  exact ⟨by clear ht hss; simp only [valid, *, Bool.true_and, Bool.false_and, Bool.and_true, Bool.and_false], hs.to⟩
  refine R.gskip rfl rfl rfl ?_
  refine R.gskip rfl rfl rfl ?_
  refine R.gskip rfl rfl rfl ?_
  refine R.ev rfl (E.pickF rfl rfl) ?_
  refine R.ev rfl (E.assign rfl) ?_
  refine R.done ?_
  refine X.keep [(4, _)] ⟨rfl, trivial⟩ ?_
  refine X.next ?_
  refine C.ret ?_
  refine X.ret1 rfl rfl ?_
  exact ⟨by clear ht hss; simp only [valid, *, Bool.true_and, Bool.false_and, Bool.and_true, Bool.and_false], hs.to⟩
  refine R.gskip rfl rfl rfl ?_
  refine R.gskip rfl rfl rfl ?_
  refine R.gskip rfl rfl rfl ?_
  refine R.gskip rfl rfl rfl ?_
  refine R.gskip rfl rfl rfl ?_
  refine R.ev rfl (E.pickF rfl rfl) ?_
  refine R.ev rfl (E.move rfl) ?_
  refine R.gskip rfl rfl rfl ?_
  refine R.gskip rfl rfl rfl ?_
  refine R.gskip rfl rfl rfl ?_
  refine R.ev rfl (E.pickF rfl rfl) ?_
  refine R.ev rfl (E.assign rfl) ?_
  refine R.done ?_
  refine X.keep [(4, _)] ⟨rfl, trivial⟩ ?_
  refine X.next ?_
  refine C.ret ?_
  refine X.ret1 rfl rfl ?_
  exact ⟨by clear ht hss; simp only [valid, *, Bool.true_and, Bool.false_and, Bool.and_true, Bool.and_false], hs.to⟩
  refine R.gskip rfl rfl rfl ?_
  refine R.gskip rfl rfl rfl ?_
  refine R.gskip rfl rfl rfl ?_
  refine R.gskip rfl rfl rfl ?_
  refine R.gskip rfl rfl rfl ?_
  refine R.ev rfl (E.pickF rfl rfl) ?_
  refine R.ev rfl (E.move rfl) ?_
  refine R.gskip rfl rfl rfl ?_
  refine R.gskip rfl rfl rfl ?_
  refine R.gskip rfl rfl rfl ?_
  refine R.gskip rfl rfl rfl ?_
  refine R.gskip rfl rfl rfl ?_
  refine R.ev rfl (E.pickF rfl rfl) ?_
  refine R.ev rfl (E.move rfl) ?_
  refine R.gskip rfl rfl rfl ?_
  refine R.gskip rfl rfl rfl ?_
  refine R.gskip rfl rfl rfl ?_
  refine R.ev rfl (E.pickF rfl rfl) ?_
  refine R.ev rfl (E.assign rfl) ?_
  refine R.done ?_
  refine X.keep [(4, _)] ⟨rfl, trivial⟩ ?_
  refine X.next ?_
  refine C.ret ?_
  refine X.ret1 rfl rfl ?_
  exact ⟨by clear ht hss; simp only [valid, *, Bool.true_and, Bool.false_and, Bool.and_true, Bool.and_false], hs.to⟩
  refine R.gskip rfl rfl rfl ?_
  refine R.gskip rfl rfl rfl ?_
  refine R.gskip rfl rfl rfl ?_
  refine R.gskip rfl rfl rfl ?_
  refine R.gskip rfl rfl rfl ?_
  refine R.ev rfl (E.pickF rfl rfl) ?_
  refine R.ev rfl (E.move rfl) ?_
  refine R.gskip rfl rfl rfl ?_
  refine R.gskip rfl rfl rfl ?_
  refine R.gskip rfl rfl rfl ?_
  refine R.gskip rfl rfl rfl ?_
  refine R.gskip rfl rfl rfl ?_
  refine R.ev rfl (E.pickF rfl rfl) ?_
  refine R.ev rfl (E.move rfl) ?_
  refine R.gskip rfl rfl rfl ?_
  refine R.gskip rfl rfl rfl ?_
  refine R.gskip rfl rfl rfl ?_
  refine R.gskip rfl rfl rfl ?_
  refine R.gskip rfl rfl rfl ?_
  refine R.ev rfl (E.pickF rfl rfl) ?_
  refine R.ev rfl (E.move rfl) ?_
  refine R.gskip rfl rfl rfl ?_
  refine R.gskip rfl rfl rfl ?_
  refine R.gskip rfl rfl rfl ?_
  refine R.ev rfl (E.pickF rfl rfl) ?_
  refine R.ev rfl (E.assign rfl) ?_
  refine R.done ?_
  refine X.keep [(4, _)] ⟨rfl, trivial⟩ ?_
  refine X.next ?_
  refine C.ret ?_
  refine X.ret1 rfl rfl ?_
  exact ⟨by clear ht hss; simp only [valid, *, Bool.true_and, Bool.false_and, Bool.and_true, Bool.and_false], hs.to⟩
  refine R.gskip rfl rfl rfl ?_
  refine R.gskip rfl rfl rfl ?_
  refine R.gskip rfl rfl rfl ?_
  refine R.gskip rfl rfl rfl ?_
  refine R.gskip rfl rfl rfl ?_
  refine R.ev rfl (E.pickF rfl rfl) ?_
  refine R.ev rfl (E.move rfl) ?_
  refine R.gskip rfl rfl rfl ?_
  refine R.gskip rfl rfl rfl ?_
  refine R.gskip rfl rfl rfl ?_
  refine R.gskip rfl rfl rfl ?_
  refine R.gskip rfl rfl rfl ?_
  refine R.ev rfl (E.pickF rfl rfl) ?_
  refine R.ev rfl (E.move rfl) ?_
  refine R.gskip rfl rfl rfl ?_
  refine R.gskip rfl rfl rfl ?_
  refine R.gskip rfl rfl rfl ?_
  refine R.gskip rfl rfl rfl ?_
  refine R.gskip rfl rfl rfl ?_
  refine R.ev rfl (E.pickF rfl rfl) ?_
  refine R.ev rfl (E.move rfl) ?_
  refine R.gskip rfl rfl rfl ?_
  refine R.gskip rfl rfl rfl ?_
  refine R.gskip rfl rfl rfl ?_
  refine R.gskip rfl rfl rfl ?_
  refine R.gskip rfl rfl rfl ?_
  refine R.ev rfl (E.pickF rfl rfl) ?_
  refine R.ev rfl (E.move rfl) ?_
  refine R.gskip rfl rfl rfl ?_
  refine R.gskip rfl rfl rfl ?_
  refine R.gskip rfl rfl rfl ?_
  refine R.ev rfl (E.pickF rfl rfl) ?_
  refine R.ev rfl (E.assign rfl) ?_
  refine R.done ?_
  refine X.keep [(4, _)] ⟨rfl, trivial⟩ ?_
  refine X.next ?_
  refine C.ret ?_
  refine X.ret1 rfl rfl ?_
  exact ⟨by clear ht hss; simp only [valid, *, Bool.true_and, Bool.false_and, Bool.and_true, Bool.and_false], hs.to⟩
theorem outd_perm {x y : RR} : outd x y = (decide (x.sup ≠ vz) && decide (x.sup = y.sup) && decide (x.sup ≠ x.id) && decide (x.id ≠ y.id) && decide (x.au = y.au) && ltB x y && subG y.g x.g) := by
  unfold outd
  rw [Bool.eq_iff_iff]
  simp only [Bool.and_eq_true, and_assoc]
  constructor
  · rintro ⟨a, b, c, d, e, f, g⟩; exact ⟨b, d, c, a, e, g, f⟩
  · rintro ⟨b, d, c, a, e, g, f⟩; exact ⟨a, b, c, d, e, f, g⟩
theorem outd_any {x y : RA} (hx : GOk K x) (hy : GOk K y) (hs : Sat K w Hs) : Ret Try.prog 20 #[evA x, evA y] w fun v w' => v = .bool (outd x.x y.x) ∧ Sat K w' Hs := by
  refine Ret.enter (n := 48) (args := [evA x, evA y]) Try.func20 rfl rfl ?_
  refine C.keep [(0, _), (1, _)] ⟨rfl, rfl, trivial⟩ ?_
  refine C.seq ?_
  refine C.region ?_
  refine R.sboxA hs rfl rfl ?_
  intro b2 w2 hs
  refine R.sboxA hs rfl rfl ?_
  intro b3 w3 hs
  refine R.ev rfl (E.assign rfl) ?_
  refine R.done ?_
  refine X.keep [(2, _), (3, _)] ⟨rfl, rfl, trivial⟩ ?_
  refine X.next ?_
  refine C.seq ?_
  refine C.region ?_
  refine R.ev rfl (E.fieldAddr0 51 rfl Try.underlying42 rfl Try.sz37 rfl) ?_
  refine R.ev rfl (E.loadRowC rfl Try.underlying37 rfl Try.sz37 (by exact hs.ldp)) ?_
  refine R.ev rfl ((E.buildA rfl Try.underlying37 Try.zr37 Try.sz5 rfl).as (u := .agg (encV vz).toArray) (by rfl)) ?_
  refine R.ev rfl (E.neV 10 rfl rfl Try.lv37 rfl Try.underlying37 rfl Try.gd37) ?_
  refine R.ev rfl (E.move rfl) ?_
  refine R.split 9 rfl (fun h9 => ?_) (fun h9 => ?_)
  refine R.gyes rfl rfl ?_
  refine R.ev rfl (E.fieldAddr0 51 rfl Try.underlying42 rfl Try.sz37 rfl) ?_
  refine R.gyes rfl rfl ?_
  refine R.ev rfl (E.loadRowC rfl Try.underlying37 rfl Try.sz37 (by exact hs.ldp)) ?_
  refine R.gyes rfl rfl ?_
  refine R.ev rfl (E.fieldAddr0 51 rfl Try.underlying42 rfl Try.sz37 rfl) ?_
  refine R.gyes rfl rfl ?_
  refine R.ev rfl (E.loadRowC rfl Try.underlying37 rfl Try.sz37 (by exact hs.ldp)) ?_
  refine R.gyes rfl rfl ?_
  refine R.ev rfl (E.eqV 10 rfl rfl Try.lv37 rfl Try.underlying37 rfl Try.gd37) ?_
  refine R.ev rfl (E.pickT rfl rfl) ?_
  refine R.ev rfl (E.move rfl) ?_
  refine R.split 16 rfl (fun h16 => ?_) (fun h16 => ?_)
  refine R.gyes rfl rfl ?_
  refine R.ev rfl (E.fieldAddr0 51 rfl Try.underlying42 rfl Try.sz37 rfl) ?_
  refine R.gyes rfl rfl ?_
  refine R.ev rfl (E.loadRowC rfl Try.underlying37 rfl Try.sz37 (by exact hs.ldp)) ?_
  refine R.gyes rfl rfl ?_
  refine R.ev rfl (E.fieldAddr0 0 rfl Try.underlying42 rfl Try.sz37 rfl) ?_
  refine R.gyes rfl rfl ?_
  refine R.ev rfl (E.loadRowC rfl Try.underlying37 rfl Try.sz37 (by exact ⟨hs.ldP rfl, by exact encV_len _⟩)) ?_
  refine R.gyes rfl rfl ?_
  refine R.ev rfl (E.neV 10 rfl rfl Try.lv37 rfl Try.underlying37 rfl Try.gd37) ?_
  refine R.ev rfl (E.pickT rfl rfl) ?_
  refine R.ev rfl (E.move rfl) ?_
  refine R.split 23 rfl (fun h23 => ?_) (fun h23 => ?_)
  refine R.gyes rfl rfl ?_
  refine R.ev rfl (E.fieldAddr0 0 rfl Try.underlying42 rfl Try.sz37 rfl) ?_
  refine R.gyes rfl rfl ?_
  refine R.ev rfl (E.loadRowC rfl Try.underlying37 rfl Try.sz37 (by exact ⟨hs.ldP rfl, by exact encV_len _⟩)) ?_
  refine R.gyes rfl rfl ?_
  refine R.ev rfl (E.fieldAddr0 0 rfl Try.underlying42 rfl Try.sz37 rfl) ?_
  refine R.gyes rfl rfl ?_
  refine R.ev rfl (E.loadRowC rfl Try.underlying37 rfl Try.sz37 (by exact ⟨hs.ldP rfl, by exact encV_len _⟩)) ?_
  refine R.gyes rfl rfl ?_
  refine R.ev rfl (E.neV 10 rfl rfl Try.lv37 rfl Try.underlying37 rfl Try.gd37) ?_
  refine R.ev rfl (E.pickT rfl rfl) ?_
  refine R.ev rfl (E.move rfl) ?_
  refine R.split 30 rfl (fun h30 => ?_) (fun h30 => ?_)
  refine R.gyes rfl rfl ?_
  refine R.ev rfl (E.fieldAddr0 32 rfl Try.underlying42 rfl Try.sz38 rfl) ?_
  refine R.gyes rfl rfl ?_
  refine R.ev rfl (E.loadRowC rfl Try.underlying38 rfl Try.sz38 (by exact hs.ldp)) ?_
  refine R.gyes rfl rfl ?_
  refine R.ev rfl (E.fieldAddr0 32 rfl Try.underlying42 rfl Try.sz38 rfl) ?_
  refine R.gyes rfl rfl ?_
  refine R.ev rfl (E.loadRowC rfl Try.underlying38 rfl Try.sz38 (by exact hs.ldp)) ?_
  refine R.gyes rfl rfl ?_
  refine R.ev rfl (E.eqV 10 rfl rfl Try.lv38 rfl Try.underlying38 rfl Try.gd38) ?_
  refine R.ev rfl (E.pickT rfl rfl) ?_
  refine R.ev rfl (E.move rfl) ?_
  refine R.split 37 rfl (fun h37 => ?_) (fun h37 => ?_)
  refine R.gyes rfl rfl ?_
  refine R.ev rfl (E.loadRowC rfl Try.underlying42 rfl Try.sz42 (by exact ⟨hs.ldA, by exact Enc.len _⟩)) ?_
  refine R.gyes rfl rfl ?_
  refine R.ev rfl (E.loadRowC rfl Try.underlying42 rfl Try.sz42 (by exact ⟨hs.ldA, by exact Enc.len _⟩)) ?_
  refine R.gyes rfl rfl ?_
  refine R.call ⟨_, _, Try.func45, rfl, by kernel_rfl⟩ rfl rfl (better_any x y hs) ?_
  rintro _ w35 ⟨rfl, hs⟩
  refine R.gyes rfl rfl ?_
  refine R.ev rfl ((E.lss rfl rfl).isB (c := ltB x.x y.x) rfl) ?_
  refine R.ev rfl (E.pickT rfl rfl) ?_
  refine R.ev rfl (E.move rfl) ?_
  refine R.split 43 rfl (fun h43 => ?_) (fun h43 => ?_)
  refine R.gyes rfl rfl ?_
  refine R.ev rfl (E.loadRowC rfl Try.underlying42 rfl Try.sz42 (by exact ⟨hs.ldA, by exact Enc.len _⟩)) ?_
  refine R.gyes rfl rfl ?_
  refine R.ev rfl (E.loadRowC rfl Try.underlying42 rfl Try.sz42 (by exact ⟨hs.ldA, by exact Enc.len _⟩)) ?_
  refine R.gyes rfl rfl ?_
  refine R.call ⟨_, _, Try.func44, rfl, by kernel_rfl⟩ rfl rfl (contains_any hx hy hs) ?_
  rintro _ w41 ⟨rfl, hs⟩
  refine R.ev rfl (E.pickT rfl rfl) ?_
  refine R.ev rfl (E.assign rfl) ?_
  refine R.done ?_
  refine X.keep [(4, _)] ⟨rfl, trivial⟩ ?_
  refine X.next ?_
  refine C.ret ?_
  refine X.ret1 rfl rfl ?_
  exact ⟨by clear hx hy; rw [outd_perm]; simp only [*, Bool.true_and, Bool.false_and, Bool.and_true, Bool.and_false], hs.to⟩
  refine R.gskip rfl rfl rfl ?_
  refine R.gskip rfl rfl rfl ?_
  refine R.gskip rfl rfl rfl ?_
  refine R.ev rfl (E.pickF rfl rfl) ?_
  refine R.ev rfl (E.assign rfl) ?_
  refine R.done ?_
  refine X.keep [(4, _)] ⟨rfl, trivial⟩ ?_
  refine X.next ?_
  refine C.ret ?_
  refine X.ret1 rfl rfl ?_
  exact ⟨by clear hx hy; rw [outd_perm]; simp only [*, Bool.true_and, Bool.false_and, Bool.and_true, Bool.and_false], hs.to⟩
  refine R.gskip rfl rfl rfl ?_
  refine R.gskip rfl rfl rfl ?_
  refine R.gskip rfl rfl rfl ?_
  refine R.gskip rfl rfl rfl ?_
  refine R.ev rfl (E.pickF rfl rfl) ?_
  refine R.ev rfl (E.move rfl) ?_
  refine R.gskip rfl rfl rfl ?_
  refine R.gskip rfl rfl rfl ?_
  refine R.gskip rfl rfl rfl ?_
  refine R.ev rfl (E.pickF rfl rfl) ?_
  refine R.ev rfl (E.assign rfl) ?_
  refine R.done ?_
  refine X.keep [(4, _)] ⟨rfl, trivial⟩ ?_
  refine X.next ?_
  refine C.ret ?_
  refine X.ret1 rfl rfl ?_
  exact ⟨by clear hx hy; rw [outd_perm]; simp only [*, Bool.true_and, Bool.false_and, Bool.and_true, Bool.and_false], hs.to⟩
  refine R.gskip rfl rfl rfl ?_
  refine R.gskip rfl rfl rfl ?_
  refine R.gskip rfl rfl rfl ?_
  refine R.gskip rfl rfl rfl ?_
  refine R.gskip rfl rfl rfl ?_
  refine R.ev rfl (E.pickF rfl rfl) ?_
  refine R.ev rfl (E.move rfl) ?_
  refine R.gskip rfl rfl rfl ?_
  refine R.gskip rfl rfl rfl ?_
  refine R.gskip rfl rfl rfl ?_
  refine R.gskip rfl rfl rfl ?_
  refine R.ev rfl (E.pickF rfl rfl) ?_
  refine R.ev rfl (E.move rfl) ?_
  refine R.gskip rfl rfl rfl ?_
  refine R.gskip rfl rfl rfl ?_
  refine R.gskip rfl rfl rfl ?_
  refine R.ev rfl (E.pickF rfl rfl) ?_
  refine R.ev rfl (E.assign rfl) ?_
  refine R.done ?_
  refine X.keep [(4, _)] ⟨rfl, trivial⟩ ?_
  refine X.next ?_
  refine C.ret ?_
  refine X.ret1 rfl rfl ?_
  exact ⟨by clear hx hy; rw [outd_perm]; simp only [*, Bool.true_and, Bool.false_and, Bool.and_true, Bool.and_false], hs.to⟩
  refine R.gskip rfl rfl rfl ?_
  refine R.gskip rfl rfl rfl ?_
  refine R.gskip rfl rfl rfl ?_
  refine R.gskip rfl rfl rfl ?_
  refine R.gskip rfl rfl rfl ?_
  refine R.ev rfl (E.pickF rfl rfl) ?_
  refine R.ev rfl (E.move rfl) ?_
  refine R.gskip rfl rfl rfl ?_
  refine R.gskip rfl rfl rfl ?_
  refine R.gskip rfl rfl rfl ?_
  refine R.gskip rfl rfl rfl ?_
  refine R.gskip rfl rfl rfl ?_
  refine R.ev rfl (E.pickF rfl rfl) ?_
  refine R.ev rfl (E.move rfl) ?_
  refine R.gskip rfl rfl rfl ?_
  refine R.gskip rfl rfl rfl ?_
  refine R.gskip rfl rfl rfl ?_
  refine R.gskip rfl rfl rfl ?_
  refine R.ev rfl (E.pickF rfl rfl) ?_
  refine R.ev rfl (E.move rfl) ?_
  refine R.gskip rfl rfl rfl ?_
  refine R.gskip rfl rfl rfl ?_
  refine R.gskip rfl rfl rfl ?_
  refine R.ev rfl (E.pickF rfl rfl) ?_
  refine R.ev rfl (E.assign rfl) ?_
  refine R.done ?_
  refine X.keep [(4, _)] ⟨rfl, trivial⟩ ?_
  refine X.next ?_
  refine C.ret ?_
  refine X.ret1 rfl rfl ?_
  exact ⟨by clear hx hy; rw [outd_perm]; simp only [*, Bool.true_and, Bool.false_and, Bool.and_true, Bool.and_false], hs.to⟩
  refine R.gskip rfl rfl rfl ?_
  refine R.gskip rfl rfl rfl ?_
  refine R.gskip rfl rfl rfl ?_
  refine R.gskip rfl rfl rfl ?_
  refine R.gskip rfl rfl rfl ?_
  refine R.ev rfl (E.pickF rfl rfl) ?_
  refine R.ev rfl (E.move rfl) ?_
  refine R.gskip rfl rfl rfl ?_
  refine R.gskip rfl rfl rfl ?_
  refine R.gskip rfl rfl rfl ?_
  refine R.gskip rfl rfl rfl ?_
  refine R.gskip rfl rfl rfl ?_
  refine R.ev rfl (E.pickF rfl rfl) ?_
  refine R.ev rfl (E.move rfl) ?_
  refine R.gskip rfl rfl rfl ?_
  refine R.gskip rfl rfl rfl ?_
  refine R.gskip rfl rfl rfl ?_
  refine R.gskip rfl rfl rfl ?_
  refine R.gskip rfl rfl rfl ?_
  refine R.ev rfl (E.pickF rfl rfl) ?_
  refine R.ev rfl (E.move rfl) ?_
  refine R.gskip rfl rfl rfl ?_
  refine R.gskip rfl rfl rfl ?_
  refine R.gskip rfl rfl rfl ?_
  refine R.gskip rfl rfl rfl ?_
  refine R.ev rfl (E.pickF rfl rfl) ?_
  refine R.ev rfl (E.move rfl) ?_
  refine R.gskip rfl rfl rfl ?_
  refine R.gskip rfl rfl rfl ?_
  refine R.gskip rfl rfl rfl ?_
  refine R.ev rfl (E.pickF rfl rfl) ?_
  refine R.ev rfl (E.assign rfl) ?_
  refine R.done ?_
  refine X.keep [(4, _)] ⟨rfl, trivial⟩ ?_
  refine X.next ?_
  refine C.ret ?_
  refine X.ret1 rfl rfl ?_
  exact ⟨by clear hx hy; rw [outd_perm]; simp only [*, Bool.true_and, Bool.false_and, Bool.and_true, Bool.and_false], hs.to⟩
  refine R.gskip rfl rfl rfl ?_
  refine R.gskip rfl rfl rfl ?_
  refine R.gskip rfl rfl rfl ?_
  refine R.gskip rfl rfl rfl ?_
  refine R.gskip rfl rfl rfl ?_
  refine R.ev rfl (E.pickF rfl rfl) ?_
  refine R.ev rfl (E.move rfl) ?_
  refine R.gskip rfl rfl rfl ?_
  refine R.gskip rfl rfl rfl ?_
  refine R.gskip rfl rfl rfl ?_
  refine R.gskip rfl rfl rfl ?_
  refine R.gskip rfl rfl rfl ?_
  refine R.ev rfl (E.pickF rfl rfl) ?_
  refine R.ev rfl (E.move rfl) ?_
  refine R.gskip rfl rfl rfl ?_
  refine R.gskip rfl rfl rfl ?_
  refine R.gskip rfl rfl rfl ?_
  refine R.gskip rfl rfl rfl ?_
  refine R.gskip rfl rfl rfl ?_
  refine R.ev rfl (E.pickF rfl rfl) ?_
  refine R.ev rfl (E.move rfl) ?_
  refine R.gskip rfl rfl rfl ?_
  refine R.gskip rfl rfl rfl ?_
  refine R.gskip rfl rfl rfl ?_
  refine R.gskip rfl rfl rfl ?_
  refine R.gskip rfl rfl rfl ?_
  refine R.ev rfl (E.pickF rfl rfl) ?_
  refine R.ev rfl (E.move rfl) ?_
  refine R.gskip rfl rfl rfl ?_
  refine R.gskip rfl rfl rfl ?_
  refine R.gskip rfl rfl rfl ?_
  refine R.gskip rfl rfl rfl ?_
  refine R.ev rfl (E.pickF rfl rfl) ?_
  refine R.ev rfl (E.move rfl) ?_
  refine R.gskip rfl rfl rfl ?_
  refine R.gskip rfl rfl rfl ?_
  refine R.gskip rfl rfl rfl ?_
  refine R.ev rfl (E.pickF rfl rfl) ?_
  refine R.ev rfl (E.assign rfl) ?_
  refine R.done ?_
  refine X.keep [(4, _)] ⟨rfl, trivial⟩ ?_
  refine X.next ?_
  refine C.ret ?_
  refine X.ret1 rfl rfl ?_
  exact ⟨by clear hx hy; rw [outd_perm]; simp only [*, Bool.true_and, Bool.false_and, Bool.and_true, Bool.and_false], hs.to⟩
end Go.Proofs.Ytmjmichghfepkaa
