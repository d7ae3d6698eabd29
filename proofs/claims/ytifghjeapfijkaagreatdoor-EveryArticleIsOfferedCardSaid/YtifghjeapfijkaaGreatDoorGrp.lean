/-
  package groupname: Check.
-/
import Derived.Test.YtifghjeapfijkaaGreatDoorEngIf
import Derived.Test.YtifghjeapfijkaaGreatDoorStr
namespace Go.Proofs.YtifghjeapfijkaaGreatDoor
open Go.Eng Go.RowKit

theorem idxS_any {K : Kn} {Hs : List Hl} {fid : FuncId} {first cap : List Value} {p : (List UInt8) → Bool} {L : List (List UInt8)} {ad : Option Addr} {n c : Nat} {w : World} (hcal : Callable Tryz.prog fid) (hs : Sat K w Hs) [hrd : Rd encS 1 K Hs (.slice ad n c) L] (hn : n ≤ 9223372036854775807)
    (hf : ∀ y ∈ L, ∀ w', Sat K w' Hs → Ret Tryz.prog fid (first ++ [str y] ++ cap).toArray w' fun v w'' => v = .bool (p y) ∧ Sat K w'' Hs) :
    Ret Tryz.prog 71 #[.slice ad n c, .func (.func fid) first.toArray cap.toArray] w fun v w' => v = .int .i64 (idxP p L) ∧ Sat K w' Hs := by
  have hln := hrd.len
  refine Ret.enter (n := 19) (args := [.slice ad n c, .func (.func fid) first.toArray cap.toArray]) Tryz.func71 rfl rfl ?_
  refine C.keep [(0, _), (1, _)] ⟨rfl, rfl, trivial⟩ ?_
  refine C.seq ?_
  refine C.region ?_
  refine R.ev rfl (E.assign rfl) ?_
  refine R.done ?_
  refine X.keep [(0, _), (1, _)] ⟨rfl, rfl, trivial⟩ ?_
  refine X.next ?_
  refine C.seq ?_
  refine C.seq ?_
  refine C.region ?_
  refine R.ev rfl (E.move rfl) ?_
  refine R.ev rfl (E.lenSl rfl Tryz.underlying30) ?_
  refine R.ev rfl (E.move rfl) ?_
  refine R.done ?_
  refine X.keep [(0, _), (1, _), (7, _), (8, _)] ⟨rfl, rfl, rfl, rfl, trivial⟩ ?_
  refine X.next ?_
  refine C.block ?_
  refine C.loop  [(0, _), (1, _), (7, _)] (fun k => [(8, .int .i64 (k : Nat))]) (fun k w' => k ≤ n ∧ Sat K w' Hs ∧ ∀ j, j < k → ∀ y, L[j]? = some y → p y = false) (fun k => n - k) (0) ⟨rfl, rfl, rfl, rfl, trivial⟩ ⟨Nat.zero_le _, hs, fun j h => by omega⟩ ?_
  rintro k w1 ⟨hk, hs, hno⟩
  refine C.keep [(0, _), (1, _), (7, _), (8, _)] ⟨rfl, rfl, rfl, rfl, trivial⟩ ?_
  refine C.seq ?_
  refine C.region ?_
  refine R.ev rfl (E.lss rfl rfl) ?_
  refine R.done ?_
  refine X.keep [(0, _), (1, _), (7, _), (8, _), (9, _)] ⟨rfl, rfl, rfl, rfl, rfl, trivial⟩ ?_
  refine X.next ?_
  refine C.seq ?_
  refine C.cdec rfl (fun h9 => ?_) (fun h9 => ?_)
  · obtain ⟨y, bk_y, of_y, hy, my, ly, rfl, Ay⟩ := hs.el (i := k) (ad := ad) (n := n) (c := c) (by omega)
    have ay := Ay _ hs
    refine C.skip ?_
    refine X.next ?_
    refine C.seq ?_
    refine C.block ?_
    refine C.seq ?_
    refine C.region ?_
    refine R.ev rfl (E.move rfl) ?_
    refine R.ev rfl (E.assign rfl) ?_
    refine R.done ?_
    refine X.keep [(0, _), (1, _), (5, _), (7, _), (8, _)] ⟨rfl, rfl, rfl, rfl, rfl, trivial⟩ ?_
    refine X.next ?_
    refine C.seq ?_
    refine C.region ?_
    refine R.ev rfl (E.move rfl) ?_
    refine R.ev rfl (E.move rfl) ?_
    refine R.ev rfl (E.move rfl) ?_
    refine R.ev rfl (E.indexAddr rfl rfl Tryz.underlying30 Tryz.sz9 rfl (by first | omega | decide)) ?_
    refine R.ev rfl (E.load1 rfl Tryz.underlying9 rfl (ay 0 _ rfl)) ?_
    refine R.callV hcal rfl rfl rfl (hf y my _ hs) ?_
    rintro _ w2 ⟨rfl, hs⟩
    refine R.done ?_
    refine X.keep [(0, _), (1, _), (5, _), (7, _), (8, _), (16, _)] ⟨rfl, rfl, rfl, rfl, rfl, rfl, trivial⟩ ?_
    refine X.next ?_
    refine C.cbool rfl (fun h16 => ?_) (fun h16 => ?_)
    · refine C.seq ?_
      refine C.region ?_
      refine R.ev rfl (E.move rfl) ?_
      refine R.ev rfl (E.assign rfl) ?_
      refine R.done ?_
      refine X.keep [(4, _)] ⟨rfl, trivial⟩ ?_
      refine X.next ?_
      refine C.ret ?_
      refine X.blockRet ?_
      refine X.thenRet ?_
      refine X.loopRet ?_
      refine X.blockRet ?_
      refine X.thenRet ?_
      refine X.ret1 rfl rfl ?_
      exact ⟨by rw [idxP_some hy h16 hno], hs⟩
    · refine C.skip ?_
      refine X.blockNormal ?_
      refine X.next ?_
      refine C.region ?_
      refine R.ev rfl (E.add rfl rfl (by omega) (by omega)) ?_
      refine R.ev rfl (E.move rfl) ?_
      refine R.done ?_
      refine X.keep [(0, _), (1, _), (7, _), (8, _)] ⟨rfl, rfl, rfl, rfl, trivial⟩ ?_
      exact X.again (k + 1) ⟨rfl, rfl, rfl, rfl, trivial⟩ ⟨by omega, hs, idxP_step hy h16 hno⟩ (by omega)
  · refine C.exit ?_
    refine X.thenExit ?_
    refine X.loopExit ?_
    refine X.blockExit ?_
    refine X.next ?_
    refine C.seq ?_
    refine C.region ?_
    refine R.ev rfl (E.assign rfl) ?_
    refine R.done ?_
    refine X.keep [(4, _)] ⟨rfl, trivial⟩ ?_
    refine X.next ?_
    refine C.ret ?_
    refine X.ret1 rfl rfl ?_
    exact ⟨by rw [idxP_none hno (by omega)], hs⟩
theorem conS_any {K : Kn} {Hs : List Hl} {fid : FuncId} {first cap : List Value} {p : (List UInt8) → Bool} {L : List (List UInt8)} {ad : Option Addr} {n c : Nat} {w : World} (hcal : Callable Tryz.prog fid) (hs : Sat K w Hs) [hrd : Rd encS 1 K Hs (.slice ad n c) L] (hn : n ≤ 9223372036854775807)
    (hf : ∀ y ∈ L, ∀ w', Sat K w' Hs → Ret Tryz.prog fid (first ++ [str y] ++ cap).toArray w' fun v w'' => v = .bool (p y) ∧ Sat K w'' Hs) :
    Ret Tryz.prog 52 #[.slice ad n c, .func (.func fid) first.toArray cap.toArray] w fun v w' => v = .bool (decide (0 ≤ idxP p L)) ∧ Sat K w' Hs := by
  refine Ret.enter (n := 9) (args := [.slice ad n c, .func (.func fid) first.toArray cap.toArray]) Tryz.func52 rfl rfl ?_
  refine C.keep [(0, _), (1, _)] ⟨rfl, rfl, trivial⟩ ?_
  refine C.seq ?_
  refine C.region ?_
  refine R.ev rfl (E.assign rfl) ?_
  refine R.done ?_
  refine X.keep [(0, _), (1, _)] ⟨rfl, rfl, trivial⟩ ?_
  refine X.next ?_
  refine C.seq ?_
  refine C.region ?_
  refine R.ev rfl (E.move rfl) ?_
  refine R.ev rfl (E.move rfl) ?_
  refine R.call ⟨_, _, Tryz.func71, rfl, by kernel_rfl⟩ rfl rfl (idxS_any hcal hs hn hf) ?_
  rintro _ w1 ⟨rfl, hs⟩
  refine R.ev rfl (E.geq rfl rfl) ?_
  refine R.ev rfl (E.assign rfl) ?_
  refine R.done ?_
  refine X.keep [(4, _)] ⟨rfl, trivial⟩ ?_
  refine X.next ?_
  refine C.ret ?_
  refine X.ret1 rfl rfl ?_
  exact ⟨rfl, hs⟩
theorem idxB_any {K : Kn} {Hs : List Hl} {fid : FuncId} {first cap : List Value} {p : UInt8 → Bool} {L : List UInt8} {ad : Option Addr} {n c : Nat} {w : World} (hcal : Callable Tryz.prog fid) (hs : Sat K w Hs) [hrd : Rd encB 1 K Hs (.slice ad n c) L] (hn : n ≤ 9223372036854775807)
    (hf : ∀ y ∈ L, ∀ w', Sat K w' Hs → Ret Tryz.prog fid (first ++ [ub y] ++ cap).toArray w' fun v w'' => v = .bool (p y) ∧ Sat K w'' Hs) :
    Ret Tryz.prog 86 #[.slice ad n c, .func (.func fid) first.toArray cap.toArray] w fun v w' => v = .int .i64 (idxP p L) ∧ Sat K w' Hs := by
  have hln := hrd.len
  refine Ret.enter (n := 19) (args := [.slice ad n c, .func (.func fid) first.toArray cap.toArray]) Tryz.func86 rfl rfl ?_
  refine C.keep [(0, _), (1, _)] ⟨rfl, rfl, trivial⟩ ?_
  refine C.seq ?_
  refine C.region ?_
  refine R.ev rfl (E.assign rfl) ?_
  refine R.done ?_
  refine X.keep [(0, _), (1, _)] ⟨rfl, rfl, trivial⟩ ?_
  refine X.next ?_
  refine C.seq ?_
  refine C.seq ?_
  refine C.region ?_
  refine R.ev rfl (E.move rfl) ?_
  refine R.ev rfl (E.lenSl rfl Tryz.underlying129) ?_
  refine R.ev rfl (E.move rfl) ?_
  refine R.done ?_
  refine X.keep [(0, _), (1, _), (7, _), (8, _)] ⟨rfl, rfl, rfl, rfl, trivial⟩ ?_
  refine X.next ?_
  refine C.block ?_
  refine C.loop  [(0, _), (1, _), (7, _)] (fun k => [(8, .int .i64 (k : Nat))]) (fun k w' => k ≤ n ∧ Sat K w' Hs ∧ ∀ j, j < k → ∀ y, L[j]? = some y → p y = false) (fun k => n - k) (0) ⟨rfl, rfl, rfl, rfl, trivial⟩ ⟨Nat.zero_le _, hs, fun j h => by omega⟩ ?_
  rintro k w1 ⟨hk, hs, hno⟩
  refine C.keep [(0, _), (1, _), (7, _), (8, _)] ⟨rfl, rfl, rfl, rfl, trivial⟩ ?_
  refine C.seq ?_
  refine C.region ?_
  refine R.ev rfl (E.lss rfl rfl) ?_
  refine R.done ?_
  refine X.keep [(0, _), (1, _), (7, _), (8, _), (9, _)] ⟨rfl, rfl, rfl, rfl, rfl, trivial⟩ ?_
  refine X.next ?_
  refine C.seq ?_
  refine C.cdec rfl (fun h9 => ?_) (fun h9 => ?_)
  · obtain ⟨y, bk_y, of_y, hy, my, ly, rfl, Ay⟩ := hs.el (i := k) (ad := ad) (n := n) (c := c) (by omega)
    have ay := Ay _ hs
    refine C.skip ?_
    refine X.next ?_
    refine C.seq ?_
    refine C.block ?_
    refine C.seq ?_
    refine C.region ?_
    refine R.ev rfl (E.move rfl) ?_
    refine R.ev rfl (E.assign rfl) ?_
    refine R.done ?_
    refine X.keep [(0, _), (1, _), (5, _), (7, _), (8, _)] ⟨rfl, rfl, rfl, rfl, rfl, trivial⟩ ?_
    refine X.next ?_
    refine C.seq ?_
    refine C.region ?_
    refine R.ev rfl (E.move rfl) ?_
    refine R.ev rfl (E.move rfl) ?_
    refine R.ev rfl (E.move rfl) ?_
    refine R.ev rfl (E.indexAddr rfl rfl Tryz.underlying129 Tryz.sz5 rfl (by first | omega | decide)) ?_
    refine R.ev rfl (E.load1 rfl Tryz.underlying5 rfl (ay 0 _ rfl)) ?_
    refine R.callV hcal rfl rfl rfl (hf y my _ hs) ?_
    rintro _ w2 ⟨rfl, hs⟩
    refine R.done ?_
    refine X.keep [(0, _), (1, _), (5, _), (7, _), (8, _), (16, _)] ⟨rfl, rfl, rfl, rfl, rfl, rfl, trivial⟩ ?_
    refine X.next ?_
    refine C.cbool rfl (fun h16 => ?_) (fun h16 => ?_)
    · refine C.seq ?_
      refine C.region ?_
      refine R.ev rfl (E.move rfl) ?_
      refine R.ev rfl (E.assign rfl) ?_
      refine R.done ?_
      refine X.keep [(4, _)] ⟨rfl, trivial⟩ ?_
      refine X.next ?_
      refine C.ret ?_
      refine X.blockRet ?_
      refine X.thenRet ?_
      refine X.loopRet ?_
      refine X.blockRet ?_
      refine X.thenRet ?_
      refine X.ret1 rfl rfl ?_
      exact ⟨by rw [idxP_some hy h16 hno], hs⟩
    · refine C.skip ?_
      refine X.blockNormal ?_
      refine X.next ?_
      refine C.region ?_
      refine R.ev rfl (E.add rfl rfl (by omega) (by omega)) ?_
      refine R.ev rfl (E.move rfl) ?_
      refine R.done ?_
      refine X.keep [(0, _), (1, _), (7, _), (8, _)] ⟨rfl, rfl, rfl, rfl, trivial⟩ ?_
      exact X.again (k + 1) ⟨rfl, rfl, rfl, rfl, trivial⟩ ⟨by omega, hs, idxP_step hy h16 hno⟩ (by omega)
  · refine C.exit ?_
    refine X.thenExit ?_
    refine X.loopExit ?_
    refine X.blockExit ?_
    refine X.next ?_
    refine C.seq ?_
    refine C.region ?_
    refine R.ev rfl (E.assign rfl) ?_
    refine R.done ?_
    refine X.keep [(4, _)] ⟨rfl, trivial⟩ ?_
    refine X.next ?_
    refine C.ret ?_
    refine X.ret1 rfl rfl ?_
    exact ⟨by rw [idxP_none hno (by omega)], hs⟩
theorem conB_any {K : Kn} {Hs : List Hl} {fid : FuncId} {first cap : List Value} {p : UInt8 → Bool} {L : List UInt8} {ad : Option Addr} {n c : Nat} {w : World} (hcal : Callable Tryz.prog fid) (hs : Sat K w Hs) [hrd : Rd encB 1 K Hs (.slice ad n c) L] (hn : n ≤ 9223372036854775807)
    (hf : ∀ y ∈ L, ∀ w', Sat K w' Hs → Ret Tryz.prog fid (first ++ [ub y] ++ cap).toArray w' fun v w'' => v = .bool (p y) ∧ Sat K w'' Hs) :
    Ret Tryz.prog 73 #[.slice ad n c, .func (.func fid) first.toArray cap.toArray] w fun v w' => v = .bool (decide (0 ≤ idxP p L)) ∧ Sat K w' Hs := by
  refine Ret.enter (n := 9) (args := [.slice ad n c, .func (.func fid) first.toArray cap.toArray]) Tryz.func73 rfl rfl ?_
  refine C.keep [(0, _), (1, _)] ⟨rfl, rfl, trivial⟩ ?_
  refine C.seq ?_
  refine C.region ?_
  refine R.ev rfl (E.assign rfl) ?_
  refine R.done ?_
  refine X.keep [(0, _), (1, _)] ⟨rfl, rfl, trivial⟩ ?_
  refine X.next ?_
  refine C.seq ?_
  refine C.region ?_
  refine R.ev rfl (E.move rfl) ?_
  refine R.ev rfl (E.move rfl) ?_
  refine R.call ⟨_, _, Tryz.func86, rfl, by kernel_rfl⟩ rfl rfl (idxB_any hcal hs hn hf) ?_
  rintro _ w1 ⟨rfl, hs⟩
  refine R.ev rfl (E.geq rfl rfl) ?_
  refine R.ev rfl (E.assign rfl) ?_
  refine R.done ?_
  refine X.keep [(4, _)] ⟨rfl, trivial⟩ ?_
  refine X.next ?_
  refine C.ret ?_
  refine X.ret1 rfl rfl ?_
  exact ⟨rfl, hs⟩
def lowB (c : Int) : Bool := decide (97 ≤ c) && decide (c ≤ 122)
variable {K : Kn} {Hs Rs : List Hl} {F : Hl} {w : World} {p : Nat}
theorem gLower_any (c : Int) (w : World) : Ret Tryz.prog 72 #[.int .u8 c] w fun v w' => v = .bool (lowB c) ∧ w = w' := by
  refine Ret.enter (n := 9) (args := [.int .u8 c]) Tryz.func72 rfl rfl ?_
  refine C.keep [(0, _)] ⟨rfl, trivial⟩ ?_
  refine C.seq ?_
  refine C.region ?_
  refine R.ev rfl (E.assign rfl) ?_
  refine R.done ?_
  refine X.keep [(0, _)] ⟨rfl, trivial⟩ ?_
  refine X.next ?_
  refine C.seq ?_
  refine C.region ?_
  refine R.ev rfl (E.move rfl) ?_
  refine R.ev rfl (E.geq rfl rfl) ?_
  refine R.ev rfl (E.move rfl) ?_
  refine R.split 5 rfl (fun h5 => ?_) (fun h5 => ?_)
  · refine R.gyes rfl rfl ?_
    refine R.ev rfl (E.move rfl) ?_
    refine R.gyes rfl rfl ?_
    refine R.ev rfl (E.leq rfl rfl) ?_
    refine R.ev rfl (E.pickT rfl rfl) ?_
    refine R.ev rfl (E.assign rfl) ?_
    refine R.done ?_
    refine X.keep [(2, _)] ⟨rfl, trivial⟩ ?_
    refine X.next ?_
    refine C.ret ?_
    refine X.ret1 rfl rfl ?_
    exact ⟨by first | (simp_all [lowB]; done) | (simp_all [lowB]; omega), rfl⟩
  · refine R.gskip rfl rfl rfl ?_
    refine R.gskip rfl rfl rfl ?_
    refine R.ev rfl (E.pickF rfl rfl) ?_
    refine R.ev rfl (E.assign rfl) ?_
    refine R.done ?_
    refine X.keep [(2, _)] ⟨rfl, trivial⟩ ?_
    refine X.next ?_
    refine C.ret ?_
    refine X.ret1 rfl rfl ?_
    exact ⟨by first | (simp_all [lowB]; done) | (simp_all [lowB]; omega), rfl⟩
def badC (c : UInt8) : Bool := !(lowB c.toNat) && ((decide ((c.toNat : Int) < 48) || decide ((57 : Int) < c.toNat)) && (decide ((c.toNat : Int) ≠ 45) && (decide ((c.toNat : Int) ≠ 43) && decide ((c.toNat : Int) ≠ 95))))
theorem comp1_any (c : UInt8) (w : World) : Ret Tryz.prog 74 #[ub c] w fun v w' => v = .bool (badC c) ∧ w = w' := by
  refine Ret.enter (n := 26) (args := [ub c]) Tryz.func74 rfl rfl ?_
  refine C.keep [(0, _)] ⟨rfl, trivial⟩ ?_
  refine C.seq ?_
  refine C.region ?_
  refine R.ev rfl (E.assign rfl) ?_
  refine R.done ?_
  refine X.keep [(0, _)] ⟨rfl, trivial⟩ ?_
  refine X.next ?_
  refine C.seq ?_
  refine C.region ?_
  refine R.ev rfl (E.move rfl) ?_
  refine R.call ⟨_, _, Tryz.func72, rfl, by kernel_rfl⟩ rfl rfl (gLower_any c.toNat _) ?_
  rintro _ _ ⟨rfl, rfl⟩
  refine R.ev rfl ((E.not rfl).isB (c := !(lowB c.toNat)) rfl) ?_
  refine R.ev rfl (E.move rfl) ?_
  refine R.split 6 rfl (fun h6 => ?_) (fun h6 => ?_)
  · refine R.gyes rfl rfl ?_
    refine R.ev rfl (E.move rfl) ?_
    refine R.gyes rfl rfl ?_
    refine R.ev rfl (E.lss rfl rfl) ?_
    refine R.gyes rfl rfl ?_
    refine R.ev rfl (E.move rfl) ?_
    refine R.split 9 rfl (fun h9 => ?_) (fun h9 => ?_)
    · refine R.gskip rfl rfl rfl ?_
      refine R.gskip rfl rfl rfl ?_
      refine R.gyes rfl rfl ?_
      refine R.ev rfl (E.pickT rfl rfl) ?_
      refine R.ev rfl (E.pickT rfl rfl) ?_
      refine R.ev rfl (E.move rfl) ?_
      refine R.gyes rfl rfl ?_
      refine R.ev rfl (E.move rfl) ?_
      refine R.gyes rfl rfl ?_
      refine R.ev rfl (E.neq rfl rfl) ?_
      refine R.ev rfl (E.pickT rfl rfl) ?_
      refine R.ev rfl (E.move rfl) ?_
      refine R.split 18 rfl (fun h18 => ?_) (fun h18 => ?_)
      · refine R.gyes rfl rfl ?_
        refine R.ev rfl (E.move rfl) ?_
        refine R.gyes rfl rfl ?_
        refine R.ev rfl (E.neq rfl rfl) ?_
        refine R.ev rfl (E.pickT rfl rfl) ?_
        refine R.ev rfl (E.move rfl) ?_
        refine R.split 22 rfl (fun h22 => ?_) (fun h22 => ?_)
        · refine R.gyes rfl rfl ?_
          refine R.ev rfl (E.move rfl) ?_
          refine R.gyes rfl rfl ?_
          refine R.ev rfl (E.neq rfl rfl) ?_
          refine R.ev rfl (E.pickT rfl rfl) ?_
          refine R.ev rfl (E.assign rfl) ?_
          refine R.done ?_
          refine X.keep [(2, _)] ⟨rfl, trivial⟩ ?_
          refine X.next ?_
          refine C.ret ?_
          refine X.ret1 rfl rfl ?_
          exact ⟨by unfold badC; first | (simp_all; done) | (simp_all; omega), rfl⟩
        · refine R.gskip rfl rfl rfl ?_
          refine R.gskip rfl rfl rfl ?_
          refine R.ev rfl (E.pickF rfl rfl) ?_
          refine R.ev rfl (E.assign rfl) ?_
          refine R.done ?_
          refine X.keep [(2, _)] ⟨rfl, trivial⟩ ?_
          refine X.next ?_
          refine C.ret ?_
          refine X.ret1 rfl rfl ?_
          exact ⟨by unfold badC; first | (simp_all; done) | (simp_all; omega), rfl⟩
      · refine R.gskip rfl rfl rfl ?_
        refine R.gskip rfl rfl rfl ?_
        refine R.ev rfl (E.pickF rfl rfl) ?_
        refine R.ev rfl (E.move rfl) ?_
        refine R.gskip rfl rfl rfl ?_
        refine R.gskip rfl rfl rfl ?_
        refine R.ev rfl (E.pickF rfl rfl) ?_
        refine R.ev rfl (E.assign rfl) ?_
        refine R.done ?_
        refine X.keep [(2, _)] ⟨rfl, trivial⟩ ?_
        refine X.next ?_
        refine C.ret ?_
        refine X.ret1 rfl rfl ?_
        exact ⟨by unfold badC; first | (simp_all; done) | (simp_all; omega), rfl⟩
    · refine R.gyes rfl rfl ?_
      refine R.ev rfl (E.move rfl) ?_
      refine R.gyes rfl rfl ?_
      refine R.ev rfl (E.gtr rfl rfl) ?_
      refine R.gyes rfl rfl ?_
      refine R.ev rfl (E.pickF rfl rfl) ?_
      refine R.ev rfl (E.pickT rfl rfl) ?_
      refine R.ev rfl (E.move rfl) ?_
      refine R.split 14 rfl (fun h14 => ?_) (fun h14 => ?_)
      · refine R.gyes rfl rfl ?_
        refine R.ev rfl (E.move rfl) ?_
        refine R.gyes rfl rfl ?_
        refine R.ev rfl (E.neq rfl rfl) ?_
        refine R.ev rfl (E.pickT rfl rfl) ?_
        refine R.ev rfl (E.move rfl) ?_
        refine R.split 18 rfl (fun h18 => ?_) (fun h18 => ?_)
        · refine R.gyes rfl rfl ?_
          refine R.ev rfl (E.move rfl) ?_
          refine R.gyes rfl rfl ?_
          refine R.ev rfl (E.neq rfl rfl) ?_
          refine R.ev rfl (E.pickT rfl rfl) ?_
          refine R.ev rfl (E.move rfl) ?_
          refine R.split 22 rfl (fun h22 => ?_) (fun h22 => ?_)
          · refine R.gyes rfl rfl ?_
            refine R.ev rfl (E.move rfl) ?_
            refine R.gyes rfl rfl ?_
            refine R.ev rfl (E.neq rfl rfl) ?_
            refine R.ev rfl (E.pickT rfl rfl) ?_
            refine R.ev rfl (E.assign rfl) ?_
            refine R.done ?_
            refine X.keep [(2, _)] ⟨rfl, trivial⟩ ?_
            refine X.next ?_
            refine C.ret ?_
            refine X.ret1 rfl rfl ?_
            exact ⟨by unfold badC; first | (simp_all; done) | (simp_all; omega), rfl⟩
          · refine R.gskip rfl rfl rfl ?_
            refine R.gskip rfl rfl rfl ?_
            refine R.ev rfl (E.pickF rfl rfl) ?_
            refine R.ev rfl (E.assign rfl) ?_
            refine R.done ?_
            refine X.keep [(2, _)] ⟨rfl, trivial⟩ ?_
            refine X.next ?_
            refine C.ret ?_
            refine X.ret1 rfl rfl ?_
            exact ⟨by unfold badC; first | (simp_all; done) | (simp_all; omega), rfl⟩
        · refine R.gskip rfl rfl rfl ?_
          refine R.gskip rfl rfl rfl ?_
          refine R.ev rfl (E.pickF rfl rfl) ?_
          refine R.ev rfl (E.move rfl) ?_
          refine R.gskip rfl rfl rfl ?_
          refine R.gskip rfl rfl rfl ?_
          refine R.ev rfl (E.pickF rfl rfl) ?_
          refine R.ev rfl (E.assign rfl) ?_
          refine R.done ?_
          refine X.keep [(2, _)] ⟨rfl, trivial⟩ ?_
          refine X.next ?_
          refine C.ret ?_
          refine X.ret1 rfl rfl ?_
          exact ⟨by unfold badC; first | (simp_all; done) | (simp_all; omega), rfl⟩
      · refine R.gskip rfl rfl rfl ?_
        refine R.gskip rfl rfl rfl ?_
        refine R.ev rfl (E.pickF rfl rfl) ?_
        refine R.ev rfl (E.move rfl) ?_
        refine R.gskip rfl rfl rfl ?_
        refine R.gskip rfl rfl rfl ?_
        refine R.ev rfl (E.pickF rfl rfl) ?_
        refine R.ev rfl (E.move rfl) ?_
        refine R.gskip rfl rfl rfl ?_
        refine R.gskip rfl rfl rfl ?_
        refine R.ev rfl (E.pickF rfl rfl) ?_
        refine R.ev rfl (E.assign rfl) ?_
        refine R.done ?_
        refine X.keep [(2, _)] ⟨rfl, trivial⟩ ?_
        refine X.next ?_
        refine C.ret ?_
        refine X.ret1 rfl rfl ?_
        exact ⟨by unfold badC; first | (simp_all; done) | (simp_all; omega), rfl⟩
  · refine R.gskip rfl rfl rfl ?_
    refine R.gskip rfl rfl rfl ?_
    refine R.gskip rfl rfl rfl ?_
    refine R.gundef rfl rfl ?_
    refine R.gundef rfl rfl ?_
    refine R.gskip rfl rfl rfl ?_
    refine R.ev rfl (E.pickF rfl rfl) ?_
    refine R.ev rfl (E.move rfl) ?_
    refine R.gskip rfl rfl rfl ?_
    refine R.gskip rfl rfl rfl ?_
    refine R.ev rfl (E.pickF rfl rfl) ?_
    refine R.ev rfl (E.move rfl) ?_
    refine R.gskip rfl rfl rfl ?_
    refine R.gskip rfl rfl rfl ?_
    refine R.ev rfl (E.pickF rfl rfl) ?_
    refine R.ev rfl (E.move rfl) ?_
    refine R.gskip rfl rfl rfl ?_
    refine R.gskip rfl rfl rfl ?_
    refine R.ev rfl (E.pickF rfl rfl) ?_
    refine R.ev rfl (E.assign rfl) ?_
    refine R.done ?_
    refine X.keep [(2, _)] ⟨rfl, trivial⟩ ?_
    refine X.next ?_
    refine C.ret ?_
    refine X.ret1 rfl rfl ?_
    exact ⟨by unfold badC; first | (simp_all; done) | (simp_all; omega), rfl⟩
def compB (l : List UInt8) : Bool := decide (l ≠ []) && (decide (l.length ≤ 20) && (lowB (l.getD 0 0).toNat && !(decide (0 ≤ idxP badC l))))
theorem comp_any (l : List UInt8) (hs : Sat K w Hs) (hl : l.length ≤ 1000) : Ret Tryz.prog 54 #[str l] w fun v w' => v = .bool (compB l) ∧ Sat K w' Hs := by
  refine Ret.enter (n := 20) (args := [str l]) Tryz.func54 rfl rfl ?_
  refine C.keep [(0, _)] ⟨rfl, trivial⟩ ?_
  refine C.seq ?_
  refine C.region ?_
  refine R.ev rfl (E.assign rfl) ?_
  refine R.done ?_
  refine X.keep [(0, _)] ⟨rfl, trivial⟩ ?_
  refine X.next ?_
  refine C.seq ?_
  refine C.seq ?_
  refine C.region ?_
  refine R.ev rfl (E.move rfl) ?_
  refine R.ev rfl (E.seql rfl rfl) ?_
  refine R.ev rfl (E.move rfl) ?_
  refine R.split 5 rfl (fun h5 => ?_) (fun h5 => ?_)
  · refine R.gskip rfl rfl rfl ?_
    refine R.gskip rfl rfl rfl ?_
    refine R.gskip rfl rfl rfl ?_
    refine R.ev rfl (E.pickT rfl rfl) ?_
    refine R.ev rfl (E.move rfl) ?_
    refine R.gskip rfl rfl rfl ?_
    refine R.gskip rfl rfl rfl ?_
    refine R.gskip rfl rfl rfl ?_
    refine R.gskip rfl rfl rfl ?_
    refine R.ev rfl (E.pickT rfl rfl) ?_
    refine R.done ?_
    refine X.keep [(0, _), (15, _)] ⟨rfl, rfl, trivial⟩ ?_
    refine X.next ?_
    refine C.ctrue rfl ?_
    refine C.seq ?_
    refine C.region ?_
    refine R.ev rfl (E.assign rfl) ?_
    refine R.done ?_
    refine X.keep [(2, _)] ⟨rfl, trivial⟩ ?_
    refine X.next ?_
    refine C.ret ?_
    refine X.thenRet ?_
    refine X.ret1 rfl rfl ?_
    exact ⟨by unfold compB; simp_all; try omega, hs.to⟩
  · refine R.gyes rfl rfl ?_
    refine R.ev rfl (E.move rfl) ?_
    refine R.gyes rfl rfl ?_
    refine R.ev rfl (E.lenStr rfl Tryz.underlying9) ?_
    refine R.gyes rfl rfl ?_
    refine R.ev rfl (E.gtr rfl rfl) ?_
    refine R.ev rfl (E.pickF rfl rfl) ?_
    refine R.ev rfl (E.move rfl) ?_
    refine R.split 10 rfl (fun h10 => ?_) (fun h10 => ?_)
    · refine R.gskip rfl rfl rfl ?_
      refine R.gskip rfl rfl rfl ?_
      refine R.gskip rfl rfl rfl ?_
      refine R.gskip rfl rfl rfl ?_
      refine R.ev rfl (E.pickT rfl rfl) ?_
      refine R.done ?_
      refine X.keep [(0, _), (15, _)] ⟨rfl, rfl, trivial⟩ ?_
      refine X.next ?_
      refine C.ctrue rfl ?_
      refine C.seq ?_
      refine C.region ?_
      refine R.ev rfl (E.assign rfl) ?_
      refine R.done ?_
      refine X.keep [(2, _)] ⟨rfl, trivial⟩ ?_
      refine X.next ?_
      refine C.ret ?_
      refine X.thenRet ?_
      refine X.ret1 rfl rfl ?_
      exact ⟨by unfold compB; simp_all; try omega, hs.to⟩
    · refine R.gyes rfl rfl ?_
      refine R.ev rfl (E.move rfl) ?_
      refine R.gyes rfl rfl ?_
      refine R.ev rfl (E.sindex (i := 0) rfl rfl Tryz.underlying9 rfl (by have := of_decide_eq_false h5; cases l <;> simp_all)) ?_
      refine R.gyes rfl rfl ?_
      refine R.call ⟨_, _, Tryz.func72, rfl, by kernel_rfl⟩ rfl rfl (gLower_any (l.getD 0 0).toNat _) ?_
      rintro _ _ ⟨rfl, rfl⟩
      refine R.gyes rfl rfl ?_
      refine R.ev rfl ((E.not rfl).isB (c := !(lowB (l.getD 0 0).toNat)) rfl) ?_
      refine R.ev rfl (E.pickF rfl rfl) ?_
      refine R.done ?_
      refine X.keep [(0, _), (15, _)] ⟨rfl, rfl, trivial⟩ ?_
      refine X.next ?_
      refine C.cbool rfl (fun h15 => ?_) (fun h15 => ?_)
      · refine C.seq ?_
        refine C.region ?_
        refine R.ev rfl (E.assign rfl) ?_
        refine R.done ?_
        refine X.keep [(2, _)] ⟨rfl, trivial⟩ ?_
        refine X.next ?_
        refine C.ret ?_
        refine X.thenRet ?_
        refine X.ret1 rfl rfl ?_
        exact ⟨by unfold compB; simp_all; try omega, hs.to⟩
      · refine C.skip ?_
        refine X.next ?_
        refine C.seq ?_
        refine C.region ?_
        refine R.ev rfl (E.move rfl) ?_
        refine R.cstrBytes hs rfl Tryz.underlying9 Tryz.underlying129 Tryz.underlying5 rfl ?_
        intro v6 w6 F6 r6 hs
        obtain ⟨b6, c6, rfl, hc6⟩ := r6.val
        have r6 : RB (.slice (some ⟨b6, 0, none⟩) l.length c6) l F6 := r6
        refine R.call ⟨_, _, Tryz.func73, rfl, by kernel_rfl⟩ rfl rfl (conB_any (L := l) (p := badC) (first := []) (cap := []) ⟨_, _, Tryz.func74, rfl, by kernel_rfl⟩ hs (by omega) (fun y _ w' h => (comp1_any y w').mono fun _ _ ⟨h1, h2⟩ => ⟨h1, h2 ▸ h⟩)) ?_
        rintro _ w3 ⟨rfl, hs⟩
        refine R.ev rfl (E.not rfl) ?_
        refine R.ev rfl (E.assign rfl) ?_
        refine R.done ?_
        refine X.keep [(2, _)] ⟨rfl, trivial⟩ ?_
        refine X.next ?_
        refine C.ret ?_
        refine X.ret1 rfl rfl ?_
        exact ⟨by unfold compB; simp_all; try omega, hs.to⟩
theorem check1_any (l : List UInt8) (hs : Sat K w Hs) (hl : l.length ≤ 1000) : Ret Tryz.prog 53 #[str l] w fun v w' => v = .bool (!(compB l)) ∧ Sat K w' Hs := by
  refine Ret.enter (n := 6) (args := [str l]) Tryz.func53 rfl rfl ?_
  refine C.keep [(0, _)] ⟨rfl, trivial⟩ ?_
  refine C.seq ?_
  refine C.region ?_
  refine R.ev rfl (E.assign rfl) ?_
  refine R.done ?_
  refine X.keep [(0, _)] ⟨rfl, trivial⟩ ?_
  refine X.next ?_
  refine C.seq ?_
  refine C.region ?_
  refine R.ev rfl (E.move rfl) ?_
  refine R.call ⟨_, _, Tryz.func54, rfl, by kernel_rfl⟩ rfl rfl (comp_any l hs hl) ?_
  rintro _ w1 ⟨rfl, hs⟩
  refine R.ev rfl (E.not rfl) ?_
  refine R.ev rfl (E.assign rfl) ?_
  refine R.done ?_
  refine X.keep [(2, _)] ⟨rfl, trivial⟩ ?_
  refine X.next ?_
  refine C.ret ?_
  refine X.ret1 rfl rfl ?_
  exact ⟨rfl, hs⟩
theorem parts_any (l : List UInt8) (hs : Sat K w Hs) (hl : l.length ≤ 1000) : Ret Tryz.prog 51 #[str l] w fun v w' => ∃ F, RowL 9 encS 1 v (splitL 46 l) F ∧ Sat K w' (F :: Hs) := by
  refine Ret.enter (n := 5) (args := [str l]) Tryz.func51 rfl rfl ?_
  refine C.keep [(0, _)] ⟨rfl, trivial⟩ ?_
  refine C.seq ?_
  refine C.region ?_
  refine R.ev rfl (E.assign rfl) ?_
  refine R.done ?_
  refine X.keep [(0, _)] ⟨rfl, trivial⟩ ?_
  refine X.next ?_
  refine C.seq ?_
  refine C.region ?_
  refine R.ev rfl (E.move rfl) ?_
  refine R.call ⟨_, _, Tryz.func46, rfl, by kernel_rfl⟩ rfl rfl (split_any l 46 (by omega) hs) ?_
  rintro v1 w1 ⟨F1, r1, hs⟩
  refine R.ev rfl (E.assign rfl) ?_
  refine R.done ?_
  refine X.keep [(2, _)] ⟨rfl, trivial⟩ ?_
  refine X.next ?_
  refine C.ret ?_
  refine X.ret1 rfl rfl ?_
  exact ⟨F1, r1, hs⟩
/-- a good name -/
def okN (l : List UInt8) : Prop := l.length ≤ 80 ∧ (splitL 46 l).length ≤ 10 ∧ ∀ q ∈ splitL 46 l, q.length ≤ 80 ∧ compB q = true
instance {l : List UInt8} : Decidable (okN l) := by unfold okN; infer_instance
theorem gcheck_any (l : List UInt8) (hok : okN l) (hs : Sat K w Hs) : Ret Tryz.prog 24 #[str l] w fun v w' => v = .int .i64 0 ∧ Sat K w' Hs := by
  obtain ⟨h1, h2, h3⟩ := hok
  refine Ret.enter (n := 14) (args := [str l]) Tryz.func24 rfl rfl ?_
  refine C.keep [(0, _)] ⟨rfl, trivial⟩ ?_
  refine C.seq ?_
  refine C.region ?_
  refine R.ev rfl (E.assign rfl) ?_
  refine R.done ?_
  refine X.keep [(0, _)] ⟨rfl, trivial⟩ ?_
  refine X.next ?_
  refine C.seq ?_
  refine C.seq ?_
  refine C.region ?_
  refine R.ev rfl (E.move rfl) ?_
  refine R.ev rfl (E.lenStr rfl Tryz.underlying9) ?_
  refine R.ev rfl ((E.gtr rfl rfl).isF (by omega)) ?_
  refine R.done ?_
  refine X.keep [(0, _), (6, _)] ⟨rfl, rfl, trivial⟩ ?_
  refine X.next ?_
  refine C.cfalse rfl ?_
  refine C.skip ?_
  refine X.next ?_
  refine C.seq ?_
  refine C.region ?_
  refine R.ev rfl (E.move rfl) ?_
  refine R.call ⟨_, _, Tryz.func51, rfl, by kernel_rfl⟩ rfl rfl (parts_any l hs (by omega)) ?_
  rintro v3 w3 ⟨F3, r3, hs⟩
  generalize splitL 46 l = L at r3 h2 h3
  obtain ⟨ad3, cap3, rfl, _⟩ := r3.val
  refine R.ev rfl (E.assign rfl) ?_
  refine R.done ?_
  refine X.keep [(3, _)] ⟨rfl, trivial⟩ ?_
  refine X.next ?_
  refine C.seq ?_
  refine C.seq ?_
  refine C.region ?_
  refine R.ev rfl (E.move rfl) ?_
  refine R.call ⟨_, _, Tryz.func52, rfl, by kernel_rfl⟩ rfl rfl (conS_any (L := L) (p := fun q => !(compB q)) (first := []) (cap := []) ⟨_, _, Tryz.func53, rfl, by kernel_rfl⟩ hs (by omega) (fun y hy w' h => check1_any y h (by have := (h3 y hy).1; omega))) ?_
  rintro _ w4 ⟨rfl, hs⟩
  have hz : ¬ 0 ≤ idxP (fun q => !(compB q)) L := fun h => by
    obtain ⟨i, o, _, ho, hp, _⟩ := idxP_ge h
    have := (h3 o (List.mem_of_getElem? ho)).2
    rw [this] at hp; exact absurd hp (by decide)
  rw [decide_eq_false hz]
  refine R.done ?_
  refine X.keep [(3, _), (10, _)] ⟨rfl, rfl, trivial⟩ ?_
  refine X.next ?_
  refine C.cfalse rfl ?_
  refine C.skip ?_
  refine X.next ?_
  refine C.seq ?_
  refine C.seq ?_
  refine C.region ?_
  refine R.ev rfl (E.move rfl) ?_
  refine R.ev rfl (E.lenSl rfl Tryz.underlying30) ?_
  refine R.ev rfl ((E.gtr rfl rfl).isF (by omega)) ?_
  refine R.done ?_
  refine X.keep [(13, _)] ⟨rfl, trivial⟩ ?_
  refine X.next ?_
  refine C.cfalse rfl ?_
  refine C.skip ?_
  refine X.next ?_
  refine C.seq ?_
  refine C.region ?_
  refine R.ev rfl (E.assign rfl) ?_
  refine R.done ?_
  refine X.keep [(2, _)] ⟨rfl, trivial⟩ ?_
  refine X.next ?_
  refine C.ret ?_
  refine X.ret1 rfl rfl ?_
  exact ⟨rfl, hs.to⟩
end Go.Proofs.YtifghjeapfijkaaGreatDoor
