/-
  Chapter 41: Ends, Withdrawn, the reference's IsEnd and Ids, the examples of the document.
-/
import Derived.Test.YtmjmichghfepkaaSupC
import Derived.Test.YtmjmichghfepkaaArg
namespace Go.Proofs.Ytmjmichghfepkaa
open Go.Eng Go.RowKit Go.Sort
variable {K : Kn} {Hs Rs : List Hl} {F : Hl} {w : World} {v : Value} {L : List RR}
/-- what choose leaves -/
def ChPost (K : Kn) (Hs : List Hl) (L : List RR) (wdn : Bool) (r : Value) (w' : World) : Prop :=
  ∃ v' I F', r = .tuple #[v', .int .i64 (chk L).2] ∧ RowL 37 encV 32 v' I F' ∧ ((chk L).2 ≠ 0 → I = []) ∧ ((chk L).2 = 0 → SS ltV I ∧ I.Perm (chosen L wdn)) ∧ Sat K w' (F' :: Hs)
theorem ends_any {A : List RA} (hs : Sat K w Hs) [hr : Rd encA 83 K Hs v A] (hG : GL K A) (hL : A.length ≤ 4096) : Ret Try.prog 22 #[v] w (ChPost K Hs (A.map RA.x) false) := by
  refine Ret.enter (n := 8) (args := [v]) Try.func22 rfl rfl ?_
  refine C.keep [(0, _)] ⟨rfl, trivial⟩ ?_
  refine C.seq ?_
  refine C.region ?_
  refine R.ev rfl (E.assign rfl) ?_
  refine R.ev rfl (E.assign rfl) ?_
  refine R.done ?_
  refine X.keep [(0, _)] ⟨rfl, trivial⟩ ?_
  refine X.next ?_
  refine C.seq ?_
  refine C.region ?_
  refine R.ev rfl (E.move rfl) ?_
  refine R.call ⟨_, _, Try.func47, rfl, by kernel_rfl⟩ rfl rfl (choose_any (A := A) false hs hG hL) ?_
  rintro _ w1 ⟨v1, I1, F1, rfl, r1, h1, h2, hs⟩
  refine R.ev rfl (E.extract rfl rfl) ?_
  refine R.ev rfl (E.extract rfl rfl) ?_
  refine R.ev rfl (E.assign rfl) ?_
  refine R.ev rfl (E.assign rfl) ?_
  refine R.done ?_
  refine X.keep [(2, _), (3, _)] ⟨rfl, rfl, trivial⟩ ?_
  refine X.next ?_
  refine C.ret ?_
  refine X.ret2 rfl rfl rfl ?_
  exact ⟨v1, I1, F1, rfl, r1, h1, h2, hs⟩
theorem withd_any {A : List RA} (hs : Sat K w Hs) [hr : Rd encA 83 K Hs v A] (hG : GL K A) (hL : A.length ≤ 4096) : Ret Try.prog 23 #[v] w (ChPost K Hs (A.map RA.x) true) := by
  refine Ret.enter (n := 8) (args := [v]) Try.func23 rfl rfl ?_
  refine C.keep [(0, _)] ⟨rfl, trivial⟩ ?_
  refine C.seq ?_
  refine C.region ?_
  refine R.ev rfl (E.assign rfl) ?_
  refine R.ev rfl (E.assign rfl) ?_
  refine R.done ?_
  refine X.keep [(0, _)] ⟨rfl, trivial⟩ ?_
  refine X.next ?_
  refine C.seq ?_
  refine C.region ?_
  refine R.ev rfl (E.move rfl) ?_
  refine R.call ⟨_, _, Try.func47, rfl, by kernel_rfl⟩ rfl rfl (choose_any (A := A) true hs hG hL) ?_
  rintro _ w1 ⟨v1, I1, F1, rfl, r1, h1, h2, hs⟩
  refine R.ev rfl (E.extract rfl rfl) ?_
  refine R.ev rfl (E.extract rfl rfl) ?_
  refine R.ev rfl (E.assign rfl) ?_
  refine R.ev rfl (E.assign rfl) ?_
  refine R.done ?_
  refine X.keep [(2, _), (3, _)] ⟨rfl, rfl, trivial⟩ ?_
  refine X.next ?_
  refine C.ret ?_
  refine X.ret2 rfl rfl rfl ?_
  exact ⟨v1, I1, F1, rfl, r1, h1, h2, hs⟩
theorem same_any {K : Kn} {Hs : List Hl} {L M : List (Vec 32)} {v v' : Value} {w : World} (hs : Sat K w Hs) [h1 : Rd encV 32 K Hs v L] [h2 : Rd encV 32 K Hs v' M] (hn : L.length ≤ 9223372036854775807) :
    Ret Try.prog 24 #[v, v'] w fun v w' => v = .bool (decide (L = M)) ∧ Sat K w' Hs := by
  obtain ⟨ad, c, rfl, _⟩ := h1.ex
  obtain ⟨ad', c', rfl, _⟩ := h2.ex
  refine Ret.enter (n := 26) (args := [.slice ad L.length c, .slice ad' M.length c']) Try.func24 rfl rfl ?_
  refine C.keep [(0, _), (1, _)] ⟨rfl, rfl, trivial⟩ ?_
  refine C.seq ?_
  refine C.region ?_
  refine R.ev rfl (E.assign rfl) ?_
  refine R.done ?_
  refine X.keep [(0, _), (1, _)] ⟨rfl, rfl, trivial⟩ ?_
  refine X.next ?_
  refine C.seq ?_
  refine C.seq ?_
  refine C.region ?_
  refine R.ev rfl (E.move rfl) ?_
  refine R.ev rfl (E.lenSl rfl Try.underlying40) ?_
  refine R.ev rfl (E.move rfl) ?_
  refine R.ev rfl (E.lenSl rfl Try.underlying49) ?_
  refine R.ev rfl (E.neq rfl rfl) ?_
  refine R.done ?_
  refine X.keep [(0, _), (1, _), (10, _)] ⟨rfl, rfl, rfl, trivial⟩ ?_
  refine X.next ?_
  refine C.cdec rfl (fun h10 => ?_) (fun h10 => ?_)
  refine C.seq ?_
  refine C.region ?_
  refine R.ev rfl (E.assign rfl) ?_
  refine R.done ?_
  refine X.keep [(4, _)] ⟨rfl, trivial⟩ ?_
  refine X.next ?_
  refine C.ret ?_
  refine X.thenRet ?_
  refine X.ret1 rfl rfl ?_
  exact ⟨by rw [decide_eq_false]; intro e; rw [e] at h10; omega, hs⟩
  refine C.skip ?_
  refine X.next ?_
  refine C.seq ?_
  refine C.seq ?_
  refine C.region ?_
  refine R.ev rfl (E.assign rfl) ?_
  refine R.done ?_
  refine X.keep [(0, _), (1, _), (5, _)] ⟨rfl, rfl, rfl, trivial⟩ ?_
  refine X.next ?_
  refine C.block ?_
  refine C.loop  [(0, _), (1, _)] (fun k => [(5, .int .i64 (k : Nat))]) (fun k w' => k ≤ L.length ∧ Sat K w' Hs ∧ L.take k = M.take k) (fun k => L.length - k) (0) ⟨rfl, rfl, rfl, trivial⟩ ⟨Nat.zero_le _, hs, rfl⟩ ?_
  rintro k w1 ⟨hk, hs, htk⟩
  refine C.keep [(0, _), (1, _), (5, _)] ⟨rfl, rfl, rfl, trivial⟩ ?_
  refine C.seq ?_
  refine C.seq ?_
  refine C.region ?_
  refine R.ev rfl (E.move rfl) ?_
  refine R.ev rfl (E.move rfl) ?_
  refine R.ev rfl (E.lenSl rfl Try.underlying40) ?_
  refine R.ev rfl (E.lss rfl rfl) ?_
  refine R.done ?_
  refine X.keep [(0, _), (1, _), (5, _), (14, _)] ⟨rfl, rfl, rfl, rfl, trivial⟩ ?_
  refine X.next ?_
  refine C.cdec rfl (fun h14 => ?_) (fun h14 => ?_)
  obtain ⟨y, bk_y, of_y, hy, my, ly, rfl, Ay⟩ := hs.el (i := k) (ad := ad) (n := L.length) (c := c) (by omega)
  have ay := Ay _ hs
  obtain ⟨z, bk_z, of_z, hz, mz, lz, rfl, Az⟩ := hs.el (i := k) (ad := ad') (n := M.length) (c := c') (by omega)
  have az := Az _ hs
  refine C.skip ?_
  refine X.next ?_
  refine C.seq ?_
  refine C.block ?_
  refine C.seq ?_
  refine C.drawn (SatS hs) ([3, 7], [0, 1, 2, 4, 5, 6, 8]) (by kernel_rfl) ?_
  have hs := hs.drew
  refine D.evP 0 rfl (by kernel_rfl) rfl (fun _ => hs.to) (fun _ => E.move rfl) ?_
  refine D.evP 1 rfl (by kernel_rfl) rfl (fun _ => hs.to) (fun _ => E.move rfl) ?_
  refine D.evP 2 rfl (by kernel_rfl) rfl (fun _ => hs.to) (fun _ => E.indexAddr rfl rfl Try.underlying40 Try.sz37 rfl (by omega)) ?_
  refine D.evP 4 rfl (by kernel_rfl) rfl (fun _ => hs.to) (fun _ => E.move rfl) ?_
  refine D.evP 5 rfl (by kernel_rfl) rfl (fun _ => hs.to) (fun _ => E.move rfl) ?_
  refine D.evP 6 rfl (by kernel_rfl) rfl (fun _ => hs.to) (fun _ => E.indexAddr rfl rfl Try.underlying49 Try.sz23 rfl (by omega)) ?_
  refine D.ev 3 rfl (by kernel_rfl) rfl hs.to (fun _ hS => E.loadRow rfl Try.underlying37 rfl Try.sz37 (Ay _ hS) ly) ?_
  refine D.ev 7 rfl (by kernel_rfl) rfl hs.to (fun _ hS => E.loadRow rfl Try.underlying23 rfl Try.sz23 (Az _ hS) lz) ?_
  refine D.evP 8 rfl (by kernel_rfl) rfl (fun _ => hs.to) (fun _ => (E.neV 10 rfl rfl Try.lv23 rfl Try.underlying23 rfl Try.gd23).isB (c := decide (y ≠ z)) rfl) ?_
  refine D.done rfl (by kernel_rfl) ?_
  refine X.keep [(0, _), (1, _), (5, _), (25, _)] ⟨rfl, rfl, rfl, rfl, trivial⟩ ?_
  refine X.next ?_
  refine C.cdec rfl (fun h25 => ?_) (fun h25 => ?_)
  refine C.seq ?_
  refine C.region ?_
  refine R.ev rfl (E.assign rfl) ?_
  refine R.done ?_
  refine X.keep [(4, _)] ⟨rfl, trivial⟩ ?_
  refine X.next ?_
  refine C.ret ?_
  refine X.blockRet ?_
  refine X.thenRet ?_
  refine X.loopRet ?_
  refine X.blockRet ?_
  refine X.thenRet ?_
  refine X.ret1 rfl rfl ?_
  exact ⟨by rw [decide_eq_false]; intro e; rw [e, hz] at hy; exact h25 (by simpa using hy.symm), hs⟩
  refine C.skip ?_
  refine X.blockNormal ?_
  refine X.next ?_
  refine C.region ?_
  refine R.ev rfl (E.move rfl) ?_
  refine R.ev rfl (E.add rfl rfl (by omega) (by omega)) ?_
  refine R.ev rfl (E.assign rfl) ?_
  refine R.done ?_
  refine X.keep [(0, _), (1, _), (5, _)] ⟨rfl, rfl, rfl, trivial⟩ ?_
  exact X.again (k + 1) ⟨rfl, rfl, rfl, trivial⟩ ⟨by omega, hs, by rw [take_snoc hy, take_snoc hz, htk, Decidable.not_not.1 h25]⟩ (by omega)
  refine C.exit ?_
  refine X.thenExit ?_
  refine X.loopExit ?_
  refine X.blockExit ?_
  refine X.next ?_
  refine C.seq ?_
  refine C.region ?_
  refine R.ev rfl (E.assign rfl) ?_
  refine R.done ?_
  refine X.keep [(4, _)] ⟨rfl, trivial⟩ ?_
  refine X.next ?_
  refine C.ret ?_
  refine X.ret1 rfl rfl ?_
  exact ⟨by rw [decide_eq_true]; rw [← List.take_length (l := L), ← List.take_length (l := M), show M.length = L.length by omega]; rwa [show k = L.length by omega] at htk, hs⟩
theorem isEnd_any {i : Nat} {x : RR} (hs : Sat K w Hs) [hr : KRow encR 82 K v L] (hx : L[i]? = some x) (hL : L.length ≤ 1000000) : Ret Try.prog 39 #[v, .int .i64 (i : Nat)] w fun r w' => r = .bool (!(wd L x)) ∧ Sat K w' Hs := by
  obtain ⟨ad, cap, rfl, hsl, hc⟩ := hr.ex
  have hi := (List.getElem?_eq_some_iff.1 hx).1
  obtain ⟨x', bk, of, hx', mx, lx, rfl, Ax⟩ := hs.el (i := i) (ad := ad) (n := L.length) (c := cap) hi
  obtain rfl : x = x' := by rw [hx] at hx'; simpa using hx'
  refine Ret.enter (n := 32) (args := [.slice (some ⟨bk, of, none⟩) L.length cap, .int .i64 (i : Nat)]) Try.func39 rfl rfl ?_
  refine C.keep [(0, _), (1, _)] ⟨rfl, rfl, trivial⟩ ?_
  refine C.seq ?_
  refine C.region ?_
  refine R.ev rfl (E.assign rfl) ?_
  refine R.done ?_
  refine X.keep [(0, _), (1, _)] ⟨rfl, rfl, trivial⟩ ?_
  refine X.next ?_
  refine C.seq ?_
  refine C.seq ?_
  refine C.region ?_
  refine R.ev rfl (E.assign rfl) ?_
  refine R.done ?_
  refine X.keep [(0, _), (1, _), (5, _)] ⟨rfl, rfl, rfl, trivial⟩ ?_
  refine X.next ?_
  refine C.block ?_
  refine C.loop  [(0, _), (1, _)] (fun k => [(5, .int .i64 (k : Nat))]) (fun k w' => k ≤ L.length ∧ wd (L.take k) x = false ∧ Sat K w' Hs) (fun k => L.length - k) (0) ⟨rfl, rfl, rfl, trivial⟩ ⟨Nat.zero_le _, rfl, hs⟩ ?_
  rintro k w1 ⟨hk, hno, hs⟩
  refine C.keep [(0, _), (1, _), (5, _)] ⟨rfl, rfl, rfl, trivial⟩ ?_
  refine C.seq ?_
  refine C.seq ?_
  refine C.region ?_
  refine R.ev rfl (E.move rfl) ?_
  refine R.ev rfl (E.move rfl) ?_
  refine R.ev rfl (E.lenSl rfl Try.underlying22) ?_
  refine R.ev rfl (E.lss rfl rfl) ?_
  refine R.done ?_
  refine X.keep [(0, _), (1, _), (5, _), (9, _)] ⟨rfl, rfl, rfl, rfl, trivial⟩ ?_
  refine X.next ?_
  refine C.cdec rfl (fun h9 => ?_) (fun h9 => ?_)
  obtain ⟨y, hy⟩ : ∃ y, L[k]? = some y := ⟨_, List.getElem?_eq_getElem (by omega)⟩
  have my : y ∈ L := List.mem_of_getElem? hy
  have Ay := hs.elAt (b := bk) (off := of) (n := L.length) cap hy
  have hsn : wd (L.take (k + 1)) x = (wd (L.take k) x || (valid x y || outd y x)) := by rw [take_snoc hy, wd, List.any_append]; simp [wd]
  rw [hno, Bool.false_or] at hsn
  refine C.skip ?_
  refine X.next ?_
  refine C.seq ?_
  refine C.block ?_
  refine C.seq ?_
  refine C.drawn (SatS hs) ([3, 7, 13, 17], [0, 1, 2, 4, 5, 6, 9, 10, 11, 12, 14, 15, 16, 19]) (by kernel_rfl) ?_
  have hs := hs.drew
  refine D.evP 0 rfl (by kernel_rfl) rfl (fun _ => hs.to) (fun _ => E.move rfl) ?_
  refine D.evP 1 rfl (by kernel_rfl) rfl (fun _ => hs.to) (fun _ => E.move rfl) ?_
  refine D.evP 2 rfl (by kernel_rfl) rfl (fun _ => hs.to) (fun _ => E.indexAddr (i := i) rfl rfl Try.underlying22 Try.sz26 rfl (by omega)) ?_
  refine D.evP 4 rfl (by kernel_rfl) rfl (fun _ => hs.to) (fun _ => E.move rfl) ?_
  refine D.evP 5 rfl (by kernel_rfl) rfl (fun _ => hs.to) (fun _ => E.move rfl) ?_
  refine D.evP 6 rfl (by kernel_rfl) rfl (fun _ => hs.to) (fun _ => E.indexAddr (i := k) rfl rfl Try.underlying22 Try.sz26 rfl (by omega)) ?_
  refine D.ev 3 rfl (by kernel_rfl) rfl hs.to (fun _ hS => E.loadRow rfl Try.underlying26 rfl Try.sz26 (Ax _ hS) (Enc.len _)) ?_
  refine D.ev 7 rfl (by kernel_rfl) rfl hs.to (fun _ hS => E.loadRow rfl Try.underlying26 rfl Try.sz26 (Ay _ hS) (Enc.len _)) ?_
  refine D.act 8 rfl (by kernel_rfl) ?_
  refine R.call ⟨_, _, Try.func19, rfl, by kernel_rfl⟩ rfl rfl (rvalid_any x y hs) ?_
  rintro _ w8 ⟨rfl, hs⟩
  refine D.back hs.to ?_
  refine D.evP 9 rfl (by kernel_rfl) rfl (fun _ => hs.to) (fun _ => E.move rfl) ?_
  refine D.split 21 rfl (fun h21 => ?_) (fun h21 => ?_)
  refine D.skipP 10 rfl (by kernel_rfl) rfl rfl rfl (fun _ => hs.to) ?_
  refine D.skipP 11 rfl (by kernel_rfl) rfl rfl rfl (fun _ => hs.to) ?_
  refine D.skipP 12 rfl (by kernel_rfl) rfl rfl rfl (fun _ => hs.to) ?_
  refine D.skipP 14 rfl (by kernel_rfl) rfl rfl rfl (fun _ => hs.to) ?_
  refine D.skipP 15 rfl (by kernel_rfl) rfl rfl rfl (fun _ => hs.to) ?_
  refine D.skipP 16 rfl (by kernel_rfl) rfl rfl rfl (fun _ => hs.to) ?_
  refine D.skip 13 rfl (by kernel_rfl) rfl rfl rfl hs.to ?_
  refine D.skip 17 rfl (by kernel_rfl) rfl rfl rfl hs.to ?_
  refine D.act 18 rfl (by kernel_rfl) ?_
  refine R.gskip rfl rfl rfl ?_
  refine D.backT (by kernel_rfl) ?_
  refine D.evP 19 rfl (by kernel_rfl) rfl (np (by kernel_rfl)) (fun _ => E.pickT rfl rfl) ?_
  refine D.done rfl (by kernel_rfl) ?_
  refine X.keep [(0, _), (1, _), (5, _), (31, _)] ⟨rfl, rfl, rfl, rfl, trivial⟩ ?_
  refine X.next ?_
  refine C.ctrue rfl ?_
  refine C.seq ?_
  refine C.region ?_
  refine R.ev rfl (E.assign rfl) ?_
  refine R.done ?_
  refine X.keep [(4, _)] ⟨rfl, trivial⟩ ?_
  refine X.next ?_
  refine C.ret ?_
  refine X.blockRet ?_
  refine X.thenRet ?_
  refine X.loopRet ?_
  refine X.blockRet ?_
  refine X.thenRet ?_
  refine X.ret1 rfl rfl ?_
  have hw : wd L x = true := by
    first
      | exact wd_iff.2 ⟨y, my, .inr h31⟩
      | exact wd_iff.2 ⟨y, my, .inl h21⟩
  exact ⟨by rw [hw]; rfl, hs.to⟩
  refine D.evPG 10 rfl (by kernel_rfl) rfl rfl rfl (fun _ => hs.to) (fun _ => E.move rfl) ?_
  refine D.evPG 11 rfl (by kernel_rfl) rfl rfl rfl (fun _ => hs.to) (fun _ => E.move rfl) ?_
  refine D.evPG 12 rfl (by kernel_rfl) rfl rfl rfl (fun _ => hs.to) (fun _ => E.indexAddr (i := k) rfl rfl Try.underlying22 Try.sz26 rfl (by omega)) ?_
  refine D.evPG 14 rfl (by kernel_rfl) rfl rfl rfl (fun _ => hs.to) (fun _ => E.move rfl) ?_
  refine D.evPG 15 rfl (by kernel_rfl) rfl rfl rfl (fun _ => hs.to) (fun _ => E.move rfl) ?_
  refine D.evPG 16 rfl (by kernel_rfl) rfl rfl rfl (fun _ => hs.to) (fun _ => E.indexAddr (i := i) rfl rfl Try.underlying22 Try.sz26 rfl (by omega)) ?_
  refine D.evG 13 rfl (by kernel_rfl) rfl rfl rfl hs.to (fun _ hS => E.loadRow rfl Try.underlying26 rfl Try.sz26 (Ay _ hS) (Enc.len _)) ?_
  refine D.evG 17 rfl (by kernel_rfl) rfl rfl rfl hs.to (fun _ hS => E.loadRow rfl Try.underlying26 rfl Try.sz26 (Ax _ hS) (Enc.len _)) ?_
  refine D.act 18 rfl (by kernel_rfl) ?_
  refine R.gyes rfl rfl ?_
  refine R.call ⟨_, _, Try.func21, rfl, by kernel_rfl⟩ rfl rfl (routd_any y x hs) ?_
  rintro _ w18 ⟨rfl, hs⟩
  refine D.backT (by kernel_rfl) ?_
  refine D.evP 19 rfl (by kernel_rfl) rfl (np (by kernel_rfl)) (fun _ => E.pickF rfl rfl) ?_
  refine D.done rfl (by kernel_rfl) ?_
  refine X.keep [(0, _), (1, _), (5, _), (31, _)] ⟨rfl, rfl, rfl, rfl, trivial⟩ ?_
  refine X.next ?_
  refine C.cbool rfl (fun h31 => ?_) (fun h31 => ?_)
  refine C.seq ?_
  refine C.region ?_
  refine R.ev rfl (E.assign rfl) ?_
  refine R.done ?_
  refine X.keep [(4, _)] ⟨rfl, trivial⟩ ?_
  refine X.next ?_
  refine C.ret ?_
  refine X.blockRet ?_
  refine X.thenRet ?_
  refine X.loopRet ?_
  refine X.blockRet ?_
  refine X.thenRet ?_
  refine X.ret1 rfl rfl ?_
  have hw : wd L x = true := by
    first
      | exact wd_iff.2 ⟨y, my, .inr h31⟩
      | exact wd_iff.2 ⟨y, my, .inl h21⟩
  exact ⟨by rw [hw]; rfl, hs.to⟩
  refine C.skip ?_
  refine X.blockNormal ?_
  refine X.next ?_
  refine C.region ?_
  refine R.ev rfl (E.move rfl) ?_
  refine R.ev rfl (E.add rfl rfl (by omega) (by omega)) ?_
  refine R.ev rfl (E.assign rfl) ?_
  refine R.done ?_
  refine X.keep [(0, _), (1, _), (5, _)] ⟨rfl, rfl, rfl, trivial⟩ ?_
  exact X.again (k + 1) ⟨rfl, rfl, rfl, trivial⟩ ⟨by omega, by rw [hsn, h21, h31]; rfl, hs.to⟩ (by omega)
  refine C.exit ?_
  refine X.thenExit ?_
  refine X.loopExit ?_
  refine X.blockExit ?_
  refine X.next ?_
  refine C.seq ?_
  refine C.region ?_
  refine R.ev rfl (E.assign rfl) ?_
  refine R.done ?_
  refine X.keep [(4, _)] ⟨rfl, trivial⟩ ?_
  refine X.next ?_
  refine C.ret ?_
  refine X.ret1 rfl rfl ?_
  exact ⟨by rw [show k = L.length by omega, List.take_length] at hno; rw [hno]; rfl, hs⟩
theorem rids_any (e : Bool) (hn : (L.map RR.id).Nodup) (hs : Sat K w Hs) [hr : KRow encR 82 K v L] (hL : L.length ≤ 100000) : Ret Try.prog 25 #[v, .bool e] w fun r w' => ∃ K' I, KLe K K' ∧ KRow encV 32 K' r I ∧ SS ltV I ∧ (∀ a, a ∈ I ↔ a ∈ chosen L (!e)) ∧ Sat K' w' Hs := by
  obtain ⟨ad, cap, rfl, hsl, hc⟩ := hr.ex
  refine Ret.enter (n := 58) (args := [.slice ad L.length cap, .bool e]) Try.func25 rfl rfl ?_
  refine C.keep [(0, _), (1, _)] ⟨rfl, rfl, trivial⟩ ?_
  refine C.seq ?_
  refine C.region ?_
  refine R.ev rfl (E.assign rfl) ?_
  refine R.done ?_
  refine X.keep [(0, _), (1, _)] ⟨rfl, rfl, trivial⟩ ?_
  refine X.next ?_
  refine C.seq ?_
  refine C.region ?_
  refine R.ev rfl (E.assign rfl) ?_
  refine R.done ?_
  refine X.keep [(0, _), (1, _), (5, _)] ⟨rfl, rfl, rfl, trivial⟩ ?_
  refine X.next ?_
  refine C.seq ?_
  refine C.seq ?_
  refine C.region ?_
  refine R.ev rfl (E.assign rfl) ?_
  refine R.done ?_
  refine X.keep [(0, _), (1, _), (5, _), (6, _)] ⟨rfl, rfl, rfl, rfl, trivial⟩ ?_
  refine X.next ?_
  refine C.block ?_
  refine C.loop (T := Nat × Kn × List (Vec 32) × Value) [(0, _), (1, _)] (fun (k, _, _, v) => [(5, v), (6, .int .i64 (k : Nat))]) (fun (k, K1, Lo, v) w' => k ≤ L.length ∧ Lo.length ≤ k ∧ SS ltV Lo ∧ (∀ a, a ∈ Lo ↔ a ∈ ((L.take k).filter fun x => wd L x == !e).map RR.id) ∧ KLe K K1 ∧ KRow encV 32 K1 v Lo ∧ Sat K1 w' Hs) (fun (k, _) => L.length - k) ((0, K, [], .slice none 0 0)) ⟨rfl, rfl, rfl, rfl, trivial⟩ ⟨Nat.zero_le _, Nat.zero_le _, by simp [SS], by simp, KLe.refl K, KRow.nil, hs⟩ ?_
  rintro ⟨k, K1, Lo, v1⟩ w1 ⟨hk, hlo, hss, hmem, hk1, hr1, hs⟩
  obtain ⟨ad1, cap1, rfl, hsl1, hc1⟩ := hr1.ex
  refine C.keep [(0, _), (1, _), (5, _), (6, _)] ⟨rfl, rfl, rfl, rfl, trivial⟩ ?_
  refine C.seq ?_
  refine C.seq ?_
  refine C.region ?_
  refine R.ev rfl (E.move rfl) ?_
  refine R.ev rfl (E.move rfl) ?_
  refine R.ev rfl (E.lenSl rfl Try.underlying22) ?_
  refine R.ev rfl (E.lss rfl rfl) ?_
  refine R.done ?_
  refine X.keep [(0, _), (1, _), (5, _), (6, _), (12, _)] ⟨rfl, rfl, rfl, rfl, rfl, trivial⟩ ?_
  refine X.next ?_
  refine C.cdec rfl (fun h12 => ?_) (fun h12 => ?_)
  obtain ⟨y, bk_y, of_y, hy, my, ly, rfl, Ay⟩ := hs.el (i := k) (ad := ad) (n := L.length) (c := cap) (by omega)
  have ay := Ay _ hs
  have hsn := chosen_snoc (fun x => wd L x == !e) hy
  refine C.skip ?_
  refine X.next ?_
  refine C.seq ?_
  refine C.block ?_
  refine C.seq ?_
  refine C.seq ?_
  refine C.region ?_
  refine R.ev rfl (E.move rfl) ?_
  refine R.ev rfl (E.move rfl) ?_
  refine R.call ⟨_, _, Try.func39, rfl, by kernel_rfl⟩ rfl rfl (isEnd_any (L := L) hs hy (by omega)) ?_
  rintro _ w5 ⟨rfl, hs⟩
  refine R.ev rfl (E.move rfl) ?_
  refine R.ev rfl ((E.neqB rfl rfl Try.underlying4).isB (c := !(wd L y == !e)) (by cases wd L y <;> cases e <;> rfl)) ?_
  refine R.done ?_
  refine X.keep [(0, _), (1, _), (5, _), (6, _), (19, _)] ⟨rfl, rfl, rfl, rfl, rfl, trivial⟩ ?_
  refine X.next ?_
  refine C.cbool rfl (fun h19 => ?_) (fun h19 => ?_)
  have h19' : (wd L y == !e) = false := by simpa using h19
  have hnx : Lo.length ≤ k + 1 ∧ SS ltV Lo ∧ (∀ a, a ∈ Lo ↔ a ∈ ((L.take (k + 1)).filter fun x => wd L x == !e).map RR.id) ∧ KLe K K1 ∧ KRow encV 32 K1 (.slice ad1 Lo.length cap1) Lo := ⟨by omega, hss, fun a => by rw [hsn, h19']; simpa using hmem a, hk1, hr1⟩
  generalize hvn : Value.slice ad1 Lo.length cap1 = vn at hnx ⊢
  obtain ⟨K2, Ln, hK2, hLn⟩ : ∃ K2 Ln, K2 = K1 ∧ Ln = Lo := ⟨_, _, rfl, rfl⟩
  rw [← hK2, ← hLn] at hnx
  have hs : Sat K2 w5 Hs := by rw [hK2]; exact hs
  refine C.exit ?_
  refine X.thenExit ?_
  refine X.blockExit ?_
  refine X.next ?_
  refine C.region ?_
  refine R.ev rfl (E.move rfl) ?_
  refine R.ev rfl (E.add rfl rfl (by omega) (by omega)) ?_
  refine R.ev rfl (E.assign rfl) ?_
  refine R.done ?_
  refine X.keep [(0, _), (1, _), (5, _), (6, _)] ⟨rfl, rfl, rfl, rfl, trivial⟩ ?_
  exact X.again (k + 1, K2, Ln, vn) ⟨rfl, rfl, rfl, rfl, trivial⟩ ⟨by omega, hnx.1, hnx.2.1, hnx.2.2.1, hnx.2.2.2.1, hnx.2.2.2.2, hs⟩ (by show _ - _ < _ - _; omega)
  have h19' : (wd L y == !e) = true := by simpa using h19
  have hyn : y.id ∉ Lo := fun h => by
    obtain ⟨z, hz, hzi⟩ := List.mem_map.1 ((hmem _).1 h)
    have hz2 := (List.mem_filter.1 hz).1
    have h0 := hn
    rw [← List.take_append_drop k L, List.map_append, List.nodup_append] at h0
    exact h0.2.2 z.id (List.mem_map.2 ⟨z, hz2, rfl⟩) y.id (by rw [chk_at hy]; simp) hzi
  refine C.skip ?_
  refine X.next ?_
  refine C.seq ?_
  refine C.region ?_
  refine R.ev rfl (E.move rfl) ?_
  refine R.ev rfl (E.lenSl rfl Try.underlying49) ?_
  refine R.ev rfl (E.assign rfl) ?_
  refine R.done ?_
  refine X.keep [(0, _), (1, _), (5, _), (6, _), (7, _)] ⟨rfl, rfl, rfl, rfl, rfl, trivial⟩ ?_
  refine X.next ?_
  refine C.seq ?_
  refine C.block ?_
  refine C.loop  [(0, _), (1, _), (5, _), (6, _)] (fun a => [(7, .int .i64 (a : Nat))]) (fun a w' => a ≤ Lo.length ∧ (∀ j z, a ≤ j → Lo[j]? = some z → ltV y.id z = true) ∧ Sat K1 w' Hs) (fun a => a) (Lo.length) ⟨rfl, rfl, rfl, rfl, rfl, trivial⟩ ⟨Nat.le_refl _, fun j z h1 h2 => by have := (List.getElem?_eq_some_iff.1 h2).1; omega, hs⟩ ?_
  rintro a w2 ⟨ha, hgt, hs⟩
  refine C.keep [(0, _), (1, _), (5, _), (6, _), (7, _)] ⟨rfl, rfl, rfl, rfl, rfl, trivial⟩ ?_
  refine C.seq ?_
  refine C.seq ?_
  refine C.drawn (SatS hs) ([7, 12], [0, 1, 2, 3, 4, 5, 6, 8, 9, 10, 11, 14]) (by kernel_rfl) ?_
  have hs := hs.drew
  refine D.evP 0 rfl (by kernel_rfl) rfl (fun _ => hs.to) (fun _ => E.move rfl) ?_
  refine D.evP 1 rfl (by kernel_rfl) rfl (fun _ => hs.to) (fun _ => E.gtr rfl rfl) ?_
  refine D.evP 2 rfl (by kernel_rfl) rfl (fun _ => hs.to) (fun _ => E.move rfl) ?_
  refine D.split 24 rfl (fun h24 => ?_) (fun h24 => ?_)
  have ha0 : 0 < a := by have := of_decide_eq_true h24; omega
  obtain ⟨z, bk_z, of_z, hz, mz, lz, rfl, Az⟩ := hs.el (i := a - 1) (ad := ad1) (n := Lo.length) (c := cap1) (by omega)
  refine D.evPG 3 rfl (by kernel_rfl) rfl rfl rfl (fun _ => hs.to) (fun _ => E.move rfl) ?_
  refine D.evPG 4 rfl (by kernel_rfl) rfl rfl rfl (fun _ => hs.to) (fun _ => E.move rfl) ?_
  refine D.evPG 5 rfl (by kernel_rfl) rfl rfl rfl (fun _ => hs.to) (fun _ => E.indexAddr (i := k) rfl rfl Try.underlying22 Try.sz26 rfl (by omega)) ?_
  refine D.evPG 6 rfl (by kernel_rfl) rfl rfl rfl (fun _ => hs.to) (fun _ => E.fieldAddrN 0 rfl Try.underlying26 rfl Try.sz23 rfl) ?_
  refine D.evPG 8 rfl (by kernel_rfl) rfl rfl rfl (fun _ => hs.to) (fun _ => E.move rfl) ?_
  refine D.evPG 9 rfl (by kernel_rfl) rfl rfl rfl (fun _ => hs.to) (fun _ => E.move rfl) ?_
  refine D.evPG 10 rfl (by kernel_rfl) rfl rfl rfl (fun _ => hs.to) (fun _ => (E.sub rfl rfl (by omega) (by omega)).isI (c := ((a - 1 : Nat) : Int)) (by omega)) ?_
  refine D.evPG 11 rfl (by kernel_rfl) rfl rfl rfl (fun _ => hs.to) (fun _ => E.indexAddr (i := a - 1) rfl rfl Try.underlying49 Try.sz23 rfl (by omega)) ?_
  refine D.evG 7 rfl (by kernel_rfl) rfl rfl rfl hs.to (fun _ hS => E.loadRow (cs := y.id.1.map ub) rfl Try.underlying23 rfl Try.sz23 (Ay _ hS).app.1 (encV_len y.id)) ?_
  refine D.evG 12 rfl (by kernel_rfl) rfl rfl rfl hs.to (fun _ hS => E.loadRow rfl Try.underlying23 rfl Try.sz23 (Az _ hS) lz) ?_
  refine D.act 13 rfl (by kernel_rfl) ?_
  refine R.gyes rfl rfl ?_
  refine R.call ⟨_, _, Try.func46, rfl, by kernel_rfl⟩ rfl rfl (before_any y.id z hs) ?_
  rintro _ w713 ⟨rfl, hs⟩
  refine D.backT (by kernel_rfl) ?_
  refine D.evP 14 rfl (by kernel_rfl) rfl (np (by kernel_rfl)) (fun _ => E.pickT rfl rfl) ?_
  refine D.done rfl (by kernel_rfl) ?_
  refine X.keep [(0, _), (1, _), (5, _), (6, _), (7, _), (36, _)] ⟨rfl, rfl, rfl, rfl, rfl, rfl, trivial⟩ ?_
  refine X.next ?_
  refine C.cbool rfl (fun h36 => ?_) (fun h36 => ?_)
  refine C.skip ?_
  refine X.next ?_
  refine C.block ?_
  refine C.region ?_
  refine R.ev rfl (E.move rfl) ?_
  refine R.ev rfl ((E.sub rfl rfl (by omega) (by omega)).isI (c := ((a - 1 : Nat) : Int)) (by omega)) ?_
  refine R.ev rfl (E.assign rfl) ?_
  refine R.done ?_
  refine X.keep [(0, _), (1, _), (5, _), (6, _), (7, _)] ⟨rfl, rfl, rfl, rfl, rfl, trivial⟩ ?_
  refine X.blockNormal ?_
  exact X.again (a - 1) ⟨rfl, rfl, rfl, rfl, rfl, trivial⟩ ⟨by omega, fun j z' h1 h2 => by
  rcases Nat.lt_or_ge j a with h | h
  · obtain rfl : j = a - 1 := by omega
    rw [hz] at h2; simp at h2; subst h2; exact h36
  · exact hgt j z' h h2, hs⟩ (by omega)
  refine C.exit ?_
  refine X.thenExit ?_
  refine X.loopExit ?_
  refine X.blockExit ?_
  refine X.next ?_
  refine C.seq ?_
  refine C.region ?_
  have hle : ∀ u ∈ Lo.take a, ltV u y.id = true := by
    intro u hu
    have huL := List.mem_of_mem_take hu
    have hne : u ≠ y.id := fun e0 => hyn (e0 ▸ huL)
    obtain ⟨j, hj, hju⟩ := List.getElem_of_mem hu
    have hj1 : j < a := by simp at hj; omega
    first
      | (have hu2 : Lo[j]? = some u := by rw [← hju, List.getElem_take, List.getElem?_eq_getElem]
         have huz : u = z ∨ ltV u z = true := by
           rcases Nat.lt_or_ge j (a - 1) with h | h
           · obtain ⟨h3, h4⟩ := List.getElem?_eq_some_iff.1 hu2
             obtain ⟨h5, h6⟩ := List.getElem?_eq_some_iff.1 hz
             have := List.pairwise_iff_getElem.1 hss j (a - 1) h3 h5 h
             rw [h4, h6] at this
             exact .inr this
           · obtain rfl : j = a - 1 := by omega
             rw [hz] at hu2; simp at hu2; exact .inl hu2.symm
         have hzy : ltV z y.id = true := by
           cases hc : ltV z y.id with
           | true => rfl
           | false => exact absurd (ltV_tot _ _ hc h36) (fun e0 => hyn (e0 ▸ mz))
         rcases huz with rfl | h
         · exact hzy
         · exact ltV_swo.trans _ _ _ h hzy)
      | (have := of_decide_eq_false h24; omega)
  have hnew : SS ltV (Lo.take a ++ [y.id] ++ Lo.drop a) := by
    refine ssV_ins hss hle (fun z hz => ?_)
    obtain ⟨j, hj, hjz⟩ := List.getElem_of_mem hz
    refine hgt (a + j) z (by omega) ?_
    rw [← hjz, List.getElem_drop, List.getElem?_eq_getElem]
  have hmem' : ∀ x, x ∈ Lo.take a ++ [y.id] ++ Lo.drop a ↔ x ∈ ((L.take (k + 1)).filter fun x => wd L x == !e).map RR.id := fun x => by
    have : x ∈ Lo.take a ++ [y.id] ++ Lo.drop a ↔ x = y.id ∨ x ∈ Lo := ins_mem
    rw [this, hmem, hsn, h19', List.mem_append]
    simp only [if_true, List.mem_singleton]
    exact Or.comm
  have k1 := hr1.first (i := a) ha
  have k2 := hr1.behind (i := a) ha
  have hl1 : (Lo.take a).length = a := by rw [List.length_take]; omega
  have hl2 : (Lo.drop a).length = Lo.length - a := List.length_drop
  refine R.sbuild0 (enc := (encV (m := 32))) hs Try.underlying49 Try.sz23 rfl ?_
  intro v39 w39 F39 r39 nn39 hs
  refine R.ev rfl (E.move rfl) ?_
  refine R.ev rfl (E.move rfl) ?_
  refine R.ev rfl (E.sliceH rfl rfl Try.underlying49 Try.sz23 rfl (by omega)) ?_
  refine R.cappSl hs rfl rfl Try.underlying49 Try.by23 (by rfl) rfl (by decide) (by (simp only [List.length_append, List.length_cons, List.length_nil] at *; omega)) (by (simp only [List.length_append, List.length_cons, List.length_nil] at *; omega)) ?_
  intro v43 w43 F43 r43 hs
  rw [List.nil_append] at r43
  refine R.ev rfl (E.assign rfl) ?_
  refine R.done ?_
  refine X.keep [(0, _), (1, _), (5, _), (6, _), (7, _), (8, _)] ⟨rfl, rfl, rfl, rfl, rfl, rfl, trivial⟩ ?_
  refine X.next ?_
  refine C.seq ?_
  refine C.region ?_
  have ay := Ay _ hs.to
  refine R.ev rfl (E.move rfl) ?_
  refine R.ev rfl (E.move rfl) ?_
  refine R.ev rfl (E.move rfl) ?_
  refine R.ev rfl (E.indexAddr rfl rfl Try.underlying22 Try.sz26 rfl (by omega)) ?_
  refine R.ev rfl (E.fieldAddrN 0 rfl Try.underlying26 rfl Try.sz23 rfl) ?_
  refine R.ev rfl (E.loadRow (cs := y.id.1.map ub) rfl Try.underlying23 rfl Try.sz23 ay.app.1 (encV_len y.id)) ?_
  refine R.buildSliceA rfl Try.underlying49 Try.sz23 Try.zr23 rfl (by exact encV_len _) (by decide) (by decide) ?_
  intro b50 w50 n50
  have hs := hs.new n50
  refine R.capp1 (y.id) hs rfl rfl Try.underlying49 Try.by23 (by rfl) rfl (by exact hs.ldA) (by decide) (by omega) (by omega) ?_
  intro v51 w51 F51 r51 hs
  refine R.ev rfl (E.assign rfl) ?_
  refine R.done ?_
  refine X.keep [(0, _), (1, _), (5, _), (6, _), (7, _), (8, _)] ⟨rfl, rfl, rfl, rfl, rfl, rfl, trivial⟩ ?_
  refine X.next ?_
  refine C.region ?_
  refine R.ev rfl (E.move rfl) ?_
  refine R.ev rfl (E.move rfl) ?_
  refine R.ev rfl (E.move rfl) ?_
  refine R.ev rfl (E.sliceLs (a := a) rfl rfl Try.underlying49 Try.sz23 rfl (by omega)) ?_
  refine R.cappSl hs rfl rfl Try.underlying49 Try.by23 (by rfl) rfl (by decide) (by (simp only [List.length_append, List.length_cons, List.length_nil] at *; omega)) (by (simp only [List.length_append, List.length_cons, List.length_nil] at *; omega)) ?_
  intro v56 w56 F56 r56 hs
  obtain ⟨K2, hk2, r2, hs⟩ := r56.freezeK (hs.front (F := F56))
  have hs : Sat K2 _ Hs := hs.to
  have hnx : (Lo.take a ++ [y.id] ++ Lo.drop a).length ≤ k + 1 ∧ SS ltV (Lo.take a ++ [y.id] ++ Lo.drop a) ∧ (∀ x, x ∈ Lo.take a ++ [y.id] ++ Lo.drop a ↔ x ∈ ((L.take (k + 1)).filter fun x => wd L x == !e).map RR.id) ∧ KLe K K2 ∧ KRow encV 32 K2 v56 (Lo.take a ++ [y.id] ++ Lo.drop a) := ⟨by simp; omega, hnew, hmem', hk1.trans hk2, r2⟩
  generalize Lo.take a ++ [y.id] ++ Lo.drop a = Ln at hnx
  generalize v56 = vn at hnx ⊢
  refine R.ev rfl (E.assign rfl) ?_
  refine R.done ?_
  refine X.keep [(0, _), (1, _), (5, _), (6, _)] ⟨rfl, rfl, rfl, rfl, trivial⟩ ?_
  refine X.blockNormal ?_
  refine X.next ?_
  refine C.region ?_
  refine R.ev rfl (E.move rfl) ?_
  refine R.ev rfl (E.add rfl rfl (by omega) (by omega)) ?_
  refine R.ev rfl (E.assign rfl) ?_
  refine R.done ?_
  refine X.keep [(0, _), (1, _), (5, _), (6, _)] ⟨rfl, rfl, rfl, rfl, trivial⟩ ?_
  exact X.again (k + 1, K2, Ln, vn) ⟨rfl, rfl, rfl, rfl, trivial⟩ ⟨by omega, hnx.1, hnx.2.1, hnx.2.2.1, hnx.2.2.2.1, hnx.2.2.2.2, hs⟩ (by show _ - _ < _ - _; omega)
  refine D.skipP 3 rfl (by kernel_rfl) rfl rfl rfl (fun _ => hs.to) ?_
  refine D.skipP 4 rfl (by kernel_rfl) rfl rfl rfl (fun _ => hs.to) ?_
  refine D.skipP 5 rfl (by kernel_rfl) rfl rfl rfl (fun _ => hs.to) ?_
  refine D.skipP 6 rfl (by kernel_rfl) rfl rfl rfl (fun _ => hs.to) ?_
  refine D.skipP 8 rfl (by kernel_rfl) rfl rfl rfl (fun _ => hs.to) ?_
  refine D.skipP 9 rfl (by kernel_rfl) rfl rfl rfl (fun _ => hs.to) ?_
  refine D.skipP 10 rfl (by kernel_rfl) rfl rfl rfl (fun _ => hs.to) ?_
  refine D.skipP 11 rfl (by kernel_rfl) rfl rfl rfl (fun _ => hs.to) ?_
  refine D.skip 7 rfl (by kernel_rfl) rfl rfl rfl hs.to ?_
  refine D.skip 12 rfl (by kernel_rfl) rfl rfl rfl hs.to ?_
  refine D.act 13 rfl (by kernel_rfl) ?_
  refine R.gskip rfl rfl rfl ?_
  refine D.backT (by kernel_rfl) ?_
  refine D.evP 14 rfl (by kernel_rfl) rfl (np (by kernel_rfl)) (fun _ => E.pickF rfl rfl) ?_
  refine D.done rfl (by kernel_rfl) ?_
  refine X.keep [(0, _), (1, _), (5, _), (6, _), (7, _), (36, _)] ⟨rfl, rfl, rfl, rfl, rfl, rfl, trivial⟩ ?_
  refine X.next ?_
  refine C.cfalse rfl ?_
  refine C.exit ?_
  refine X.thenExit ?_
  refine X.loopExit ?_
  refine X.blockExit ?_
  refine X.next ?_
  refine C.seq ?_
  refine C.region ?_
  have hle : ∀ u ∈ Lo.take a, ltV u y.id = true := by
    intro u hu
    have huL := List.mem_of_mem_take hu
    have hne : u ≠ y.id := fun e0 => hyn (e0 ▸ huL)
    obtain ⟨j, hj, hju⟩ := List.getElem_of_mem hu
    have hj1 : j < a := by simp at hj; omega
    first
      | (have hu2 : Lo[j]? = some u := by rw [← hju, List.getElem_take, List.getElem?_eq_getElem]
         have huz : u = z ∨ ltV u z = true := by
           rcases Nat.lt_or_ge j (a - 1) with h | h
           · obtain ⟨h3, h4⟩ := List.getElem?_eq_some_iff.1 hu2
             obtain ⟨h5, h6⟩ := List.getElem?_eq_some_iff.1 hz
             have := List.pairwise_iff_getElem.1 hss j (a - 1) h3 h5 h
             rw [h4, h6] at this
             exact .inr this
           · obtain rfl : j = a - 1 := by omega
             rw [hz] at hu2; simp at hu2; exact .inl hu2.symm
         have hzy : ltV z y.id = true := by
           cases hc : ltV z y.id with
           | true => rfl
           | false => exact absurd (ltV_tot _ _ hc h36) (fun e0 => hyn (e0 ▸ mz))
         rcases huz with rfl | h
         · exact hzy
         · exact ltV_swo.trans _ _ _ h hzy)
      | (have := of_decide_eq_false h24; omega)
  have hnew : SS ltV (Lo.take a ++ [y.id] ++ Lo.drop a) := by
    refine ssV_ins hss hle (fun z hz => ?_)
    obtain ⟨j, hj, hjz⟩ := List.getElem_of_mem hz
    refine hgt (a + j) z (by omega) ?_
    rw [← hjz, List.getElem_drop, List.getElem?_eq_getElem]
  have hmem' : ∀ x, x ∈ Lo.take a ++ [y.id] ++ Lo.drop a ↔ x ∈ ((L.take (k + 1)).filter fun x => wd L x == !e).map RR.id := fun x => by
    have : x ∈ Lo.take a ++ [y.id] ++ Lo.drop a ↔ x = y.id ∨ x ∈ Lo := ins_mem
    rw [this, hmem, hsn, h19', List.mem_append]
    simp only [if_true, List.mem_singleton]
    exact Or.comm
  have k1 := hr1.first (i := a) ha
  have k2 := hr1.behind (i := a) ha
  have hl1 : (Lo.take a).length = a := by rw [List.length_take]; omega
  have hl2 : (Lo.drop a).length = Lo.length - a := List.length_drop
  refine R.sbuild0 (enc := (encV (m := 32))) hs Try.underlying49 Try.sz23 rfl ?_
  intro v39 w39 F39 r39 nn39 hs
  refine R.ev rfl (E.move rfl) ?_
  refine R.ev rfl (E.move rfl) ?_
  refine R.ev rfl (E.sliceH rfl rfl Try.underlying49 Try.sz23 rfl (by omega)) ?_
  refine R.cappSl hs rfl rfl Try.underlying49 Try.by23 (by rfl) rfl (by decide) (by (simp only [List.length_append, List.length_cons, List.length_nil] at *; omega)) (by (simp only [List.length_append, List.length_cons, List.length_nil] at *; omega)) ?_
  intro v43 w43 F43 r43 hs
  rw [List.nil_append] at r43
  refine R.ev rfl (E.assign rfl) ?_
  refine R.done ?_
  refine X.keep [(0, _), (1, _), (5, _), (6, _), (7, _), (8, _)] ⟨rfl, rfl, rfl, rfl, rfl, rfl, trivial⟩ ?_
  refine X.next ?_
  refine C.seq ?_
  refine C.region ?_
  have ay := Ay _ hs.to
  refine R.ev rfl (E.move rfl) ?_
  refine R.ev rfl (E.move rfl) ?_
  refine R.ev rfl (E.move rfl) ?_
  refine R.ev rfl (E.indexAddr rfl rfl Try.underlying22 Try.sz26 rfl (by omega)) ?_
  refine R.ev rfl (E.fieldAddrN 0 rfl Try.underlying26 rfl Try.sz23 rfl) ?_
  refine R.ev rfl (E.loadRow (cs := y.id.1.map ub) rfl Try.underlying23 rfl Try.sz23 ay.app.1 (encV_len y.id)) ?_
  refine R.buildSliceA rfl Try.underlying49 Try.sz23 Try.zr23 rfl (by exact encV_len _) (by decide) (by decide) ?_
  intro b50 w50 n50
  have hs := hs.new n50
  refine R.capp1 (y.id) hs rfl rfl Try.underlying49 Try.by23 (by rfl) rfl (by exact hs.ldA) (by decide) (by omega) (by omega) ?_
  intro v51 w51 F51 r51 hs
  refine R.ev rfl (E.assign rfl) ?_
  refine R.done ?_
  refine X.keep [(0, _), (1, _), (5, _), (6, _), (7, _), (8, _)] ⟨rfl, rfl, rfl, rfl, rfl, rfl, trivial⟩ ?_
  refine X.next ?_
  refine C.region ?_
  refine R.ev rfl (E.move rfl) ?_
  refine R.ev rfl (E.move rfl) ?_
  refine R.ev rfl (E.move rfl) ?_
  refine R.ev rfl (E.sliceLs (a := a) rfl rfl Try.underlying49 Try.sz23 rfl (by omega)) ?_
  refine R.cappSl hs rfl rfl Try.underlying49 Try.by23 (by rfl) rfl (by decide) (by (simp only [List.length_append, List.length_cons, List.length_nil] at *; omega)) (by (simp only [List.length_append, List.length_cons, List.length_nil] at *; omega)) ?_
  intro v56 w56 F56 r56 hs
  obtain ⟨K2, hk2, r2, hs⟩ := r56.freezeK (hs.front (F := F56))
  have hs : Sat K2 _ Hs := hs.to
  have hnx : (Lo.take a ++ [y.id] ++ Lo.drop a).length ≤ k + 1 ∧ SS ltV (Lo.take a ++ [y.id] ++ Lo.drop a) ∧ (∀ x, x ∈ Lo.take a ++ [y.id] ++ Lo.drop a ↔ x ∈ ((L.take (k + 1)).filter fun x => wd L x == !e).map RR.id) ∧ KLe K K2 ∧ KRow encV 32 K2 v56 (Lo.take a ++ [y.id] ++ Lo.drop a) := ⟨by simp; omega, hnew, hmem', hk1.trans hk2, r2⟩
  generalize Lo.take a ++ [y.id] ++ Lo.drop a = Ln at hnx
  generalize v56 = vn at hnx ⊢
  refine R.ev rfl (E.assign rfl) ?_
  refine R.done ?_
  refine X.keep [(0, _), (1, _), (5, _), (6, _)] ⟨rfl, rfl, rfl, rfl, trivial⟩ ?_
  refine X.blockNormal ?_
  refine X.next ?_
  refine C.region ?_
  refine R.ev rfl (E.move rfl) ?_
  refine R.ev rfl (E.add rfl rfl (by omega) (by omega)) ?_
  refine R.ev rfl (E.assign rfl) ?_
  refine R.done ?_
  refine X.keep [(0, _), (1, _), (5, _), (6, _)] ⟨rfl, rfl, rfl, rfl, trivial⟩ ?_
  exact X.again (k + 1, K2, Ln, vn) ⟨rfl, rfl, rfl, rfl, trivial⟩ ⟨by omega, hnx.1, hnx.2.1, hnx.2.2.1, hnx.2.2.2.1, hnx.2.2.2.2, hs⟩ (by show _ - _ < _ - _; omega)
  refine C.exit ?_
  refine X.thenExit ?_
  refine X.loopExit ?_
  refine X.blockExit ?_
  refine X.next ?_
  refine C.seq ?_
  refine C.region ?_
  refine R.ev rfl (E.move rfl) ?_
  refine R.ev rfl (E.assign rfl) ?_
  refine R.done ?_
  refine X.keep [(4, _)] ⟨rfl, trivial⟩ ?_
  refine X.next ?_
  refine C.ret ?_
  refine X.ret1 rfl rfl ?_
  rw [List.take_of_length_le (show L.length ≤ k by omega)] at hmem
  exact ⟨K1, Lo, hk1, hr1, hss, hmem, hs⟩
end Go.Proofs.Ytmjmichghfepkaa
