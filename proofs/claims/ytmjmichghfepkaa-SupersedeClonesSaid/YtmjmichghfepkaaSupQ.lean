/-
  Chapter 41: Equal.
-/
import Derived.Test.YtmjmichghfepkaaSupZ
namespace Go.Proofs.Ytmjmichghfepkaa
open Go.Eng Go.RowKit Go.Sort
variable {K : Kn} {Hs Rs : List Hl} {F : Hl} {w : World} {v : Value} {L : List RR} {p : Nat} {M : SMap}
theorem encVq_fits (a : Vec 32) (_ : (encV a).length = 32) : fitsAll (List.replicate 32 (lInt .u8)) (encV a) = true := fitsN a.2
theorem encVq_eq {a b : Vec 32} (_ : (encV a).length = 32) (_ : (encV b).length = 32) : cellsEq (encV a) (encV b) = decide (a = b) := cellsEq_vec a b
theorem eqIds_any {K : Kn} {Hs : List Hl} {L M : List (Vec 32)} {ad ad' : Option Addr} {n c n' c' : Nat} {w : World} (hs : Sat K w Hs) [h1 : Rd encV 32 K Hs (.slice ad n c) L] [h2 : Rd encV 32 K Hs (.slice ad' n' c') M] (hn : n ≤ 9223372036854775807) :
    Ret Try.prog 74 #[.slice ad n c, .slice ad' n' c'] w fun v w' => v = .bool (decide (L = M)) ∧ Sat K w' Hs := by
  have hln := h1.len
  have hln' := h2.len
  refine Ret.enter (n := 26) (args := [.slice ad n c, .slice ad' n' c']) Try.func74 rfl rfl ?_
  refine C.keep [(0, _), (1, _)] ⟨rfl, rfl, trivial⟩ ?_
  refine C.seq ?_
  refine C.region ?_
  refine R.ev rfl (E.assign rfl) ?_
  refine R.done ?_
  refine X.keep [(0, _), (1, _)] ⟨rfl, rfl, trivial⟩ ?_
  refine X.next ?_
  refine C.seq ?_
  refine C.seq ?_
  refine C.region ?_
  refine R.ev rfl (E.move rfl) ?_
  refine R.ev rfl (E.lenSl rfl Try.underlying40) ?_
  refine R.ev rfl (E.move rfl) ?_
  refine R.ev rfl (E.lenSl rfl Try.underlying40) ?_
  refine R.ev rfl (E.neq rfl rfl) ?_
  refine R.done ?_
  refine X.keep [(0, _), (1, _), (10, _)] ⟨rfl, rfl, rfl, trivial⟩ ?_
  refine X.next ?_
  refine C.cdec rfl (fun h10 => ?_) (fun h10 => ?_)
  refine C.seq ?_
  refine C.region ?_
  refine R.ev rfl (E.assign rfl) ?_
  refine R.done ?_
  refine X.keep [(4, _)] ⟨rfl, trivial⟩ ?_
  refine X.next ?_
  refine C.ret ?_
  refine X.thenRet ?_
  refine X.ret1 rfl rfl ?_
  exact ⟨by rw [decide_eq_false]; intro e; rw [e] at hln; omega, hs⟩
  refine C.skip ?_
  refine X.next ?_
  refine C.seq ?_
  refine C.seq ?_
  refine C.region ?_
  refine R.ev rfl (E.move rfl) ?_
  refine R.ev rfl (E.lenSl rfl Try.underlying40) ?_
  refine R.ev rfl (E.move rfl) ?_
  refine R.done ?_
  refine X.keep [(0, _), (1, _), (12, _), (13, _)] ⟨rfl, rfl, rfl, rfl, trivial⟩ ?_
  refine X.next ?_
  refine C.block ?_
  refine C.loop  [(0, _), (1, _), (12, _)] (fun k => [(13, .int .i64 (k : Nat))]) (fun k w' => k ≤ n ∧ Sat K w' Hs ∧ L.take k = M.take k) (fun k => n - k) (0) ⟨rfl, rfl, rfl, rfl, trivial⟩ ⟨Nat.zero_le _, hs, rfl⟩ ?_
  rintro k w1 ⟨hk, hs, htk⟩
  refine C.keep [(0, _), (1, _), (12, _), (13, _)] ⟨rfl, rfl, rfl, rfl, trivial⟩ ?_
  refine C.seq ?_
  refine C.region ?_
  refine R.ev rfl (E.lss rfl rfl) ?_
  refine R.done ?_
  refine X.keep [(0, _), (1, _), (12, _), (13, _), (14, _)] ⟨rfl, rfl, rfl, rfl, rfl, trivial⟩ ?_
  refine X.next ?_
  refine C.seq ?_
  refine C.cdec rfl (fun h14 => ?_) (fun h14 => ?_)
  obtain ⟨y, bk_y, of_y, hy, my, ly, rfl, Ay⟩ := hs.el (i := k) (ad := ad) (n := n) (c := c) (by omega)
  have ay := Ay _ hs
  obtain ⟨z, bk_z, of_z, hz, mz, lz, rfl, Az⟩ := hs.el (i := k) (ad := ad') (n := n') (c := c') (by omega)
  have az := Az _ hs
  have hfy := encVq_fits y ly
  have hfz := encVq_fits z lz
  refine C.skip ?_
  refine X.next ?_
  refine C.seq ?_
  refine C.block ?_
  refine C.seq ?_
  refine C.region ?_
  refine R.ev rfl (E.move rfl) ?_
  refine R.ev rfl (E.assign rfl) ?_
  refine R.done ?_
  refine X.keep [(0, _), (1, _), (5, _), (12, _), (13, _)] ⟨rfl, rfl, rfl, rfl, rfl, trivial⟩ ?_
  refine X.next ?_
  refine C.seq ?_
  refine C.drawn (SatS hs) ([3, 7], [0, 1, 2, 4, 5, 6, 8]) (by kernel_rfl) ?_
  have hs := hs.drew
  refine D.evP 0 rfl (by kernel_rfl) rfl (fun _ => hs.to) (fun _ => E.move rfl) ?_
  refine D.evP 1 rfl (by kernel_rfl) rfl (fun _ => hs.to) (fun _ => E.move rfl) ?_
  refine D.evP 2 rfl (by kernel_rfl) rfl (fun _ => hs.to) (fun _ => E.indexAddr rfl rfl Try.underlying40 Try.sz37 rfl (by omega)) ?_
  refine D.evP 4 rfl (by kernel_rfl) rfl (fun _ => hs.to) (fun _ => E.move rfl) ?_
  refine D.evP 5 rfl (by kernel_rfl) rfl (fun _ => hs.to) (fun _ => E.move rfl) ?_
  refine D.evP 6 rfl (by kernel_rfl) rfl (fun _ => hs.to) (fun _ => E.indexAddr rfl rfl Try.underlying40 Try.sz37 rfl (by omega)) ?_
  refine D.ev 3 rfl (by kernel_rfl) rfl hs.to (fun _ hS => E.loadRow rfl Try.underlying37 rfl Try.sz37 (Ay _ hS) ly) ?_
  refine D.ev 7 rfl (by kernel_rfl) rfl hs.to (fun _ hS => E.loadRow rfl Try.underlying37 rfl Try.sz37 (Az _ hS) lz) ?_
  refine D.evP 8 rfl (by kernel_rfl) rfl (fun _ => hs.to) (fun _ => (E.neqAgg 10 rfl rfl Try.lv37 rfl Try.underlying37 rfl Try.gd37 hfy hfz).isB (c := decide (y ≠ z)) (by rw [encVq_eq ly lz]; simp)) ?_
  refine D.done rfl (by kernel_rfl) ?_
  refine X.keep [(0, _), (1, _), (12, _), (13, _), (24, _)] ⟨rfl, rfl, rfl, rfl, rfl, trivial⟩ ?_
  refine X.next ?_
  refine C.cdec rfl (fun h24 => ?_) (fun h24 => ?_)
  refine C.seq ?_
  refine C.region ?_
  refine R.ev rfl (E.assign rfl) ?_
  refine R.done ?_
  refine X.keep [(4, _)] ⟨rfl, trivial⟩ ?_
  refine X.next ?_
  refine C.ret ?_
  refine X.blockRet ?_
  refine X.thenRet ?_
  refine X.loopRet ?_
  refine X.blockRet ?_
  refine X.thenRet ?_
  refine X.ret1 rfl rfl ?_
  exact ⟨by rw [decide_eq_false]; intro e; rw [e, hz] at hy; exact h24 (by simpa using hy.symm), hs⟩
  refine C.skip ?_
  refine X.blockNormal ?_
  refine X.next ?_
  refine C.region ?_
  refine R.ev rfl (E.add rfl rfl (by omega) (by omega)) ?_
  refine R.ev rfl (E.move rfl) ?_
  refine R.done ?_
  refine X.keep [(0, _), (1, _), (12, _), (13, _)] ⟨rfl, rfl, rfl, rfl, trivial⟩ ?_
  exact X.again (k + 1) ⟨rfl, rfl, rfl, rfl, trivial⟩ ⟨by omega, hs, by rw [take_snoc hy, take_snoc hz, htk, Decidable.not_not.1 h24]⟩ (by omega)
  refine C.exit ?_
  refine X.thenExit ?_
  refine X.loopExit ?_
  refine X.blockExit ?_
  refine X.next ?_
  refine C.seq ?_
  refine C.region ?_
  refine R.ev rfl (E.assign rfl) ?_
  refine R.done ?_
  refine X.keep [(4, _)] ⟨rfl, trivial⟩ ?_
  refine X.next ?_
  refine C.ret ?_
  refine X.ret1 rfl rfl ?_
  exact ⟨by rw [decide_eq_true]; rw [← List.take_length (l := L), ← List.take_length (l := M), hln.1, hln'.1, show n' = n by omega]; rwa [show k = n by omega] at htk, hs⟩
theorem eqStr_any {L M : List (List UInt8)} {ad ad' : Option Addr} {n c n' c' : Nat} (hs : Sat K w Hs) [h1 : Rd encS 1 K Hs (.slice ad n c) L] [h2 : Rd encS 1 K Hs (.slice ad' n' c') M] (hn : n ≤ 9223372036854775807) :
    Ret Try.prog 73 #[.slice ad n c, .slice ad' n' c'] w fun v w' => v = .bool (decide (L = M)) ∧ Sat K w' Hs := by
  have hln := h1.len
  have hln' := h2.len
  refine Ret.enter (n := 26) (args := [.slice ad n c, .slice ad' n' c']) Try.func73 rfl rfl ?_
  refine C.keep [(0, _), (1, _)] ⟨rfl, rfl, trivial⟩ ?_
  refine C.seq ?_
  refine C.region ?_
  refine R.ev rfl (E.assign rfl) ?_
  refine R.done ?_
  refine X.keep [(0, _), (1, _)] ⟨rfl, rfl, trivial⟩ ?_
  refine X.next ?_
  refine C.seq ?_
  refine C.seq ?_
  refine C.region ?_
  refine R.ev rfl (E.move rfl) ?_
  refine R.ev rfl (E.lenSl rfl Try.underlying39) ?_
  refine R.ev rfl (E.move rfl) ?_
  refine R.ev rfl (E.lenSl rfl Try.underlying39) ?_
  refine R.ev rfl (E.neq rfl rfl) ?_
  refine R.done ?_
  refine X.keep [(0, _), (1, _), (10, _)] ⟨rfl, rfl, rfl, trivial⟩ ?_
  refine X.next ?_
  refine C.cdec rfl (fun h10 => ?_) (fun h10 => ?_)
  refine C.seq ?_
  refine C.region ?_
  refine R.ev rfl (E.assign rfl) ?_
  refine R.done ?_
  refine X.keep [(4, _)] ⟨rfl, trivial⟩ ?_
  refine X.next ?_
  refine C.ret ?_
  refine X.thenRet ?_
  refine X.ret1 rfl rfl ?_
  exact ⟨by rw [decide_eq_false]; intro e; rw [e] at hln; omega, hs⟩
  refine C.skip ?_
  refine X.next ?_
  refine C.seq ?_
  refine C.seq ?_
  refine C.region ?_
  refine R.ev rfl (E.move rfl) ?_
  refine R.ev rfl (E.lenSl rfl Try.underlying39) ?_
  refine R.ev rfl (E.move rfl) ?_
  refine R.done ?_
  refine X.keep [(0, _), (1, _), (12, _), (13, _)] ⟨rfl, rfl, rfl, rfl, trivial⟩ ?_
  refine X.next ?_
  refine C.block ?_
  refine C.loop  [(0, _), (1, _), (12, _)] (fun k => [(13, .int .i64 (k : Nat))]) (fun k w' => k ≤ n ∧ Sat K w' Hs ∧ L.take k = M.take k) (fun k => n - k) (0) ⟨rfl, rfl, rfl, rfl, trivial⟩ ⟨Nat.zero_le _, hs, rfl⟩ ?_
  rintro k w1 ⟨hk, hs, htk⟩
  refine C.keep [(0, _), (1, _), (12, _), (13, _)] ⟨rfl, rfl, rfl, rfl, trivial⟩ ?_
  refine C.seq ?_
  refine C.region ?_
  refine R.ev rfl (E.lss rfl rfl) ?_
  refine R.done ?_
  refine X.keep [(0, _), (1, _), (12, _), (13, _), (14, _)] ⟨rfl, rfl, rfl, rfl, rfl, trivial⟩ ?_
  refine X.next ?_
  refine C.seq ?_
  refine C.cdec rfl (fun h14 => ?_) (fun h14 => ?_)
  obtain ⟨y, bk_y, of_y, hy, my, ly, rfl, Ay⟩ := hs.el (i := k) (ad := ad) (n := n) (c := c) (by omega)
  have ay := Ay _ hs
  obtain ⟨z, bk_z, of_z, hz, mz, lz, rfl, Az⟩ := hs.el (i := k) (ad := ad') (n := n') (c := c') (by omega)
  have az := Az _ hs
  refine C.skip ?_
  refine X.next ?_
  refine C.seq ?_
  refine C.block ?_
  refine C.seq ?_
  refine C.region ?_
  refine R.ev rfl (E.move rfl) ?_
  refine R.ev rfl (E.assign rfl) ?_
  refine R.done ?_
  refine X.keep [(0, _), (1, _), (5, _), (12, _), (13, _)] ⟨rfl, rfl, rfl, rfl, rfl, trivial⟩ ?_
  refine X.next ?_
  refine C.seq ?_
  refine C.drawn (SatS hs) ([3, 7], [0, 1, 2, 4, 5, 6, 8]) (by kernel_rfl) ?_
  have hs := hs.drew
  refine D.evP 0 rfl (by kernel_rfl) rfl (fun _ => hs.to) (fun _ => E.move rfl) ?_
  refine D.evP 1 rfl (by kernel_rfl) rfl (fun _ => hs.to) (fun _ => E.move rfl) ?_
  refine D.evP 2 rfl (by kernel_rfl) rfl (fun _ => hs.to) (fun _ => E.indexAddr rfl rfl Try.underlying39 Try.sz9 rfl (by omega)) ?_
  refine D.evP 4 rfl (by kernel_rfl) rfl (fun _ => hs.to) (fun _ => E.move rfl) ?_
  refine D.evP 5 rfl (by kernel_rfl) rfl (fun _ => hs.to) (fun _ => E.move rfl) ?_
  refine D.evP 6 rfl (by kernel_rfl) rfl (fun _ => hs.to) (fun _ => E.indexAddr rfl rfl Try.underlying39 Try.sz9 rfl (by omega)) ?_
  refine D.ev 3 rfl (by kernel_rfl) rfl hs.to (fun _ hS => E.load1 rfl Try.underlying9 rfl (Ay _ hS 0 _ rfl)) ?_
  refine D.ev 7 rfl (by kernel_rfl) rfl hs.to (fun _ hS => E.load1 rfl Try.underlying9 rfl (Az _ hS 0 _ rfl)) ?_
  refine D.evP 8 rfl (by kernel_rfl) rfl (fun _ => hs.to) (fun _ => E.sneq rfl rfl) ?_
  refine D.done rfl (by kernel_rfl) ?_
  refine X.keep [(0, _), (1, _), (12, _), (13, _), (24, _)] ⟨rfl, rfl, rfl, rfl, rfl, trivial⟩ ?_
  refine X.next ?_
  refine C.cbool rfl (fun h24 => ?_) (fun h24 => ?_)
  refine C.seq ?_
  refine C.region ?_
  refine R.ev rfl (E.assign rfl) ?_
  refine R.done ?_
  refine X.keep [(4, _)] ⟨rfl, trivial⟩ ?_
  refine X.next ?_
  refine C.ret ?_
  refine X.blockRet ?_
  refine X.thenRet ?_
  refine X.loopRet ?_
  refine X.blockRet ?_
  refine X.thenRet ?_
  refine X.ret1 rfl rfl ?_
  exact ⟨by rw [decide_eq_false]; intro e; rw [e, hz] at hy; simp at hy; exact (of_decide_eq_true h24) hy.symm, hs⟩
  refine C.skip ?_
  refine X.blockNormal ?_
  refine X.next ?_
  refine C.region ?_
  refine R.ev rfl (E.add rfl rfl (by omega) (by omega)) ?_
  refine R.ev rfl (E.move rfl) ?_
  refine R.done ?_
  refine X.keep [(0, _), (1, _), (12, _), (13, _)] ⟨rfl, rfl, rfl, rfl, trivial⟩ ?_
  exact X.again (k + 1) ⟨rfl, rfl, rfl, rfl, trivial⟩ ⟨by omega, hs, by rw [take_snoc hy, take_snoc hz, htk, Decidable.not_not.1 (of_decide_eq_false h24)]⟩ (by omega)
  refine C.exit ?_
  refine X.thenExit ?_
  refine X.loopExit ?_
  refine X.blockExit ?_
  refine X.next ?_
  refine C.seq ?_
  refine C.region ?_
  refine R.ev rfl (E.assign rfl) ?_
  refine R.done ?_
  refine X.keep [(4, _)] ⟨rfl, trivial⟩ ?_
  refine X.next ?_
  refine C.ret ?_
  refine X.ret1 rfl rfl ?_
  exact ⟨by rw [decide_eq_true]; rw [← List.take_length (l := L), ← List.take_length (l := M), hln.1, hln'.1, show n' = n by omega]; rwa [show k = n by omega] at htk, hs⟩
theorem rr_eq {x y : RR} : (x = y) ↔ x.id = y.id ∧ x.au = y.au ∧ x.date = y.date ∧ x.sup = y.sup ∧ grp x.g = grp y.g := by
  cases x; cases y
  simp only [RR.mk.injEq]
  constructor
  · rintro ⟨h1, h2, h3, h4, h5⟩; exact ⟨h1, h2, h3, h4, by rw [h5]⟩
  · rintro ⟨h1, h2, h3, h4, h5⟩; exact ⟨h1, h2, h3, h4, grp_inj h5⟩
theorem eqRows_any {x y : RA} (hx : GOk K x) (hy : GOk K y) (hs : Sat K w Hs) : Ret Try.prog 57 #[evA x, evA y] w fun r w' => r = .bool (decide (x.x = y.x)) ∧ Sat K w' Hs := by
  have k1 : KRow encS 1 K x.gv (grp x.x.g) := hx
  have k2 : KRow encS 1 K y.gv (grp y.x.g) := hy
  have p1 := k1.parts
  have g1 := grp_len x.x.g
  have k0 : KRow (encV (m := 32)) 32 K (.slice none 0 0) [] := KRow.nil
  refine Ret.enter (n := 45) (args := [evA x, evA y]) Try.func57 rfl rfl ?_
  refine C.keep [(0, _), (1, _)] ⟨rfl, rfl, trivial⟩ ?_
  refine C.seq ?_
  refine C.region ?_
  refine R.sboxA hs rfl rfl ?_
  intro b2 w2 hs
  refine R.sboxA hs rfl rfl ?_
  intro b3 w3 hs
  refine R.ev rfl (E.assign rfl) ?_
  refine R.done ?_
  refine X.keep [(2, _), (3, _)] ⟨rfl, rfl, trivial⟩ ?_
  refine X.next ?_
  refine C.seq ?_
  refine C.region ?_
  refine R.ev rfl (E.fieldAddr0 0 rfl Try.underlying42 rfl Try.sz37 rfl) ?_
  refine R.ev rfl (E.loadRowC rfl Try.underlying37 rfl Try.sz37 (by exact ⟨hs.ldP rfl, by exact encV_len _⟩)) ?_
  refine R.ev rfl (E.fieldAddr0 0 rfl Try.underlying42 rfl Try.sz37 rfl) ?_
  refine R.ev rfl (E.loadRowC rfl Try.underlying37 rfl Try.sz37 (by exact ⟨hs.ldP rfl, by exact encV_len _⟩)) ?_
  refine R.ev rfl (E.eqV 10 rfl rfl Try.lv37 rfl Try.underlying37 rfl Try.gd37) ?_
  refine R.ev rfl (E.move rfl) ?_
  refine R.split 10 rfl (fun h10 => ?_) (fun h10 => ?_)
  refine R.gyes rfl rfl ?_
  refine R.ev rfl (E.fieldAddr0 32 rfl Try.underlying42 rfl Try.sz38 rfl) ?_
  refine R.gyes rfl rfl ?_
  refine R.ev rfl (E.loadRowC rfl Try.underlying38 rfl Try.sz38 (by exact hs.ldp)) ?_
  refine R.gyes rfl rfl ?_
  refine R.ev rfl (E.fieldAddr0 32 rfl Try.underlying42 rfl Try.sz38 rfl) ?_
  refine R.gyes rfl rfl ?_
  refine R.ev rfl (E.loadRowC rfl Try.underlying38 rfl Try.sz38 (by exact hs.ldp)) ?_
  refine R.gyes rfl rfl ?_
  refine R.ev rfl (E.eqV 10 rfl rfl Try.lv38 rfl Try.underlying38 rfl Try.gd38) ?_
  refine R.ev rfl (E.pickT rfl rfl) ?_
  refine R.ev rfl (E.move rfl) ?_
  refine R.split 17 rfl (fun h17 => ?_) (fun h17 => ?_)
  refine R.gyes rfl rfl ?_
  refine R.ev rfl (E.fieldAddr0 48 rfl Try.underlying42 rfl Try.sz3 rfl) ?_
  refine R.gyes rfl rfl ?_
  refine R.ev rfl (E.load1 rfl Try.underlying3 rfl (by exact hs.ldc)) ?_
  refine R.gyes rfl rfl ?_
  refine R.ev rfl (E.fieldAddr0 48 rfl Try.underlying42 rfl Try.sz3 rfl) ?_
  refine R.gyes rfl rfl ?_
  refine R.ev rfl (E.load1 rfl Try.underlying3 rfl (by exact hs.ldc)) ?_
  refine R.gyes rfl rfl ?_
  refine R.ev rfl (E.eql rfl rfl) ?_
  refine R.ev rfl (E.pickT rfl rfl) ?_
  refine R.ev rfl (E.move rfl) ?_
  refine R.split 24 rfl (fun h24 => ?_) (fun h24 => ?_)
  refine R.gyes rfl rfl ?_
  refine R.ev rfl (E.fieldAddr0 51 rfl Try.underlying42 rfl Try.sz37 rfl) ?_
  refine R.gyes rfl rfl ?_
  refine R.ev rfl (E.loadRowC rfl Try.underlying37 rfl Try.sz37 (by exact hs.ldp)) ?_
  refine R.gyes rfl rfl ?_
  refine R.ev rfl (E.fieldAddr0 51 rfl Try.underlying42 rfl Try.sz37 rfl) ?_
  refine R.gyes rfl rfl ?_
  refine R.ev rfl (E.loadRowC rfl Try.underlying37 rfl Try.sz37 (by exact hs.ldp)) ?_
  refine R.gyes rfl rfl ?_
  refine R.ev rfl (E.eqV 10 rfl rfl Try.lv37 rfl Try.underlying37 rfl Try.gd37) ?_
  refine R.ev rfl (E.pickT rfl rfl) ?_
  refine R.ev rfl (E.move rfl) ?_
  refine R.split 31 rfl (fun h31 => ?_) (fun h31 => ?_)
  refine R.gyes rfl rfl ?_
  refine R.ev rfl (E.fieldAddr0 49 rfl Try.underlying42 rfl Try.sz39 rfl) ?_
  refine R.gyes rfl rfl ?_
  refine R.ev rfl (E.load1 rfl Try.underlying39 rfl (by exact hs.ldc)) ?_
  refine R.gyes rfl rfl ?_
  refine R.ev rfl (E.fieldAddr0 49 rfl Try.underlying42 rfl Try.sz39 rfl) ?_
  refine R.gyes rfl rfl ?_
  refine R.ev rfl (E.load1 rfl Try.underlying39 rfl (by exact hs.ldc)) ?_
  refine R.gyes rfl rfl ?_
  refine R.call ⟨_, _, Try.func73, rfl, by kernel_rfl⟩ rfl rfl (eqStr_any (L := grp x.x.g) (M := grp y.x.g) hs (by omega)) ?_
  rintro _ w31 ⟨rfl, hs⟩
  refine R.ev rfl (E.pickT rfl rfl) ?_
  refine R.ev rfl (E.move rfl) ?_
  refine R.split 38 rfl (fun h38 => ?_) (fun h38 => ?_)
  refine R.gyes rfl rfl ?_
  refine R.ev rfl (E.fieldAddr0 50 rfl Try.underlying42 rfl Try.sz40 rfl) ?_
  refine R.gyes rfl rfl ?_
  refine R.ev rfl (E.load1 rfl Try.underlying40 rfl (by exact hs.ldc)) ?_
  refine R.gyes rfl rfl ?_
  refine R.ev rfl (E.fieldAddr0 50 rfl Try.underlying42 rfl Try.sz40 rfl) ?_
  refine R.gyes rfl rfl ?_
  refine R.ev rfl (E.load1 rfl Try.underlying40 rfl (by exact hs.ldc)) ?_
  refine R.gyes rfl rfl ?_
  refine R.call ⟨_, _, Try.func74, rfl, by kernel_rfl⟩ rfl rfl (eqIds_any (L := []) (M := []) hs (by omega)) ?_
  rintro _ w38 ⟨rfl, hs⟩
  refine R.ev rfl (E.pickT rfl rfl) ?_
  refine R.ev rfl (E.assign rfl) ?_
  refine R.done ?_
  refine X.keep [(4, _)] ⟨rfl, trivial⟩ ?_
  refine X.next ?_
  refine C.ret ?_
  refine X.ret1 rfl rfl ?_
  exact ⟨by simp only [rr_eq]; clear hx hy; simp_all, hs.to⟩
  refine R.gskip rfl rfl rfl ?_
  refine R.gskip rfl rfl rfl ?_
  refine R.gskip rfl rfl rfl ?_
  refine R.gskip rfl rfl rfl ?_
  refine R.gskip rfl rfl rfl ?_
  refine R.ev rfl (E.pickF rfl rfl) ?_
  refine R.ev rfl (E.assign rfl) ?_
  refine R.done ?_
  refine X.keep [(4, _)] ⟨rfl, trivial⟩ ?_
  refine X.next ?_
  refine C.ret ?_
  refine X.ret1 rfl rfl ?_
  exact ⟨by simp only [rr_eq]; clear hx hy; simp_all, hs.to⟩
  refine R.gskip rfl rfl rfl ?_
  refine R.gskip rfl rfl rfl ?_
  refine R.gskip rfl rfl rfl ?_
  refine R.gskip rfl rfl rfl ?_
  refine R.gskip rfl rfl rfl ?_
  refine R.ev rfl (E.pickF rfl rfl) ?_
  refine R.ev rfl (E.move rfl) ?_
  refine R.gskip rfl rfl rfl ?_
  refine R.gskip rfl rfl rfl ?_
  refine R.gskip rfl rfl rfl ?_
  refine R.gskip rfl rfl rfl ?_
  refine R.gskip rfl rfl rfl ?_
  refine R.ev rfl (E.pickF rfl rfl) ?_
  refine R.ev rfl (E.assign rfl) ?_
  refine R.done ?_
  refine X.keep [(4, _)] ⟨rfl, trivial⟩ ?_
  refine X.next ?_
  refine C.ret ?_
  refine X.ret1 rfl rfl ?_
  exact ⟨by simp only [rr_eq]; clear hx hy; simp_all, hs.to⟩
  refine R.gskip rfl rfl rfl ?_
  refine R.gskip rfl rfl rfl ?_
  refine R.gskip rfl rfl rfl ?_
  refine R.gskip rfl rfl rfl ?_
  refine R.gskip rfl rfl rfl ?_
  refine R.ev rfl (E.pickF rfl rfl) ?_
  refine R.ev rfl (E.move rfl) ?_
  refine R.gskip rfl rfl rfl ?_
  refine R.gskip rfl rfl rfl ?_
  refine R.gskip rfl rfl rfl ?_
  refine R.gskip rfl rfl rfl ?_
  refine R.gskip rfl rfl rfl ?_
  refine R.ev rfl (E.pickF rfl rfl) ?_
  refine R.ev rfl (E.move rfl) ?_
  refine R.gskip rfl rfl rfl ?_
  refine R.gskip rfl rfl rfl ?_
  refine R.gskip rfl rfl rfl ?_
  refine R.gskip rfl rfl rfl ?_
  refine R.gskip rfl rfl rfl ?_
  refine R.ev rfl (E.pickF rfl rfl) ?_
  refine R.ev rfl (E.assign rfl) ?_
  refine R.done ?_
  refine X.keep [(4, _)] ⟨rfl, trivial⟩ ?_
  refine X.next ?_
  refine C.ret ?_
  refine X.ret1 rfl rfl ?_
  exact ⟨by simp only [rr_eq]; clear hx hy; simp_all, hs.to⟩
  refine R.gskip rfl rfl rfl ?_
  refine R.gskip rfl rfl rfl ?_
  refine R.gskip rfl rfl rfl ?_
  refine R.gskip rfl rfl rfl ?_
  refine R.gskip rfl rfl rfl ?_
  refine R.ev rfl (E.pickF rfl rfl) ?_
  refine R.ev rfl (E.move rfl) ?_
  refine R.gskip rfl rfl rfl ?_
  refine R.gskip rfl rfl rfl ?_
  refine R.gskip rfl rfl rfl ?_
  refine R.gskip rfl rfl rfl ?_
  refine R.gskip rfl rfl rfl ?_
  refine R.ev rfl (E.pickF rfl rfl) ?_
  refine R.ev rfl (E.move rfl) ?_
  refine R.gskip rfl rfl rfl ?_
  refine R.gskip rfl rfl rfl ?_
  refine R.gskip rfl rfl rfl ?_
  refine R.gskip rfl rfl rfl ?_
  refine R.gskip rfl rfl rfl ?_
  refine R.ev rfl (E.pickF rfl rfl) ?_
  refine R.ev rfl (E.move rfl) ?_
  refine R.gskip rfl rfl rfl ?_
  refine R.gskip rfl rfl rfl ?_
  refine R.gskip rfl rfl rfl ?_
  refine R.gskip rfl rfl rfl ?_
  refine R.gskip rfl rfl rfl ?_
  refine R.ev rfl (E.pickF rfl rfl) ?_
  refine R.ev rfl (E.assign rfl) ?_
  refine R.done ?_
  refine X.keep [(4, _)] ⟨rfl, trivial⟩ ?_
  refine X.next ?_
  refine C.ret ?_
  refine X.ret1 rfl rfl ?_
  exact ⟨by simp only [rr_eq]; clear hx hy; simp_all, hs.to⟩
  refine R.gskip rfl rfl rfl ?_
  refine R.gskip rfl rfl rfl ?_
  refine R.gskip rfl rfl rfl ?_
  refine R.gskip rfl rfl rfl ?_
  refine R.gskip rfl rfl rfl ?_
  refine R.ev rfl (E.pickF rfl rfl) ?_
  refine R.ev rfl (E.move rfl) ?_
  refine R.gskip rfl rfl rfl ?_
  refine R.gskip rfl rfl rfl ?_
  refine R.gskip rfl rfl rfl ?_
  refine R.gskip rfl rfl rfl ?_
  refine R.gskip rfl rfl rfl ?_
  refine R.ev rfl (E.pickF rfl rfl) ?_
  refine R.ev rfl (E.move rfl) ?_
  refine R.gskip rfl rfl rfl ?_
  refine R.gskip rfl rfl rfl ?_
  refine R.gskip rfl rfl rfl ?_
  refine R.gskip rfl rfl rfl ?_
  refine R.gskip rfl rfl rfl ?_
  refine R.ev rfl (E.pickF rfl rfl) ?_
  refine R.ev rfl (E.move rfl) ?_
  refine R.gskip rfl rfl rfl ?_
  refine R.gskip rfl rfl rfl ?_
  refine R.gskip rfl rfl rfl ?_
  refine R.gskip rfl rfl rfl ?_
  refine R.gskip rfl rfl rfl ?_
  refine R.ev rfl (E.pickF rfl rfl) ?_
  refine R.ev rfl (E.move rfl) ?_
  refine R.gskip rfl rfl rfl ?_
  refine R.gskip rfl rfl rfl ?_
  refine R.gskip rfl rfl rfl ?_
  refine R.gskip rfl rfl rfl ?_
  refine R.gskip rfl rfl rfl ?_
  refine R.ev rfl (E.pickF rfl rfl) ?_
  refine R.ev rfl (E.assign rfl) ?_
  refine R.done ?_
  refine X.keep [(4, _)] ⟨rfl, trivial⟩ ?_
  refine X.next ?_
  refine C.ret ?_
  refine X.ret1 rfl rfl ?_
  exact ⟨by simp only [rr_eq]; clear hx hy; simp_all, hs.to⟩
def eqM (M1 M2 : SMap) : Bool := decide (M1.length = M2.length) && M1.all (fun q => decide ((lkM M2 q.1).map RA.x = some q.2.x))
theorem eqM_no {M1 M2 : SMap} {q : Vec 32 × RA} (hm : q ∈ M1) (h : (lkM M2 q.1).map RA.x ≠ some q.2.x) : eqM M1 M2 = false := by
  unfold eqM
  have : M1.all (fun q => decide ((lkM M2 q.1).map RA.x = some q.2.x)) = false := by
    rw [List.all_eq_false]; exact ⟨q, hm, by simpa using h⟩
  rw [this, Bool.and_false]
theorem copy_step {κ ν : Type} {M Md Lr L8 : List (κ × ν)} {q : κ × ν} (h : (Md ++ Lr).Perm M) (hp : Lr.Perm (q :: L8)) : (Md ++ [q] ++ L8).Perm M := by
  have h2 : (Md ++ (q :: L8)).Perm M := (List.Perm.append_left Md hp.symm).trans h
  simpa using h2
theorem GAll.lk {M : SMap} (h : GAll K M) {a : Vec 32} {y : RA} (e : lkM M a = some y) : GOk K y := h _ (lkM_mem e)
theorem equalF_any {m2 : Value} {b : Nat} {M1 M2 : SMap} {es : Array MapEntry} {clock : Nat} (g1 : GAll K M1) (g2 : GAll K M2) (hs : Sat K w Hs) (hr : MapRep ekI evA M1 es clock) [hb : InH b (.map es clock) Hs] [h1 : MapIn ekI evA (.map (some b)) M1 Hs] [h2 : MapIn ekI evA m2 M2 Hs] :
    Ret Try.prog 56 #[.map (some b), m2, .func (.func 57) #[] #[]] w fun r w' => r = .bool (eqM M1 M2) ∧ Sat K w' Hs := by
  refine Ret.enter (n := 38) (args := [.map (some b), m2, .func (.func 57) #[] #[]]) Try.func56 rfl rfl ?_
  refine C.keep [(0, _), (1, _), (2, _)] ⟨rfl, rfl, rfl, trivial⟩ ?_
  refine C.seq ?_
  refine C.region ?_
  refine R.ev rfl (E.assign rfl) ?_
  refine R.done ?_
  refine X.keep [(0, _), (1, _), (2, _)] ⟨rfl, rfl, rfl, trivial⟩ ?_
  refine X.next ?_
  refine C.seq ?_
  refine C.seq ?_
  refine C.region ?_
  refine R.ev rfl (E.move rfl) ?_
  refine R.ev rfl (E.lenM hs rfl Try.underlying82) ?_
  refine R.ev rfl (E.move rfl) ?_
  refine R.ev rfl (E.lenM hs rfl Try.underlying82) ?_
  refine R.ev rfl (E.neq rfl rfl) ?_
  refine R.done ?_
  refine X.keep [(0, _), (1, _), (2, _), (15, _)] ⟨rfl, rfl, rfl, rfl, trivial⟩ ?_
  refine X.next ?_
  refine C.cdec rfl (fun h15 => ?_) (fun h15 => ?_)
  refine C.seq ?_
  refine C.region ?_
  refine R.ev rfl (E.assign rfl) ?_
  refine R.done ?_
  refine X.keep [(6, _)] ⟨rfl, trivial⟩ ?_
  refine X.next ?_
  refine C.ret ?_
  refine X.thenRet ?_
  refine X.ret1 rfl rfl ?_
  exact ⟨by rw [eqM, decide_eq_false (by omega), Bool.false_and], hs.to⟩
  refine C.skip ?_
  refine X.next ?_
  refine C.seq ?_
  refine C.seq ?_
  refine C.region ?_
  refine R.ev rfl (E.move rfl) ?_
  refine R.crange hs rfl Try.underlying82 (hr) rfl ?_
  intro r17 w17 F17 it17 hs
  refine R.done ?_
  refine X.keep [(1, _), (2, _), (17, _)] ⟨rfl, rfl, rfl, trivial⟩ ?_
  refine X.next ?_
  refine C.block ?_
  refine C.loop (T := SMap × SMap × Hl) [(1, _), (2, _), (17, _)] (fun _ => []) (fun (Lr, Ls, Fi) w' => ItP ekI evA r17 b es clock Lr Fi ∧ (Ls ++ Lr).Perm M1 ∧ (∀ q ∈ Ls, (lkM M2 q.1).map RA.x = some q.2.x) ∧ Sat K w' (Fi :: Hs)) (fun (Lr, _) => Lr.length) ((M1, [], F17)) ⟨rfl, rfl, rfl, trivial⟩ ⟨it17, by simp, by simp, hs⟩ ?_
  rintro ⟨Lr, Ls, Fi⟩ w1 ⟨hit, hpm, hok, hs⟩
  refine C.keep [(1, _), (2, _), (17, _)] ⟨rfl, rfl, rfl, trivial⟩ ?_
  refine C.seq ?_
  refine C.region ?_
  refine R.cnext hs rfl (hr) (hit) rfl ?_ ?_
  intro hover
  refine R.ev rfl (E.extract rfl rfl) ?_
  refine R.done ?_
  refine X.keep [(1, _), (2, _), (17, _), (19, _)] ⟨rfl, rfl, rfl, rfl, trivial⟩ ?_
  refine X.next ?_
  refine C.seq ?_
  refine C.cfalse rfl ?_
  refine C.exit ?_
  refine X.thenExit ?_
  refine X.loopExit ?_
  refine X.blockExit ?_
  refine X.next ?_
  refine C.seq ?_
  refine C.region ?_
  refine R.ev rfl (E.assign rfl) ?_
  refine R.done ?_
  refine X.keep [(6, _)] ⟨rfl, trivial⟩ ?_
  refine X.next ?_
  refine C.ret ?_
  refine X.ret1 rfl rfl ?_
  rw [hover, List.append_nil] at hpm
  have h15' : M1.length = M2.length := by omega
  exact ⟨by rw [eqM, decide_eq_true h15', Bool.true_and, List.all_eq_true.2 (fun q hq => decide_eq_true (hok q (hpm.symm.subset hq)))], hs.to⟩
  intro p18 L18 w18 F18 pm18 mm18 it18 hs hent
  have mM : p18 ∈ M1 := hpm.subset (List.mem_append_right _ mm18)
  refine R.ev rfl (E.extract rfl rfl) ?_
  refine R.done ?_
  refine X.keep [(1, _), (2, _), (17, _), (19, _)] ⟨rfl, rfl, rfl, rfl, trivial⟩ ?_
  refine X.next ?_
  refine C.seq ?_
  refine C.ctrue rfl ?_
  refine C.skip ?_
  refine X.next ?_
  refine C.block ?_
  refine C.seq ?_
  refine C.region ?_
  refine R.ev rfl (E.entryC rfl (hent _ hs)) ?_
  refine R.ev rfl (E.extract rfl rfl) ?_
  refine R.ev rfl (E.extract rfl rfl) ?_
  refine R.sallocA hs Try.zr37 rfl ?_
  intro b7 w7 hs
  refine R.sallocA hs Try.zr42 rfl ?_
  intro b8 w8 hs
  refine R.cstoreAll hs rfl rfl Try.sz37 (by rfl) (by exact encV_len _) (by exact OneL.all) ?_
  intro w5_5 hs
  try simp only [List.set_cons_zero, List.set_cons_succ] at hs
  refine R.cstoreAll hs rfl rfl Try.sz42 (by rfl) (by exact Enc.len _) (by exact Enc.one _) ?_
  intro w5_6 hs
  try simp only [List.set_cons_zero, List.set_cons_succ] at hs
  refine R.done ?_
  refine X.keep [(1, _), (2, _), (7, _), (8, _), (17, _)] ⟨rfl, rfl, rfl, rfl, rfl, trivial⟩ ?_
  refine X.next ?_
  refine C.seq ?_
  refine C.region ?_
  refine R.ev rfl (E.move rfl) ?_
  refine R.ev rfl (E.loadRowC rfl Try.underlying37 rfl Try.sz37 (by exact ⟨hs.ldA, by exact encV_len _⟩)) ?_
  refine R.ev rfl ((E.lookupDok hs rfl rfl Try.underlying82 p18.1 (by rfl))) ?_
  refine R.ev rfl (E.move rfl) ?_
  refine R.ev rfl (E.extract rfl rfl) ?_
  refine R.ev rfl (E.extract rfl rfl) ?_
  refine R.sallocA hs Try.zr42 rfl ?_
  intro b9 w9 hs
  refine R.cstoreAll hs rfl rfl Try.sz42 (by rfl) (by exact Enc.len _) (by exact Enc.one _) ?_
  intro w6_7 hs
  try simp only [List.set_cons_zero, List.set_cons_succ] at hs
  refine R.ev rfl (E.assign rfl) ?_
  refine R.done ?_
  refine X.keep [(1, _), (2, _), (8, _), (9, _), (10, _), (17, _)] ⟨rfl, rfl, rfl, rfl, rfl, rfl, trivial⟩ ?_
  refine X.next ?_
  refine C.seq ?_
  refine C.region ?_
  refine R.ev rfl (E.move rfl) ?_
  refine R.ev rfl ((E.not rfl).isB (c := !(lkM M2 p18.1).isSome) rfl) ?_
  refine R.ev rfl (E.move rfl) ?_
  refine R.split 31 rfl (fun h31 => ?_) (fun h31 => ?_)
  refine R.gskip rfl rfl rfl ?_
  refine R.gskip rfl rfl rfl ?_
  refine R.gskip rfl rfl rfl ?_
  refine R.gskip rfl rfl rfl ?_
  refine R.gskip rfl rfl rfl ?_
  refine R.ev rfl (E.pickT rfl rfl) ?_
  refine R.done ?_
  refine X.keep [(1, _), (2, _), (17, _), (37, _)] ⟨rfl, rfl, rfl, rfl, trivial⟩ ?_
  refine X.next ?_
  refine C.ctrue rfl ?_
  refine C.seq ?_
  refine C.region ?_
  refine R.ev rfl (E.assign rfl) ?_
  refine R.done ?_
  refine X.keep [(6, _)] ⟨rfl, trivial⟩ ?_
  refine X.next ?_
  refine C.ret ?_
  refine X.blockRet ?_
  refine X.loopRet ?_
  refine X.blockRet ?_
  refine X.thenRet ?_
  refine X.ret1 rfl rfl ?_
  exact ⟨by rw [eqM_no (q := p18) mM (by intro e; simp_all)], hs.to⟩
  refine R.gyes rfl rfl ?_
  obtain ⟨y, hy⟩ : ∃ y, lkM M2 p18.1 = some y := Option.isSome_iff_exists.1 (by simpa using h31)
  refine R.ev rfl (E.move rfl) ?_
  refine R.gyes rfl rfl ?_
  refine R.ev rfl (E.loadRowC rfl Try.underlying42 rfl Try.sz42 (by exact ⟨hs.ldA, by exact Enc.len _⟩)) ?_
  refine R.gyes rfl rfl ?_
  refine R.ev rfl (E.loadRowC rfl Try.underlying42 rfl Try.sz42 (by exact ⟨hs.ldA, by exact Enc.len _⟩)) ?_
  refine R.gyes rfl rfl ?_
  refine R.callV ⟨_, _, Try.func57, rfl, by kernel_rfl⟩ rfl rfl rfl (eqRows_any (x := p18.2) (y := (lkM M2 p18.1).getD az) (g1 _ mM) (by rw [hy]; exact g2.lk hy) hs) ?_
  rintro _ w7 ⟨rfl, hs⟩
  refine R.gyes rfl rfl ?_
  refine R.ev rfl ((E.not rfl).isB (c := !(decide (p18.2.x = ((lkM M2 p18.1).getD az).x))) rfl) ?_
  refine R.ev rfl (E.pickF rfl rfl) ?_
  refine R.done ?_
  refine X.keep [(1, _), (2, _), (17, _), (37, _)] ⟨rfl, rfl, rfl, rfl, trivial⟩ ?_
  refine X.next ?_
  refine C.cbool rfl (fun h37 => ?_) (fun h37 => ?_)
  refine C.seq ?_
  refine C.region ?_
  refine R.ev rfl (E.assign rfl) ?_
  refine R.done ?_
  refine X.keep [(6, _)] ⟨rfl, trivial⟩ ?_
  refine X.next ?_
  refine C.ret ?_
  refine X.blockRet ?_
  refine X.loopRet ?_
  refine X.blockRet ?_
  refine X.thenRet ?_
  refine X.ret1 rfl rfl ?_
  exact ⟨by rw [eqM_no (q := p18) mM (by intro e; simp_all)], hs.to⟩
  refine C.skip ?_
  refine X.blockNormal ?_
  have hl : (lkM M2 p18.1).map RA.x = some p18.2.x := by
    rw [hy] at h37 ⊢
    simp at h37; simp [h37]
  have hok2 : ∀ q ∈ Ls ++ [p18], (lkM M2 q.1).map RA.x = some q.2.x := by
    intro q hq
    rcases List.mem_append.1 hq with hq | hq
    · exact hok q hq
    · simp at hq; subst hq; exact hl
  exact X.again (L18, Ls ++ [p18], F18) ⟨rfl, rfl, rfl, trivial⟩ ⟨it18, copy_step hpm pm18, hok2, hs.to⟩ (by show L18.length < Lr.length; rw [pm18.length_eq]; simp)
def eqL (L1 L2 : List RR) : Bool := decide (L1.length = L2.length) && L1.all (fun x => decide (x ∈ L2))
theorem SInv.lk_iff {M : SMap} (h : SInv M L) {x : RR} : (lkM M x.id).map RA.x = some x ↔ x ∈ L := by
  constructor
  · intro e
    obtain ⟨y, hy, hyx⟩ := Option.map_eq_some_iff.1 e
    rw [← hyx]; exact (h.lkSome hy).2
  · intro hx
    obtain ⟨y, hy, hyx⟩ := h.lk hx
    rw [hy, Option.map_some, hyx]
theorem SInv.eqM {M1 M2 : SMap} {L1 L2 : List RR} (h1 : SInv M1 L1) (h2 : SInv M2 L2) : Proofs.Ytmjmichghfepkaa.eqM M1 M2 = eqL L1 L2 := by
  unfold Proofs.Ytmjmichghfepkaa.eqM eqL
  rw [h1.len, h2.len]
  congr 1
  rw [Bool.eq_iff_iff, List.all_eq_true, List.all_eq_true]
  constructor
  · intro h x hx
    obtain ⟨y, hyx, hm⟩ := h1.mem hx
    have := of_decide_eq_true (h _ hm)
    simp only [hyx] at this
    exact decide_eq_true (h2.lk_iff.1 this)
  · intro h q hq
    obtain ⟨e, hm⟩ := h1.key hq
    rw [e]
    exact decide_eq_true (h2.lk_iff.2 (of_decide_eq_true (h _ hm)))
theorem eqL_iff {L1 L2 : List RR} : eqL L1 L2 = true ↔ L1.length = L2.length ∧ ∀ x ∈ L1, x ∈ L2 := by
  simp [eqL]
theorem eqL_flip {L1 L2 : List RR} (n1 : L1.Nodup) (h : eqL L1 L2 = true) : eqL L2 L1 = true := by
  rw [eqL_iff] at *
  refine ⟨h.1.symm, fun x hx => ?_⟩
  by_cases hxL : x ∈ L1
  · exact hxL
  · have h4 : (x :: L1).Nodup := List.nodup_cons.2 ⟨hxL, n1⟩
    have := nodup_len h4 (m := L2) (fun y hy => by
      rcases List.mem_cons.1 hy with rfl | hy
      · exact hx
      · exact h.2 y hy)
    simp at this; omega
theorem eqL_comm {L1 L2 : List RR} (n1 : L1.Nodup) (n2 : L2.Nodup) : eqL L1 L2 = eqL L2 L1 := by
  rw [Bool.eq_iff_iff]; exact ⟨eqL_flip n1, eqL_flip n2⟩
theorem nd_of {L : List RR} (h : (L.map RR.id).Nodup) : L.Nodup := by
  rw [List.Nodup, List.pairwise_map] at h
  exact h.imp fun h e => h (by rw [e])
theorem eqL_perm {L1 L2 : List RR} (h : L1.Perm L2) : eqL L1 L2 = true := eqL_iff.2 ⟨h.length_eq, fun _ hx => h.mem_iff.1 hx⟩
theorem delL_len {a : Vec 32} : ∀ {L : List RR}, hasId a L = true → (delL a L).length + 1 = L.length
  | [], h => by simp [hasId] at h
  | x :: l, h => by
    unfold delL
    split
    · rfl
    · next hne =>
      have hl : hasId a l = true := by
        rw [hasId_iff] at *
        rw [List.map_cons] at h
        rcases List.mem_cons.1 h with h | h
        · exact absurd h.symm hne
        · exact h
      rw [List.length_cons, delL_len hl, List.length_cons]
theorem equal_any {q : Nat} {M2 : SMap} {L2 : List RR} (hI : SInv M L) (hI2 : SInv M2 L2) (hG : GAll K M) (hG2 : GAll K M2) (hs : Sat K w Hs) [hw : SuIn p M Hs] [hw2 : SuIn q M2 Hs] : Ret Try.prog 42 #[ptr p, ptr q] w fun r w' => r = .bool (eqL L L2) ∧ Sat K w' Hs := by
  obtain ⟨m, G, hin, hm, hH⟩ := hw.ex
  obtain ⟨b, es, clock, rfl, rfl, hrep⟩ := hm.ex
  have hib : InH b (.map es clock) Hs := ⟨hH.sub _ (by simp)⟩
  have hmi : MapIn ekI evA (.map (some b)) M Hs := ⟨⟨_, hm, hH⟩⟩
  obtain ⟨m2, G2, hin2, hm2, hH2⟩ := hw2.ex
  have hmi2 : MapIn ekI evA m2 M2 Hs := ⟨⟨_, hm2, hH2⟩⟩
  refine Ret.enter (n := 26) (args := [ptr p, ptr q]) Try.func42 rfl rfl ?_
  refine C.keep [(0, _), (1, _)] ⟨rfl, rfl, trivial⟩ ?_
  refine C.seq ?_
  refine C.region ?_
  refine R.ev rfl (E.assign rfl) ?_
  refine R.done ?_
  refine X.keep [(0, _), (1, _)] ⟨rfl, rfl, trivial⟩ ?_
  refine X.next ?_
  refine C.seq ?_
  refine C.seq ?_
  refine C.region ?_
  refine R.ev rfl (E.move rfl) ?_
  refine R.ev rfl (E.eqlNilF rfl rfl Try.underlying54) ?_
  refine R.ev rfl (E.move rfl) ?_
  refine R.gyes rfl rfl ?_
  refine R.ev rfl (E.move rfl) ?_
  refine R.gyes rfl rfl ?_
  refine R.ev rfl (E.eqlNilF rfl rfl Try.underlying54) ?_
  refine R.ev rfl (E.pickF rfl rfl) ?_
  refine R.done ?_
  refine X.keep [(0, _), (1, _), (10, _)] ⟨rfl, rfl, rfl, trivial⟩ ?_
  refine X.next ?_
  refine C.cfalse rfl ?_
  refine C.skip ?_
  refine X.next ?_
  refine C.seq ?_
  refine C.drawn (SatS hs) ([3, 7], [0, 1, 2, 4, 5, 6, 9]) (by kernel_rfl) ?_
  have hs := hs.drew
  refine D.evP 0 rfl (by kernel_rfl) rfl (fun _ => hs.to) (fun _ => E.move rfl) ?_
  refine D.evP 1 rfl (by kernel_rfl) rfl (fun _ => hs.to) (fun _ => E.nilCheck rfl) ?_
  refine D.evP 2 rfl (by kernel_rfl) rfl (fun _ => hs.to) (fun _ => E.fieldAddr0 0 rfl Try.underlying84 rfl Try.sz82 rfl) ?_
  refine D.evP 4 rfl (by kernel_rfl) rfl (fun _ => hs.to) (fun _ => E.move rfl) ?_
  refine D.evP 5 rfl (by kernel_rfl) rfl (fun _ => hs.to) (fun _ => E.nilCheck rfl) ?_
  refine D.evP 6 rfl (by kernel_rfl) rfl (fun _ => hs.to) (fun _ => E.fieldAddr0 0 rfl Try.underlying84 rfl Try.sz82 rfl) ?_
  refine D.ev 3 rfl (by kernel_rfl) rfl hs.to (fun _ hS => E.load1 rfl Try.underlying82 rfl (by exact hS.ld rfl)) ?_
  refine D.ev 7 rfl (by kernel_rfl) rfl hs.to (fun _ hS => E.load1 rfl Try.underlying82 rfl (by exact hS.ld rfl)) ?_
  refine D.act 8 rfl (by kernel_rfl) ?_
  refine R.call ⟨_, _, Try.func56, rfl, by kernel_rfl⟩ rfl rfl (equalF_any hG hG2 hs hrep) ?_
  rintro _ w51 ⟨rfl, hs⟩
  refine D.backT (by kernel_rfl) ?_
  refine D.evP 9 rfl (by kernel_rfl) rfl (np (by kernel_rfl)) (fun _ => E.assign rfl) ?_
  refine D.done rfl (by kernel_rfl) ?_
  refine X.keep [(4, _)] ⟨rfl, trivial⟩ ?_
  refine X.next ?_
  refine C.ret ?_
  refine X.ret1 rfl rfl ?_
  exact ⟨by rw [hI.eqM hI2], hs.to⟩
end Go.Proofs.Ytmjmichghfepkaa
