/-
  package bulletinref38: Same.
-/
import Derived.Test.YtoidpcmcbmioiaaBklE
namespace Go.Proofs.Ytoidpcmcbmioiaa
open Go.Eng Go.RowKit

variable {K : Kn} {Hs Rs : List Hl} {F : Hl} {w : World} {s s2 : RB} {v v2 : Value}
theorem encRE_fits (o : RE) (_ : (encRE o).length = 35) : fitsAll (List.replicate 32 (lInt .u8) ++ [lInt .i64, lInt .i64, lBool]) (encRE o) = true := fitsAll_mk (fitsN o.id.2) rfl
theorem encRE_eq {o o' : RE} (_ : (encRE o).length = 35) (_ : (encRE o').length = 35) : cellsEq (encRE o) (encRE o') = decide (o = o') := by
  rw [encRE, encRE, cellsEq_app _ _ _ _ (by simp [o.id.2, o'.id.2]), cellsEq_vec, Bool.eq_iff_iff]
  cases o; cases o'; simp [cellsEq, cellEq]
def sameR (s s2 : RB) : Bool := decide (s.cap = s2.cap) && decide (s.wait = s2.wait) && decide (s.inc = s2.inc) && decide (s.L = s2.L)
theorem rsame_any (hs : Sat K w Hs) [hr : KRow encRE 35 K v s.L] [hr2 : KRow encRE 35 K v2 s2.L] (hL : s.L.length ≤ 1000000) : Ret Try.prog 40 #[s.v v, s2.v v2] w fun r w' => r = .bool (sameR s s2) ∧ Sat K w' Hs := by
  obtain ⟨c, wt, inc, L⟩ := s
  obtain ⟨c2, wt2, inc2, M⟩ := s2
  simp only at hr hr2 hL ⊢
  obtain ⟨ad, cap, rfl, _, hc⟩ := hr.ex
  obtain ⟨ad2, cap2, rfl, _, hc2⟩ := hr2.ex
  refine Ret.enter (n := 52) (args := [.agg #[.int .i64 c, .int .i64 wt, .bool inc, .slice ad L.length cap], .agg #[.int .i64 c2, .int .i64 wt2, .bool inc2, .slice ad2 M.length cap2]]) Try.func40 rfl rfl ?_
  refine C.keep [(0, _), (1, _)] ⟨rfl, rfl, trivial⟩ ?_
  refine C.seq ?_
  refine C.region ?_
  refine R.sboxA hs rfl rfl ?_
  intro b2 w2 hs
  refine R.sboxA hs rfl rfl ?_
  intro b3 w3 hs
  refine R.ev rfl (E.assign rfl) ?_
  refine R.done ?_
  refine X.keep [(2, _), (3, _)] ⟨rfl, rfl, trivial⟩ ?_
  refine X.next ?_
  refine C.seq ?_
  refine C.seq ?_
  refine C.region ?_
  first | refine R.ev rfl (E.fieldAddr0 0 rfl Try.underlying52 rfl Try.sz3 rfl) ?_ | refine R.ev rfl (E.fieldAddrN 0 rfl Try.underlying52 rfl Try.sz3 rfl) ?_
  refine R.ev rfl (E.load1 rfl Try.underlying3 rfl (by first | exact hs.ldc | exact hs.ld rfl | exact hs.ld (by assumption) | exact by assumption | exact At.cellC (by assumption))) ?_
  first | refine R.ev rfl (E.fieldAddr0 0 rfl Try.underlying52 rfl Try.sz3 rfl) ?_ | refine R.ev rfl (E.fieldAddrN 0 rfl Try.underlying52 rfl Try.sz3 rfl) ?_
  refine R.ev rfl (E.load1 rfl Try.underlying3 rfl (by first | exact hs.ldc | exact hs.ld rfl | exact hs.ld (by assumption) | exact by assumption | exact At.cellC (by assumption))) ?_
  refine R.ev rfl (E.neq rfl rfl) ?_
  refine R.ev rfl (E.move rfl) ?_
  refine R.split 11 rfl (fun h11 => ?_) (fun h11 => ?_)
  · refine R.gskip rfl rfl rfl ?_
    refine R.gskip rfl rfl rfl ?_
    refine R.gskip rfl rfl rfl ?_
    refine R.gskip rfl rfl rfl ?_
    refine R.gskip rfl rfl rfl ?_
    refine R.ev rfl (E.pickT rfl rfl) ?_
    refine R.ev rfl (E.move rfl) ?_
    refine R.gskip rfl rfl rfl ?_
    refine R.gskip rfl rfl rfl ?_
    refine R.gskip rfl rfl rfl ?_
    refine R.gskip rfl rfl rfl ?_
    refine R.gskip rfl rfl rfl ?_
    refine R.ev rfl (E.pickT rfl rfl) ?_
    refine R.ev rfl (E.move rfl) ?_
    refine R.gskip rfl rfl rfl ?_
    refine R.gskip rfl rfl rfl ?_
    refine R.gskip rfl rfl rfl ?_
    refine R.gskip rfl rfl rfl ?_
    refine R.gskip rfl rfl rfl ?_
    refine R.gskip rfl rfl rfl ?_
    refine R.gskip rfl rfl rfl ?_
    refine R.ev rfl (E.pickT rfl rfl) ?_
    refine R.done ?_
    refine X.keep [(2, _), (3, _), (33, _)] ⟨rfl, rfl, rfl, trivial⟩ ?_
    refine X.next ?_
    refine C.ctrue rfl ?_
    refine C.seq ?_
    refine C.region ?_
    refine R.ev rfl (E.assign rfl) ?_
    refine R.done ?_
    refine X.keep [(4, _)] ⟨rfl, trivial⟩ ?_
    refine X.next ?_
    refine C.ret ?_
    refine X.thenRet ?_
    refine X.ret1 rfl rfl ?_
    exact ⟨by simp_all [sameR]; try (intros; intro e; subst e; simp_all), hs.to⟩
  · refine R.gyes rfl rfl ?_
    first | refine R.ev rfl (E.fieldAddr0 1 rfl Try.underlying52 rfl Try.sz3 rfl) ?_ | refine R.ev rfl (E.fieldAddrN 1 rfl Try.underlying52 rfl Try.sz3 rfl) ?_
    refine R.gyes rfl rfl ?_
    refine R.ev rfl (E.load1 rfl Try.underlying3 rfl (by first | exact hs.ldc | exact hs.ld rfl | exact hs.ld (by assumption) | exact by assumption | exact At.cellC (by assumption))) ?_
    refine R.gyes rfl rfl ?_
    first | refine R.ev rfl (E.fieldAddr0 1 rfl Try.underlying52 rfl Try.sz3 rfl) ?_ | refine R.ev rfl (E.fieldAddrN 1 rfl Try.underlying52 rfl Try.sz3 rfl) ?_
    refine R.gyes rfl rfl ?_
    refine R.ev rfl (E.load1 rfl Try.underlying3 rfl (by first | exact hs.ldc | exact hs.ld rfl | exact hs.ld (by assumption) | exact by assumption | exact At.cellC (by assumption))) ?_
    refine R.gyes rfl rfl ?_
    refine R.ev rfl (E.neq rfl rfl) ?_
    refine R.ev rfl (E.pickF rfl rfl) ?_
    refine R.ev rfl (E.move rfl) ?_
    refine R.split 18 rfl (fun h18 => ?_) (fun h18 => ?_)
    · refine R.gskip rfl rfl rfl ?_
      refine R.gskip rfl rfl rfl ?_
      refine R.gskip rfl rfl rfl ?_
      refine R.gskip rfl rfl rfl ?_
      refine R.gskip rfl rfl rfl ?_
      refine R.ev rfl (E.pickT rfl rfl) ?_
      refine R.ev rfl (E.move rfl) ?_
      refine R.gskip rfl rfl rfl ?_
      refine R.gskip rfl rfl rfl ?_
      refine R.gskip rfl rfl rfl ?_
      refine R.gskip rfl rfl rfl ?_
      refine R.gskip rfl rfl rfl ?_
      refine R.gskip rfl rfl rfl ?_
      refine R.gskip rfl rfl rfl ?_
      refine R.ev rfl (E.pickT rfl rfl) ?_
      refine R.done ?_
      refine X.keep [(2, _), (3, _), (33, _)] ⟨rfl, rfl, rfl, trivial⟩ ?_
      refine X.next ?_
      refine C.ctrue rfl ?_
      refine C.seq ?_
      refine C.region ?_
      refine R.ev rfl (E.assign rfl) ?_
      refine R.done ?_
      refine X.keep [(4, _)] ⟨rfl, trivial⟩ ?_
      refine X.next ?_
      refine C.ret ?_
      refine X.thenRet ?_
      refine X.ret1 rfl rfl ?_
      exact ⟨by simp_all [sameR]; try (intros; intro e; subst e; simp_all), hs.to⟩
    · refine R.gyes rfl rfl ?_
      first | refine R.ev rfl (E.fieldAddr0 2 rfl Try.underlying52 rfl Try.sz4 rfl) ?_ | refine R.ev rfl (E.fieldAddrN 2 rfl Try.underlying52 rfl Try.sz4 rfl) ?_
      refine R.gyes rfl rfl ?_
      refine R.ev rfl (E.load1 rfl Try.underlying4 rfl (by first | exact hs.ldc | exact hs.ld rfl | exact hs.ld (by assumption) | exact by assumption | exact At.cellC (by assumption))) ?_
      refine R.gyes rfl rfl ?_
      first | refine R.ev rfl (E.fieldAddr0 2 rfl Try.underlying52 rfl Try.sz4 rfl) ?_ | refine R.ev rfl (E.fieldAddrN 2 rfl Try.underlying52 rfl Try.sz4 rfl) ?_
      refine R.gyes rfl rfl ?_
      refine R.ev rfl (E.load1 rfl Try.underlying4 rfl (by first | exact hs.ldc | exact hs.ld rfl | exact hs.ld (by assumption) | exact by assumption | exact At.cellC (by assumption))) ?_
      refine R.gyes rfl rfl ?_
      refine R.ev rfl (E.neqB rfl rfl Try.underlying4) ?_
      refine R.ev rfl (E.pickF rfl rfl) ?_
      refine R.ev rfl (E.move rfl) ?_
      refine R.split 25 rfl (fun h25 => ?_) (fun h25 => ?_)
      · refine R.gskip rfl rfl rfl ?_
        refine R.gskip rfl rfl rfl ?_
        refine R.gskip rfl rfl rfl ?_
        refine R.gskip rfl rfl rfl ?_
        refine R.gskip rfl rfl rfl ?_
        refine R.gskip rfl rfl rfl ?_
        refine R.gskip rfl rfl rfl ?_
        refine R.ev rfl (E.pickT rfl rfl) ?_
        refine R.done ?_
        refine X.keep [(2, _), (3, _), (33, _)] ⟨rfl, rfl, rfl, trivial⟩ ?_
        refine X.next ?_
        refine C.ctrue rfl ?_
        refine C.seq ?_
        refine C.region ?_
        refine R.ev rfl (E.assign rfl) ?_
        refine R.done ?_
        refine X.keep [(4, _)] ⟨rfl, trivial⟩ ?_
        refine X.next ?_
        refine C.ret ?_
        refine X.thenRet ?_
        refine X.ret1 rfl rfl ?_
        exact ⟨by simp_all [sameR]; try (intros; intro e; subst e; simp_all), hs.to⟩
      · refine R.gyes rfl rfl ?_
        first | refine R.ev rfl (E.fieldAddr0 3 rfl Try.underlying52 rfl Try.sz50 rfl) ?_ | refine R.ev rfl (E.fieldAddrN 3 rfl Try.underlying52 rfl Try.sz50 rfl) ?_
        refine R.gyes rfl rfl ?_
        refine R.ev rfl (E.load1 rfl Try.underlying50 rfl (by first | exact hs.ldc | exact hs.ld rfl | exact hs.ld (by assumption) | exact by assumption | exact At.cellC (by assumption))) ?_
        refine R.gyes rfl rfl ?_
        refine R.ev rfl (E.lenSl rfl Try.underlying50) ?_
        refine R.gyes rfl rfl ?_
        first | refine R.ev rfl (E.fieldAddr0 3 rfl Try.underlying52 rfl Try.sz50 rfl) ?_ | refine R.ev rfl (E.fieldAddrN 3 rfl Try.underlying52 rfl Try.sz50 rfl) ?_
        refine R.gyes rfl rfl ?_
        refine R.ev rfl (E.load1 rfl Try.underlying50 rfl (by first | exact hs.ldc | exact hs.ld rfl | exact hs.ld (by assumption) | exact by assumption | exact At.cellC (by assumption))) ?_
        refine R.gyes rfl rfl ?_
        refine R.ev rfl (E.lenSl rfl Try.underlying50) ?_
        refine R.gyes rfl rfl ?_
        refine R.ev rfl (E.neq rfl rfl) ?_
        refine R.ev rfl (E.pickF rfl rfl) ?_
        refine R.done ?_
        refine X.keep [(2, _), (3, _), (33, _)] ⟨rfl, rfl, rfl, trivial⟩ ?_
        refine X.next ?_
        refine C.cbool rfl (fun h33 => ?_) (fun h33 => ?_)
        · refine C.seq ?_
          refine C.region ?_
          refine R.ev rfl (E.assign rfl) ?_
          refine R.done ?_
          refine X.keep [(4, _)] ⟨rfl, trivial⟩ ?_
          refine X.next ?_
          refine C.ret ?_
          refine X.thenRet ?_
          refine X.ret1 rfl rfl ?_
          exact ⟨by simp_all [sameR]; try (intros; intro e; subst e; simp_all), hs.to⟩
        · refine C.skip ?_
          refine X.next ?_
          refine C.seq ?_
          refine C.seq ?_
          refine C.region ?_
          have hh : c = c2 ∧ wt = wt2 ∧ inc = inc2 ∧ L.length = M.length := by simp_all; try omega
          refine R.ev rfl (E.assign rfl) ?_
          refine R.done ?_
          refine X.keep [(2, _), (3, _), (5, _)] ⟨rfl, rfl, rfl, trivial⟩ ?_
          refine X.next ?_
          refine C.block ?_
          refine C.loop  [(2, _), (3, _)] (fun k => [(5, .int .i64 (k : Nat))]) (fun k w' => k ≤ L.length ∧ L.take k = M.take k ∧ Sat K w' (row b3 52 [.int .i64 c2, .int .i64 wt2, .bool inc2, .slice ad2 M.length cap2] :: row b2 52 [.int .i64 c, .int .i64 wt, .bool inc, .slice ad L.length cap] :: Hs)) (fun k => L.length - k) (0) ⟨rfl, rfl, rfl, trivial⟩ ⟨Nat.zero_le _, rfl, hs⟩ ?_
          rintro k w1 ⟨hk, he, hs⟩
          refine C.keep [(2, _), (3, _), (5, _)] ⟨rfl, rfl, rfl, trivial⟩ ?_
          refine C.seq ?_
          refine C.seq ?_
          refine C.region ?_
          refine R.ev rfl (E.move rfl) ?_
          first | refine R.ev rfl (E.fieldAddr0 3 rfl Try.underlying52 rfl Try.sz50 rfl) ?_ | refine R.ev rfl (E.fieldAddrN 3 rfl Try.underlying52 rfl Try.sz50 rfl) ?_
          refine R.ev rfl (E.load1 rfl Try.underlying50 rfl (by first | exact hs.ldc | exact hs.ld rfl | exact hs.ld (by assumption) | exact by assumption | exact At.cellC (by assumption))) ?_
          refine R.ev rfl (E.lenSl rfl Try.underlying50) ?_
          refine R.ev rfl (E.lss rfl rfl) ?_
          refine R.done ?_
          refine X.keep [(2, _), (3, _), (5, _), (38, _)] ⟨rfl, rfl, rfl, rfl, trivial⟩ ?_
          refine X.next ?_
          refine C.cdec rfl (fun h38 => ?_) (fun h38 => ?_)
          · obtain ⟨y, bk_y, of_y, hy, my, ly, rfl, Ay⟩ := hs.el (i := k) (ad := ad) (n := L.length) (c := cap) (by omega)
            have ay := Ay _ hs
            obtain ⟨z, bk_z, of_z, hz, mz, lz, rfl, Az⟩ := hs.el (i := k) (ad := ad2) (n := M.length) (c := cap2) (by omega)
            have az := Az _ hs
            have ay := Ay _ hs
            refine C.skip ?_
            refine X.next ?_
            refine C.seq ?_
            refine C.block ?_
            refine C.seq ?_
            refine C.drawn (SatS hs) ([1, 4, 6, 9], [0, 2, 3, 5, 7, 8, 10]) (by kernel_rfl) ?_
            have hs := hs.drew
            first | refine D.evP 0 rfl (by kernel_rfl) rfl (fun _ => hs.to) (fun _ => E.fieldAddr0 3 rfl Try.underlying52 rfl Try.sz50 rfl) ?_ | refine D.evP 0 rfl (by kernel_rfl) rfl (fun _ => hs.to) (fun _ => E.fieldAddrN 3 rfl Try.underlying52 rfl Try.sz50 rfl) ?_
            refine D.evP 2 rfl (by kernel_rfl) rfl (fun _ => hs.to) (fun _ => E.move rfl) ?_
            first | refine D.evP 5 rfl (by kernel_rfl) rfl (fun _ => hs.to) (fun _ => E.fieldAddr0 3 rfl Try.underlying52 rfl Try.sz50 rfl) ?_ | refine D.evP 5 rfl (by kernel_rfl) rfl (fun _ => hs.to) (fun _ => E.fieldAddrN 3 rfl Try.underlying52 rfl Try.sz50 rfl) ?_
            refine D.evP 7 rfl (by kernel_rfl) rfl (fun _ => hs.to) (fun _ => E.move rfl) ?_
            refine D.ev 1 rfl (by kernel_rfl) rfl hs.to (fun _ hS => E.load1 rfl Try.underlying50 rfl (by first | exact hS.ldc | exact hS.ld rfl | exact hS.ld (by assumption) | exact by assumption | exact At.cellC (by assumption) | exact At.cellC ((by assumption : ∀ w', Sat _ w' _ → At w' _ _ _) _ hS) | exact (by assumption : ∀ w', Sat _ w' _ → World.cell? w' _ = some _) _ hS)) ?_
            refine D.evP 3 rfl (by kernel_rfl) rfl (fun _ => hs.to) (fun _ => E.indexAddr rfl rfl Try.underlying50 Try.sz90 rfl (by first | omega | decide)) ?_
            refine D.ev 4 rfl (by kernel_rfl) rfl hs.to (fun _ hS => E.loadRow rfl Try.underlying90 rfl Try.sz90 (Ay _ hS) ly) ?_
            refine D.ev 6 rfl (by kernel_rfl) rfl hs.to (fun _ hS => E.load1 rfl Try.underlying50 rfl (by first | exact hS.ldc | exact hS.ld rfl | exact hS.ld (by assumption) | exact by assumption | exact At.cellC (by assumption) | exact At.cellC ((by assumption : ∀ w', Sat _ w' _ → At w' _ _ _) _ hS) | exact (by assumption : ∀ w', Sat _ w' _ → World.cell? w' _ = some _) _ hS)) ?_
            refine D.evP 8 rfl (by kernel_rfl) rfl (fun _ => hs.to) (fun _ => E.indexAddr rfl rfl Try.underlying50 Try.sz90 rfl (by first | omega | decide)) ?_
            refine D.ev 9 rfl (by kernel_rfl) rfl hs.to (fun _ hS => E.loadRow rfl Try.underlying90 rfl Try.sz90 (Az _ hS) lz) ?_
            refine D.evP 10 rfl (by kernel_rfl) rfl (fun _ => hs.to) (fun _ => (E.neqAgg 10 rfl rfl Try.lv90 rfl Try.underlying90 rfl Try.gd90 (encRE_fits y ly) (encRE_fits z lz)).isB (c := decide (y ≠ z)) (by rw [encRE_eq ly lz]; simp)) ?_
            refine D.done rfl (by kernel_rfl) ?_
            refine X.keep [(2, _), (3, _), (5, _), (51, _)] ⟨rfl, rfl, rfl, rfl, trivial⟩ ?_
            refine X.next ?_
            refine C.cdec rfl (fun h51 => ?_) (fun h51 => ?_)
            · refine C.seq ?_
              refine C.region ?_
              refine R.ev rfl (E.assign rfl) ?_
              refine R.done ?_
              refine X.keep [(4, _)] ⟨rfl, trivial⟩ ?_
              refine X.next ?_
              refine C.ret ?_
              refine X.blockRet ?_
              refine X.thenRet ?_
              refine X.loopRet ?_
              refine X.blockRet ?_
              refine X.thenRet ?_
              refine X.ret1 rfl rfl ?_
              have hne : L ≠ M := by intro e; subst e; rw [hy] at hz; simp at hz; exact h51 hz
              exact ⟨by simp [sameR, hne], hs.to⟩
            · refine C.skip ?_
              refine X.blockNormal ?_
              refine X.next ?_
              refine C.region ?_
              refine R.ev rfl (E.move rfl) ?_
              refine R.ev rfl (E.add rfl rfl (by omega) (by omega)) ?_
              refine R.ev rfl (E.assign rfl) ?_
              refine R.done ?_
              refine X.keep [(2, _), (3, _), (5, _)] ⟨rfl, rfl, rfl, trivial⟩ ?_
              exact X.again (k + 1) ⟨rfl, rfl, rfl, trivial⟩ ⟨by omega, by rw [take_snoc hy, take_snoc hz, he]; simp at h51; rw [h51], hs.to⟩ (by show _ - _ < _ - _; omega)
          · refine C.exit ?_
            refine X.thenExit ?_
            refine X.loopExit ?_
            refine X.blockExit ?_
            refine X.next ?_
            refine C.seq ?_
            refine C.region ?_
            refine R.ev rfl (E.assign rfl) ?_
            refine R.done ?_
            refine X.keep [(4, _)] ⟨rfl, trivial⟩ ?_
            refine X.next ?_
            refine C.ret ?_
            refine X.ret1 rfl rfl ?_
            have e : L = M := by
              have hke : k = L.length := by omega
              rw [hke, List.take_length] at he
              rw [he, hh.2.2.2, List.take_length]
            exact ⟨by simp [sameR, hh.1, hh.2.1, hh.2.2.1, e], hs.to⟩
end Go.Proofs.Ytoidpcmcbmioiaa
