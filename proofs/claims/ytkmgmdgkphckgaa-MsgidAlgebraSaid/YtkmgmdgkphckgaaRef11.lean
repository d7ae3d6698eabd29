/-
  The reference's digit, Digits, Print, Parse, Compare.
-/
import Derived.Test.YtkmgmdgkphckgaaKnown
namespace Go.Proofs.Ytkmgmdgkphckgaa
open Go.Eng Go.RowKit

/-- the reference's value of a digit, -1 if it is none -/
def rdig (c : UInt8) : Int := if isDig c.toNat then (c.toNat : Int) - 48 else if decide (97 ≤ (c.toNat : Int)) && decide ((c.toNat : Int) ≤ 102) then (c.toNat : Int) - 97 + 10 else -1
theorem rdig_eq (c : UInt8) : rdig c = idxL c hexDigs 0 := all256 (p := fun c => rdig c = idxL c hexDigs 0) (by decide +kernel) c

theorem conv_u8 (c : UInt8) : (IntKind.i64).wrap (c.toNat : Int) = (c.toNat : Int) := by
  have := c.toNat_lt
  exact wrap_i64 (by omega) (by omega)

theorem refDigit_any (c : UInt8) (w : World) : Ret Try.prog 41 #[ub c] w fun v w' => v = .int .i64 (rdig c) ∧ w = w' := by
  have hc := c.toNat_lt
  refine Ret.enter (n := 22) (args := [ub c]) Try.func41 rfl rfl ?_
  refine C.keep [(0, _)] ⟨rfl, trivial⟩ ?_
  refine C.seq ?_
  refine C.region ?_
  refine R.ev rfl (E.assign rfl) ?_
  refine R.done ?_
  refine X.keep [(0, _)] ⟨rfl, trivial⟩ ?_
  refine X.next ?_
  refine C.seq ?_
  refine C.seq ?_
  refine C.cut [(0, _)] (fun (_ : Unit) => [(8, .bool (isDig c.toNat))]) (fun _ w' => w = w') ⟨rfl, trivial⟩ ?_ ?_
  · refine C.region ?_
    refine R.ev rfl (E.move rfl) ?_
    refine R.ev rfl (E.geq rfl rfl) ?_
    refine R.ev rfl (E.move rfl) ?_
    refine R.split 5 rfl (fun h5 => ?_) (fun h5 => ?_)
    · refine R.gyes rfl rfl ?_
      refine R.ev rfl (E.move rfl) ?_
      refine R.gyes rfl rfl ?_
      refine R.ev rfl (E.leq rfl rfl) ?_
      refine R.ev rfl (E.pickT rfl rfl) ?_
      refine R.done ?_
      refine X.keep [(0, _), (8, _)] ⟨rfl, rfl, trivial⟩ ?_
      refine X.cut (()) ⟨lkV rfl ?_, rfl, trivial⟩ ?_
      all_goals try exact rfl
      simp only [isDig]
      first | (simp_all; done) | (simp_all; omega)
    · refine R.gskip rfl rfl rfl ?_
      refine R.gskip rfl rfl rfl ?_
      refine R.ev rfl (E.pickF rfl rfl) ?_
      refine R.done ?_
      refine X.keep [(0, _), (8, _)] ⟨rfl, rfl, trivial⟩ ?_
      refine X.cut (()) ⟨lkV rfl ?_, rfl, trivial⟩ ?_
      all_goals try exact rfl
      simp only [isDig]
      first | (simp_all; done) | (simp_all; omega)
  · rintro _ _ rfl
    refine X.keep [(0, _), (8, _)] ⟨rfl, rfl, trivial⟩ ?_
    refine X.next ?_
    refine C.cbool rfl (fun h8 => ?_) (fun h8 => ?_)
    · refine C.seq ?_
      refine C.region ?_
      refine R.ev rfl (E.move rfl) ?_
      refine R.ev rfl ((E.conv rfl Try.underlying5 Try.underlying3).as (congrArg (Value.int .i64) (conv_u8 c))) ?_
      refine R.ev rfl (E.sub rfl rfl (by omega) (by omega)) ?_
      refine R.ev rfl (E.assign rfl) ?_
      refine R.done ?_
      refine X.keep [(2, _)] ⟨rfl, trivial⟩ ?_
      refine X.next ?_
      refine C.ret ?_
      refine X.thenRet ?_
      refine X.ret1 rfl rfl ?_
      exact ⟨by rw [rdig, if_pos h8], rfl⟩
    · refine C.skip ?_
      refine X.next ?_
      refine C.seq ?_
      refine C.seq ?_
      refine C.cut [(0, _)] (fun (_ : Unit) => [(17, .bool (decide (97 ≤ (c.toNat : Int)) && decide ((c.toNat : Int) ≤ 102)))]) (fun _ w' => w = w') ⟨rfl, trivial⟩ ?_ ?_
      · refine C.region ?_
        refine R.ev rfl (E.move rfl) ?_
        refine R.ev rfl (E.geq rfl rfl) ?_
        refine R.ev rfl (E.move rfl) ?_
        refine R.split 14 rfl (fun h14 => ?_) (fun h14 => ?_)
        · refine R.gyes rfl rfl ?_
          refine R.ev rfl (E.move rfl) ?_
          refine R.gyes rfl rfl ?_
          refine R.ev rfl (E.leq rfl rfl) ?_
          refine R.ev rfl (E.pickT rfl rfl) ?_
          refine R.done ?_
          refine X.keep [(0, _), (17, _)] ⟨rfl, rfl, trivial⟩ ?_
          refine X.cut (()) ⟨lkV rfl ?_, rfl, trivial⟩ ?_
          all_goals try exact rfl
          first | (simp_all; done) | (simp_all; omega)
        · refine R.gskip rfl rfl rfl ?_
          refine R.gskip rfl rfl rfl ?_
          refine R.ev rfl (E.pickF rfl rfl) ?_
          refine R.done ?_
          refine X.keep [(0, _), (17, _)] ⟨rfl, rfl, trivial⟩ ?_
          refine X.cut (()) ⟨lkV rfl ?_, rfl, trivial⟩ ?_
          all_goals try exact rfl
          first | (simp_all; done) | (simp_all; omega)
      · rintro _ _ rfl
        refine X.keep [(0, _), (17, _)] ⟨rfl, rfl, trivial⟩ ?_
        refine X.next ?_
        refine C.cbool rfl (fun h17 => ?_) (fun h17 => ?_)
        · refine C.seq ?_
          refine C.region ?_
          refine R.ev rfl (E.move rfl) ?_
          refine R.ev rfl ((E.conv rfl Try.underlying5 Try.underlying3).as (congrArg (Value.int .i64) (conv_u8 c))) ?_
          refine R.ev rfl (E.sub rfl rfl (by omega) (by omega)) ?_
          refine R.ev rfl (E.add rfl rfl (by omega) (by omega)) ?_
          refine R.ev rfl (E.assign rfl) ?_
          refine R.done ?_
          refine X.keep [(2, _)] ⟨rfl, trivial⟩ ?_
          refine X.next ?_
          refine C.ret ?_
          refine X.thenRet ?_
          refine X.ret1 rfl rfl ?_
          exact ⟨by rw [rdig, if_neg (by rw [h8]; decide), if_pos h17], rfl⟩
        · refine C.skip ?_
          refine X.next ?_
          refine C.seq ?_
          refine C.region ?_
          refine R.ev rfl (E.assign rfl) ?_
          refine R.done ?_
          refine X.keep [(2, _)] ⟨rfl, trivial⟩ ?_
          refine X.next ?_
          refine C.ret ?_
          refine X.ret1 rfl rfl ?_
          exact ⟨by rw [rdig, if_neg (by rw [h8]; decide), if_neg (by rw [h17]; decide)], rfl⟩

theorem quo16 (c : UInt8) : (IntKind.u8).wrap ((c.toNat : Int).tdiv 16) = ((c.toNat / 16 : Nat) : Int) := all256 (p := fun c => (IntKind.u8).wrap ((c.toNat : Int).tdiv 16) = ((c.toNat / 16 : Nat) : Int)) (by decide +kernel) c
theorem rem16 (c : UInt8) : (c.toNat : Int).tmod 16 = ((c.toNat % 16 : Nat) : Int) := all256 (p := fun c => (c.toNat : Int).tmod 16 = ((c.toNat % 16 : Nat) : Int)) (by decide +kernel) c
theorem inc16 (m : Nat) (h : m < 16) : (IntKind.u8).wrap ((m : Int) + 1) = ((m + 1 : Nat) : Int) := by
  have key : ∀ m : Fin 16, (IntKind.u8).wrap (((m.val : Nat) : Int) + 1) = ((m.val + 1 : Nat) : Int) := by decide +kernel
  exact key ⟨m, h⟩
theorem one_hex (m : Nat) (h : m < 16) : ((hexDigs.drop m).take (m + 1 - m)) = [hexc m] := by
  have key : ∀ m : Fin 16, ((hexDigs.drop m.val).take (m.val + 1 - m.val)) = [hexc m.val] := by decide +kernel
  exact key ⟨m, h⟩

theorem refDigits_any (a : List UInt8) (w : World) (ha : a.length = 32) :
    Ret Try.prog 40 #[idV a] w fun v w' => v = str (hexL a) ∧ Mod [] w w' := by
  refine Ret.enter (n := 31) (args := [idV a]) Try.func40 rfl rfl ?_
  refine C.keep [(0, _)] ⟨rfl, trivial⟩ ?_
  refine C.seq ?_
  refine C.region ?_
  refine R.boxA rfl rfl ?_
  intro b1 w1 n1
  refine R.ev rfl (E.assign rfl) ?_
  refine R.done ?_
  refine X.keep [(1, _)] ⟨rfl, trivial⟩ ?_
  refine X.next ?_
  refine C.seq ?_
  refine C.region ?_
  refine R.ev rfl (E.assign rfl) ?_
  refine R.done ?_
  refine X.keep [(1, _), (3, _)] ⟨rfl, rfl, trivial⟩ ?_
  refine X.next ?_
  refine C.seq ?_
  refine C.seq ?_
  refine C.region ?_
  refine R.ev rfl (E.assign rfl) ?_
  refine R.done ?_
  refine X.keep [(1, _), (3, _), (4, _)] ⟨rfl, rfl, rfl, trivial⟩ ?_
  refine X.next ?_
  refine C.block ?_
  refine C.loop  [(1, _)] (fun k => [(3, str (hexL (a.take k))), (4, .int .i64 (k : Nat))]) (fun k w' => k ≤ 32 ∧ Mod [] w1 w') (fun k => 32 - k) (0) ⟨rfl, rfl, rfl, trivial⟩ ⟨by omega, Mod.refl _ _⟩ ?_
  rintro k w2 ⟨hk, hm⟩
  have hat := n1.blk.at.keep hm (by simp)
  refine C.keep [(1, _), (3, _), (4, _)] ⟨rfl, rfl, rfl, trivial⟩ ?_
  refine C.seq ?_
  refine C.seq ?_
  refine C.region ?_
  refine R.ev rfl (E.move rfl) ?_
  refine R.ev rfl (E.lss rfl rfl) ?_
  refine R.done ?_
  refine X.keep [(1, _), (3, _), (4, _), (8, _)] ⟨rfl, rfl, rfl, rfl, trivial⟩ ?_
  refine X.next ?_
  refine C.cdec rfl (fun h8 => ?_) (fun h8 => ?_)
  · have hlt : k < a.length := by omega
    have hcell : w2.cell? ⟨b1, 0 + k * 1, none⟩ = some (ub a[k]) := by rw [Nat.mul_one]; exact hat k (ub a[k]) (by simp [hlt])
    have hlen := hexL_len (a.take k)
    have htl : (a.take k).length = k := by simp; omega
    have hb := a[k].toNat_lt
    refine C.skip ?_
    refine X.next ?_
    refine C.seq ?_
    refine C.block ?_
    refine C.seq ?_
    refine C.drawn (fun w3 => Mod [] w2 w3) ([2, 6], [0, 1, 3, 4, 5, 7, 8, 9]) (by kernel_rfl) ?_
    have hS5 : (fun w3 => Mod [] w2 w3) _ := Mod.drew _ _
    dsimp only at hS5
    refine D.evP 0 rfl (by kernel_rfl) rfl (fun _ => hS5) (fun _ => E.move rfl) ?_
    refine D.evP 1 rfl (by kernel_rfl) rfl (fun _ => hS5) (fun _ => E.indexAddrA rfl rfl Try.underlying30 Try.sz5 rfl (by first | omega | decide)) ?_
    refine D.evP 4 rfl (by kernel_rfl) rfl (fun _ => hS5) (fun _ => E.move rfl) ?_
    refine D.evP 5 rfl (by kernel_rfl) rfl (fun _ => hS5) (fun _ => E.indexAddrA rfl rfl Try.underlying30 Try.sz5 rfl (by first | omega | decide)) ?_
    refine D.ev 2 rfl (by kernel_rfl) rfl hS5 (fun _ hS => E.load1 rfl Try.underlying5 rfl (Mod.cell hS (by assumption) (by simp))) ?_
    refine D.evP 3 rfl (by kernel_rfl) rfl (fun _ => hS5) (fun _ => (E.quoW rfl rfl (by decide)).isI (quo16 a[k])) ?_
    refine D.evP 8 rfl (by kernel_rfl) rfl (fun _ => hS5) (fun _ => E.assign rfl) ?_
    refine D.ev 6 rfl (by kernel_rfl) rfl hS5 (fun _ hS => E.load1 rfl Try.underlying5 rfl (Mod.cell hS (by assumption) (by simp))) ?_
    refine D.evP 7 rfl (by kernel_rfl) rfl (fun _ => hS5) (fun _ => (E.remW rfl rfl (by decide)).isI (rem16 a[k])) ?_
    refine D.evP 9 rfl (by kernel_rfl) rfl (fun _ => hS5) (fun _ => E.assign rfl) ?_
    refine D.done rfl (by kernel_rfl) ?_
    refine X.keep [(1, _), (3, _), (4, _), (5, _), (6, _)] ⟨rfl, rfl, rfl, rfl, rfl, trivial⟩ ?_
    refine X.next ?_
    refine C.drawn (fun _ => True) ([], [0, 1, 2, 3, 4, 5, 6, 7, 8, 9, 10, 11]) (by kernel_rfl) ?_
    refine D.evP 0 rfl (by kernel_rfl) rfl (np (by kernel_rfl)) (fun _ => E.move rfl) ?_
    refine D.evP 1 rfl (by kernel_rfl) rfl (np (by kernel_rfl)) (fun _ => E.move rfl) ?_
    refine D.evP 2 rfl (by kernel_rfl) rfl (np (by kernel_rfl)) (fun _ => E.move rfl) ?_
    refine D.evP 3 rfl (by kernel_rfl) rfl (np (by kernel_rfl)) (fun _ => (E.addW rfl rfl).as (congrArg (Value.int .u8) (inc16 (a[k].toNat / 16) (by omega)))) ?_
    refine D.evP 4 rfl (by kernel_rfl) rfl (np (by kernel_rfl)) (fun _ => (E.ssliceLH (l := hexDigs) rfl rfl rfl Try.underlying9 rfl rfl (by omega) (by simp [hexDigs]; omega)).as (congrArg str (one_hex (a[k].toNat / 16) (by omega)))) ?_
    refine D.evP 5 rfl (by kernel_rfl) rfl (np (by kernel_rfl)) (fun _ => E.move rfl) ?_
    refine D.evP 6 rfl (by kernel_rfl) rfl (np (by kernel_rfl)) (fun _ => E.move rfl) ?_
    refine D.evP 7 rfl (by kernel_rfl) rfl (np (by kernel_rfl)) (fun _ => (E.addW rfl rfl).as (congrArg (Value.int .u8) (inc16 (a[k].toNat % 16) (by omega)))) ?_
    refine D.evP 8 rfl (by kernel_rfl) rfl (np (by kernel_rfl)) (fun _ => (E.ssliceLH (l := hexDigs) rfl rfl rfl Try.underlying9 rfl rfl (by omega) (by simp [hexDigs]; omega)).as (congrArg str (one_hex (a[k].toNat % 16) (by omega)))) ?_
    refine D.evP 9 rfl (by kernel_rfl) rfl (np (by kernel_rfl)) (fun _ => E.concat rfl rfl (by simp)) ?_
    refine D.evP 10 rfl (by kernel_rfl) rfl (np (by kernel_rfl)) (fun _ => E.concat rfl rfl (by simp; omega)) ?_
    refine D.evP 11 rfl (by kernel_rfl) rfl (np (by kernel_rfl)) (fun _ => E.assign rfl) ?_
    refine D.done rfl (by kernel_rfl) ?_
    refine X.keep [(1, _), (3, _), (4, _)] ⟨rfl, rfl, rfl, trivial⟩ ?_
    refine X.blockNormal ?_
    refine X.next ?_
    refine C.region ?_
    refine R.ev rfl (E.move rfl) ?_
    refine R.ev rfl (E.add rfl rfl (by omega) (by omega)) ?_
    refine R.ev rfl (E.assign rfl) ?_
    refine R.done ?_
    refine X.keep [(1, _), (3, _), (4, _)] ⟨rfl, rfl, rfl, trivial⟩ ?_
    refine X.again (k + 1) ⟨lkV rfl (congrArg str (hexL_snoc hlt).symm), rfl, rfl, trivial⟩ ⟨by omega, (hm.tr (Mod.drew _ _)).tr (Mod.drew _ _)⟩ (by omega)
  · refine C.exit ?_
    refine X.thenExit ?_
    refine X.loopExit ?_
    refine X.blockExit ?_
    refine X.next ?_
    refine C.seq ?_
    refine C.region ?_
    refine R.ev rfl (E.move rfl) ?_
    refine R.ev rfl (E.assign rfl) ?_
    refine R.done ?_
    refine X.keep [(2, _)] ⟨rfl, trivial⟩ ?_
    refine X.next ?_
    refine C.ret ?_
    refine X.ret1 rfl rfl ?_
    exact ⟨by rw [List.take_of_length_le (by omega)], n1.mod.tr hm⟩

theorem refPrint_any (a : List UInt8) (w : World) (ha : a.length = 32) :
    Ret Try.prog 16 #[idV a] w fun v w' => v = str (printL a) ∧ Mod [] w w' := by
  have hl := hexL_len a
  refine Ret.enter (n := 7) (args := [idV a]) Try.func16 rfl rfl ?_
  refine C.keep [(0, _)] ⟨rfl, trivial⟩ ?_
  refine C.seq ?_
  refine C.region ?_
  refine R.boxA rfl rfl ?_
  intro b1 w1 n1
  refine R.ev rfl (E.assign rfl) ?_
  refine R.done ?_
  refine X.keep [(1, _)] ⟨rfl, trivial⟩ ?_
  refine X.next ?_
  refine C.seq ?_
  refine C.region ?_
  refine R.ev rfl (E.loadRow rfl Try.underlying30 rfl Try.sz30 n1.blk.at (len_ub ha)) ?_
  refine R.call ⟨_, _, Try.func40, rfl, by kernel_rfl⟩ rfl rfl (refDigits_any a _ ha) ?_
  rintro _ w2 ⟨rfl, m2⟩
  refine R.ev rfl (E.concat rfl rfl (by simp; omega)) ?_
  refine R.ev rfl (E.concat rfl rfl (by simp; omega)) ?_
  refine R.ev rfl (E.assign rfl) ?_
  refine R.done ?_
  refine X.keep [(2, _)] ⟨rfl, trivial⟩ ?_
  refine X.next ?_
  refine C.ret ?_
  refine X.ret1 rfl rfl ?_
  exact ⟨by simp [printL, prefixL, tailL], n1.mod.tr m2⟩

theorem cmpL_step {a b : List UInt8} {k : Nat} (ha : a.length = 32) (hb : b.length = 32) (hk : k < 32) :
    cmpL (a.drop k) (b.drop k) = if (a.getD k 0).toNat < (b.getD k 0).toNat then -1 else if (b.getD k 0).toNat < (a.getD k 0).toNat then 1 else cmpL (a.drop (k + 1)) (b.drop (k + 1)) := by
  rw [List.drop_eq_getElem_cons (by omega : k < a.length), List.drop_eq_getElem_cons (by omega : k < b.length)]
  have e1 : a.getD k 0 = a[k] := by simp [show k < a.length by omega]
  have e2 : b.getD k 0 = b[k] := by simp [show k < b.length by omega]
  rw [e1, e2, cmpL]
  simp only [UInt8.lt_iff_toNat_lt]

theorem refCompare_any (a b : List UInt8) (w : World) (ha : a.length = 32) (hb : b.length = 32) :
    Ret Try.prog 20 #[idV a, idV b] w fun v w' => v = .int .i64 (cmpL a b) ∧ Mod [] w w' := by
  refine Ret.enter (n := 24) (args := [idV a, idV b]) Try.func20 rfl rfl ?_
  refine C.keep [(0, _), (1, _)] ⟨rfl, rfl, trivial⟩ ?_
  refine C.seq ?_
  refine C.region ?_
  refine R.boxA rfl rfl ?_
  intro b2 w2 n2
  refine R.boxA rfl rfl ?_
  intro b3 w3 n3
  refine R.ev rfl (E.assign rfl) ?_
  refine R.done ?_
  refine X.keep [(2, _), (3, _)] ⟨rfl, rfl, trivial⟩ ?_
  refine X.next ?_
  refine C.seq ?_
  refine C.seq ?_
  refine C.region ?_
  refine R.ev rfl (E.assign rfl) ?_
  refine R.done ?_
  refine X.keep [(2, _), (3, _), (5, _)] ⟨rfl, rfl, rfl, trivial⟩ ?_
  refine X.next ?_
  refine C.block ?_
  refine C.loop  [(2, _), (3, _)] (fun k => [(5, .int .i64 (k : Nat))]) (fun k w' => k ≤ 32 ∧ Mod [] w3 w' ∧ cmpL a b = cmpL (a.drop k) (b.drop k)) (fun k => 32 - k) (0) ⟨rfl, rfl, rfl, trivial⟩ ⟨by omega, Mod.refl _ _, rfl⟩ ?_
  rintro k w4 ⟨hk, hm, hc⟩
  have hat := n2.blk.at.keep (n3.mod.tr hm) (by simp)
  have hbt := n3.blk.at.keep hm (by simp)
  refine C.keep [(2, _), (3, _), (5, _)] ⟨rfl, rfl, rfl, trivial⟩ ?_
  refine C.seq ?_
  refine C.seq ?_
  refine C.region ?_
  refine R.ev rfl (E.move rfl) ?_
  refine R.ev rfl (E.lss rfl rfl) ?_
  refine R.done ?_
  refine X.keep [(2, _), (3, _), (5, _), (7, _)] ⟨rfl, rfl, rfl, rfl, trivial⟩ ?_
  refine X.next ?_
  refine C.cdec rfl (fun h7 => ?_) (fun h7 => ?_)
  · have hlt : k < 32 := by omega
    have hst := cmpL_step ha hb hlt
    have hc1 : w4.cell? ⟨b2, 0 + k * 1, none⟩ = some (ub (a.getD k 0)) := by rw [Nat.mul_one]; exact hat k (ub (a.getD k 0)) (by simp [show k < a.length by omega])
    have hc2 : w4.cell? ⟨b3, 0 + k * 1, none⟩ = some (ub (b.getD k 0)) := by rw [Nat.mul_one]; exact hbt k (ub (b.getD k 0)) (by simp [show k < b.length by omega])
    refine C.skip ?_
    refine X.next ?_
    refine C.seq ?_
    refine C.block ?_
    refine C.seq ?_
    refine C.seq ?_
    refine C.drawn (fun w5 => Mod [] w4 w5) ([2, 5], [0, 1, 3, 4, 6]) (by kernel_rfl) ?_
    have hS4 : (fun w5 => Mod [] w4 w5) _ := Mod.drew _ _
    dsimp only at hS4
    refine D.evP 0 rfl (by kernel_rfl) rfl (fun _ => hS4) (fun _ => E.move rfl) ?_
    refine D.evP 1 rfl (by kernel_rfl) rfl (fun _ => hS4) (fun _ => E.indexAddrA rfl rfl Try.underlying30 Try.sz5 rfl (by first | omega | decide)) ?_
    refine D.evP 3 rfl (by kernel_rfl) rfl (fun _ => hS4) (fun _ => E.move rfl) ?_
    refine D.evP 4 rfl (by kernel_rfl) rfl (fun _ => hS4) (fun _ => E.indexAddrA rfl rfl Try.underlying30 Try.sz5 rfl (by first | omega | decide)) ?_
    refine D.ev 2 rfl (by kernel_rfl) rfl hS4 (fun _ hS => E.load1 rfl Try.underlying5 rfl (Mod.cell hS (by assumption) (by simp))) ?_
    refine D.ev 5 rfl (by kernel_rfl) rfl hS4 (fun _ hS => E.load1 rfl Try.underlying5 rfl (Mod.cell hS (by assumption) (by simp))) ?_
    refine D.evP 6 rfl (by kernel_rfl) rfl (fun _ => hS4) (fun _ => E.lss rfl rfl) ?_
    refine D.done rfl (by kernel_rfl) ?_
    refine X.keep [(2, _), (3, _), (5, _), (16, _)] ⟨rfl, rfl, rfl, rfl, trivial⟩ ?_
    refine X.next ?_
    refine C.cdec rfl (fun h16 => ?_) (fun h16 => ?_)
    · refine C.seq ?_
      refine C.region ?_
      refine R.ev rfl (E.assign rfl) ?_
      refine R.done ?_
      refine X.keep [(4, _)] ⟨rfl, trivial⟩ ?_
      refine X.next ?_
      refine C.ret ?_
      refine X.thenRet ?_
      refine X.blockRet ?_
      refine X.thenRet ?_
      refine X.loopRet ?_
      refine X.blockRet ?_
      refine X.thenRet ?_
      refine X.ret1 rfl rfl ?_
      exact ⟨by rw [hc, hst, if_pos (by omega)], ((n2.mod.tr n3.mod).tr hm).tr (Mod.drew _ _)⟩
    · refine C.skip ?_
      refine X.next ?_
      refine C.seq ?_
      refine C.drawn (fun w5 => Mod [] w4 w5) ([2, 5], [0, 1, 3, 4, 6]) (by kernel_rfl) ?_
      have hS6 : (fun w5 => Mod [] w4 w5) _ := (Mod.drew _ _).tr (Mod.drew _ _)
      dsimp only at hS6
      refine D.evP 0 rfl (by kernel_rfl) rfl (fun _ => hS6) (fun _ => E.move rfl) ?_
      refine D.evP 1 rfl (by kernel_rfl) rfl (fun _ => hS6) (fun _ => E.indexAddrA rfl rfl Try.underlying30 Try.sz5 rfl (by first | omega | decide)) ?_
      refine D.evP 3 rfl (by kernel_rfl) rfl (fun _ => hS6) (fun _ => E.move rfl) ?_
      refine D.evP 4 rfl (by kernel_rfl) rfl (fun _ => hS6) (fun _ => E.indexAddrA rfl rfl Try.underlying30 Try.sz5 rfl (by first | omega | decide)) ?_
      refine D.ev 2 rfl (by kernel_rfl) rfl hS6 (fun _ hS => E.load1 rfl Try.underlying5 rfl (Mod.cell hS (by assumption) (by simp))) ?_
      refine D.ev 5 rfl (by kernel_rfl) rfl hS6 (fun _ hS => E.load1 rfl Try.underlying5 rfl (Mod.cell hS (by assumption) (by simp))) ?_
      refine D.evP 6 rfl (by kernel_rfl) rfl (fun _ => hS6) (fun _ => E.gtr rfl rfl) ?_
      refine D.done rfl (by kernel_rfl) ?_
      refine X.keep [(2, _), (3, _), (5, _), (23, _)] ⟨rfl, rfl, rfl, rfl, trivial⟩ ?_
      refine X.next ?_
      refine C.cdec rfl (fun h23 => ?_) (fun h23 => ?_)
      · refine C.seq ?_
        refine C.region ?_
        refine R.ev rfl (E.assign rfl) ?_
        refine R.done ?_
        refine X.keep [(4, _)] ⟨rfl, trivial⟩ ?_
        refine X.next ?_
        refine C.ret ?_
        refine X.blockRet ?_
        refine X.thenRet ?_
        refine X.loopRet ?_
        refine X.blockRet ?_
        refine X.thenRet ?_
        refine X.ret1 rfl rfl ?_
        exact ⟨by rw [hc, hst, if_neg (by omega), if_pos (by omega)], (((n2.mod.tr n3.mod).tr hm).tr (Mod.drew _ _)).tr (Mod.drew _ _)⟩
      · refine C.skip ?_
        refine X.blockNormal ?_
        refine X.next ?_
        refine C.region ?_
        refine R.ev rfl (E.move rfl) ?_
        refine R.ev rfl (E.add rfl rfl (by omega) (by omega)) ?_
        refine R.ev rfl (E.assign rfl) ?_
        refine R.done ?_
        refine X.keep [(2, _), (3, _), (5, _)] ⟨rfl, rfl, rfl, trivial⟩ ?_
        refine X.again (k + 1) ⟨rfl, rfl, rfl, trivial⟩ ⟨by omega, (hm.tr (Mod.drew _ _)).tr (Mod.drew _ _), by rw [hc, hst, if_neg (by omega), if_neg (by omega)]⟩ (by omega)
  · refine C.exit ?_
    refine X.thenExit ?_
    refine X.loopExit ?_
    refine X.blockExit ?_
    refine X.next ?_
    refine C.seq ?_
    refine C.region ?_
    refine R.ev rfl (E.assign rfl) ?_
    refine R.done ?_
    refine X.keep [(4, _)] ⟨rfl, trivial⟩ ?_
    refine X.next ?_
    refine C.ret ?_
    refine X.ret1 rfl rfl ?_
    exact ⟨by rw [hc, List.drop_eq_nil_of_le (by omega), List.drop_eq_nil_of_le (by omega)]; rfl, (n2.mod.tr n3.mod).tr hm⟩
end Go.Proofs.Ytkmgmdgkphckgaa
