/-
  package history: the methods that judge, add and change.
-/
import Derived.Test.YtifghjeapfijkaaGreatDoorHis
import Derived.Test.YtifghjeapfijkaaGreatDoorOrd
namespace Go.Eng
open Go.RowKit
section
variable {P : Program} {n : Nn} {g : Env} {w : World} {dst : Option Nat} {ty : TypeId} {pos : String} {af : Array Edge} {gu : Option (Nat × Bool)} {t t' : TypeId} {x y : Operand}
theorem E.mapNilF {kt et : TypeId} {b : Nat} (hx : look g x = some (.map (some b))) (hy : look g y = some (.map none)) (hu : P.underlying t = some (.map kt et)) : Ev P n g ⟨dst, .binOp .eql t x y t', ty, pos, af, gu⟩ w (.bool false) := fun a f => by
  have : (Op.equal t (.map (some b)) (.map none)).run P w = .ok false w := by
    show (Op.equalIn (9999 + 1) t (.map (some b)) (.map none)).run P w = _
    unfold Op.equalIn
    simp [run_underlying hu]
  simp [execOp, f.eval hx, f.eval hy, eqGuard, binOp, this]
end
end Go.Eng
namespace Go.Proofs.YtifghjeapfijkaaGreatDoor.Hist
open Go.Eng Go.RowKit
variable {K : Kn} {Hs Rs : List Hl} {F : Hl} {w : World} {p : Nat} {s : Hi}
def Hi.judge (s : Hi) (a : Vec 32) (date now : Int) (pm : Bool) : Int := if isMin date = false ∨ isMin now = false then 13 else if (lkM s.M a).isSome then 7 else if now + 1440 < date then 15 else if pm = false ∧ (old date now = true ∨ old date s.cut = true) then 14 else 0
def Hi.addE (s : Hi) (x : HEnt) : Int := if x.check ≠ 0 then x.check else if (lkM s.M x.id).isSome then 7 else if (1048576 : Int) ≤ s.M.length then 9 else 0
def Hi.addS (s : Hi) (x : HEnt) : Hi := if s.addE x = 0 then { s with M := putM x.id x s.M } else s
theorem add_any (x : HEnt) (hs : Sat K w (F :: Rs)) [hw : HiL p s F] : Ret Tryz.prog 8 #[ptr p, evH x] w fun r w' => r = .int .i64 (s.addE x) ∧ ∃ F', HiL p (s.addS x) F' ∧ Sat K w' (F' :: Rs) := by
  have hw0 := hw
  obtain ⟨m, G, hF, hm⟩ := hw.ex
  obtain ⟨M, c⟩ := s
  simp only at hm hF
  obtain ⟨bm, _, _, rfl, _⟩ := hm.ex
  subst hF
  have hs := hs.cut
  refine Ret.enter (n := 48) (args := [ptr p, evH x]) Tryz.func8 rfl rfl ?_
  refine C.keep [(0, _), (1, _)] ⟨rfl, rfl, trivial⟩ ?_
  refine C.seq ?_
  refine C.region ?_
  refine R.sboxA hs rfl rfl ?_
  intro b3 w3 hs
  refine R.ev rfl (E.assign rfl) ?_
  refine R.done ?_
  refine X.keep [(0, _), (3, _)] ⟨rfl, rfl, trivial⟩ ?_
  refine X.next ?_
  refine C.seq ?_
  refine C.seq ?_
  refine C.region ?_
  refine R.ev rfl (E.move rfl) ?_
  refine R.ev rfl (E.eqlNilF rfl rfl Tryz.underlying36) ?_
  refine R.done ?_
  refine X.keep [(0, _), (3, _), (9, _)] ⟨rfl, rfl, rfl, trivial⟩ ?_
  refine X.next ?_
  refine C.cfalse rfl ?_
  refine C.skip ?_
  refine X.next ?_
  refine C.seq ?_
  refine C.seq ?_
  refine C.region ?_
  refine R.ev rfl (E.loadRowC rfl Tryz.underlying50 rfl Tryz.sz50 (by first | exact ⟨hs.ldA, by first | rfl | assumption | exact encV_len _ | exact Enc.len _ | exact len_ub (by assumption)⟩ | exact ⟨hs.ldP rfl, by first | rfl | assumption | exact encV_len _ | exact Enc.len _ | exact len_ub (by assumption)⟩ | exact ⟨hs.ldM rfl rfl, by first | rfl | assumption | exact encV_len _ | exact Enc.len _ | exact len_ub (by assumption)⟩ | exact ⟨hs.ldM (by assumption) (by first | rfl | assumption), by first | rfl | assumption | exact encV_len _ | exact Enc.len _ | exact len_ub (by assumption)⟩ | exact ⟨by assumption, by first | rfl | assumption | exact encV_len _ | exact Enc.len _ | exact len_ub (by assumption)⟩ | exact hs.ldp | exact At.partC (by assumption))) ?_
  refine R.call ⟨_, _, Tryz.func29, rfl, by kernel_rfl⟩ rfl rfl (check_any x hs) ?_
  rintro _ w3 ⟨rfl, hs⟩
  refine R.ev rfl (E.assign rfl) ?_
  refine R.done ?_
  refine X.keep [(0, _), (3, _), (5, _)] ⟨rfl, rfl, rfl, trivial⟩ ?_
  refine X.next ?_
  refine C.seq ?_
  refine C.region ?_
  refine R.ev rfl (E.move rfl) ?_
  refine R.ev rfl (E.neq rfl rfl) ?_
  refine R.done ?_
  refine X.keep [(0, _), (3, _), (5, _), (13, _)] ⟨rfl, rfl, rfl, rfl, trivial⟩ ?_
  refine X.next ?_
  refine C.cdec rfl (fun h13 => ?_) (fun h13 => ?_)
  · refine C.seq ?_
    refine C.region ?_
    refine R.ev rfl (E.move rfl) ?_
    refine R.ev rfl (E.assign rfl) ?_
    refine R.done ?_
    refine X.keep [(4, _)] ⟨rfl, trivial⟩ ?_
    refine X.next ?_
    refine C.ret ?_
    refine X.thenRet ?_
    refine X.ret1 rfl rfl ?_
    exact ⟨by rw [Hi.addE, if_pos h13], _, by rw [Hi.addS, Hi.addE, if_pos h13, if_neg h13]; exact hw0, hs.to⟩
  · refine C.skip ?_
    refine X.next ?_
    refine C.seq ?_
    refine C.seq ?_
    refine C.drawn (SatS hs) ([3, 5, 6], [0, 1, 2, 4, 7, 8, 9, 12]) (by kernel_rfl) ?_
    have hs := hs.drew
    have h13' : ¬ x.check ≠ 0 := h13
    refine D.evP 0 rfl (by kernel_rfl) rfl (fun _ => hs.to) (fun _ => E.move rfl) ?_
    refine D.evP 1 rfl (by kernel_rfl) rfl (fun _ => hs.to) (fun _ => E.nilCheck rfl) ?_
    first | refine D.evP 2 rfl (by kernel_rfl) rfl (fun _ => hs.to) (fun _ => E.fieldAddr0 0 rfl Tryz.underlying82 rfl Tryz.sz80 rfl) ?_ | refine D.evP 2 rfl (by kernel_rfl) rfl (fun _ => hs.to) (fun _ => E.fieldAddrN 0 rfl Tryz.underlying82 rfl Tryz.sz80 rfl) ?_
    first | refine D.evP 4 rfl (by kernel_rfl) rfl (fun _ => hs.to) (fun _ => E.fieldAddr0 0 rfl Tryz.underlying50 rfl Tryz.sz45 rfl) ?_ | refine D.evP 4 rfl (by kernel_rfl) rfl (fun _ => hs.to) (fun _ => E.fieldAddrN 0 rfl Tryz.underlying50 rfl Tryz.sz45 rfl) ?_
    refine D.ev 3 rfl (by kernel_rfl) rfl hs.to (fun _ hS => E.load1 rfl Tryz.underlying80 rfl (by first | exact hS.ldc | exact hS.ld rfl | exact hS.ld (by assumption) | exact by assumption | exact At.cellC (by assumption) | exact hS.ldK rfl | exact At.cellC ((by assumption : ∀ w', Sat _ w' _ → At w' _ _ _) _ hS) | exact (by assumption : ∀ w', Sat _ w' _ → World.cell? w' _ = some _) _ hS)) ?_
    refine D.ev 5 rfl (by kernel_rfl) rfl hs.to (fun _ hS => E.loadRowC rfl Tryz.underlying45 rfl Tryz.sz45 (by first | exact ⟨hS.ldA, by first | rfl | assumption | exact encV_len _ | exact Enc.len _ | exact len_ub (by assumption)⟩ | exact ⟨hS.ldP rfl, by first | rfl | assumption | exact encV_len _ | exact Enc.len _ | exact len_ub (by assumption)⟩ | exact ⟨hS.ldM rfl rfl, by first | rfl | assumption | exact encV_len _ | exact Enc.len _ | exact len_ub (by assumption)⟩ | exact ⟨hS.ldM (by assumption) (by first | rfl | assumption), by first | rfl | assumption | exact encV_len _ | exact Enc.len _ | exact len_ub (by assumption)⟩ | exact ⟨by assumption, by first | rfl | assumption | exact encV_len _ | exact Enc.len _ | exact len_ub (by assumption)⟩ | exact ⟨(by assumption : ∀ w', Sat _ w' _ → At w' _ _ _) _ hS, by first | rfl | assumption | exact encV_len _ | exact Enc.len _ | exact len_ub (by assumption)⟩ | exact hS.ldp | exact At.partC (by assumption) | exact At.partC ((by assumption : ∀ w', Sat _ w' _ → At w' _ _ _) _ hS))) ?_
    refine D.ev 6 rfl (by kernel_rfl) rfl hs.to (fun _ hS => E.lookupDok hS rfl rfl Tryz.underlying80 _ (by rfl)) ?_
    refine D.evP 7 rfl (by kernel_rfl) rfl (fun _ => hs.to) (fun _ => E.move rfl) ?_
    refine D.evP 8 rfl (by kernel_rfl) rfl (fun _ => hs.to) (fun _ => E.extract rfl rfl) ?_
    refine D.evP 9 rfl (by kernel_rfl) rfl (fun _ => hs.to) (fun _ => E.extract rfl rfl) ?_
    refine D.act 10 rfl (by kernel_rfl) ?_
    refine R.sallocA hs Tryz.zr50 rfl ?_
    intro b6 w6 hs
    refine D.back hs.to ?_
    refine D.act 11 rfl (by kernel_rfl) ?_
    first | refine R.cstoreAll hs rfl rfl Tryz.sz50 (by first | rfl | assumption | exact encV_len _ | exact Enc.len _ | exact len_ub (by assumption) | simp [*]) (by first | rfl | assumption | exact encV_len _ | exact Enc.len _ | exact len_ub (by assumption) | simp [*]) (by first | assumption | exact OneL.all | exact Enc.one _ | exact ub_all _ | (repeat' (first | refine List.forall_mem_cons.2 ⟨?_, ?_⟩ | exact List.forall_mem_nil _ | rfl | exact OneC.one | exact KRow.oneC' (by assumption)))) ?_ | refine R.cstore hs rfl rfl Tryz.sz50 (by first | rfl | assumption | exact encV_len _ | exact Enc.len _ | exact len_ub (by assumption) | simp [*]) (by simp [*]) (by first | assumption | exact OneL.all | exact Enc.one _ | exact ub_all _ | (repeat' (first | refine List.forall_mem_cons.2 ⟨?_, ?_⟩ | exact List.forall_mem_nil _ | rfl | exact OneC.one | exact KRow.oneC' (by assumption)))) ?_
    intro w6_11 hs
    try simp only [List.set_cons_zero, List.set_cons_succ] at hs
    refine D.backT (by kernel_rfl) ?_
    refine D.evP 12 rfl (by kernel_rfl) rfl (np (by kernel_rfl)) (fun _ => E.assign rfl) ?_
    refine D.done rfl (by kernel_rfl) ?_
    refine X.keep [(0, _), (3, _), (7, _)] ⟨rfl, rfl, rfl, trivial⟩ ?_
    refine X.next ?_
    refine C.seq ?_
    refine C.region ?_
    refine R.ev rfl (E.move rfl) ?_
    refine R.done ?_
    refine X.keep [(0, _), (3, _), (25, _)] ⟨rfl, rfl, rfl, trivial⟩ ?_
    refine X.next ?_
    refine C.cbool rfl (fun h25 => ?_) (fun h25 => ?_)
    · refine C.seq ?_
      refine C.region ?_
      refine R.ev rfl (E.assign rfl) ?_
      refine R.done ?_
      refine X.keep [(4, _)] ⟨rfl, trivial⟩ ?_
      refine X.next ?_
      refine C.ret ?_
      refine X.thenRet ?_
      refine X.ret1 rfl rfl ?_
      have hE : Hi.addE ⟨M, c⟩ x = 7 := by rw [Hi.addE, if_neg h13', if_pos h25]
      exact ⟨by rw [hE], _, by rw [Hi.addS, hE, if_neg (by decide)]; exact hw0, hs.to⟩
    · refine C.skip ?_
      refine X.next ?_
      refine C.seq ?_
      refine C.seq ?_
      refine C.region ?_
      have h25' : ¬ ((lkM M x.id).isSome = true) := by rw [h25]; decide
      refine R.ev rfl (E.move rfl) ?_
      refine R.ev rfl (E.nilCheck rfl) ?_
      first | refine R.ev rfl (E.fieldAddr0 0 rfl Tryz.underlying82 rfl Tryz.sz80 rfl) ?_ | refine R.ev rfl (E.fieldAddrN 0 rfl Tryz.underlying82 rfl Tryz.sz80 rfl) ?_
      refine R.ev rfl (E.load1 rfl Tryz.underlying80 rfl (by first | exact hs.ldc | exact hs.ld rfl | exact hs.ld (by assumption) | exact by assumption | exact At.cellC (by assumption) | exact hs.ldK rfl)) ?_
      refine R.ev rfl (E.lenM hs rfl Tryz.underlying80) ?_
      refine R.ev rfl (E.geq rfl rfl) ?_
      refine R.done ?_
      refine X.keep [(0, _), (3, _), (31, _)] ⟨rfl, rfl, rfl, trivial⟩ ?_
      refine X.next ?_
      refine C.cdec rfl (fun h31 => ?_) (fun h31 => ?_)
      · refine C.seq ?_
        refine C.region ?_
        refine R.ev rfl (E.assign rfl) ?_
        refine R.done ?_
        refine X.keep [(4, _)] ⟨rfl, trivial⟩ ?_
        refine X.next ?_
        refine C.ret ?_
        refine X.thenRet ?_
        refine X.ret1 rfl rfl ?_
        have hE : Hi.addE ⟨M, c⟩ x = 9 := by rw [Hi.addE, if_neg h13', if_neg h25', if_pos h31]
        exact ⟨by rw [hE], _, by rw [Hi.addS, hE, if_neg (by decide)]; exact hw0, hs.to⟩
      · refine C.skip ?_
        refine X.next ?_
        refine C.seq ?_
        refine C.seq ?_
        refine C.region ?_
        refine R.ev rfl (E.move rfl) ?_
        refine R.ev rfl (E.nilCheck rfl) ?_
        first | refine R.ev rfl (E.fieldAddr0 0 rfl Tryz.underlying82 rfl Tryz.sz80 rfl) ?_ | refine R.ev rfl (E.fieldAddrN 0 rfl Tryz.underlying82 rfl Tryz.sz80 rfl) ?_
        refine R.ev rfl (E.load1 rfl Tryz.underlying80 rfl (by first | exact hs.ldc | exact hs.ld rfl | exact hs.ld (by assumption) | exact by assumption | exact At.cellC (by assumption) | exact hs.ldK rfl)) ?_
        refine R.ev rfl (E.mapNilF rfl rfl Tryz.underlying80) ?_
        refine R.done ?_
        refine X.keep [(0, _), (3, _), (36, _)] ⟨rfl, rfl, rfl, trivial⟩ ?_
        refine X.next ?_
        refine C.cfalse rfl ?_
        refine C.skip ?_
        refine X.next ?_
        refine C.seq ?_
        refine C.drawn (SatS hs) ([3, 5, 6], [0, 1, 2, 4]) (by kernel_rfl) ?_
        have hs := hs.drew
        refine D.evP 0 rfl (by kernel_rfl) rfl (fun _ => hs.to) (fun _ => E.move rfl) ?_
        refine D.evP 1 rfl (by kernel_rfl) rfl (fun _ => hs.to) (fun _ => E.nilCheck rfl) ?_
        first | refine D.evP 2 rfl (by kernel_rfl) rfl (fun _ => hs.to) (fun _ => E.fieldAddr0 0 rfl Tryz.underlying82 rfl Tryz.sz80 rfl) ?_ | refine D.evP 2 rfl (by kernel_rfl) rfl (fun _ => hs.to) (fun _ => E.fieldAddrN 0 rfl Tryz.underlying82 rfl Tryz.sz80 rfl) ?_
        first | refine D.evP 4 rfl (by kernel_rfl) rfl (fun _ => hs.to) (fun _ => E.fieldAddr0 0 rfl Tryz.underlying50 rfl Tryz.sz45 rfl) ?_ | refine D.evP 4 rfl (by kernel_rfl) rfl (fun _ => hs.to) (fun _ => E.fieldAddrN 0 rfl Tryz.underlying50 rfl Tryz.sz45 rfl) ?_
        refine D.ev 3 rfl (by kernel_rfl) rfl hs.to (fun _ hS => E.load1 rfl Tryz.underlying80 rfl (by first | exact hS.ldc | exact hS.ld rfl | exact hS.ld (by assumption) | exact by assumption | exact At.cellC (by assumption) | exact hS.ldK rfl | exact At.cellC ((by assumption : ∀ w', Sat _ w' _ → At w' _ _ _) _ hS) | exact (by assumption : ∀ w', Sat _ w' _ → World.cell? w' _ = some _) _ hS)) ?_
        refine D.ev 5 rfl (by kernel_rfl) rfl hs.to (fun _ hS => E.loadRowC rfl Tryz.underlying45 rfl Tryz.sz45 (by first | exact ⟨hS.ldA, by first | rfl | assumption | exact encV_len _ | exact Enc.len _ | exact len_ub (by assumption)⟩ | exact ⟨hS.ldP rfl, by first | rfl | assumption | exact encV_len _ | exact Enc.len _ | exact len_ub (by assumption)⟩ | exact ⟨hS.ldM rfl rfl, by first | rfl | assumption | exact encV_len _ | exact Enc.len _ | exact len_ub (by assumption)⟩ | exact ⟨hS.ldM (by assumption) (by first | rfl | assumption), by first | rfl | assumption | exact encV_len _ | exact Enc.len _ | exact len_ub (by assumption)⟩ | exact ⟨by assumption, by first | rfl | assumption | exact encV_len _ | exact Enc.len _ | exact len_ub (by assumption)⟩ | exact ⟨(by assumption : ∀ w', Sat _ w' _ → At w' _ _ _) _ hS, by first | rfl | assumption | exact encV_len _ | exact Enc.len _ | exact len_ub (by assumption)⟩ | exact hS.ldp | exact At.partC (by assumption) | exact At.partC ((by assumption : ∀ w', Sat _ w' _ → At w' _ _ _) _ hS))) ?_
        refine D.ev 6 rfl (by kernel_rfl) rfl hs.to (fun _ hS => E.loadRowC rfl Tryz.underlying50 rfl Tryz.sz50 (by first | exact ⟨hS.ldA, by first | rfl | assumption | exact encV_len _ | exact Enc.len _ | exact len_ub (by assumption)⟩ | exact ⟨hS.ldP rfl, by first | rfl | assumption | exact encV_len _ | exact Enc.len _ | exact len_ub (by assumption)⟩ | exact ⟨hS.ldM rfl rfl, by first | rfl | assumption | exact encV_len _ | exact Enc.len _ | exact len_ub (by assumption)⟩ | exact ⟨hS.ldM (by assumption) (by first | rfl | assumption), by first | rfl | assumption | exact encV_len _ | exact Enc.len _ | exact len_ub (by assumption)⟩ | exact ⟨by assumption, by first | rfl | assumption | exact encV_len _ | exact Enc.len _ | exact len_ub (by assumption)⟩ | exact ⟨(by assumption : ∀ w', Sat _ w' _ → At w' _ _ _) _ hS, by first | rfl | assumption | exact encV_len _ | exact Enc.len _ | exact len_ub (by assumption)⟩ | exact hS.ldp | exact At.partC (by assumption) | exact At.partC ((by assumption : ∀ w', Sat _ w' _ → At w' _ _ _) _ hS))) ?_
        refine D.act 7 rfl (by kernel_rfl) ?_
        refine R.cput (x.id) (x) hs rfl rfl rfl Tryz.underlying80 (by rfl) (by rfl) ?_
        intro w13_7 F13_7 m13_7 hs
        refine D.backT (by kernel_rfl) ?_
        refine D.done rfl (by kernel_rfl) ?_
        refine X.keep [] trivial ?_
        refine X.next ?_
        refine C.seq ?_
        refine C.region ?_
        refine R.ev rfl (E.assign rfl) ?_
        refine R.done ?_
        refine X.keep [(4, _)] ⟨rfl, trivial⟩ ?_
        refine X.next ?_
        refine C.ret ?_
        refine X.ret1 rfl rfl ?_
        have hE : Hi.addE ⟨M, c⟩ x = 0 := by rw [Hi.addE, if_neg h13', if_neg h25', if_neg h31]
        exact ⟨by rw [hE], _, by rw [Hi.addS, hE, if_pos rfl]; exact HiL.mk' m13_7, hs.to⟩
def HEnt.gone (x : HEnt) : HEnt := { x with state := 1 }
def Hi.goneE (s : Hi) (a : Vec 32) : Int := match lkM s.M a with | none => 8 | some x => if x.state = 1 then 10 else 0
def Hi.goneS (s : Hi) (a : Vec 32) : Hi := match lkM s.M a with | none => s | some x => if x.state = 1 then s else { s with M := putM a x.gone s.M }
end Go.Proofs.YtifghjeapfijkaaGreatDoor.Hist
