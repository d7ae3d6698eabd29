/-
  Chapter 41: sets of rows: New, Has, Len, Add, Drop, IsWithdrawn.
-/
import Derived.Test.YtmjmichghfepkaaSupK
namespace Go.Eng
open Go.RowKit
section
variable {P : Program} {n : Nn} {g : Env} {w : World} {dst : Option Nat} {ty : TypeId} {pos : String} {af : Array Edge} {gu : Option (Nat × Bool)} {t t' : TypeId} {x y : Operand}
theorem E.mapNilF {kt et : TypeId} {b : Nat} (hx : look g x = some (.map (some b))) (hy : look g y = some (.map none)) (hu : P.underlying t = some (.map kt et)) : Ev P n g ⟨dst, .binOp .eql t x y t', ty, pos, af, gu⟩ w (.bool false) := fun a f => by
  have : (Op.equal t (.map (some b)) (.map none)).run P w = .ok false w := by
    show (Op.equalIn (9999 + 1) t (.map (some b)) (.map none)).run P w = _
    unfold Op.equalIn
    simp [run_underlying hu]
  simp [execOp, f.eval hx, f.eval hy, eqGuard, binOp, this]
end
end Go.Eng
namespace Go.Proofs.Ytmjmichghfepkaa
open Go.Eng Go.RowKit Go.Sort
class SuL (p : Nat) (M : outParam SMap) (F : outParam Hl) : Prop where
  ex : ∃ m G, F = row p 84 [m] ++ G ∧ MapL ekI evA m M G
class SuIn (p : Nat) (M : outParam SMap) (Hs : List Hl) : Prop where
  ex : ∃ m G, InH p (.cells [m].toArray 84 (0, 0)) Hs ∧ MapL ekI evA m M G ∧ FIn G Hs
instance {p : Nat} {M : SMap} {A : Hl} {Hs : List Hl} [h : SuIn p M Hs] : SuIn p M (A :: Hs) := ⟨by
  obtain ⟨m, G, h1, h2, h3⟩ := h.ex
  exact ⟨m, G, inferInstance, h2, inferInstance⟩⟩
instance {p : Nat} {M : SMap} {F : Hl} {Hs : List Hl} [h : SuL p M F] [k : FIn F Hs] : SuIn p M Hs := ⟨by
  obtain ⟨m, G, rfl, h1⟩ := h.ex
  exact ⟨m, G, k.app.1.row, h1, k.app.2⟩⟩
theorem SuIn.parts {p : Nat} {M : SMap} {m : Value} {G : Hl} {Hs : List Hl} [h : InH p (.cells [m].toArray 84 (0, 0)) Hs] [r : MapL ekI evA m M G] [k : FIn G Hs] : SuIn p M Hs := ⟨⟨m, G, h, r, k⟩⟩
theorem SuL.mk' {p : Nat} {M : SMap} {m : Value} {G : Hl} (k : MapL ekI evA m M G) : SuL p M (row p 84 [m] ++ G) := ⟨m, G, rfl, k⟩
variable {K : Kn} {Hs Rs : List Hl} {F : Hl} {w : World} {v : Value} {L : List RR} {p : Nat} {M : SMap}
theorem new_any (hs : Sat K w Hs) : Ret Try.prog 48 #[] w fun v w' => ∃ p F, v = ptr p ∧ SuL p [] F ∧ Sat K w' (F :: Hs) := by
  refine Ret.enter (n := 4) (args := []) Try.func48 rfl rfl ?_
  refine C.keep [] trivial ?_
  refine C.seq ?_
  refine C.region ?_
  refine R.ev rfl (E.assign rfl) ?_
  refine R.done ?_
  refine X.keep [] trivial ?_
  refine X.next ?_
  refine C.seq ?_
  refine C.region ?_
  refine R.cmake hs Try.underlying82 (evA) rfl ?_
  intro v1 w1 F1 m1 hs
  refine R.ev rfl (E.buildG (r := [v1]) rfl Try.underlying84 Try.zr84 Try.ql84 (by kernel_rfl) (by kernel_rfl) ⟨⟨_, rfl, by obtain ⟨b', _, _, rfl, _⟩ := m1.ex; rfl⟩, trivial⟩ (by obtain ⟨b', _, _, rfl, _⟩ := m1.ex; rfl)) ?_
  refine R.sboxA hs rfl rfl ?_
  intro b3 w3 hs
  refine R.ev rfl (E.assign rfl) ?_
  refine R.done ?_
  refine X.keep [(0, _)] ⟨rfl, trivial⟩ ?_
  refine X.next ?_
  refine C.ret ?_
  refine X.ret1 rfl rfl ?_
  exact ⟨b3, _, rfl, SuL.mk' m1, hs.to⟩
theorem len_any (hs : Sat K w Hs) [hw : SuIn p M Hs] : Ret Try.prog 36 #[ptr p] w fun r w' => r = .int .i64 M.length ∧ Sat K w' Hs := by
  obtain ⟨m, G, _, hm, _⟩ := hw.ex
  refine Ret.enter (n := 10) (args := [ptr p]) Try.func36 rfl rfl ?_
  refine C.keep [(0, _)] ⟨rfl, trivial⟩ ?_
  refine C.seq ?_
  refine C.region ?_
  refine R.ev rfl (E.assign rfl) ?_
  refine R.done ?_
  refine X.keep [(0, _)] ⟨rfl, trivial⟩ ?_
  refine X.next ?_
  refine C.seq ?_
  refine C.seq ?_
  refine C.region ?_
  refine R.ev rfl (E.move rfl) ?_
  refine R.ev rfl (E.eqlNilF rfl rfl Try.underlying54) ?_
  refine R.done ?_
  refine X.keep [(0, _), (4, _)] ⟨rfl, rfl, trivial⟩ ?_
  refine X.next ?_
  refine C.cfalse rfl ?_
  refine C.skip ?_
  refine X.next ?_
  refine C.seq ?_
  refine C.region ?_
  refine R.ev rfl (E.move rfl) ?_
  refine R.ev rfl (E.nilCheck rfl) ?_
  refine R.ev rfl (E.fieldAddr0 0 rfl Try.underlying84 rfl Try.sz82 rfl) ?_
  refine R.ev rfl (E.load1 rfl Try.underlying82 rfl (by exact hs.ld rfl)) ?_
  refine R.ev rfl (E.lenM hs rfl Try.underlying82) ?_
  refine R.ev rfl (E.assign rfl) ?_
  refine R.done ?_
  refine X.keep [(2, _)] ⟨rfl, trivial⟩ ?_
  refine X.next ?_
  refine C.ret ?_
  refine X.ret1 rfl rfl ?_
  exact ⟨rfl, hs⟩
theorem has_any (a : Vec 32) (hs : Sat K w Hs) [hw : SuIn p M Hs] : Ret Try.prog 32 #[ptr p, idV a.1] w fun r w' => r = .bool (lkM M a).isSome ∧ Sat K w' Hs := by
  obtain ⟨m, G, _, hm, _⟩ := hw.ex
  have e1 := encV_len a
  refine Ret.enter (n := 19) (args := [ptr p, idV a.1]) Try.func32 rfl rfl ?_
  refine C.keep [(0, _), (1, _)] ⟨rfl, rfl, trivial⟩ ?_
  refine C.seq ?_
  refine C.region ?_
  refine R.sboxA hs rfl rfl ?_
  intro b3 w3 hs
  refine R.ev rfl (E.assign rfl) ?_
  refine R.done ?_
  refine X.keep [(0, _), (3, _)] ⟨rfl, rfl, trivial⟩ ?_
  refine X.next ?_
  refine C.seq ?_
  refine C.seq ?_
  refine C.region ?_
  refine R.ev rfl (E.move rfl) ?_
  refine R.ev rfl (E.eqlNilF rfl rfl Try.underlying54) ?_
  refine R.done ?_
  refine X.keep [(0, _), (3, _), (8, _)] ⟨rfl, rfl, rfl, trivial⟩ ?_
  refine X.next ?_
  refine C.cfalse rfl ?_
  refine C.skip ?_
  refine X.next ?_
  refine C.seq ?_
  refine C.drawn (SatS hs) ([3, 4, 5], [0, 1, 2, 6, 7, 8, 11]) (by kernel_rfl) ?_
  have hs := hs.drew
  refine D.evP 0 rfl (by kernel_rfl) rfl (fun _ => hs.to) (fun _ => E.move rfl) ?_
  refine D.evP 1 rfl (by kernel_rfl) rfl (fun _ => hs.to) (fun _ => E.nilCheck rfl) ?_
  refine D.evP 2 rfl (by kernel_rfl) rfl (fun _ => hs.to) (fun _ => E.fieldAddr0 0 rfl Try.underlying84 rfl Try.sz82 rfl) ?_
  refine D.ev 3 rfl (by kernel_rfl) rfl hs.to (fun _ hS => E.load1 rfl Try.underlying82 rfl (by exact hS.ld rfl)) ?_
  refine D.ev 4 rfl (by kernel_rfl) rfl hs.to (fun _ hS => E.loadRowC rfl Try.underlying37 rfl Try.sz37 (by exact ⟨hS.ldA, by assumption⟩)) ?_
  refine D.ev 5 rfl (by kernel_rfl) rfl hs.to (fun _ hS => E.lookupDok hS rfl rfl Try.underlying82 _ (by rfl)) ?_
  refine D.evP 6 rfl (by kernel_rfl) rfl (fun _ => hs.to) (fun _ => E.move rfl) ?_
  refine D.evP 7 rfl (by kernel_rfl) rfl (fun _ => hs.to) (fun _ => E.extract rfl rfl) ?_
  refine D.evP 8 rfl (by kernel_rfl) rfl (fun _ => hs.to) (fun _ => E.extract rfl rfl) ?_
  refine D.act 9 rfl (by kernel_rfl) ?_
  refine R.sallocA hs Try.zr42 rfl ?_
  intro b5 w5 hs
  refine D.back hs.to ?_
  refine D.act 10 rfl (by kernel_rfl) ?_
  refine R.cstoreAll hs rfl rfl Try.sz42 (by rfl) (by exact Enc.len _) (by exact Enc.one _) ?_
  intro w3_10 hs
  try simp only [List.set_cons_zero, List.set_cons_succ] at hs
  refine D.backT (by kernel_rfl) ?_
  refine D.evP 11 rfl (by kernel_rfl) rfl (np (by kernel_rfl)) (fun _ => E.assign rfl) ?_
  refine D.done rfl (by kernel_rfl) ?_
  refine X.keep [(6, _)] ⟨rfl, trivial⟩ ?_
  refine X.next ?_
  refine C.seq ?_
  refine C.region ?_
  refine R.ev rfl (E.move rfl) ?_
  refine R.ev rfl (E.assign rfl) ?_
  refine R.done ?_
  refine X.keep [(4, _)] ⟨rfl, trivial⟩ ?_
  refine X.next ?_
  refine C.ret ?_
  refine X.ret1 rfl rfl ?_
  exact ⟨rfl, hs.to⟩
theorem cloneS_any {K : Kn} {Hs : List Hl} {L : List (List UInt8)} {ad : Option Addr} {n c : Nat} {w : World} (hs : Sat K w Hs) [hrd : Rd encS 1 K Hs (.slice ad n c) L] (hn : n ≤ 1000000) :
    Ret Try.prog 68 #[.slice ad n c] w fun v w' => ∃ F, RowL 9 encS 1 v L F ∧ Sat K w' (F :: Hs) := by
  have hln := hrd.len
  refine Ret.enter (n := 8) (args := [.slice ad n c]) Try.func68 rfl rfl ?_
  refine C.keep [(0, _)] ⟨rfl, trivial⟩ ?_
  refine C.seq ?_
  refine C.region ?_
  refine R.ev rfl (E.assign rfl) ?_
  refine R.done ?_
  refine X.keep [(0, _)] ⟨rfl, trivial⟩ ?_
  refine X.next ?_
  refine C.seq ?_
  refine C.seq ?_
  refine C.region ?_
  refine R.ev rfl (E.move rfl) ?_
  refine R.ev rfl (E.eqlNilS rfl rfl Try.underlying39) ?_
  refine R.done ?_
  refine X.keep [(0, _), (4, _)] ⟨rfl, rfl, trivial⟩ ?_
  refine X.next ?_
  refine C.cbool rfl (fun h4 => ?_) (fun h4 => ?_)
  refine C.seq ?_
  refine C.region ?_
  refine R.ev rfl (E.assign rfl) ?_
  refine R.done ?_
  refine X.keep [(2, _)] ⟨rfl, trivial⟩ ?_
  refine X.next ?_
  refine C.ret ?_
  refine X.thenRet ?_
  refine X.ret1 rfl rfl ?_
  have hL : L = [] := by
    by_cases hL : L = []
    · exact hL
    · obtain ⟨b, off, rfl, _⟩ := (hrd.sl _ hs).at_ hL
      simp at h4
  subst hL
  exact ⟨[], RowL.nil _ _ _, hs.nil⟩
  refine C.skip ?_
  refine X.next ?_
  refine C.seq ?_
  refine C.region ?_
  refine R.sbuild0 (enc := encS) hs Try.underlying39 Try.sz9 rfl ?_
  intro v5 w5 F5 r5 nn5 hs
  refine R.ev rfl (E.move rfl) ?_
  refine R.cappSl hs rfl rfl Try.underlying39 Try.by9 (by rfl) rfl (by decide) (by (simp only [List.length_append, List.length_cons, List.length_nil] at *; omega)) (by (simp only [List.length_append, List.length_cons, List.length_nil] at *; omega)) ?_
  intro v7 w7 F7 r7 hs
  refine R.ev rfl (E.assign rfl) ?_
  refine R.done ?_
  refine X.keep [(2, _)] ⟨rfl, trivial⟩ ?_
  refine X.next ?_
  refine C.ret ?_
  refine X.ret1 rfl rfl ?_
  exact ⟨F7, by simpa using r7, hs⟩
theorem cloneN_any (hs : Sat K w Hs) : Ret Try.prog 69 #[.slice none 0 0] w fun v w' => v = .slice none 0 0 ∧ Sat K w' Hs := by
  refine Ret.enter (n := 8) (args := [.slice none 0 0]) Try.func69 rfl rfl ?_
  refine C.keep [(0, _)] ⟨rfl, trivial⟩ ?_
  refine C.seq ?_
  refine C.region ?_
  refine R.ev rfl (E.assign rfl) ?_
  refine R.done ?_
  refine X.keep [(0, _)] ⟨rfl, trivial⟩ ?_
  refine X.next ?_
  refine C.seq ?_
  refine C.seq ?_
  refine C.region ?_
  refine R.ev rfl (E.move rfl) ?_
  refine R.ev rfl (E.eqlNilS rfl rfl Try.underlying40) ?_
  refine R.done ?_
  refine X.keep [(0, _), (4, _)] ⟨rfl, rfl, trivial⟩ ?_
  refine X.next ?_
  refine C.ctrue rfl ?_
  refine C.seq ?_
  refine C.region ?_
  refine R.ev rfl (E.assign rfl) ?_
  refine R.done ?_
  refine X.keep [(2, _)] ⟨rfl, trivial⟩ ?_
  refine X.next ?_
  refine C.ret ?_
  refine X.thenRet ?_
  refine X.ret1 rfl rfl ?_
  exact ⟨rfl, hs⟩
theorem encA_refs (y : RA) : (encA y).set 50 (.slice none 0 0) = encA y := by
  simp [encA, y.x.id.2, y.x.au.2, List.set_append]
theorem cloneRow_any {y : RA} (hg : GOk K y) (hs : Sat K w Hs) : Ret Try.prog 51 #[evA y] w fun v w' => ∃ K' z, v = evA z ∧ z.x = y.x ∧ KLe K K' ∧ GOk K' z ∧ Sat K' w' Hs := by
  have hk : KRow encS 1 K y.gv (grp y.x.g) := hg
  have hl := grp_len y.x.g
  have hp := hk.parts
  refine Ret.enter (n := 12) (args := [evA y]) Try.func51 rfl rfl ?_
  refine C.keep [(0, _)] ⟨rfl, trivial⟩ ?_
  refine C.seq ?_
  refine C.region ?_
  refine R.sboxA hs rfl rfl ?_
  intro b1 w1 hs
  refine R.sallocA hs Try.zr42 rfl ?_
  intro b2 w2 hs
  refine R.done ?_
  refine X.keep [(1, _), (2, _)] ⟨rfl, rfl, trivial⟩ ?_
  refine X.next ?_
  refine C.seq ?_
  refine C.drawn (SatS hs) ([1, 4], [0, 3, 6, 8]) (by kernel_rfl) ?_
  have hs := hs.drew
  refine D.evP 0 rfl (by kernel_rfl) rfl (fun _ => hs.to) (fun _ => E.fieldAddr0 49 rfl Try.underlying42 rfl Try.sz39 rfl) ?_
  refine D.evP 3 rfl (by kernel_rfl) rfl (fun _ => hs.to) (fun _ => E.fieldAddr0 50 rfl Try.underlying42 rfl Try.sz40 rfl) ?_
  refine D.ev 1 rfl (by kernel_rfl) rfl hs.to (fun _ hS => E.load1 rfl Try.underlying39 rfl (by exact hS.ldc)) ?_
  refine D.ev 4 rfl (by kernel_rfl) rfl hs.to (fun _ hS => E.load1 rfl Try.underlying40 rfl (by exact hS.ldc)) ?_
  refine D.act 2 rfl (by kernel_rfl) ?_
  refine R.call ⟨_, _, Try.func68, rfl, by kernel_rfl⟩ rfl rfl (cloneS_any (L := grp y.x.g) hs (by omega)) ?_
  rintro v5 w5 ⟨F5, r5, hs⟩
  obtain ⟨ad5, cap5, he5, _⟩ := r5.val
  refine D.back hs.to ?_
  refine D.evP 6 rfl (by kernel_rfl) rfl (fun _ => hs.to) (fun _ => E.fieldAddr0 49 rfl Try.underlying42 rfl Try.sz39 rfl) ?_
  refine D.act 5 rfl (by kernel_rfl) ?_
  refine R.call ⟨_, _, Try.func69, rfl, by kernel_rfl⟩ rfl rfl (cloneN_any hs) ?_
  rintro _ w8 ⟨rfl, hs⟩
  refine D.backT (by kernel_rfl) ?_
  refine D.act 7 rfl (by kernel_rfl) ?_
  refine R.cstore1 hs rfl rfl Try.sz39 (by rw [Enc.len]; decide) (RowL.oneC (h := r5)) ?_
  intro w17 hs
  rw [encA_set y.x v5 he5 y rfl] at hs
  refine D.backT (by kernel_rfl) ?_
  refine D.evP 8 rfl (by kernel_rfl) rfl (np (by kernel_rfl)) (fun _ => E.fieldAddr0 50 rfl Try.underlying42 rfl Try.sz40 rfl) ?_
  refine D.act 9 rfl (by kernel_rfl) ?_
  refine R.cstore1 hs rfl rfl Try.sz40 (by rw [Enc.len]; decide) rfl ?_
  intro w19 hs
  rw [encA_refs] at hs
  refine D.backT (by kernel_rfl) ?_
  refine D.done rfl (by kernel_rfl) ?_
  refine X.keep [(1, _), (2, _)] ⟨rfl, rfl, trivial⟩ ?_
  refine X.next ?_
  refine C.seq ?_
  refine C.region ?_
  refine R.ev rfl (E.loadRowC rfl Try.underlying42 rfl Try.sz42 (by exact ⟨hs.ldA, by exact Enc.len _⟩)) ?_
  refine R.cstoreAll hs rfl rfl Try.sz42 (by rfl) (by exact Enc.len _) (by exact Enc.one _) ?_
  intro w2_1 hs
  try simp only [List.set_cons_zero, List.set_cons_succ] at hs
  refine R.done ?_
  refine X.keep [(2, _)] ⟨rfl, trivial⟩ ?_
  refine X.next ?_
  refine C.ret ?_
  refine X.resC rfl rfl Try.underlying42 rfl Try.sz42 (by exact ⟨hs.ldA, by exact Enc.len _⟩) ?_
  obtain ⟨K', hk', rr, hs⟩ := r5.freezeK (hs.front (F := F5))
  exact ⟨K', ⟨y.x, ad5, _, cap5⟩, rfl, rfl, hk', by unfold GOk; rw [he5] at rr; exact rr, hs.to⟩
def rAddE (L : List RR) (x : RR) : Int := if isMin x.date = false then 13 else if hasId x.id L then 7 else if 4096 ≤ L.length then 9 else 0
def rAddL (L : List RR) (x : RR) : List RR := if rAddE L x = 0 then L ++ [x] else L
theorem rAddE_0 {x : RR} (h : rAddE L x = 0) : isMin x.date = true ∧ hasId x.id L = false := by
  unfold rAddE at h
  split at h
  · simp at h
  · rename_i h1
    split at h
    · simp at h
    · rename_i h2; exact ⟨by simpa using h1, by simpa using h2⟩
def AddP (K : Kn) (Rs : List Hl) (p : Nat) (L : List RR) (w' : World) : Prop := ∃ K' M' F', KLe K K' ∧ SInv M' L ∧ GAll K' M' ∧ SuL p M' F' ∧ Sat K' w' (F' :: Rs)
theorem add_any {y : RA} (hg : GOk K y) (hI : SInv M L) (hG : GAll K M) (hs : Sat K w (F :: Rs)) [hw : SuL p M F] : Ret Try.prog 29 #[ptr p, evA y] w fun r w' => r = .int .i64 (rAddE L y.x) ∧ AddP K Rs p (rAddL L y.x) w' := by
  have hw0 := hw
  obtain ⟨m, G, hF, hm⟩ := hw.ex
  obtain ⟨bm, _, _, rfl, _⟩ := hm.ex
  subst hF
  have hs := hs.cut
  have hlen := hI.len
  have hsame : ∀ {w'}, rAddE L y.x ≠ 0 → Sat K w' ((row p 84 [.map (some bm)] ++ G) :: Rs) → AddP K Rs p (rAddL L y.x) w' := fun h1 h2 => ⟨K, M, _, KLe.refl K, by rw [rAddL, if_neg h1]; exact hI, hG, hw0, h2⟩
  refine Ret.enter (n := 41) (args := [ptr p, evA y]) Try.func29 rfl rfl ?_
  refine C.keep [(0, _), (1, _)] ⟨rfl, rfl, trivial⟩ ?_
  refine C.seq ?_
  refine C.region ?_
  refine R.sboxA hs rfl rfl ?_
  intro b3 w3 hs
  refine R.ev rfl (E.assign rfl) ?_
  refine R.done ?_
  refine X.keep [(0, _), (3, _)] ⟨rfl, rfl, trivial⟩ ?_
  refine X.next ?_
  refine C.seq ?_
  refine C.block ?_
  refine C.seq ?_
  refine C.region ?_
  refine R.ev rfl (E.move rfl) ?_
  refine R.ev rfl (E.eqlNilF rfl rfl Try.underlying54) ?_
  refine R.ev rfl (E.assign rfl) ?_
  refine R.done ?_
  refine X.keep [(0, _), (3, _), (5, _)] ⟨rfl, rfl, rfl, trivial⟩ ?_
  refine X.next ?_
  refine C.cfalse rfl ?_
  refine C.seq ?_
  refine C.region ?_
  refine R.ev rfl (E.loadRowC rfl Try.underlying42 rfl Try.sz42 (by exact ⟨hs.ldA, by exact Enc.len _⟩)) ?_
  refine R.call ⟨_, _, Try.func43, rfl, by kernel_rfl⟩ rfl rfl (isDate_any y hs) ?_
  rintro _ w3 ⟨rfl, hs⟩
  refine R.ev rfl ((E.not rfl).isB (c := !(isMin y.x.date)) rfl) ?_
  refine R.ev rfl (E.assign rfl) ?_
  refine R.done ?_
  refine X.keep [(0, _), (3, _), (8, _)] ⟨rfl, rfl, rfl, trivial⟩ ?_
  refine X.next ?_
  refine C.cbool rfl (fun h8 => ?_) (fun h8 => ?_)
  refine C.seq ?_
  refine C.region ?_
  refine R.ev rfl (E.assign rfl) ?_
  refine R.done ?_
  refine X.keep [(4, _)] ⟨rfl, trivial⟩ ?_
  refine X.next ?_
  refine C.ret ?_
  refine X.blockRet ?_
  refine X.thenRet ?_
  refine X.ret1 rfl rfl ?_
  have e : rAddE L y.x = 13 := by rw [rAddE, if_pos (by simpa using h8)]
  exact ⟨by rw [e], hsame (by rw [e]; decide) hs.to⟩
  refine C.seq ?_
  refine C.region ?_
  have hmn : ¬ isMin y.x.date = false := by simpa using h8
  have : SuIn p M (row b3 42 (encA y) :: row p 84 [.map (some bm)] :: G :: Rs) := SuIn.parts (m := .map (some bm)) (G := G)
  refine R.ev rfl (E.move rfl) ?_
  refine R.ev rfl (E.fieldAddr0 0 rfl Try.underlying42 rfl Try.sz37 rfl) ?_
  refine R.ev rfl (E.loadRowC rfl Try.underlying37 rfl Try.sz37 (by exact ⟨hs.ldP rfl, by exact encV_len _⟩)) ?_
  refine R.call ⟨_, _, Try.func32, rfl, by kernel_rfl⟩ rfl rfl (has_any y.x.id hs) ?_
  rintro _ w5 ⟨rfl, hs⟩
  rw [hI.has]
  refine R.ev rfl (E.assign rfl) ?_
  refine R.done ?_
  refine X.keep [(0, _), (3, _), (12, _)] ⟨rfl, rfl, rfl, trivial⟩ ?_
  refine X.next ?_
  refine C.cbool rfl (fun h12 => ?_) (fun h12 => ?_)
  refine C.seq ?_
  refine C.region ?_
  refine R.ev rfl (E.assign rfl) ?_
  refine R.done ?_
  refine X.keep [(4, _)] ⟨rfl, trivial⟩ ?_
  refine X.next ?_
  refine C.ret ?_
  refine X.blockRet ?_
  refine X.thenRet ?_
  refine X.ret1 rfl rfl ?_
  have e : rAddE L y.x = 7 := by rw [rAddE, if_neg hmn, if_pos h12]
  exact ⟨by rw [e], hsame (by rw [e]; decide) hs.to⟩
  refine C.seq ?_
  refine C.region ?_
  refine R.ev rfl (E.move rfl) ?_
  refine R.ev rfl (E.nilCheck rfl) ?_
  refine R.ev rfl (E.fieldAddr0 0 rfl Try.underlying84 rfl Try.sz82 rfl) ?_
  refine R.ev rfl (E.load1 rfl Try.underlying82 rfl (by exact hs.ld rfl)) ?_
  refine R.ev rfl (E.lenM hs rfl Try.underlying82) ?_
  refine R.ev rfl (E.geq rfl rfl) ?_
  refine R.ev rfl (E.assign rfl) ?_
  refine R.done ?_
  refine X.keep [(0, _), (3, _), (17, _)] ⟨rfl, rfl, rfl, trivial⟩ ?_
  refine X.next ?_
  refine C.cdec rfl (fun h17 => ?_) (fun h17 => ?_)
  refine C.seq ?_
  refine C.region ?_
  refine R.ev rfl (E.assign rfl) ?_
  refine R.done ?_
  refine X.keep [(4, _)] ⟨rfl, trivial⟩ ?_
  refine X.next ?_
  refine C.ret ?_
  refine X.blockRet ?_
  refine X.thenRet ?_
  refine X.ret1 rfl rfl ?_
  have e : rAddE L y.x = 9 := by rw [rAddE, if_neg hmn, if_neg (by rw [h12]; decide), if_pos (by omega)]
  exact ⟨by rw [e], hsame (by rw [e]; decide) hs.to⟩
  refine C.skip ?_
  refine X.blockNormal ?_
  refine X.next ?_
  refine C.seq ?_
  refine C.seq ?_
  refine C.region ?_
  have e : rAddE L y.x = 0 := by rw [rAddE, if_neg hmn, if_neg (by rw [h12]; decide), if_neg (by omega)]
  refine R.ev rfl (E.move rfl) ?_
  refine R.ev rfl (E.nilCheck rfl) ?_
  refine R.ev rfl (E.fieldAddr0 0 rfl Try.underlying84 rfl Try.sz82 rfl) ?_
  refine R.ev rfl (E.load1 rfl Try.underlying82 rfl (by exact hs.ld rfl)) ?_
  refine R.ev rfl (E.mapNilF rfl rfl Try.underlying82) ?_
  refine R.done ?_
  refine X.keep [(0, _), (3, _), (28, _)] ⟨rfl, rfl, rfl, trivial⟩ ?_
  refine X.next ?_
  refine C.cfalse rfl ?_
  refine C.skip ?_
  refine X.next ?_
  refine C.seq ?_
  refine C.drawn (SatS hs) ([3, 5, 6], [0, 1, 2, 4]) (by kernel_rfl) ?_
  have hs := hs.drew
  refine D.evP 0 rfl (by kernel_rfl) rfl (fun _ => hs.to) (fun _ => E.move rfl) ?_
  refine D.evP 1 rfl (by kernel_rfl) rfl (fun _ => hs.to) (fun _ => E.nilCheck rfl) ?_
  refine D.evP 2 rfl (by kernel_rfl) rfl (fun _ => hs.to) (fun _ => E.fieldAddr0 0 rfl Try.underlying84 rfl Try.sz82 rfl) ?_
  refine D.evP 4 rfl (by kernel_rfl) rfl (fun _ => hs.to) (fun _ => E.fieldAddr0 0 rfl Try.underlying42 rfl Try.sz37 rfl) ?_
  refine D.ev 3 rfl (by kernel_rfl) rfl hs.to (fun _ hS => E.load1 rfl Try.underlying82 rfl (by exact hS.ld rfl)) ?_
  refine D.ev 5 rfl (by kernel_rfl) rfl hs.to (fun _ hS => E.loadRowC rfl Try.underlying37 rfl Try.sz37 (by exact ⟨hS.ldP rfl, by exact encV_len _⟩)) ?_
  refine D.ev 6 rfl (by kernel_rfl) rfl hs.to (fun _ hS => E.loadRowC rfl Try.underlying42 rfl Try.sz42 (by exact ⟨hS.ldA, by exact Enc.len _⟩)) ?_
  refine D.act 7 rfl (by kernel_rfl) ?_
  refine R.call ⟨_, _, Try.func51, rfl, by kernel_rfl⟩ rfl rfl (cloneRow_any hg hs) ?_
  rintro _ w11 ⟨K11, z, rfl, hzx, hk11, hgz, hs⟩
  refine D.back (hs.less hk11.le).to ?_
  refine D.act 8 rfl (by kernel_rfl) ?_
  refine R.cput (y.x.id) (z) hs rfl rfl rfl Try.underlying82 (by rfl) (by rfl) ?_
  intro w11_8 F11_8 m11_8 hs
  refine D.backT (by kernel_rfl) ?_
  refine D.done rfl (by kernel_rfl) ?_
  refine X.keep [] trivial ?_
  refine X.next ?_
  refine C.seq ?_
  refine C.region ?_
  refine R.ev rfl (E.assign rfl) ?_
  refine R.done ?_
  refine X.keep [(4, _)] ⟨rfl, trivial⟩ ?_
  refine X.next ?_
  refine C.ret ?_
  refine X.ret1 rfl rfl ?_
  have hA := hI.add (y := z) (by rw [hzx]; exact h12) (by rw [hzx]; simpa using hmn)
  have hP := (hG.mono hk11).put (y := z) (by rw [hI.keys, hzx]; exact hasId_false.1 h12) hgz
  rw [hzx] at hA hP
  exact ⟨by rw [e], K11, _, _, hk11, by rw [rAddL, if_pos e]; exact hA, hP, SuL.mk' m11_8, hs.to⟩
def rDropE (L : List RR) (a : Vec 32) : Int := if hasId a L then 0 else 8
theorem delL_no {a : Vec 32} : ∀ {L : List RR}, hasId a L = false → delL a L = L
  | [], _ => rfl
  | x :: l, h => by
    simp only [hasId, List.any_cons, Bool.or_eq_false_iff, decide_eq_false_iff_not] at h
    rw [delL, if_neg h.1, delL_no h.2]
theorem drop_any (a : Vec 32) (hI : SInv M L) (hG : GAll K M) (hs : Sat K w (F :: Rs)) [hw : SuL p M F] : Ret Try.prog 31 #[ptr p, idV a.1] w fun r w' => r = .int .i64 (rDropE L a) ∧ ∃ M' F', SInv M' (delL a L) ∧ GAll K M' ∧ SuL p M' F' ∧ Sat K w' (F' :: Rs) := by
  have hw0 := hw
  obtain ⟨m, G, hF, hm⟩ := hw.ex
  subst hF
  have hs := hs.cut
  have e1 := encV_len a
  refine Ret.enter (n := 18) (args := [ptr p, idV a.1]) Try.func31 rfl rfl ?_
  refine C.keep [(0, _), (1, _)] ⟨rfl, rfl, trivial⟩ ?_
  refine C.seq ?_
  refine C.region ?_
  refine R.sboxA hs rfl rfl ?_
  intro b3 w3 hs
  refine R.ev rfl (E.assign rfl) ?_
  refine R.done ?_
  refine X.keep [(0, _), (3, _)] ⟨rfl, rfl, trivial⟩ ?_
  refine X.next ?_
  refine C.seq ?_
  refine C.block ?_
  refine C.seq ?_
  refine C.region ?_
  refine R.ev rfl (E.move rfl) ?_
  refine R.ev rfl (E.eqlNilF rfl rfl Try.underlying54) ?_
  refine R.ev rfl (E.assign rfl) ?_
  refine R.done ?_
  refine X.keep [(0, _), (3, _), (5, _)] ⟨rfl, rfl, rfl, trivial⟩ ?_
  refine X.next ?_
  refine C.cfalse rfl ?_
  refine C.seq ?_
  refine C.region ?_
  have : SuIn p M (row b3 37 (a.1.map ub) :: row p 84 [m] :: G :: Rs) := SuIn.parts (m := m) (G := G)
  refine R.ev rfl (E.move rfl) ?_
  refine R.ev rfl (E.loadRowC rfl Try.underlying37 rfl Try.sz37 (by exact ⟨hs.ldA, by assumption⟩)) ?_
  refine R.call ⟨_, _, Try.func32, rfl, by kernel_rfl⟩ rfl rfl (has_any a hs) ?_
  rintro _ w3 ⟨rfl, hs⟩
  rw [hI.has]
  refine R.ev rfl ((E.not rfl).isB (c := !(hasId a L)) rfl) ?_
  refine R.ev rfl (E.assign rfl) ?_
  refine R.done ?_
  refine X.keep [(0, _), (3, _), (8, _)] ⟨rfl, rfl, rfl, trivial⟩ ?_
  refine X.next ?_
  refine C.cbool rfl (fun h8 => ?_) (fun h8 => ?_)
  refine C.seq ?_
  refine C.region ?_
  refine R.ev rfl (E.assign rfl) ?_
  refine R.done ?_
  refine X.keep [(4, _)] ⟨rfl, trivial⟩ ?_
  refine X.next ?_
  refine C.ret ?_
  refine X.blockRet ?_
  refine X.thenRet ?_
  refine X.ret1 rfl rfl ?_
  have h0 : hasId a L = false := by simpa using h8
  exact ⟨by rw [rDropE, if_neg (by rw [h0]; decide)], M, _, by rw [delL_no h0]; exact hI, hG, hw0, hs.to⟩
  refine C.skip ?_
  refine X.blockNormal ?_
  refine X.next ?_
  refine C.seq ?_
  refine C.drawn (SatS hs) ([3, 4], [0, 1, 2]) (by kernel_rfl) ?_
  have hs := hs.drew
  refine D.evP 0 rfl (by kernel_rfl) rfl (fun _ => hs.to) (fun _ => E.move rfl) ?_
  refine D.evP 1 rfl (by kernel_rfl) rfl (fun _ => hs.to) (fun _ => E.nilCheck rfl) ?_
  refine D.evP 2 rfl (by kernel_rfl) rfl (fun _ => hs.to) (fun _ => E.fieldAddr0 0 rfl Try.underlying84 rfl Try.sz82 rfl) ?_
  refine D.ev 3 rfl (by kernel_rfl) rfl hs.to (fun _ hS => E.load1 rfl Try.underlying82 rfl (by exact hS.ld rfl)) ?_
  refine D.ev 4 rfl (by kernel_rfl) rfl hs.to (fun _ hS => E.loadRowC rfl Try.underlying37 rfl Try.sz37 (by exact ⟨hS.ldA, by assumption⟩)) ?_
  refine D.act 5 rfl (by kernel_rfl) ?_
  refine R.cdel (a) hs rfl rfl Try.underlying82 (by rfl) ?_
  intro w5_5 F5_5 m5_5 hs
  refine D.backT (by kernel_rfl) ?_
  refine D.done rfl (by kernel_rfl) ?_
  refine X.keep [] trivial ?_
  refine X.next ?_
  refine C.seq ?_
  refine C.region ?_
  refine R.ev rfl (E.assign rfl) ?_
  refine R.done ?_
  refine X.keep [(4, _)] ⟨rfl, trivial⟩ ?_
  refine X.next ?_
  refine C.ret ?_
  refine X.ret1 rfl rfl ?_
  exact ⟨by rw [rDropE, if_pos (by simpa using h8)], _, _, hI.del a, hG.del a, SuL.mk' m5_5, hs.to⟩
def wdId (L : List RR) (a : Vec 32) : Bool := match L.find? (rIs a) with | none => false | some x => wd L x
theorem findR {a : Vec 32} (hn : (L.map RR.id).Nodup) {x : RR} (hx : x ∈ L) (ha : x.id = a) : L.find? (rIs a) = some x := by
  cases e : L.find? (rIs a) with
  | none =>
    have := List.find?_eq_none.1 e x hx
    simp [rIs, ha] at this
  | some y =>
    have h0 : rIs a y = true := List.find?_some e
    have h1 : y.id = a := of_decide_eq_true h0
    rw [id_inj hn hx (List.mem_of_find?_eq_some e) (by rw [ha, h1])]
theorem findN {a : Vec 32} (h : hasId a L = false) : L.find? (rIs a) = none := by
  rw [List.find?_eq_none]
  intro x hx
  rw [hasId, List.any_eq_false] at h
  exact h x hx
theorem any_map_x (hI : SInv M L) (q : RR → Bool) : M.any (fun z => q z.2.x) = L.any q := by
  have := hI.xs
  rw [← this, List.any_map]; rfl
theorem isWd_any (a : Vec 32) (hI : SInv M L) (hG : GAll K M) (hs : Sat K w Hs) [hw : SuIn p M Hs] : Ret Try.prog 27 #[ptr p, idV a.1] w fun r w' => r = .bool (wdId L a) ∧ Sat K w' Hs := by
  obtain ⟨m, G, _, hm, hGi⟩ := hw.ex
  obtain ⟨b, es, clock, rfl, rfl, hr⟩ := hm.ex
  have hb : InH b (.map es clock) Hs := ⟨hGi.sub _ (by simp)⟩
  have e1 := encV_len a
  refine Ret.enter (n := 35) (args := [ptr p, idV a.1]) Try.func27 rfl rfl ?_
  refine C.keep [(0, _), (1, _)] ⟨rfl, rfl, trivial⟩ ?_
  refine C.seq ?_
  refine C.region ?_
  refine R.sboxA hs rfl rfl ?_
  intro b3 w3 hs
  refine R.ev rfl (E.assign rfl) ?_
  refine R.done ?_
  refine X.keep [(0, _), (3, _)] ⟨rfl, rfl, trivial⟩ ?_
  refine X.next ?_
  refine C.seq ?_
  refine C.seq ?_
  refine C.region ?_
  refine R.ev rfl (E.move rfl) ?_
  refine R.ev rfl (E.loadRowC rfl Try.underlying37 rfl Try.sz37 (by exact ⟨hs.ldA, by assumption⟩)) ?_
  refine R.call ⟨_, _, Try.func32, rfl, by kernel_rfl⟩ rfl rfl (has_any a hs) ?_
  rintro _ w1 ⟨rfl, hs⟩
  refine R.ev rfl ((E.not rfl).isB (c := !((lkM M a).isSome)) rfl) ?_
  refine R.done ?_
  refine X.keep [(0, _), (3, _), (11, _)] ⟨rfl, rfl, rfl, trivial⟩ ?_
  refine X.next ?_
  refine C.cbool rfl (fun h11 => ?_) (fun h11 => ?_)
  refine C.seq ?_
  refine C.region ?_
  refine R.ev rfl (E.assign rfl) ?_
  refine R.done ?_
  refine X.keep [(4, _)] ⟨rfl, trivial⟩ ?_
  refine X.next ?_
  refine C.ret ?_
  refine X.thenRet ?_
  refine X.ret1 rfl rfl ?_
  have h0 : hasId a L = false := by rw [← hI.has]; simpa using h11
  exact ⟨by rw [wdId, findN h0], hs.to⟩
  refine C.skip ?_
  refine X.next ?_
  refine C.seq ?_
  refine C.drawn (SatS hs) ([3, 4, 5], [0, 1, 2]) (by kernel_rfl) ?_
  have hs := hs.drew
  obtain ⟨x, hx⟩ : ∃ x, lkM M a = some x := Option.isSome_iff_exists.1 (by simpa using h11)
  obtain ⟨hxa, hxL⟩ := hI.lkSome hx
  have hgx : GOk K x := hG _ (lkM_mem hx)
  have hwd : wdId L a = wd L x.x := by rw [wdId, findR hI.nd hxL hxa]
  refine D.evP 0 rfl (by kernel_rfl) rfl (fun _ => hs.to) (fun _ => E.move rfl) ?_
  refine D.evP 1 rfl (by kernel_rfl) rfl (fun _ => hs.to) (fun _ => E.nilCheck rfl) ?_
  refine D.evP 2 rfl (by kernel_rfl) rfl (fun _ => hs.to) (fun _ => E.fieldAddr0 0 rfl Try.underlying84 rfl Try.sz82 rfl) ?_
  refine D.ev 3 rfl (by kernel_rfl) rfl hs.to (fun _ hS => E.load1 rfl Try.underlying82 rfl (by exact hS.ld rfl)) ?_
  refine D.ev 4 rfl (by kernel_rfl) rfl hs.to (fun _ hS => E.loadRowC rfl Try.underlying37 rfl Try.sz37 (by exact ⟨hS.ldA, by assumption⟩)) ?_
  refine D.ev 5 rfl (by kernel_rfl) rfl hs.to (fun _ hS => (E.lookupD hS rfl rfl Try.underlying82 a (by rfl)).as (u := evA x) (by rw [hx]; rfl)) ?_
  refine D.act 6 rfl (by kernel_rfl) ?_
  refine R.sallocA hs Try.zr42 rfl ?_
  intro b5 w5 hs
  refine D.back hs.to ?_
  refine D.act 7 rfl (by kernel_rfl) ?_
  refine R.cstoreAll hs rfl rfl Try.sz42 (by rfl) (by exact Enc.len _) (by exact Enc.one _) ?_
  intro w3_7 hs
  try simp only [List.set_cons_zero, List.set_cons_succ] at hs
  refine D.backT (by kernel_rfl) ?_
  refine D.done rfl (by kernel_rfl) ?_
  refine X.keep [(0, _), (5, _)] ⟨rfl, rfl, trivial⟩ ?_
  refine X.next ?_
  refine C.seq ?_
  refine C.seq ?_
  refine C.region ?_
  refine R.ev rfl (E.move rfl) ?_
  refine R.ev rfl (E.nilCheck rfl) ?_
  refine R.ev rfl (E.fieldAddr0 0 rfl Try.underlying84 rfl Try.sz82 rfl) ?_
  refine R.ev rfl (E.load1 rfl Try.underlying82 rfl (by exact hs.ld rfl)) ?_
  refine R.crange hs rfl Try.underlying82 (hr) rfl ?_
  intro r22 w22 F22 it22 hs
  refine R.done ?_
  refine X.keep [(5, _), (22, _)] ⟨rfl, rfl, trivial⟩ ?_
  refine X.next ?_
  refine C.block ?_
  refine C.loop (T := SMap × SMap × Hl) [(5, _), (22, _)] (fun _ => []) (fun (Lr, Ls, Fi) w' => ItP ekI evA r22 b es clock Lr Fi ∧ (Ls ++ Lr).Perm M ∧ (∀ q ∈ Ls, (valid x.x q.2.x || outd q.2.x x.x) = false) ∧ Sat K w' (Fi :: row b5 42 (encA x) :: Hs)) (fun (Lr, _) => Lr.length) ((M, [], F22)) ⟨rfl, rfl, trivial⟩ ⟨it22, by simp, by simp, hs.to⟩ ?_
  rintro ⟨Lr, Ls, Fi⟩ w4 ⟨hit, hpm, hno, hs⟩
  refine C.keep [(5, _), (22, _)] ⟨rfl, rfl, trivial⟩ ?_
  refine C.seq ?_
  refine C.region ?_
  refine R.cnext hs rfl (hr) (hit) rfl ?_ ?_
  intro hover
  refine R.ev rfl (E.extract rfl rfl) ?_
  refine R.done ?_
  refine X.keep [(5, _), (22, _), (24, _)] ⟨rfl, rfl, rfl, trivial⟩ ?_
  refine X.next ?_
  refine C.seq ?_
  refine C.cfalse rfl ?_
  refine C.exit ?_
  refine X.thenExit ?_
  refine X.loopExit ?_
  refine X.blockExit ?_
  refine X.next ?_
  refine C.seq ?_
  refine C.region ?_
  refine R.ev rfl (E.assign rfl) ?_
  refine R.done ?_
  refine X.keep [(4, _)] ⟨rfl, trivial⟩ ?_
  refine X.next ?_
  refine C.ret ?_
  refine X.ret1 rfl rfl ?_
  rw [hover, List.append_nil] at hpm
  have : wd L x.x = false := by
    rw [wd, ← any_map_x hI, List.any_eq_false]
    intro q hq
    rw [hno q (hpm.mem_iff.2 hq)]; decide
  exact ⟨by rw [hwd, this], hs.to⟩
  intro p23 L23 w23 F23 pm23 mm23 it23 hs hent
  have hpM : p23 ∈ M := hpm.subset (List.mem_append_right _ mm23)
  have hgp : GOk K p23.2 := hG _ hpM
  have hpL : p23.2.x ∈ L := (hI.key hpM).2
  have hpm2 : ((Ls ++ [p23]) ++ L23).Perm M := by
    refine List.Perm.trans ?_ hpm
    rw [List.append_assoc]
    exact List.Perm.append_left _ pm23.symm
  refine R.ev rfl (E.extract rfl rfl) ?_
  refine R.done ?_
  refine X.keep [(5, _), (22, _), (24, _)] ⟨rfl, rfl, rfl, trivial⟩ ?_
  refine X.next ?_
  refine C.seq ?_
  refine C.ctrue rfl ?_
  refine C.skip ?_
  refine X.next ?_
  refine C.block ?_
  refine C.seq ?_
  refine C.region ?_
  refine R.ev rfl (E.entryC rfl (hent _ hs)) ?_
  refine R.ev rfl (E.extract rfl rfl) ?_
  refine R.sallocA hs Try.zr42 rfl ?_
  intro b7 w7 hs
  refine R.cstoreAll hs rfl rfl Try.sz42 (by rfl) (by exact Enc.len _) (by exact Enc.one _) ?_
  intro w6_3 hs
  try simp only [List.set_cons_zero, List.set_cons_succ] at hs
  refine R.done ?_
  refine X.keep [(5, _), (7, _), (22, _)] ⟨rfl, rfl, rfl, trivial⟩ ?_
  refine X.next ?_
  refine C.seq ?_
  refine C.region ?_
  refine R.ev rfl (E.loadRowC rfl Try.underlying42 rfl Try.sz42 (by exact ⟨hs.ldA, by exact Enc.len _⟩)) ?_
  refine R.ev rfl (E.loadRowC rfl Try.underlying42 rfl Try.sz42 (by exact ⟨hs.ldA, by exact Enc.len _⟩)) ?_
  refine R.call ⟨_, _, Try.func17, rfl, by kernel_rfl⟩ rfl rfl (valid_any hgx hgp hs) ?_
  rintro _ w72 ⟨rfl, hs⟩
  refine R.ev rfl (E.move rfl) ?_
  refine R.split 30 rfl (fun h30 => ?_) (fun h30 => ?_)
  refine R.gskip rfl rfl rfl ?_
  refine R.gskip rfl rfl rfl ?_
  refine R.gskip rfl rfl rfl ?_
  refine R.ev rfl (E.pickT rfl rfl) ?_
  refine R.done ?_
  refine X.keep [(5, _), (22, _), (34, _)] ⟨rfl, rfl, rfl, trivial⟩ ?_
  refine X.next ?_
  refine C.ctrue rfl ?_
  refine C.seq ?_
  refine C.region ?_
  refine R.ev rfl (E.assign rfl) ?_
  refine R.done ?_
  refine X.keep [(4, _)] ⟨rfl, trivial⟩ ?_
  refine X.next ?_
  refine C.ret ?_
  refine X.blockRet ?_
  refine X.loopRet ?_
  refine X.blockRet ?_
  refine X.thenRet ?_
  refine X.ret1 rfl rfl ?_
  have : wd L x.x = true := by
    first
      | exact wd_iff.2 ⟨_, hpL, .inr h34⟩
      | exact wd_iff.2 ⟨_, hpL, .inl h30⟩
  exact ⟨by rw [hwd, this], hs.to⟩
  refine R.gyes rfl rfl ?_
  refine R.ev rfl (E.loadRowC rfl Try.underlying42 rfl Try.sz42 (by exact ⟨hs.ldA, by exact Enc.len _⟩)) ?_
  refine R.gyes rfl rfl ?_
  refine R.ev rfl (E.loadRowC rfl Try.underlying42 rfl Try.sz42 (by exact ⟨hs.ldA, by exact Enc.len _⟩)) ?_
  refine R.gyes rfl rfl ?_
  refine R.call ⟨_, _, Try.func20, rfl, by kernel_rfl⟩ rfl rfl (outd_any hgp hgx hs) ?_
  rintro _ w76 ⟨rfl, hs⟩
  refine R.ev rfl (E.pickF rfl rfl) ?_
  refine R.done ?_
  refine X.keep [(5, _), (22, _), (34, _)] ⟨rfl, rfl, rfl, trivial⟩ ?_
  refine X.next ?_
  refine C.cbool rfl (fun h34 => ?_) (fun h34 => ?_)
  refine C.seq ?_
  refine C.region ?_
  refine R.ev rfl (E.assign rfl) ?_
  refine R.done ?_
  refine X.keep [(4, _)] ⟨rfl, trivial⟩ ?_
  refine X.next ?_
  refine C.ret ?_
  refine X.blockRet ?_
  refine X.loopRet ?_
  refine X.blockRet ?_
  refine X.thenRet ?_
  refine X.ret1 rfl rfl ?_
  have : wd L x.x = true := by
    first
      | exact wd_iff.2 ⟨_, hpL, .inr h34⟩
      | exact wd_iff.2 ⟨_, hpL, .inl h30⟩
  exact ⟨by rw [hwd, this], hs.to⟩
  refine C.skip ?_
  refine X.blockNormal ?_
  exact X.again (L23, Ls ++ [p23], F23) ⟨rfl, rfl, trivial⟩ ⟨it23, hpm2, fun q hq => by
  rcases List.mem_append.1 hq with hq | hq
  · exact hno q hq
  · simp at hq; subst hq; rw [h30, h34]; rfl, hs.to⟩ (by show L23.length < Lr.length; rw [pm23.length_eq]; simp)
end Go.Proofs.Ytmjmichghfepkaa
