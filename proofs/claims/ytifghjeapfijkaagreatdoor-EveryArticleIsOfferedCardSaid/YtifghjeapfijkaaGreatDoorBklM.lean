/-
  package backlog: the methods that change a backlog or list parts of it.
-/
import Derived.Test.YtifghjeapfijkaaGreatDoorBkl
namespace Go.Proofs.YtifghjeapfijkaaGreatDoor
open Go.Eng Go.RowKit

variable {K : Kn} {Hs Rs : List Hl} {F : Hl} {w : World} {p : Nat} {s : Bk}
/-- the identity that no article has -/
def zid : Vec 32 := ⟨List.replicate 32 0, rfl⟩
/-! plain functions -/
def Bk.out (s : Bk) (a : Vec 32) : Bool := (lkM s.M a).getD false
def addE (s : Bk) (a : Vec 32) (due : Int) : Int := if a = zid then 1 else if isMin due = false then 2 else if has a s.L then 7 else if s.cap ≤ s.L.length then 9 else 0
def addS (s : Bk) (a : Vec 32) (due : Int) : Bk := if addE s a due = 9 then { s with inc := true } else if addE s a due = 0 then { s with L := s.L ++ [⟨a, due, 0⟩] } else s
def remL (a : Vec 32) : List Ent → List Ent
  | [] => []
  | e :: L => if isId a e then L else e :: remL a L
def remS (s : Bk) (a : Vec 32) : Bk := if has a s.L then { s with L := remL a s.L, M := delM a s.M } else s
def offE (s : Bk) (a : Vec 32) : Int := if has a s.L = false then 8 else if s.out a then 10 else 0
def offS (s : Bk) (a : Vec 32) : Bk := if offE s a = 0 then { s with M := putM a true s.M } else s
def ansE (s : Bk) (a : Vec 32) : Int := if has a s.L = false then 8 else if s.out a = false then 10 else 0
def ansS (s : Bk) (a : Vec 32) : Bk := if ansE s a = 0 then remS s a else s
def latE (s : Bk) (a : Vec 32) (now : Int) : Int := if isMin now = false ∨ isMin (now + s.wait) = false then 2 else if has a s.L = false then 8 else if s.out a = false then 10 else 0
def triesOf (s : Bk) (a : Vec 32) : Int := match s.L.find? (isId a) with | some e => e.tries | none => 0
def latS (s : Bk) (a : Vec 32) (now : Int) : Bk := if latE s a now = 0 then { remS s a with L := (remS s a).L ++ [⟨a, now + s.wait, triesOf s a + 1⟩] } else s
theorem remL_at {a : Vec 32} : ∀ {L : List Ent} {i : Nat} {o : Ent}, L[i]? = some o → isId a o = true → (∀ j, j < i → ∀ z, L[j]? = some z → isId a z = false) → remL a L = L.take i ++ L.drop (i + 1)
  | [], i, o, h, _, _ => by simp at h
  | z :: L, 0, o, h, hp, _ => by simp at h; subst h; simp only [remL, hp, if_true]; simp
  | z :: L, i + 1, o, h, hp, hno => by
    have hz := hno 0 (by omega) z rfl
    rw [remL, if_neg (by rw [hz]; decide), remL_at (by simpa using h) hp (fun j hj y hy => hno (j + 1) (by omega) y (by simpa using hy))]
    simp
theorem find_at {q : Ent → Bool} {L : List Ent} {i : Nat} {o : Ent} (h : L[i]? = some o) (hp : q o = true) (hno : ∀ j, j < i → ∀ z, L[j]? = some z → q z = false) : L.find? q = some o := by
  induction L generalizing i with
  | nil => simp at h
  | cons z L ih =>
    cases i with
    | zero => simp at h; subst h; simp [hp]
    | succ i =>
      have hz := hno 0 (by omega) z rfl
      rw [List.find?_cons_of_neg (by rw [hz]; decide)]
      exact ih (by simpa using h) (fun j hj y hy => hno (j + 1) (by omega) y (by simpa using hy))
theorem has_idx {a : Vec 32} {L : List Ent} (h : has a L = true) : ∃ i o, idxP (isId a) L = ((i : Nat) : Int) ∧ L[i]? = some o ∧ isId a o = true ∧ ∀ j, j < i → ∀ z, L[j]? = some z → isId a z = false := by
  have := idx_ge (a := a) (L := L)
  rw [h, decide_eq_true_iff] at this
  exact idxP_ge this
theorem add_any (a : Vec 32) (due : Int) (hs : Sat K w (F :: Rs)) [hw : BkL p s F] (hL : s.L.length ≤ 1000000) : Ret Tryz.prog 10 #[ptr p, idV a.1, .int .i64 due] w fun r w' => r = .int .i64 (addE s a due) ∧ ∃ F', BkL p (addS s a due) F' ∧ Sat K w' (F' :: Rs) := by
  obtain ⟨v, m, G, H, rfl, hr, hm⟩ := hw.ex
  obtain ⟨c, wt, inc, L, M⟩ := s
  simp only at hr hm hL
  obtain ⟨ad, cap, rfl, hc, hcm, had⟩ := hr.val
  have hs := hs.cut
  have hs := hs.p1.cut.p2
  have hbk : ∀ Hs, [InH p (.cells [.int .i64 c, .int .i64 wt, .bool inc, .slice ad L.length cap, m].toArray 79 (0, 0)) Hs] → [FIn G Hs] → [FIn H Hs] → BkIn p ⟨c, wt, inc, L, M⟩ Hs := fun Hs _ _ _ => BkIn.parts (s := ⟨c, wt, inc, L, M⟩) (G := G) (H := H)
  have e1 := encV_len a
  refine Ret.enter (n := 41) (args := [ptr p, idV a.1, .int .i64 due]) Tryz.func10 rfl rfl ?_
  refine C.keep [(0, _), (1, _), (2, _)] ⟨rfl, rfl, rfl, trivial⟩ ?_
  refine C.seq ?_
  refine C.region ?_
  refine R.sboxA hs rfl rfl ?_
  intro b4 w4 hs
  refine R.ev rfl (E.assign rfl) ?_
  refine R.done ?_
  refine X.keep [(0, _), (2, _), (4, _)] ⟨rfl, rfl, rfl, trivial⟩ ?_
  refine X.next ?_
  refine C.seq ?_
  refine C.block ?_
  refine C.seq ?_
  refine C.region ?_
  refine R.ev rfl (E.move rfl) ?_
  refine R.ev rfl (E.eqlNilF rfl rfl Tryz.underlying33) ?_
  refine R.ev rfl (E.move rfl) ?_
  refine R.gyes rfl rfl ?_
  refine R.ev rfl (E.loadRowC rfl Tryz.underlying45 rfl Tryz.sz45 (by first | exact ⟨hs.ldA, by first | rfl | assumption | exact encV_len _ | exact Enc.len _ | exact len_ub (by assumption)⟩ | exact ⟨hs.ldP rfl, by first | rfl | assumption | exact encV_len _ | exact Enc.len _ | exact len_ub (by assumption)⟩ | exact ⟨hs.ldM rfl rfl, by first | rfl | assumption | exact encV_len _ | exact Enc.len _ | exact len_ub (by assumption)⟩ | exact ⟨hs.ldM (by assumption) (by first | rfl | assumption), by first | rfl | assumption | exact encV_len _ | exact Enc.len _ | exact len_ub (by assumption)⟩ | exact ⟨by assumption, by first | rfl | assumption | exact encV_len _ | exact Enc.len _ | exact len_ub (by assumption)⟩ | exact hs.ldp | exact At.partC (by assumption))) ?_
  refine R.gyes rfl rfl ?_
  refine R.ev rfl ((E.buildA rfl Tryz.underlying45 Tryz.zr45 Tryz.sz5 rfl).as (u := .agg (encV zid).toArray) (by rfl)) ?_
  refine R.gyes rfl rfl ?_
  refine R.ev rfl ((E.eqV 10 (b := zid) rfl rfl Tryz.lv45 rfl Tryz.underlying45 rfl Tryz.gd45)) ?_
  refine R.ev rfl (E.pickF rfl rfl) ?_
  refine R.ev rfl (E.assign rfl) ?_
  refine R.done ?_
  refine X.keep [(0, _), (2, _), (4, _), (7, _)] ⟨rfl, rfl, rfl, rfl, trivial⟩ ?_
  refine X.next ?_
  refine C.cdec rfl (fun h7 => ?_) (fun h7 => ?_)
  · refine C.seq ?_
    refine C.region ?_
    refine R.ev rfl (E.assign rfl) ?_
    refine R.done ?_
    refine X.keep [(6, _)] ⟨rfl, trivial⟩ ?_
    refine X.next ?_
    refine C.ret ?_
    refine X.blockRet ?_
    refine X.thenRet ?_
    refine X.ret1 rfl rfl ?_
    have hE : addE ⟨c, wt, inc, L, M⟩ a due = 1 := by rw [addE, if_pos h7]
    exact ⟨by rw [hE], _, by rw [addS, hE, if_neg (by decide), if_neg (by decide)]; exact BkL.mk' hr hm, hs.to⟩
  · refine C.seq ?_
    refine C.region ?_
    refine R.ev rfl (E.move rfl) ?_
    refine R.call ⟨_, _, Tryz.func30, rfl, by kernel_rfl⟩ rfl rfl (isMinute_any due _) ?_
    rintro _ _ ⟨rfl, rfl⟩
    refine R.ev rfl ((E.not rfl).isB (c := !(isMin due)) rfl) ?_
    refine R.ev rfl (E.assign rfl) ?_
    refine R.done ?_
    refine X.keep [(0, _), (2, _), (4, _), (15, _)] ⟨rfl, rfl, rfl, rfl, trivial⟩ ?_
    refine X.next ?_
    refine C.cbool rfl (fun h15 => ?_) (fun h15 => ?_)
    · refine C.seq ?_
      refine C.region ?_
      refine R.ev rfl (E.assign rfl) ?_
      refine R.done ?_
      refine X.keep [(6, _)] ⟨rfl, trivial⟩ ?_
      refine X.next ?_
      refine C.ret ?_
      refine X.blockRet ?_
      refine X.thenRet ?_
      refine X.ret1 rfl rfl ?_
      have hE : addE ⟨c, wt, inc, L, M⟩ a due = 2 := by rw [addE, if_neg h7, if_pos (by simpa using h15)]
      exact ⟨by rw [hE], _, by rw [addS, hE, if_neg (by decide), if_neg (by decide)]; exact BkL.mk' hr hm, hs.to⟩
    · refine C.seq ?_
      refine C.region ?_
      have h15' : ¬ isMin due = false := by simpa using h15
      refine R.ev rfl (E.move rfl) ?_
      refine R.ev rfl (E.loadRowC rfl Tryz.underlying45 rfl Tryz.sz45 (by first | exact ⟨hs.ldA, by first | rfl | assumption | exact encV_len _ | exact Enc.len _ | exact len_ub (by assumption)⟩ | exact ⟨hs.ldP rfl, by first | rfl | assumption | exact encV_len _ | exact Enc.len _ | exact len_ub (by assumption)⟩ | exact ⟨hs.ldM rfl rfl, by first | rfl | assumption | exact encV_len _ | exact Enc.len _ | exact len_ub (by assumption)⟩ | exact ⟨hs.ldM (by assumption) (by first | rfl | assumption), by first | rfl | assumption | exact encV_len _ | exact Enc.len _ | exact len_ub (by assumption)⟩ | exact ⟨by assumption, by first | rfl | assumption | exact encV_len _ | exact Enc.len _ | exact len_ub (by assumption)⟩ | exact hs.ldp | exact At.partC (by assumption))) ?_
      refine R.call ⟨_, _, Tryz.func31, rfl, by kernel_rfl⟩ rfl rfl (has_any (s := ⟨c, wt, inc, L, M⟩) (hw := hbk _) a hs) ?_
      rintro _ w5 ⟨rfl, hs⟩
      refine R.ev rfl (E.assign rfl) ?_
      refine R.done ?_
      refine X.keep [(0, _), (2, _), (4, _), (19, _)] ⟨rfl, rfl, rfl, rfl, trivial⟩ ?_
      refine X.next ?_
      refine C.cbool rfl (fun h19 => ?_) (fun h19 => ?_)
      · refine C.seq ?_
        refine C.region ?_
        refine R.ev rfl (E.assign rfl) ?_
        refine R.done ?_
        refine X.keep [(6, _)] ⟨rfl, trivial⟩ ?_
        refine X.next ?_
        refine C.ret ?_
        refine X.blockRet ?_
        refine X.thenRet ?_
        refine X.ret1 rfl rfl ?_
        have hE : addE ⟨c, wt, inc, L, M⟩ a due = 7 := by rw [addE, if_neg h7, if_neg h15', if_pos h19]
        exact ⟨by rw [hE], _, by rw [addS, hE, if_neg (by decide), if_neg (by decide)]; exact BkL.mk' hr hm, hs.to⟩
      · refine C.seq ?_
        refine C.region ?_
        refine R.ev rfl (E.move rfl) ?_
        refine R.call ⟨_, _, Tryz.func32, rfl, by kernel_rfl⟩ rfl rfl (full_any (s := ⟨c, wt, inc, L, M⟩) (hw := hbk _) hs) ?_
        rintro _ w7 ⟨rfl, hs⟩
        refine R.ev rfl (E.assign rfl) ?_
        refine R.done ?_
        refine X.keep [(0, _), (2, _), (4, _), (23, _)] ⟨rfl, rfl, rfl, rfl, trivial⟩ ?_
        refine X.next ?_
        refine C.cdec rfl (fun h23 => ?_) (fun h23 => ?_)
        · refine C.seq ?_
          refine C.region ?_
          refine R.ev rfl (E.move rfl) ?_
          refine R.ev rfl (E.nilCheck rfl) ?_
          first | refine R.ev rfl (E.fieldAddr0 2 rfl Tryz.underlying79 rfl Tryz.sz4 rfl) ?_ | refine R.ev rfl (E.fieldAddrN 2 rfl Tryz.underlying79 rfl Tryz.sz4 rfl) ?_
          refine R.cstore1 hs rfl rfl Tryz.sz4 (by first | decide | simp [*]) (by first | rfl | exact OneC.one | exact KRow.oneC' (by assumption)) ?_
          intro w8_3 hs
          try simp only [List.set_cons_zero, List.set_cons_succ] at hs
          refine R.done ?_
          refine X.keep [] trivial ?_
          refine X.next ?_
          refine C.seq ?_
          refine C.region ?_
          refine R.ev rfl (E.assign rfl) ?_
          refine R.done ?_
          refine X.keep [(6, _)] ⟨rfl, trivial⟩ ?_
          refine X.next ?_
          refine C.ret ?_
          refine X.blockRet ?_
          refine X.thenRet ?_
          refine X.ret1 rfl rfl ?_
          have hE : addE ⟨c, wt, inc, L, M⟩ a due = 9 := by rw [addE, if_neg h7, if_neg h15', if_neg (by rw [h19]; decide), if_pos h23]
          exact ⟨by rw [hE], _, by rw [addS, hE, if_pos rfl]; exact BkL.mk' hr hm, hs.to⟩
        · refine C.skip ?_
          refine X.blockNormal ?_
          refine X.next ?_
          refine C.seq ?_
          refine C.drawn (SatS hs) ([4, 5], [0, 1, 2, 3, 6, 7, 10, 11]) (by kernel_rfl) ?_
          have hs := hs.drew
          refine D.evP 0 rfl (by kernel_rfl) rfl (fun _ => hs.to) (fun _ => E.move rfl) ?_
          refine D.evP 1 rfl (by kernel_rfl) rfl (fun _ => hs.to) (fun _ => E.move rfl) ?_
          refine D.evP 2 rfl (by kernel_rfl) rfl (fun _ => hs.to) (fun _ => E.nilCheck rfl) ?_
          first | refine D.evP 3 rfl (by kernel_rfl) rfl (fun _ => hs.to) (fun _ => E.fieldAddr0 3 rfl Tryz.underlying79 rfl Tryz.sz77 rfl) ?_ | refine D.evP 3 rfl (by kernel_rfl) rfl (fun _ => hs.to) (fun _ => E.fieldAddrN 3 rfl Tryz.underlying79 rfl Tryz.sz77 rfl) ?_
          refine D.evP 6 rfl (by kernel_rfl) rfl (fun _ => hs.to) (fun _ => E.move rfl) ?_
          refine D.ev 4 rfl (by kernel_rfl) rfl hs.to (fun _ hS => E.load1 rfl Tryz.underlying77 rfl (by first | exact hS.ldc | exact hS.ld rfl | exact hS.ld (by assumption) | exact by assumption | exact At.cellC (by assumption) | exact hS.ldK rfl | exact At.cellC ((by assumption : ∀ w', Sat _ w' _ → At w' _ _ _) _ hS) | exact (by assumption : ∀ w', Sat _ w' _ → World.cell? w' _ = some _) _ hS)) ?_
          refine D.ev 5 rfl (by kernel_rfl) rfl hs.to (fun _ hS => E.loadRowC rfl Tryz.underlying45 rfl Tryz.sz45 (by first | exact ⟨hS.ldA, by first | rfl | assumption | exact encV_len _ | exact Enc.len _ | exact len_ub (by assumption)⟩ | exact ⟨hS.ldP rfl, by first | rfl | assumption | exact encV_len _ | exact Enc.len _ | exact len_ub (by assumption)⟩ | exact ⟨hS.ldM rfl rfl, by first | rfl | assumption | exact encV_len _ | exact Enc.len _ | exact len_ub (by assumption)⟩ | exact ⟨hS.ldM (by assumption) (by first | rfl | assumption), by first | rfl | assumption | exact encV_len _ | exact Enc.len _ | exact len_ub (by assumption)⟩ | exact ⟨by assumption, by first | rfl | assumption | exact encV_len _ | exact Enc.len _ | exact len_ub (by assumption)⟩ | exact ⟨(by assumption : ∀ w', Sat _ w' _ → At w' _ _ _) _ hS, by first | rfl | assumption | exact encV_len _ | exact Enc.len _ | exact len_ub (by assumption)⟩ | exact hS.ldp | exact At.partC (by assumption) | exact At.partC ((by assumption : ∀ w', Sat _ w' _ → At w' _ _ _) _ hS))) ?_
          refine D.evP 7 rfl (by kernel_rfl) rfl (fun _ => hs.to) (fun _ => E.buildG (r := encE ⟨a, due, 0⟩) rfl Tryz.underlying86 Tryz.zr86 Tryz.ql86 (by kernel_rfl) (by kernel_rfl) ⟨⟨_, rfl, by first | rfl | exact vsz _ | simp [Value.cells, *]⟩, ⟨_, rfl, by first | rfl | exact vsz _ | simp [Value.cells, *]⟩, trivial⟩ (by first | rfl | simp [setF, fieldsOf, Value.cells])) ?_
          refine D.act 8 rfl (by kernel_rfl) ?_
          refine R.buildSliceA rfl Tryz.underlying77 Tryz.sz86 Tryz.zr86 rfl (by first | rfl | assumption | exact encV_len _ | exact Enc.len _ | simp [*]) (by decide) (by decide) ?_
          intro b37 w37 n37
          have hs := hs.new n37
          refine D.back hs.to ?_
          refine D.act 9 rfl (by kernel_rfl) ?_
          refine R.capp1 (⟨a, due, 0⟩) hs rfl rfl Tryz.underlying77 Tryz.by86 (by rfl) rfl (by first | exact hs.ldA | exact hs.ldP rfl | exact by assumption) (by decide) (by first | omega | (simp only [List.length_append, List.length_cons, List.length_nil] at *; omega)) (by first | omega | (simp only [List.length_append, List.length_cons, List.length_nil] at *; omega)) ?_
          intro v38 w38 F38 r38 hs
          refine D.backT (by kernel_rfl) ?_
          refine D.evP 10 rfl (by kernel_rfl) rfl (np (by kernel_rfl)) (fun _ => E.nilCheck rfl) ?_
          first | refine D.evP 11 rfl (by kernel_rfl) rfl (np (by kernel_rfl)) (fun _ => E.fieldAddr0 3 rfl Tryz.underlying79 rfl Tryz.sz77 rfl) ?_ | refine D.evP 11 rfl (by kernel_rfl) rfl (np (by kernel_rfl)) (fun _ => E.fieldAddrN 3 rfl Tryz.underlying79 rfl Tryz.sz77 rfl) ?_
          refine D.act 12 rfl (by kernel_rfl) ?_
          refine R.cstore1 hs rfl rfl Tryz.sz77 (by first | decide | simp [*]) (by first | rfl | exact OneC.one | exact KRow.oneC' (by assumption)) ?_
          intro w10_12 hs
          try simp only [List.set_cons_zero, List.set_cons_succ] at hs
          refine D.backT (by kernel_rfl) ?_
          refine D.done rfl (by kernel_rfl) ?_
          refine X.keep [] trivial ?_
          refine X.next ?_
          refine C.seq ?_
          refine C.region ?_
          refine R.ev rfl (E.assign rfl) ?_
          refine R.done ?_
          refine X.keep [(6, _)] ⟨rfl, trivial⟩ ?_
          refine X.next ?_
          refine C.ret ?_
          refine X.ret1 rfl rfl ?_
          have hE : addE ⟨c, wt, inc, L, M⟩ a due = 0 := by rw [addE, if_neg h7, if_neg h15', if_neg (by rw [h19]; decide), if_neg h23]
          exact ⟨by rw [hE], _, by rw [addS, hE, if_neg (by decide), if_pos rfl]; exact BkL.mk' r38 hm, hs.to⟩
theorem remove_any (a : Vec 32) (hs : Sat K w (F :: Rs)) [hw : BkL p s F] (hL : s.L.length ≤ 1000000) : Ret Tryz.prog 45 #[ptr p, idV a.1] w fun r w' => r = .bool (has a s.L) ∧ ∃ F', BkL p (remS s a) F' ∧ Sat K w' (F' :: Rs) := by
  obtain ⟨v, m, G, H, rfl, hr, hm⟩ := hw.ex
  obtain ⟨c, wt, inc, L, M⟩ := s
  simp only at hr hm hL
  obtain ⟨ad, cap, rfl, hc, hcm, had⟩ := hr.val
  have hs := hs.cut
  have hs := hs.p1.cut.p2
  have hbk : ∀ Hs, [InH p (.cells [.int .i64 c, .int .i64 wt, .bool inc, .slice ad L.length cap, m].toArray 79 (0, 0)) Hs] → [FIn G Hs] → [FIn H Hs] → BkIn p ⟨c, wt, inc, L, M⟩ Hs := fun Hs _ _ _ => BkIn.parts (s := ⟨c, wt, inc, L, M⟩) (G := G) (H := H)
  have e1 := encV_len a
  refine Ret.enter (n := 29) (args := [ptr p, idV a.1]) Tryz.func45 rfl rfl ?_
  refine C.keep [(0, _), (1, _)] ⟨rfl, rfl, trivial⟩ ?_
  refine C.seq ?_
  refine C.region ?_
  refine R.sboxA hs rfl rfl ?_
  intro b3 w3 hs
  refine R.ev rfl (E.assign rfl) ?_
  refine R.done ?_
  refine X.keep [(0, _), (3, _)] ⟨rfl, rfl, trivial⟩ ?_
  refine X.next ?_
  refine C.seq ?_
  refine C.seq ?_
  refine C.region ?_
  refine R.ev rfl (E.move rfl) ?_
  refine R.ev rfl (E.loadRowC rfl Tryz.underlying45 rfl Tryz.sz45 (by first | exact ⟨hs.ldA, by first | rfl | assumption | exact encV_len _ | exact Enc.len _ | exact len_ub (by assumption)⟩ | exact ⟨hs.ldP rfl, by first | rfl | assumption | exact encV_len _ | exact Enc.len _ | exact len_ub (by assumption)⟩ | exact ⟨hs.ldM rfl rfl, by first | rfl | assumption | exact encV_len _ | exact Enc.len _ | exact len_ub (by assumption)⟩ | exact ⟨hs.ldM (by assumption) (by first | rfl | assumption), by first | rfl | assumption | exact encV_len _ | exact Enc.len _ | exact len_ub (by assumption)⟩ | exact ⟨by assumption, by first | rfl | assumption | exact encV_len _ | exact Enc.len _ | exact len_ub (by assumption)⟩ | exact hs.ldp | exact At.partC (by assumption))) ?_
  refine R.call ⟨_, _, Tryz.func31, rfl, by kernel_rfl⟩ rfl rfl (has_any (s := ⟨c, wt, inc, L, M⟩) (hw := hbk _) a hs) ?_
  rintro _ w1 ⟨rfl, hs⟩
  refine R.ev rfl ((E.not rfl).isB (c := !(has a L)) rfl) ?_
  refine R.done ?_
  refine X.keep [(0, _), (3, _), (9, _)] ⟨rfl, rfl, rfl, trivial⟩ ?_
  refine X.next ?_
  refine C.cbool rfl (fun h9 => ?_) (fun h9 => ?_)
  · refine C.seq ?_
    refine C.region ?_
    refine R.ev rfl (E.assign rfl) ?_
    refine R.done ?_
    refine X.keep [(4, _)] ⟨rfl, trivial⟩ ?_
    refine X.next ?_
    refine C.ret ?_
    refine X.thenRet ?_
    refine X.ret1 rfl rfl ?_
    have hh : has a L = false := by simpa using h9
    exact ⟨by rw [hh], _, by rw [remS, hh, if_neg (by decide)]; exact BkL.mk' hr hm, hs.to⟩
  · refine C.skip ?_
    refine X.next ?_
    refine C.seq ?_
    refine C.region ?_
    have hh : has a L = true := by simpa using h9
    obtain ⟨i, o, hi, ho, hpo, hno⟩ := has_idx hh
    have hil := (List.getElem?_eq_some_iff.1 ho).1
    refine R.ev rfl (E.move rfl) ?_
    refine R.ev rfl (E.loadRowC rfl Tryz.underlying45 rfl Tryz.sz45 (by first | exact ⟨hs.ldA, by first | rfl | assumption | exact encV_len _ | exact Enc.len _ | exact len_ub (by assumption)⟩ | exact ⟨hs.ldP rfl, by first | rfl | assumption | exact encV_len _ | exact Enc.len _ | exact len_ub (by assumption)⟩ | exact ⟨hs.ldM rfl rfl, by first | rfl | assumption | exact encV_len _ | exact Enc.len _ | exact len_ub (by assumption)⟩ | exact ⟨hs.ldM (by assumption) (by first | rfl | assumption), by first | rfl | assumption | exact encV_len _ | exact Enc.len _ | exact len_ub (by assumption)⟩ | exact ⟨by assumption, by first | rfl | assumption | exact encV_len _ | exact Enc.len _ | exact len_ub (by assumption)⟩ | exact hs.ldp | exact At.partC (by assumption))) ?_
    refine R.call ⟨_, _, Tryz.func44, rfl, by kernel_rfl⟩ rfl rfl (find_any (s := ⟨c, wt, inc, L, M⟩) (hw := hbk _) a hs) ?_
    rintro _ w3 ⟨rfl, hs⟩
    rw [hi]
    refine R.ev rfl (E.assign rfl) ?_
    refine R.done ?_
    refine X.keep [(0, _), (3, _), (5, _)] ⟨rfl, rfl, rfl, trivial⟩ ?_
    refine X.next ?_
    refine C.seq ?_
    refine C.region ?_
    refine R.ev rfl (E.move rfl) ?_
    refine R.ev rfl (E.move rfl) ?_
    refine R.ev rfl (E.nilCheck rfl) ?_
    first | refine R.ev rfl (E.fieldAddr0 3 rfl Tryz.underlying79 rfl Tryz.sz77 rfl) ?_ | refine R.ev rfl (E.fieldAddrN 3 rfl Tryz.underlying79 rfl Tryz.sz77 rfl) ?_
    refine R.ev rfl (E.load1 rfl Tryz.underlying77 rfl (by first | exact hs.ldc | exact hs.ld rfl | exact hs.ld (by assumption) | exact by assumption | exact At.cellC (by assumption) | exact hs.ldK rfl)) ?_
    refine R.ev rfl (E.move rfl) ?_
    refine R.ev rfl (E.move rfl) ?_
    refine R.ev rfl ((E.add rfl rfl (by omega) (by omega)).isI (c := ((i + 1 : Nat) : Int)) (by omega)) ?_
    refine R.call ⟨_, _, Tryz.func63, rfl, by kernel_rfl⟩ rfl rfl (delE_any (i := i) (j := i + 1) (hs.front (F := G)) (by omega) (by omega) hL) ?_
    rintro v4 w4 ⟨F4, r4, hs1⟩
    have hs := hs.back (F := G) hs1
    refine R.ev rfl (E.nilCheck rfl) ?_
    first | refine R.ev rfl (E.fieldAddr0 3 rfl Tryz.underlying79 rfl Tryz.sz77 rfl) ?_ | refine R.ev rfl (E.fieldAddrN 3 rfl Tryz.underlying79 rfl Tryz.sz77 rfl) ?_
    refine R.cstore1 hs rfl rfl Tryz.sz77 (by first | decide | simp [*]) (by first | rfl | exact OneC.one | exact KRow.oneC' (by assumption)) ?_
    intro w4_11 hs
    try simp only [List.set_cons_zero, List.set_cons_succ] at hs
    refine R.done ?_
    refine X.keep [(0, _), (3, _)] ⟨rfl, rfl, trivial⟩ ?_
    refine X.next ?_
    refine C.seq ?_
    refine C.drawn (SatS hs) ([3, 4], [0, 1, 2]) (by kernel_rfl) ?_
    have hs := hs.drew
    refine D.evP 0 rfl (by kernel_rfl) rfl (fun _ => hs.to) (fun _ => E.move rfl) ?_
    refine D.evP 1 rfl (by kernel_rfl) rfl (fun _ => hs.to) (fun _ => E.nilCheck rfl) ?_
    first | refine D.evP 2 rfl (by kernel_rfl) rfl (fun _ => hs.to) (fun _ => E.fieldAddr0 4 rfl Tryz.underlying79 rfl Tryz.sz39 rfl) ?_ | refine D.evP 2 rfl (by kernel_rfl) rfl (fun _ => hs.to) (fun _ => E.fieldAddrN 4 rfl Tryz.underlying79 rfl Tryz.sz39 rfl) ?_
    refine D.ev 3 rfl (by kernel_rfl) rfl hs.to (fun _ hS => E.load1 rfl Tryz.underlying39 rfl (by first | exact hS.ldc | exact hS.ld rfl | exact hS.ld (by assumption) | exact by assumption | exact At.cellC (by assumption) | exact hS.ldK rfl | exact At.cellC ((by assumption : ∀ w', Sat _ w' _ → At w' _ _ _) _ hS) | exact (by assumption : ∀ w', Sat _ w' _ → World.cell? w' _ = some _) _ hS)) ?_
    refine D.ev 4 rfl (by kernel_rfl) rfl hs.to (fun _ hS => E.loadRowC rfl Tryz.underlying45 rfl Tryz.sz45 (by first | exact ⟨hS.ldA, by first | rfl | assumption | exact encV_len _ | exact Enc.len _ | exact len_ub (by assumption)⟩ | exact ⟨hS.ldP rfl, by first | rfl | assumption | exact encV_len _ | exact Enc.len _ | exact len_ub (by assumption)⟩ | exact ⟨hS.ldM rfl rfl, by first | rfl | assumption | exact encV_len _ | exact Enc.len _ | exact len_ub (by assumption)⟩ | exact ⟨hS.ldM (by assumption) (by first | rfl | assumption), by first | rfl | assumption | exact encV_len _ | exact Enc.len _ | exact len_ub (by assumption)⟩ | exact ⟨by assumption, by first | rfl | assumption | exact encV_len _ | exact Enc.len _ | exact len_ub (by assumption)⟩ | exact ⟨(by assumption : ∀ w', Sat _ w' _ → At w' _ _ _) _ hS, by first | rfl | assumption | exact encV_len _ | exact Enc.len _ | exact len_ub (by assumption)⟩ | exact hS.ldp | exact At.partC (by assumption) | exact At.partC ((by assumption : ∀ w', Sat _ w' _ → At w' _ _ _) _ hS))) ?_
    refine D.act 5 rfl (by kernel_rfl) ?_
    refine R.cdel (a) hs rfl rfl Tryz.underlying39 (by rfl) ?_
    intro w5_5 F5_5 m5_5 hs
    refine D.backT (by kernel_rfl) ?_
    refine D.done rfl (by kernel_rfl) ?_
    refine X.keep [] trivial ?_
    refine X.next ?_
    refine C.seq ?_
    refine C.region ?_
    refine R.ev rfl (E.assign rfl) ?_
    refine R.done ?_
    refine X.keep [(4, _)] ⟨rfl, trivial⟩ ?_
    refine X.next ?_
    refine C.ret ?_
    refine X.ret1 rfl rfl ?_
    exact ⟨by rw [hh], _, by rw [remS, if_pos hh]; exact BkL.mk' (by rw [remL_at ho hpo hno]; exact r4) m5_5, hs.to⟩
theorem offered_any (a : Vec 32) (hs : Sat K w (F :: Rs)) [hw : BkL p s F] : Ret Tryz.prog 18 #[ptr p, idV a.1] w fun r w' => r = .int .i64 (offE s a) ∧ ∃ F', BkL p (offS s a) F' ∧ Sat K w' (F' :: Rs) := by
  obtain ⟨v, m, G, H, rfl, hr, hm⟩ := hw.ex
  obtain ⟨c, wt, inc, L, M⟩ := s
  simp only at hr hm
  have hs := hs.cut
  have hs := hs.p1.cut.p2
  have hbk : ∀ Hs, [InH p (.cells [.int .i64 c, .int .i64 wt, .bool inc, v, m].toArray 79 (0, 0)) Hs] → [FIn G Hs] → [FIn H Hs] → BkIn p ⟨c, wt, inc, L, M⟩ Hs := fun Hs _ _ _ => BkIn.parts (s := ⟨c, wt, inc, L, M⟩) (G := G) (H := H)
  have e1 := encV_len a
  refine Ret.enter (n := 25) (args := [ptr p, idV a.1]) Tryz.func18 rfl rfl ?_
  refine C.keep [(0, _), (1, _)] ⟨rfl, rfl, trivial⟩ ?_
  refine C.seq ?_
  refine C.region ?_
  refine R.sboxA hs rfl rfl ?_
  intro b3 w3 hs
  refine R.ev rfl (E.assign rfl) ?_
  refine R.done ?_
  refine X.keep [(0, _), (3, _)] ⟨rfl, rfl, trivial⟩ ?_
  refine X.next ?_
  refine C.seq ?_
  refine C.block ?_
  refine C.seq ?_
  refine C.region ?_
  refine R.ev rfl (E.move rfl) ?_
  refine R.ev rfl (E.eqlNilF rfl rfl Tryz.underlying33) ?_
  refine R.ev rfl (E.assign rfl) ?_
  refine R.done ?_
  refine X.keep [(0, _), (3, _), (5, _)] ⟨rfl, rfl, rfl, trivial⟩ ?_
  refine X.next ?_
  refine C.cfalse rfl ?_
  refine C.seq ?_
  refine C.region ?_
  refine R.ev rfl (E.move rfl) ?_
  refine R.ev rfl (E.loadRowC rfl Tryz.underlying45 rfl Tryz.sz45 (by first | exact ⟨hs.ldA, by first | rfl | assumption | exact encV_len _ | exact Enc.len _ | exact len_ub (by assumption)⟩ | exact ⟨hs.ldP rfl, by first | rfl | assumption | exact encV_len _ | exact Enc.len _ | exact len_ub (by assumption)⟩ | exact ⟨hs.ldM rfl rfl, by first | rfl | assumption | exact encV_len _ | exact Enc.len _ | exact len_ub (by assumption)⟩ | exact ⟨hs.ldM (by assumption) (by first | rfl | assumption), by first | rfl | assumption | exact encV_len _ | exact Enc.len _ | exact len_ub (by assumption)⟩ | exact ⟨by assumption, by first | rfl | assumption | exact encV_len _ | exact Enc.len _ | exact len_ub (by assumption)⟩ | exact hs.ldp | exact At.partC (by assumption))) ?_
  refine R.call ⟨_, _, Tryz.func31, rfl, by kernel_rfl⟩ rfl rfl (has_any (s := ⟨c, wt, inc, L, M⟩) (hw := hbk _) a hs) ?_
  rintro _ w3 ⟨rfl, hs⟩
  refine R.ev rfl ((E.not rfl).isB (c := !(has a L)) rfl) ?_
  refine R.ev rfl (E.assign rfl) ?_
  refine R.done ?_
  refine X.keep [(0, _), (3, _), (8, _)] ⟨rfl, rfl, rfl, trivial⟩ ?_
  refine X.next ?_
  refine C.cbool rfl (fun h8 => ?_) (fun h8 => ?_)
  · refine C.seq ?_
    refine C.region ?_
    refine R.ev rfl (E.assign rfl) ?_
    refine R.done ?_
    refine X.keep [(4, _)] ⟨rfl, trivial⟩ ?_
    refine X.next ?_
    refine C.ret ?_
    refine X.blockRet ?_
    refine X.thenRet ?_
    refine X.ret1 rfl rfl ?_
    have hE : offE ⟨c, wt, inc, L, M⟩ a = 8 := by rw [offE, if_pos (by simpa using h8)]
    exact ⟨by rw [hE], _, by rw [offS, hE, if_neg (by decide)]; exact BkL.mk' hr hm, hs.to⟩
  · refine C.seq ?_
    refine C.drawn (SatS hs) ([3, 4, 5], [0, 1, 2, 6]) (by kernel_rfl) ?_
    have hs := hs.drew
    have h8' : ¬ has a L = false := by simpa using h8
    refine D.evP 0 rfl (by kernel_rfl) rfl (fun _ => hs.to) (fun _ => E.move rfl) ?_
    refine D.evP 1 rfl (by kernel_rfl) rfl (fun _ => hs.to) (fun _ => E.nilCheck rfl) ?_
    first | refine D.evP 2 rfl (by kernel_rfl) rfl (fun _ => hs.to) (fun _ => E.fieldAddr0 4 rfl Tryz.underlying79 rfl Tryz.sz39 rfl) ?_ | refine D.evP 2 rfl (by kernel_rfl) rfl (fun _ => hs.to) (fun _ => E.fieldAddrN 4 rfl Tryz.underlying79 rfl Tryz.sz39 rfl) ?_
    refine D.ev 3 rfl (by kernel_rfl) rfl hs.to (fun _ hS => E.load1 rfl Tryz.underlying39 rfl (by first | exact hS.ldc | exact hS.ld rfl | exact hS.ld (by assumption) | exact by assumption | exact At.cellC (by assumption) | exact hS.ldK rfl | exact At.cellC ((by assumption : ∀ w', Sat _ w' _ → At w' _ _ _) _ hS) | exact (by assumption : ∀ w', Sat _ w' _ → World.cell? w' _ = some _) _ hS)) ?_
    refine D.ev 4 rfl (by kernel_rfl) rfl hs.to (fun _ hS => E.loadRowC rfl Tryz.underlying45 rfl Tryz.sz45 (by first | exact ⟨hS.ldA, by first | rfl | assumption | exact encV_len _ | exact Enc.len _ | exact len_ub (by assumption)⟩ | exact ⟨hS.ldP rfl, by first | rfl | assumption | exact encV_len _ | exact Enc.len _ | exact len_ub (by assumption)⟩ | exact ⟨hS.ldM rfl rfl, by first | rfl | assumption | exact encV_len _ | exact Enc.len _ | exact len_ub (by assumption)⟩ | exact ⟨hS.ldM (by assumption) (by first | rfl | assumption), by first | rfl | assumption | exact encV_len _ | exact Enc.len _ | exact len_ub (by assumption)⟩ | exact ⟨by assumption, by first | rfl | assumption | exact encV_len _ | exact Enc.len _ | exact len_ub (by assumption)⟩ | exact ⟨(by assumption : ∀ w', Sat _ w' _ → At w' _ _ _) _ hS, by first | rfl | assumption | exact encV_len _ | exact Enc.len _ | exact len_ub (by assumption)⟩ | exact hS.ldp | exact At.partC (by assumption) | exact At.partC ((by assumption : ∀ w', Sat _ w' _ → At w' _ _ _) _ hS))) ?_
    refine D.ev 5 rfl (by kernel_rfl) rfl hs.to (fun _ hS => E.lookupD hS rfl rfl Tryz.underlying39 _ (by rfl)) ?_
    refine D.evP 6 rfl (by kernel_rfl) rfl (fun _ => hs.to) (fun _ => E.assign rfl) ?_
    refine D.done rfl (by kernel_rfl) ?_
    refine X.keep [(0, _), (3, _), (13, _)] ⟨rfl, rfl, rfl, trivial⟩ ?_
    refine X.next ?_
    refine C.cbool rfl (fun h13 => ?_) (fun h13 => ?_)
    · refine C.seq ?_
      refine C.region ?_
      refine R.ev rfl (E.assign rfl) ?_
      refine R.done ?_
      refine X.keep [(4, _)] ⟨rfl, trivial⟩ ?_
      refine X.next ?_
      refine C.ret ?_
      refine X.blockRet ?_
      refine X.thenRet ?_
      refine X.ret1 rfl rfl ?_
      have hE : offE ⟨c, wt, inc, L, M⟩ a = 10 := by rw [offE, if_neg h8', if_pos (show Bk.out ⟨c, wt, inc, L, M⟩ a = true from h13)]
      exact ⟨by rw [hE], _, by rw [offS, hE, if_neg (by decide)]; exact BkL.mk' hr hm, hs.to⟩
    · refine C.skip ?_
      refine X.blockNormal ?_
      refine X.next ?_
      refine C.seq ?_
      refine C.drawn (SatS hs) ([3, 4], [0, 1, 2]) (by kernel_rfl) ?_
      have hs := hs.drew
      refine D.evP 0 rfl (by kernel_rfl) rfl (fun _ => hs.to) (fun _ => E.move rfl) ?_
      refine D.evP 1 rfl (by kernel_rfl) rfl (fun _ => hs.to) (fun _ => E.nilCheck rfl) ?_
      first | refine D.evP 2 rfl (by kernel_rfl) rfl (fun _ => hs.to) (fun _ => E.fieldAddr0 4 rfl Tryz.underlying79 rfl Tryz.sz39 rfl) ?_ | refine D.evP 2 rfl (by kernel_rfl) rfl (fun _ => hs.to) (fun _ => E.fieldAddrN 4 rfl Tryz.underlying79 rfl Tryz.sz39 rfl) ?_
      refine D.ev 3 rfl (by kernel_rfl) rfl hs.to (fun _ hS => E.load1 rfl Tryz.underlying39 rfl (by first | exact hS.ldc | exact hS.ld rfl | exact hS.ld (by assumption) | exact by assumption | exact At.cellC (by assumption) | exact hS.ldK rfl | exact At.cellC ((by assumption : ∀ w', Sat _ w' _ → At w' _ _ _) _ hS) | exact (by assumption : ∀ w', Sat _ w' _ → World.cell? w' _ = some _) _ hS)) ?_
      refine D.ev 4 rfl (by kernel_rfl) rfl hs.to (fun _ hS => E.loadRowC rfl Tryz.underlying45 rfl Tryz.sz45 (by first | exact ⟨hS.ldA, by first | rfl | assumption | exact encV_len _ | exact Enc.len _ | exact len_ub (by assumption)⟩ | exact ⟨hS.ldP rfl, by first | rfl | assumption | exact encV_len _ | exact Enc.len _ | exact len_ub (by assumption)⟩ | exact ⟨hS.ldM rfl rfl, by first | rfl | assumption | exact encV_len _ | exact Enc.len _ | exact len_ub (by assumption)⟩ | exact ⟨hS.ldM (by assumption) (by first | rfl | assumption), by first | rfl | assumption | exact encV_len _ | exact Enc.len _ | exact len_ub (by assumption)⟩ | exact ⟨by assumption, by first | rfl | assumption | exact encV_len _ | exact Enc.len _ | exact len_ub (by assumption)⟩ | exact ⟨(by assumption : ∀ w', Sat _ w' _ → At w' _ _ _) _ hS, by first | rfl | assumption | exact encV_len _ | exact Enc.len _ | exact len_ub (by assumption)⟩ | exact hS.ldp | exact At.partC (by assumption) | exact At.partC ((by assumption : ∀ w', Sat _ w' _ → At w' _ _ _) _ hS))) ?_
      refine D.act 5 rfl (by kernel_rfl) ?_
      refine R.cput (a) (true) hs rfl rfl rfl Tryz.underlying39 (by rfl) (by rfl) ?_
      intro w7_5 F7_5 m7_5 hs
      refine D.backT (by kernel_rfl) ?_
      refine D.done rfl (by kernel_rfl) ?_
      refine X.keep [] trivial ?_
      refine X.next ?_
      refine C.seq ?_
      refine C.region ?_
      refine R.ev rfl (E.assign rfl) ?_
      refine R.done ?_
      refine X.keep [(4, _)] ⟨rfl, trivial⟩ ?_
      refine X.next ?_
      refine C.ret ?_
      refine X.ret1 rfl rfl ?_
      have hE : offE ⟨c, wt, inc, L, M⟩ a = 0 := by rw [offE, if_neg h8', if_neg (by show ¬ (lkM M a).getD false = true; rw [h13]; decide)]
      exact ⟨by rw [hE], _, by rw [offS, hE, if_pos rfl]; exact BkL.mk' hr m7_5, hs.to⟩
theorem answered_any (a : Vec 32) (hs : Sat K w (F :: Rs)) [hw : BkL p s F] (hL : s.L.length ≤ 1000000) : Ret Tryz.prog 20 #[ptr p, idV a.1] w fun r w' => r = .int .i64 (ansE s a) ∧ ∃ F', BkL p (ansS s a) F' ∧ Sat K w' (F' :: Rs) := by
  have hw0 := hw
  obtain ⟨v, m, G, H, hF, hr, hm⟩ := hw.ex
  have hin : ∀ Hs, [FIn F Hs] → InH p (.cells [.int .i64 s.cap, .int .i64 s.wait, .bool s.inc, v, m].toArray 79 (0, 0)) Hs := fun Hs k => by rw [hF] at k; exact k.app.1.row
  have hin2 : ∀ Hs, [FIn F Hs] → FIn H Hs := fun Hs k => by rw [hF] at k; exact k.app.2.app.2
  have i1 := hin (F :: Rs)
  have i2 := hin2 (F :: Rs)
  have e1 := encV_len a
  refine Ret.enter (n := 24) (args := [ptr p, idV a.1]) Tryz.func20 rfl rfl ?_
  refine C.keep [(0, _), (1, _)] ⟨rfl, rfl, trivial⟩ ?_
  have i1 : ∀ (A : Hl), InH p (.cells [.int .i64 s.cap, .int .i64 s.wait, .bool s.inc, v, m].toArray 79 (0, 0)) (A :: F :: Rs) := fun A => hin _
  have i2 : ∀ (A : Hl), FIn H (A :: F :: Rs) := fun A => hin2 _
  refine C.seq ?_
  refine C.region ?_
  refine R.sboxA hs rfl rfl ?_
  intro b3 w3 hs
  refine R.ev rfl (E.assign rfl) ?_
  refine R.done ?_
  refine X.keep [(0, _), (3, _)] ⟨rfl, rfl, trivial⟩ ?_
  refine X.next ?_
  refine C.seq ?_
  refine C.block ?_
  refine C.seq ?_
  refine C.region ?_
  refine R.ev rfl (E.move rfl) ?_
  refine R.ev rfl (E.eqlNilF rfl rfl Tryz.underlying33) ?_
  refine R.ev rfl (E.assign rfl) ?_
  refine R.done ?_
  refine X.keep [(0, _), (3, _), (5, _)] ⟨rfl, rfl, rfl, trivial⟩ ?_
  refine X.next ?_
  refine C.cfalse rfl ?_
  refine C.seq ?_
  refine C.region ?_
  refine R.ev rfl (E.move rfl) ?_
  refine R.ev rfl (E.loadRowC rfl Tryz.underlying45 rfl Tryz.sz45 (by first | exact ⟨hs.ldA, by first | rfl | assumption | exact encV_len _ | exact Enc.len _ | exact len_ub (by assumption)⟩ | exact ⟨hs.ldP rfl, by first | rfl | assumption | exact encV_len _ | exact Enc.len _ | exact len_ub (by assumption)⟩ | exact ⟨hs.ldM rfl rfl, by first | rfl | assumption | exact encV_len _ | exact Enc.len _ | exact len_ub (by assumption)⟩ | exact ⟨hs.ldM (by assumption) (by first | rfl | assumption), by first | rfl | assumption | exact encV_len _ | exact Enc.len _ | exact len_ub (by assumption)⟩ | exact ⟨by assumption, by first | rfl | assumption | exact encV_len _ | exact Enc.len _ | exact len_ub (by assumption)⟩ | exact hs.ldp | exact At.partC (by assumption))) ?_
  refine R.call ⟨_, _, Tryz.func31, rfl, by kernel_rfl⟩ rfl rfl (has_any a hs) ?_
  rintro _ w3 ⟨rfl, hs⟩
  refine R.ev rfl ((E.not rfl).isB (c := !(has a s.L)) rfl) ?_
  refine R.ev rfl (E.assign rfl) ?_
  refine R.done ?_
  refine X.keep [(0, _), (3, _), (8, _)] ⟨rfl, rfl, rfl, trivial⟩ ?_
  refine X.next ?_
  refine C.cbool rfl (fun h8 => ?_) (fun h8 => ?_)
  · refine C.seq ?_
    refine C.region ?_
    refine R.ev rfl (E.assign rfl) ?_
    refine R.done ?_
    refine X.keep [(4, _)] ⟨rfl, trivial⟩ ?_
    refine X.next ?_
    refine C.ret ?_
    refine X.blockRet ?_
    refine X.thenRet ?_
    refine X.ret1 rfl rfl ?_
    have hE : ansE s a = 8 := by rw [ansE, if_pos (by simpa using h8)]
    exact ⟨by rw [hE], F, by rw [ansS, hE, if_neg (by decide)]; exact hw0, hs.to⟩
  · refine C.seq ?_
    refine C.drawn (SatS hs) ([3, 4, 5], [0, 1, 2, 6, 7]) (by kernel_rfl) ?_
    have hs := hs.drew
    have h8' : ¬ has a s.L = false := by simpa using h8
    refine D.evP 0 rfl (by kernel_rfl) rfl (fun _ => hs.to) (fun _ => E.move rfl) ?_
    refine D.evP 1 rfl (by kernel_rfl) rfl (fun _ => hs.to) (fun _ => E.nilCheck rfl) ?_
    first | refine D.evP 2 rfl (by kernel_rfl) rfl (fun _ => hs.to) (fun _ => E.fieldAddr0 4 rfl Tryz.underlying79 rfl Tryz.sz39 rfl) ?_ | refine D.evP 2 rfl (by kernel_rfl) rfl (fun _ => hs.to) (fun _ => E.fieldAddrN 4 rfl Tryz.underlying79 rfl Tryz.sz39 rfl) ?_
    refine D.ev 3 rfl (by kernel_rfl) rfl hs.to (fun _ hS => E.load1 rfl Tryz.underlying39 rfl (by first | exact hS.ldc | exact hS.ld rfl | exact hS.ld (by assumption) | exact by assumption | exact At.cellC (by assumption) | exact hS.ldK rfl | exact At.cellC ((by assumption : ∀ w', Sat _ w' _ → At w' _ _ _) _ hS) | exact (by assumption : ∀ w', Sat _ w' _ → World.cell? w' _ = some _) _ hS)) ?_
    refine D.ev 4 rfl (by kernel_rfl) rfl hs.to (fun _ hS => E.loadRowC rfl Tryz.underlying45 rfl Tryz.sz45 (by first | exact ⟨hS.ldA, by first | rfl | assumption | exact encV_len _ | exact Enc.len _ | exact len_ub (by assumption)⟩ | exact ⟨hS.ldP rfl, by first | rfl | assumption | exact encV_len _ | exact Enc.len _ | exact len_ub (by assumption)⟩ | exact ⟨hS.ldM rfl rfl, by first | rfl | assumption | exact encV_len _ | exact Enc.len _ | exact len_ub (by assumption)⟩ | exact ⟨hS.ldM (by assumption) (by first | rfl | assumption), by first | rfl | assumption | exact encV_len _ | exact Enc.len _ | exact len_ub (by assumption)⟩ | exact ⟨by assumption, by first | rfl | assumption | exact encV_len _ | exact Enc.len _ | exact len_ub (by assumption)⟩ | exact ⟨(by assumption : ∀ w', Sat _ w' _ → At w' _ _ _) _ hS, by first | rfl | assumption | exact encV_len _ | exact Enc.len _ | exact len_ub (by assumption)⟩ | exact hS.ldp | exact At.partC (by assumption) | exact At.partC ((by assumption : ∀ w', Sat _ w' _ → At w' _ _ _) _ hS))) ?_
    refine D.ev 5 rfl (by kernel_rfl) rfl hs.to (fun _ hS => E.lookupD hS rfl rfl Tryz.underlying39 _ (by rfl)) ?_
    refine D.evP 6 rfl (by kernel_rfl) rfl (fun _ => hs.to) (fun _ => (E.not rfl).isB (c := !(s.out a)) rfl) ?_
    refine D.evP 7 rfl (by kernel_rfl) rfl (fun _ => hs.to) (fun _ => E.assign rfl) ?_
    refine D.done rfl (by kernel_rfl) ?_
    refine X.keep [(0, _), (3, _), (13, _)] ⟨rfl, rfl, rfl, trivial⟩ ?_
    refine X.next ?_
    refine C.cbool rfl (fun h13 => ?_) (fun h13 => ?_)
    · refine C.seq ?_
      refine C.region ?_
      refine R.ev rfl (E.assign rfl) ?_
      refine R.done ?_
      refine X.keep [(4, _)] ⟨rfl, trivial⟩ ?_
      refine X.next ?_
      refine C.ret ?_
      refine X.blockRet ?_
      refine X.thenRet ?_
      refine X.ret1 rfl rfl ?_
      have hE : ansE s a = 10 := by rw [ansE, if_neg h8', if_pos (by simpa using h13)]
      exact ⟨by rw [hE], F, by rw [ansS, hE, if_neg (by decide)]; exact hw0, hs.to⟩
    · refine C.skip ?_
      refine X.blockNormal ?_
      refine X.next ?_
      refine C.seq ?_
      refine C.region ?_
      refine R.ev rfl (E.move rfl) ?_
      refine R.ev rfl (E.loadRowC rfl Tryz.underlying45 rfl Tryz.sz45 (by first | exact ⟨hs.ldA, by first | rfl | assumption | exact encV_len _ | exact Enc.len _ | exact len_ub (by assumption)⟩ | exact ⟨hs.ldP rfl, by first | rfl | assumption | exact encV_len _ | exact Enc.len _ | exact len_ub (by assumption)⟩ | exact ⟨hs.ldM rfl rfl, by first | rfl | assumption | exact encV_len _ | exact Enc.len _ | exact len_ub (by assumption)⟩ | exact ⟨hs.ldM (by assumption) (by first | rfl | assumption), by first | rfl | assumption | exact encV_len _ | exact Enc.len _ | exact len_ub (by assumption)⟩ | exact ⟨by assumption, by first | rfl | assumption | exact encV_len _ | exact Enc.len _ | exact len_ub (by assumption)⟩ | exact hs.ldp | exact At.partC (by assumption))) ?_
      refine R.call ⟨_, _, Tryz.func45, rfl, by kernel_rfl⟩ rfl rfl (remove_any a (hs.front (F := F)) hL) ?_
      rintro _ w7 ⟨rfl, F7, hw7, hs1⟩
      have hs := hs.back (F := F) hs1
      refine R.done ?_
      refine X.keep [] trivial ?_
      refine X.next ?_
      refine C.seq ?_
      refine C.region ?_
      refine R.ev rfl (E.assign rfl) ?_
      refine R.done ?_
      refine X.keep [(4, _)] ⟨rfl, trivial⟩ ?_
      refine X.next ?_
      refine C.ret ?_
      refine X.ret1 rfl rfl ?_
      have hE : ansE s a = 0 := by rw [ansE, if_neg h8', if_neg (by simpa using h13)]
      exact ⟨by rw [hE], F7, by rw [ansS, hE, if_pos rfl]; exact hw7, hs.to⟩
theorem later_any (a : Vec 32) (now : Int) (hs : Sat K w (F :: Rs)) [hw : BkL p s F] (hL : s.L.length ≤ 100000) (hwt : isWt s.wait = true) (htr : ∀ e ∈ s.L, 0 ≤ e.tries ∧ e.tries ≤ 4611686018427387904) : Ret Tryz.prog 19 #[ptr p, idV a.1, .int .i64 now] w fun r w' => r = .int .i64 (latE s a now) ∧ ∃ F', BkL p (latS s a now) F' ∧ Sat K w' (F' :: Rs) := by
  have hw0 := hw
  obtain ⟨v, m, G, H, hF, hr, hm⟩ := hw.ex
  have hin : ∀ Hs, [FIn F Hs] → InH p (.cells [.int .i64 s.cap, .int .i64 s.wait, .bool s.inc, v, m].toArray 79 (0, 0)) Hs := fun Hs k => by rw [hF] at k; exact k.app.1.row
  have hin2 : ∀ Hs, [FIn F Hs] → FIn H Hs := fun Hs k => by rw [hF] at k; exact k.app.2.app.2
  have hin3 : ∀ Hs, [FIn F Hs] → FIn G Hs := fun Hs k => by rw [hF] at k; exact k.app.2.app.1
  have hwt1 : 0 ≤ s.wait ∧ s.wait ≤ 100000 := by simpa [isWt] using hwt
  obtain ⟨ad, cap, rfl, hc, hcm, had⟩ := hr.val
  have e1 := encV_len a
  refine Ret.enter (n := 70) (args := [ptr p, idV a.1, .int .i64 now]) Tryz.func19 rfl rfl ?_
  refine C.keep [(0, _), (1, _), (2, _)] ⟨rfl, rfl, rfl, trivial⟩ ?_
  have i1 : ∀ (A : Hl), InH p (.cells [.int .i64 s.cap, .int .i64 s.wait, .bool s.inc, .slice ad s.L.length cap, m].toArray 79 (0, 0)) (A :: F :: Rs) := fun A => hin _
  have i2 : ∀ (A : Hl), FIn H (A :: F :: Rs) := fun A => hin2 _
  have i3 : ∀ (A : Hl), FIn G (A :: F :: Rs) := fun A => hin3 _
  refine C.seq ?_
  refine C.region ?_
  refine R.sboxA hs rfl rfl ?_
  intro b4 w4 hs
  refine R.ev rfl (E.assign rfl) ?_
  refine R.done ?_
  refine X.keep [(0, _), (2, _), (4, _)] ⟨rfl, rfl, rfl, trivial⟩ ?_
  refine X.next ?_
  refine C.seq ?_
  refine C.block ?_
  refine C.seq ?_
  refine C.region ?_
  refine R.ev rfl (E.move rfl) ?_
  refine R.ev rfl (E.eqlNilF rfl rfl Tryz.underlying33) ?_
  refine R.ev rfl (E.assign rfl) ?_
  refine R.done ?_
  refine X.keep [(0, _), (2, _), (4, _), (8, _)] ⟨rfl, rfl, rfl, rfl, trivial⟩ ?_
  refine X.next ?_
  refine C.cfalse rfl ?_
  refine C.seq ?_
  refine C.region ?_
  refine R.ev rfl (E.move rfl) ?_
  refine R.call ⟨_, _, Tryz.func30, rfl, by kernel_rfl⟩ rfl rfl (isMinute_any now _) ?_
  rintro _ _ ⟨rfl, rfl⟩
  refine R.ev rfl ((E.not rfl).isB (c := !(isMin now)) rfl) ?_
  refine R.ev rfl (E.move rfl) ?_
  refine R.split 15 rfl (fun h15 => ?_) (fun h15 => ?_)
  · refine R.gskip rfl rfl rfl ?_
    refine R.gskip rfl rfl rfl ?_
    refine R.gskip rfl rfl rfl ?_
    refine R.gskip rfl rfl rfl ?_
    refine R.gskip rfl rfl rfl ?_
    refine R.gskip rfl rfl rfl ?_
    refine R.gskip rfl rfl rfl ?_
    refine R.gskip rfl rfl rfl ?_
    refine R.ev rfl (E.pickT rfl rfl) ?_
    refine R.ev rfl (E.assign rfl) ?_
    refine R.done ?_
    refine X.keep [(0, _), (2, _), (4, _), (11, _)] ⟨rfl, rfl, rfl, rfl, trivial⟩ ?_
    refine X.next ?_
    refine C.ctrue rfl ?_
    refine C.seq ?_
    refine C.region ?_
    refine R.ev rfl (E.assign rfl) ?_
    refine R.done ?_
    refine X.keep [(6, _)] ⟨rfl, trivial⟩ ?_
    refine X.next ?_
    refine C.ret ?_
    refine X.blockRet ?_
    refine X.thenRet ?_
    refine X.ret1 rfl rfl ?_
    have hE : latE s a now = 2 := by rw [latE, if_pos]; first | exact .inl (by simpa using h15) | exact .inr (by simpa using h11)
    exact ⟨by rw [hE], F, by rw [latS, hE, if_neg (by decide)]; exact hw0, hs.to⟩
  · refine R.gyes rfl rfl ?_
    have hn1 : isMin now = true := by simpa using h15
    have hn2 : 0 ≤ now ∧ now ≤ 105190559 := by simpa [isMin] using hn1
    refine R.ev rfl (E.move rfl) ?_
    refine R.gyes rfl rfl ?_
    refine R.ev rfl (E.move rfl) ?_
    refine R.gyes rfl rfl ?_
    refine R.ev rfl (E.nilCheck rfl) ?_
    refine R.gyes rfl rfl ?_
    first | refine R.ev rfl (E.fieldAddr0 1 rfl Tryz.underlying79 rfl Tryz.sz3 rfl) ?_ | refine R.ev rfl (E.fieldAddrN 1 rfl Tryz.underlying79 rfl Tryz.sz3 rfl) ?_
    refine R.gyes rfl rfl ?_
    refine R.ev rfl (E.load1 rfl Tryz.underlying3 rfl (by first | exact hs.ldc | exact hs.ld rfl | exact hs.ld (by assumption) | exact by assumption | exact At.cellC (by assumption) | exact hs.ldK rfl)) ?_
    refine R.gyes rfl rfl ?_
    refine R.ev rfl (E.add rfl rfl (by omega) (by omega)) ?_
    refine R.gyes rfl rfl ?_
    refine R.call ⟨_, _, Tryz.func30, rfl, by kernel_rfl⟩ rfl rfl (isMinute_any (now + s.wait) _) ?_
    rintro _ _ ⟨rfl, rfl⟩
    refine R.gyes rfl rfl ?_
    refine R.ev rfl ((E.not rfl).isB (c := !(isMin (now + s.wait))) rfl) ?_
    refine R.ev rfl (E.pickF rfl rfl) ?_
    refine R.ev rfl (E.assign rfl) ?_
    refine R.done ?_
    refine X.keep [(0, _), (2, _), (4, _), (11, _)] ⟨rfl, rfl, rfl, rfl, trivial⟩ ?_
    refine X.next ?_
    refine C.cbool rfl (fun h11 => ?_) (fun h11 => ?_)
    · refine C.seq ?_
      refine C.region ?_
      refine R.ev rfl (E.assign rfl) ?_
      refine R.done ?_
      refine X.keep [(6, _)] ⟨rfl, trivial⟩ ?_
      refine X.next ?_
      refine C.ret ?_
      refine X.blockRet ?_
      refine X.thenRet ?_
      refine X.ret1 rfl rfl ?_
      have hE : latE s a now = 2 := by rw [latE, if_pos]; first | exact .inl (by simpa using h15) | exact .inr (by simpa using h11)
      exact ⟨by rw [hE], F, by rw [latS, hE, if_neg (by decide)]; exact hw0, hs.to⟩
    · refine C.seq ?_
      refine C.region ?_
      have h11' : ¬ (isMin now = false ∨ isMin (now + s.wait) = false) := by rw [hn1]; simpa using h11
      refine R.ev rfl (E.move rfl) ?_
      refine R.ev rfl (E.loadRowC rfl Tryz.underlying45 rfl Tryz.sz45 (by first | exact ⟨hs.ldA, by first | rfl | assumption | exact encV_len _ | exact Enc.len _ | exact len_ub (by assumption)⟩ | exact ⟨hs.ldP rfl, by first | rfl | assumption | exact encV_len _ | exact Enc.len _ | exact len_ub (by assumption)⟩ | exact ⟨hs.ldM rfl rfl, by first | rfl | assumption | exact encV_len _ | exact Enc.len _ | exact len_ub (by assumption)⟩ | exact ⟨hs.ldM (by assumption) (by first | rfl | assumption), by first | rfl | assumption | exact encV_len _ | exact Enc.len _ | exact len_ub (by assumption)⟩ | exact ⟨by assumption, by first | rfl | assumption | exact encV_len _ | exact Enc.len _ | exact len_ub (by assumption)⟩ | exact hs.ldp | exact At.partC (by assumption))) ?_
      refine R.call ⟨_, _, Tryz.func31, rfl, by kernel_rfl⟩ rfl rfl (has_any a hs) ?_
      rintro _ w5 ⟨rfl, hs⟩
      refine R.ev rfl ((E.not rfl).isB (c := !(has a s.L)) rfl) ?_
      refine R.ev rfl (E.assign rfl) ?_
      refine R.done ?_
      refine X.keep [(0, _), (2, _), (4, _), (25, _)] ⟨rfl, rfl, rfl, rfl, trivial⟩ ?_
      refine X.next ?_
      refine C.cbool rfl (fun h25 => ?_) (fun h25 => ?_)
      · refine C.seq ?_
        refine C.region ?_
        refine R.ev rfl (E.assign rfl) ?_
        refine R.done ?_
        refine X.keep [(6, _)] ⟨rfl, trivial⟩ ?_
        refine X.next ?_
        refine C.ret ?_
        refine X.blockRet ?_
        refine X.thenRet ?_
        refine X.ret1 rfl rfl ?_
        have hE : latE s a now = 8 := by rw [latE, if_neg h11', if_pos (by simpa using h25)]
        exact ⟨by rw [hE], F, by rw [latS, hE, if_neg (by decide)]; exact hw0, hs.to⟩
      · refine C.seq ?_
        refine C.drawn (SatS hs) ([3, 4, 5], [0, 1, 2, 6, 7]) (by kernel_rfl) ?_
        have hs := hs.drew
        refine D.evP 0 rfl (by kernel_rfl) rfl (fun _ => hs.to) (fun _ => E.move rfl) ?_
        refine D.evP 1 rfl (by kernel_rfl) rfl (fun _ => hs.to) (fun _ => E.nilCheck rfl) ?_
        first | refine D.evP 2 rfl (by kernel_rfl) rfl (fun _ => hs.to) (fun _ => E.fieldAddr0 4 rfl Tryz.underlying79 rfl Tryz.sz39 rfl) ?_ | refine D.evP 2 rfl (by kernel_rfl) rfl (fun _ => hs.to) (fun _ => E.fieldAddrN 4 rfl Tryz.underlying79 rfl Tryz.sz39 rfl) ?_
        refine D.ev 3 rfl (by kernel_rfl) rfl hs.to (fun _ hS => E.load1 rfl Tryz.underlying39 rfl (by first | exact hS.ldc | exact hS.ld rfl | exact hS.ld (by assumption) | exact by assumption | exact At.cellC (by assumption) | exact hS.ldK rfl | exact At.cellC ((by assumption : ∀ w', Sat _ w' _ → At w' _ _ _) _ hS) | exact (by assumption : ∀ w', Sat _ w' _ → World.cell? w' _ = some _) _ hS)) ?_
        refine D.ev 4 rfl (by kernel_rfl) rfl hs.to (fun _ hS => E.loadRowC rfl Tryz.underlying45 rfl Tryz.sz45 (by first | exact ⟨hS.ldA, by first | rfl | assumption | exact encV_len _ | exact Enc.len _ | exact len_ub (by assumption)⟩ | exact ⟨hS.ldP rfl, by first | rfl | assumption | exact encV_len _ | exact Enc.len _ | exact len_ub (by assumption)⟩ | exact ⟨hS.ldM rfl rfl, by first | rfl | assumption | exact encV_len _ | exact Enc.len _ | exact len_ub (by assumption)⟩ | exact ⟨hS.ldM (by assumption) (by first | rfl | assumption), by first | rfl | assumption | exact encV_len _ | exact Enc.len _ | exact len_ub (by assumption)⟩ | exact ⟨by assumption, by first | rfl | assumption | exact encV_len _ | exact Enc.len _ | exact len_ub (by assumption)⟩ | exact ⟨(by assumption : ∀ w', Sat _ w' _ → At w' _ _ _) _ hS, by first | rfl | assumption | exact encV_len _ | exact Enc.len _ | exact len_ub (by assumption)⟩ | exact hS.ldp | exact At.partC (by assumption) | exact At.partC ((by assumption : ∀ w', Sat _ w' _ → At w' _ _ _) _ hS))) ?_
        refine D.ev 5 rfl (by kernel_rfl) rfl hs.to (fun _ hS => E.lookupD hS rfl rfl Tryz.underlying39 _ (by rfl)) ?_
        refine D.evP 6 rfl (by kernel_rfl) rfl (fun _ => hs.to) (fun _ => (E.not rfl).isB (c := !(s.out a)) rfl) ?_
        refine D.evP 7 rfl (by kernel_rfl) rfl (fun _ => hs.to) (fun _ => E.assign rfl) ?_
        refine D.done rfl (by kernel_rfl) ?_
        refine X.keep [(0, _), (2, _), (4, _), (30, _)] ⟨rfl, rfl, rfl, rfl, trivial⟩ ?_
        refine X.next ?_
        refine C.cbool rfl (fun h30 => ?_) (fun h30 => ?_)
        · refine C.seq ?_
          refine C.region ?_
          refine R.ev rfl (E.assign rfl) ?_
          refine R.done ?_
          refine X.keep [(6, _)] ⟨rfl, trivial⟩ ?_
          refine X.next ?_
          refine C.ret ?_
          refine X.blockRet ?_
          refine X.thenRet ?_
          refine X.ret1 rfl rfl ?_
          have hE : latE s a now = 10 := by rw [latE, if_neg h11', if_neg (by simpa using h25), if_pos (by simpa using h30)]
          exact ⟨by rw [hE], F, by rw [latS, hE, if_neg (by decide)]; exact hw0, hs.to⟩
        · refine C.skip ?_
          refine X.blockNormal ?_
          refine X.next ?_
          refine C.seq ?_
          refine C.cut [(0, _), (2, _), (4, _)] (fun ((b, _) : Nat × Ent) => [(7, ptr b)]) (fun (b, e) w' => (triesOf s a = e.tries ∧ 0 ≤ e.tries ∧ e.tries ≤ 4611686018427387904) ∧ Sat K w' (row b 86 (encE e) :: row b4 45 (a.1.map ub) :: F :: Rs)) ⟨rfl, rfl, rfl, trivial⟩ ?_ ?_
          · refine C.drawn (SatS hs) ([3, 5, 8], [0, 1, 2, 4, 7]) (by kernel_rfl) ?_
            have hs := hs.drew
            have hh : has a s.L = true := by simpa using h25
            refine D.evP 0 rfl (by kernel_rfl) rfl (fun _ => hs.to) (fun _ => E.move rfl) ?_
            refine D.evP 1 rfl (by kernel_rfl) rfl (fun _ => hs.to) (fun _ => E.nilCheck rfl) ?_
            first | refine D.evP 2 rfl (by kernel_rfl) rfl (fun _ => hs.to) (fun _ => E.fieldAddr0 3 rfl Tryz.underlying79 rfl Tryz.sz77 rfl) ?_ | refine D.evP 2 rfl (by kernel_rfl) rfl (fun _ => hs.to) (fun _ => E.fieldAddrN 3 rfl Tryz.underlying79 rfl Tryz.sz77 rfl) ?_
            refine D.evP 4 rfl (by kernel_rfl) rfl (fun _ => hs.to) (fun _ => E.move rfl) ?_
            refine D.ev 3 rfl (by kernel_rfl) rfl hs.to (fun _ hS => E.load1 rfl Tryz.underlying77 rfl (by first | exact hS.ldc | exact hS.ld rfl | exact hS.ld (by assumption) | exact by assumption | exact At.cellC (by assumption) | exact hS.ldK rfl | exact At.cellC ((by assumption : ∀ w', Sat _ w' _ → At w' _ _ _) _ hS) | exact (by assumption : ∀ w', Sat _ w' _ → World.cell? w' _ = some _) _ hS)) ?_
            refine D.ev 5 rfl (by kernel_rfl) rfl hs.to (fun _ hS => E.loadRowC rfl Tryz.underlying45 rfl Tryz.sz45 (by first | exact ⟨hS.ldA, by first | rfl | assumption | exact encV_len _ | exact Enc.len _ | exact len_ub (by assumption)⟩ | exact ⟨hS.ldP rfl, by first | rfl | assumption | exact encV_len _ | exact Enc.len _ | exact len_ub (by assumption)⟩ | exact ⟨hS.ldM rfl rfl, by first | rfl | assumption | exact encV_len _ | exact Enc.len _ | exact len_ub (by assumption)⟩ | exact ⟨hS.ldM (by assumption) (by first | rfl | assumption), by first | rfl | assumption | exact encV_len _ | exact Enc.len _ | exact len_ub (by assumption)⟩ | exact ⟨by assumption, by first | rfl | assumption | exact encV_len _ | exact Enc.len _ | exact len_ub (by assumption)⟩ | exact ⟨(by assumption : ∀ w', Sat _ w' _ → At w' _ _ _) _ hS, by first | rfl | assumption | exact encV_len _ | exact Enc.len _ | exact len_ub (by assumption)⟩ | exact hS.ldp | exact At.partC (by assumption) | exact At.partC ((by assumption : ∀ w', Sat _ w' _ → At w' _ _ _) _ hS))) ?_
            refine D.act2 6 9 rfl rfl (by kernel_rfl) ?_ ?_
            · refine R.call ⟨_, _, Tryz.func44, rfl, by kernel_rfl⟩ rfl rfl (find_any a hs) ?_
              rintro _ w9 ⟨rfl, hs⟩
              obtain ⟨i, o, hi, ho, hpo, hno⟩ := has_idx hh
              rw [hi]
              have hil := (List.getElem?_eq_some_iff.1 ho).1
              obtain ⟨bg, rfl⟩ := had (by intro e; rw [e] at hil; simp at hil)
              have Ao := Sat.elAt (Hs := row b4 45 (a.1.map ub) :: F :: Rs) (b := bg) (off := 0) (n := s.L.length) cap hs.to ho
              have hot := htr o (List.mem_of_getElem? ho)
              have hft : triesOf s a = o.tries := by unfold triesOf; rw [find_at ho hpo hno]
              refine D.back hs.to ?_
              refine D.evP 7 rfl (by kernel_rfl) rfl (fun _ => hs.to) (fun _ => E.indexAddr rfl rfl Tryz.underlying77 Tryz.sz86 rfl (by first | omega | decide)) ?_
              refine D.ev 8 rfl (by kernel_rfl) rfl hs.to (fun _ hS => E.loadRowC rfl Tryz.underlying86 rfl Tryz.sz86 (by first | exact ⟨hS.ldA, by first | rfl | assumption | exact encV_len _ | exact Enc.len _ | exact len_ub (by assumption)⟩ | exact ⟨hS.ldP rfl, by first | rfl | assumption | exact encV_len _ | exact Enc.len _ | exact len_ub (by assumption)⟩ | exact ⟨hS.ldM rfl rfl, by first | rfl | assumption | exact encV_len _ | exact Enc.len _ | exact len_ub (by assumption)⟩ | exact ⟨hS.ldM (by assumption) (by first | rfl | assumption), by first | rfl | assumption | exact encV_len _ | exact Enc.len _ | exact len_ub (by assumption)⟩ | exact ⟨by assumption, by first | rfl | assumption | exact encV_len _ | exact Enc.len _ | exact len_ub (by assumption)⟩ | exact ⟨(by assumption : ∀ w', Sat _ w' _ → At w' _ _ _) _ hS, by first | rfl | assumption | exact encV_len _ | exact Enc.len _ | exact len_ub (by assumption)⟩ | exact hS.ldp | exact At.partC (by assumption) | exact At.partC ((by assumption : ∀ w', Sat _ w' _ → At w' _ _ _) _ hS))) ?_
              refine D.act 9 rfl (by kernel_rfl) ?_
              refine R.sallocA hs Tryz.zr86 rfl ?_
              intro b7 w7 hs
              refine D.back hs.to ?_
              refine D.act 10 rfl (by kernel_rfl) ?_
              first | refine R.cstoreAll hs rfl rfl Tryz.sz86 (by first | rfl | assumption | exact encV_len _ | exact Enc.len _ | exact len_ub (by assumption) | simp [*]) (by first | rfl | assumption | exact encV_len _ | exact Enc.len _ | exact len_ub (by assumption) | simp [*]) (by first | assumption | exact OneL.all | exact Enc.one _ | exact ub_all _ | (repeat' (first | refine List.forall_mem_cons.2 ⟨?_, ?_⟩ | exact List.forall_mem_nil _ | rfl | exact OneC.one | exact KRow.oneC' (by assumption)))) ?_ | refine R.cstore hs rfl rfl Tryz.sz86 (by first | rfl | assumption | exact encV_len _ | exact Enc.len _ | exact len_ub (by assumption) | simp [*]) (by simp [*]) (by first | assumption | exact OneL.all | exact Enc.one _ | exact ub_all _ | (repeat' (first | refine List.forall_mem_cons.2 ⟨?_, ?_⟩ | exact List.forall_mem_nil _ | rfl | exact OneC.one | exact KRow.oneC' (by assumption)))) ?_
              intro w9_10 hs
              try simp only [List.set_cons_zero, List.set_cons_succ] at hs
              refine D.backT (by kernel_rfl) ?_
              refine D.done rfl (by kernel_rfl) ?_
              refine X.keep [(0, _), (2, _), (4, _), (7, _)] ⟨rfl, rfl, rfl, rfl, trivial⟩ ?_
              refine X.cut ((b7, o)) ⟨lkV rfl ?_, rfl, rfl, rfl, trivial⟩ ?_
              · rfl
              · exact ⟨⟨hft, hot.1, hot.2⟩, hs.to⟩
            · refine R.sallocA hs Tryz.zr86 rfl ?_
              intro b7 w7 hs
              refine D.back hs.to ?_
              refine D.act 6 rfl (by kernel_rfl) ?_
              refine R.call ⟨_, _, Tryz.func44, rfl, by kernel_rfl⟩ rfl rfl (find_any a hs) ?_
              rintro _ w9 ⟨rfl, hs⟩
              obtain ⟨i, o, hi, ho, hpo, hno⟩ := has_idx hh
              rw [hi]
              have hil := (List.getElem?_eq_some_iff.1 ho).1
              obtain ⟨bg, rfl⟩ := had (by intro e; rw [e] at hil; simp at hil)
              have Ao := Sat.elAt (Hs := row b4 45 (a.1.map ub) :: F :: Rs) (b := bg) (off := 0) (n := s.L.length) cap hs.to ho
              have hot := htr o (List.mem_of_getElem? ho)
              have hft : triesOf s a = o.tries := by unfold triesOf; rw [find_at ho hpo hno]
              refine D.back hs.to ?_
              refine D.evP 7 rfl (by kernel_rfl) rfl (fun _ => hs.to) (fun _ => E.indexAddr rfl rfl Tryz.underlying77 Tryz.sz86 rfl (by first | omega | decide)) ?_
              refine D.ev 8 rfl (by kernel_rfl) rfl hs.to (fun _ hS => E.loadRowC rfl Tryz.underlying86 rfl Tryz.sz86 (by first | exact ⟨hS.ldA, by first | rfl | assumption | exact encV_len _ | exact Enc.len _ | exact len_ub (by assumption)⟩ | exact ⟨hS.ldP rfl, by first | rfl | assumption | exact encV_len _ | exact Enc.len _ | exact len_ub (by assumption)⟩ | exact ⟨hS.ldM rfl rfl, by first | rfl | assumption | exact encV_len _ | exact Enc.len _ | exact len_ub (by assumption)⟩ | exact ⟨hS.ldM (by assumption) (by first | rfl | assumption), by first | rfl | assumption | exact encV_len _ | exact Enc.len _ | exact len_ub (by assumption)⟩ | exact ⟨by assumption, by first | rfl | assumption | exact encV_len _ | exact Enc.len _ | exact len_ub (by assumption)⟩ | exact ⟨(by assumption : ∀ w', Sat _ w' _ → At w' _ _ _) _ hS, by first | rfl | assumption | exact encV_len _ | exact Enc.len _ | exact len_ub (by assumption)⟩ | exact hS.ldp | exact At.partC (by assumption) | exact At.partC ((by assumption : ∀ w', Sat _ w' _ → At w' _ _ _) _ hS))) ?_
              refine D.act 10 rfl (by kernel_rfl) ?_
              first | refine R.cstoreAll hs rfl rfl Tryz.sz86 (by first | rfl | assumption | exact encV_len _ | exact Enc.len _ | exact len_ub (by assumption) | simp [*]) (by first | rfl | assumption | exact encV_len _ | exact Enc.len _ | exact len_ub (by assumption) | simp [*]) (by first | assumption | exact OneL.all | exact Enc.one _ | exact ub_all _ | (repeat' (first | refine List.forall_mem_cons.2 ⟨?_, ?_⟩ | exact List.forall_mem_nil _ | rfl | exact OneC.one | exact KRow.oneC' (by assumption)))) ?_ | refine R.cstore hs rfl rfl Tryz.sz86 (by first | rfl | assumption | exact encV_len _ | exact Enc.len _ | exact len_ub (by assumption) | simp [*]) (by simp [*]) (by first | assumption | exact OneL.all | exact Enc.one _ | exact ub_all _ | (repeat' (first | refine List.forall_mem_cons.2 ⟨?_, ?_⟩ | exact List.forall_mem_nil _ | rfl | exact OneC.one | exact KRow.oneC' (by assumption)))) ?_
              intro w9_10 hs
              try simp only [List.set_cons_zero, List.set_cons_succ] at hs
              refine D.backT (by kernel_rfl) ?_
              refine D.done rfl (by kernel_rfl) ?_
              refine X.keep [(0, _), (2, _), (4, _), (7, _)] ⟨rfl, rfl, rfl, rfl, trivial⟩ ?_
              refine X.cut ((b7, o)) ⟨lkV rfl ?_, rfl, rfl, rfl, trivial⟩ ?_
              · rfl
              · exact ⟨⟨hft, hot.1, hot.2⟩, hs.to⟩
          · rintro ⟨b7, e⟩ w9 ⟨⟨ht1, ht2, ht3⟩, hs⟩
            refine X.keep [(0, _), (2, _), (4, _), (7, _)] ⟨rfl, rfl, rfl, rfl, trivial⟩ ?_
            refine X.next ?_
            refine C.seq ?_
            refine C.region ?_
            refine R.ev rfl (E.move rfl) ?_
            refine R.ev rfl (E.loadRowC rfl Tryz.underlying45 rfl Tryz.sz45 (by first | exact ⟨hs.ldA, by first | rfl | assumption | exact encV_len _ | exact Enc.len _ | exact len_ub (by assumption)⟩ | exact ⟨hs.ldP rfl, by first | rfl | assumption | exact encV_len _ | exact Enc.len _ | exact len_ub (by assumption)⟩ | exact ⟨hs.ldM rfl rfl, by first | rfl | assumption | exact encV_len _ | exact Enc.len _ | exact len_ub (by assumption)⟩ | exact ⟨hs.ldM (by assumption) (by first | rfl | assumption), by first | rfl | assumption | exact encV_len _ | exact Enc.len _ | exact len_ub (by assumption)⟩ | exact ⟨by assumption, by first | rfl | assumption | exact encV_len _ | exact Enc.len _ | exact len_ub (by assumption)⟩ | exact hs.ldp | exact At.partC (by assumption))) ?_
            refine R.call ⟨_, _, Tryz.func45, rfl, by kernel_rfl⟩ rfl rfl (remove_any a (hs.front (F := F)) (by omega)) ?_
            rintro _ w10 ⟨rfl, F10, hw10, hs1⟩
            have hs := hs.back (F := F) hs1
            have hrw : (remS s a).wait = s.wait := by unfold remS; split <;> rfl
            have hrl : (remS s a).L.length ≤ s.L.length := by
              unfold remS
              split
              · have : ∀ L, (remL a L).length ≤ L.length := by
                  intro L
                  induction L with
                  | nil => simp [remL]
                  | cons e L ih => unfold remL; split <;> simp <;> omega
                exact this _
              · exact Nat.le_refl _
            obtain ⟨v2, m2, G2, H2, rfl, hr2, hm2⟩ := hw10.ex
            generalize hrs : remS s a = rs at hrw hrl hr2 hm2 hs
            obtain ⟨c3, wt3, inc3, L3, M3⟩ := rs
            simp only at hrw hrl hr2 hm2 hs
            subst hrw
            have hs := hs.front (F := (row p 79 [.int .i64 c3, .int .i64 s.wait, .bool inc3, v2, m2] ++ (G2 ++ H2)))
            have hs := hs.cut.p1.cut.p2
            refine R.done ?_
            refine X.keep [(0, _), (2, _), (4, _), (7, _)] ⟨rfl, rfl, rfl, rfl, trivial⟩ ?_
            refine X.next ?_
            refine C.seq ?_
            refine C.drawn (SatS hs) ([4, 5, 10, 13], [0, 1, 2, 3, 6, 7, 8, 9, 11, 12, 14, 15, 18, 19]) (by kernel_rfl) ?_
            have hs := hs.drew
            refine D.evP 0 rfl (by kernel_rfl) rfl (fun _ => hs.to) (fun _ => E.move rfl) ?_
            refine D.evP 1 rfl (by kernel_rfl) rfl (fun _ => hs.to) (fun _ => E.move rfl) ?_
            refine D.evP 2 rfl (by kernel_rfl) rfl (fun _ => hs.to) (fun _ => E.nilCheck rfl) ?_
            first | refine D.evP 3 rfl (by kernel_rfl) rfl (fun _ => hs.to) (fun _ => E.fieldAddr0 3 rfl Tryz.underlying79 rfl Tryz.sz77 rfl) ?_ | refine D.evP 3 rfl (by kernel_rfl) rfl (fun _ => hs.to) (fun _ => E.fieldAddrN 3 rfl Tryz.underlying79 rfl Tryz.sz77 rfl) ?_
            refine D.evP 6 rfl (by kernel_rfl) rfl (fun _ => hs.to) (fun _ => E.move rfl) ?_
            refine D.evP 7 rfl (by kernel_rfl) rfl (fun _ => hs.to) (fun _ => E.move rfl) ?_
            refine D.evP 8 rfl (by kernel_rfl) rfl (fun _ => hs.to) (fun _ => E.nilCheck rfl) ?_
            first | refine D.evP 9 rfl (by kernel_rfl) rfl (fun _ => hs.to) (fun _ => E.fieldAddr0 1 rfl Tryz.underlying79 rfl Tryz.sz3 rfl) ?_ | refine D.evP 9 rfl (by kernel_rfl) rfl (fun _ => hs.to) (fun _ => E.fieldAddrN 1 rfl Tryz.underlying79 rfl Tryz.sz3 rfl) ?_
            first | refine D.evP 12 rfl (by kernel_rfl) rfl (fun _ => hs.to) (fun _ => E.fieldAddr0 33 rfl Tryz.underlying86 rfl Tryz.sz3 rfl) ?_ | refine D.evP 12 rfl (by kernel_rfl) rfl (fun _ => hs.to) (fun _ => E.fieldAddrN 33 rfl Tryz.underlying86 rfl Tryz.sz3 rfl) ?_
            refine D.ev 4 rfl (by kernel_rfl) rfl hs.to (fun _ hS => E.load1 rfl Tryz.underlying77 rfl (by first | exact hS.ldc | exact hS.ld rfl | exact hS.ld (by assumption) | exact by assumption | exact At.cellC (by assumption) | exact hS.ldK rfl | exact At.cellC ((by assumption : ∀ w', Sat _ w' _ → At w' _ _ _) _ hS) | exact (by assumption : ∀ w', Sat _ w' _ → World.cell? w' _ = some _) _ hS)) ?_
            refine D.ev 5 rfl (by kernel_rfl) rfl hs.to (fun _ hS => E.loadRowC rfl Tryz.underlying45 rfl Tryz.sz45 (by first | exact ⟨hS.ldA, by first | rfl | assumption | exact encV_len _ | exact Enc.len _ | exact len_ub (by assumption)⟩ | exact ⟨hS.ldP rfl, by first | rfl | assumption | exact encV_len _ | exact Enc.len _ | exact len_ub (by assumption)⟩ | exact ⟨hS.ldM rfl rfl, by first | rfl | assumption | exact encV_len _ | exact Enc.len _ | exact len_ub (by assumption)⟩ | exact ⟨hS.ldM (by assumption) (by first | rfl | assumption), by first | rfl | assumption | exact encV_len _ | exact Enc.len _ | exact len_ub (by assumption)⟩ | exact ⟨by assumption, by first | rfl | assumption | exact encV_len _ | exact Enc.len _ | exact len_ub (by assumption)⟩ | exact ⟨(by assumption : ∀ w', Sat _ w' _ → At w' _ _ _) _ hS, by first | rfl | assumption | exact encV_len _ | exact Enc.len _ | exact len_ub (by assumption)⟩ | exact hS.ldp | exact At.partC (by assumption) | exact At.partC ((by assumption : ∀ w', Sat _ w' _ → At w' _ _ _) _ hS))) ?_
            refine D.ev 10 rfl (by kernel_rfl) rfl hs.to (fun _ hS => E.load1 rfl Tryz.underlying3 rfl (by first | exact hS.ldc | exact hS.ld rfl | exact hS.ld (by assumption) | exact by assumption | exact At.cellC (by assumption) | exact hS.ldK rfl | exact At.cellC ((by assumption : ∀ w', Sat _ w' _ → At w' _ _ _) _ hS) | exact (by assumption : ∀ w', Sat _ w' _ → World.cell? w' _ = some _) _ hS)) ?_
            refine D.evP 11 rfl (by kernel_rfl) rfl (fun _ => hs.to) (fun _ => E.add rfl rfl (by omega) (by omega)) ?_
            refine D.ev 13 rfl (by kernel_rfl) rfl hs.to (fun _ hS => E.load1 rfl Tryz.underlying3 rfl (by first | exact hS.ldc | exact hS.ld rfl | exact hS.ld (by assumption) | exact by assumption | exact At.cellC (by assumption) | exact hS.ldK rfl | exact At.cellC ((by assumption : ∀ w', Sat _ w' _ → At w' _ _ _) _ hS) | exact (by assumption : ∀ w', Sat _ w' _ → World.cell? w' _ = some _) _ hS)) ?_
            refine D.evP 14 rfl (by kernel_rfl) rfl (fun _ => hs.to) (fun _ => E.add rfl rfl (by omega) (by omega)) ?_
            refine D.evP 15 rfl (by kernel_rfl) rfl (fun _ => hs.to) (fun _ => E.buildG (r := encE ⟨a, now + s.wait, e.tries + 1⟩) rfl Tryz.underlying86 Tryz.zr86 Tryz.ql86 (by kernel_rfl) (by kernel_rfl) ⟨⟨_, rfl, by first | rfl | exact vsz _ | simp [Value.cells, *]⟩, ⟨_, rfl, by first | rfl | exact vsz _ | simp [Value.cells, *]⟩, ⟨_, rfl, by first | rfl | exact vsz _ | simp [Value.cells, *]⟩, trivial⟩ (by first | rfl | simp [setF, fieldsOf, Value.cells])) ?_
            refine D.act 16 rfl (by kernel_rfl) ?_
            refine R.buildSliceA rfl Tryz.underlying77 Tryz.sz86 Tryz.zr86 rfl (by first | rfl | assumption | exact encV_len _ | exact Enc.len _ | simp [*]) (by decide) (by decide) ?_
            intro b66 w66 n66
            have hs := hs.new n66
            refine D.back hs.to ?_
            refine D.act 17 rfl (by kernel_rfl) ?_
            refine R.capp1 (⟨a, now + s.wait, e.tries + 1⟩) hs rfl rfl Tryz.underlying77 Tryz.by86 (by rfl) rfl (by first | exact hs.ldA | exact hs.ldP rfl | exact by assumption) (by decide) (by first | omega | (simp only [List.length_append, List.length_cons, List.length_nil] at *; omega)) (by first | omega | (simp only [List.length_append, List.length_cons, List.length_nil] at *; omega)) ?_
            intro v67 w67 F67 r67 hs
            refine D.backT (by kernel_rfl) ?_
            refine D.evP 18 rfl (by kernel_rfl) rfl (np (by kernel_rfl)) (fun _ => E.nilCheck rfl) ?_
            first | refine D.evP 19 rfl (by kernel_rfl) rfl (np (by kernel_rfl)) (fun _ => E.fieldAddr0 3 rfl Tryz.underlying79 rfl Tryz.sz77 rfl) ?_ | refine D.evP 19 rfl (by kernel_rfl) rfl (np (by kernel_rfl)) (fun _ => E.fieldAddrN 3 rfl Tryz.underlying79 rfl Tryz.sz77 rfl) ?_
            refine D.act 20 rfl (by kernel_rfl) ?_
            refine R.cstore1 hs rfl rfl Tryz.sz77 (by first | decide | simp [*]) (by first | rfl | exact OneC.one | exact KRow.oneC' (by assumption)) ?_
            intro w11_20 hs
            try simp only [List.set_cons_zero, List.set_cons_succ] at hs
            refine D.backT (by kernel_rfl) ?_
            refine D.done rfl (by kernel_rfl) ?_
            refine X.keep [] trivial ?_
            refine X.next ?_
            refine C.seq ?_
            refine C.region ?_
            refine R.ev rfl (E.assign rfl) ?_
            refine R.done ?_
            refine X.keep [(6, _)] ⟨rfl, trivial⟩ ?_
            refine X.next ?_
            refine C.ret ?_
            refine X.ret1 rfl rfl ?_
            have hE : latE s a now = 0 := by rw [latE, if_neg h11', if_neg (by simpa using h25), if_neg (by simpa using h30)]
            exact ⟨by rw [hE], _, by rw [latS, hE, if_pos rfl, hrs, ht1]; exact BkL.mk' r67 hm2, hs.to⟩
theorem drop_any (hs : Sat K w (F :: Rs)) [hw : BkL p s F] : Ret Tryz.prog 11 #[ptr p] w fun r w' => r = .int .i64 s.M.length ∧ ∃ F', BkL p { s with M := [] } F' ∧ Sat K w' (F' :: Rs) := by
  obtain ⟨v, m, G, H, rfl, hr, hm⟩ := hw.ex
  have hs := hs.cut.p1.cut.p2
  refine Ret.enter (n := 16) (args := [ptr p]) Tryz.func11 rfl rfl ?_
  refine C.keep [(0, _)] ⟨rfl, trivial⟩ ?_
  refine C.seq ?_
  refine C.region ?_
  refine R.ev rfl (E.assign rfl) ?_
  refine R.done ?_
  refine X.keep [(0, _)] ⟨rfl, trivial⟩ ?_
  refine X.next ?_
  refine C.seq ?_
  refine C.seq ?_
  refine C.region ?_
  refine R.ev rfl (E.move rfl) ?_
  refine R.ev rfl (E.eqlNilF rfl rfl Tryz.underlying33) ?_
  refine R.done ?_
  refine X.keep [(0, _), (5, _)] ⟨rfl, rfl, trivial⟩ ?_
  refine X.next ?_
  refine C.cfalse rfl ?_
  refine C.skip ?_
  refine X.next ?_
  refine C.seq ?_
  refine C.region ?_
  refine R.ev rfl (E.move rfl) ?_
  refine R.ev rfl (E.nilCheck rfl) ?_
  first | refine R.ev rfl (E.fieldAddr0 4 rfl Tryz.underlying79 rfl Tryz.sz39 rfl) ?_ | refine R.ev rfl (E.fieldAddrN 4 rfl Tryz.underlying79 rfl Tryz.sz39 rfl) ?_
  refine R.ev rfl (E.load1 rfl Tryz.underlying39 rfl (by first | exact hs.ldc | exact hs.ld rfl | exact hs.ld (by assumption) | exact by assumption | exact At.cellC (by assumption) | exact hs.ldK rfl)) ?_
  refine R.ev rfl (E.lenM hs rfl Tryz.underlying39) ?_
  refine R.ev rfl (E.assign rfl) ?_
  refine R.done ?_
  refine X.keep [(0, _), (3, _)] ⟨rfl, rfl, trivial⟩ ?_
  refine X.next ?_
  refine C.seq ?_
  refine C.region ?_
  refine R.ev rfl (E.move rfl) ?_
  refine R.cmake hs Tryz.underlying39 (Value.bool) rfl ?_
  intro v12 w12 F12 m12 hs
  refine R.ev rfl (E.nilCheck rfl) ?_
  first | refine R.ev rfl (E.fieldAddr0 4 rfl Tryz.underlying79 rfl Tryz.sz39 rfl) ?_ | refine R.ev rfl (E.fieldAddrN 4 rfl Tryz.underlying79 rfl Tryz.sz39 rfl) ?_
  refine R.cstore1 hs rfl rfl Tryz.sz39 (by first | decide | simp [*]) (by first | rfl | exact OneC.one | exact KRow.oneC' (by assumption)) ?_
  intro w4_4 hs
  try simp only [List.set_cons_zero, List.set_cons_succ] at hs
  refine R.done ?_
  refine X.keep [(3, _)] ⟨rfl, trivial⟩ ?_
  refine X.next ?_
  refine C.seq ?_
  refine C.region ?_
  refine R.ev rfl (E.move rfl) ?_
  refine R.ev rfl (E.assign rfl) ?_
  refine R.done ?_
  refine X.keep [(2, _)] ⟨rfl, trivial⟩ ?_
  refine X.next ?_
  refine C.ret ?_
  refine X.ret1 rfl rfl ?_
  exact ⟨rfl, _, BkL.mk' hr m12, hs.to⟩
def outL (s : Bk) (L : List Ent) : List (Vec 32) := (L.filter fun e => s.out e.id).map Ent.id
theorem outL_snoc {L : List Ent} {k : Nat} {y : Ent} (h : L[k]? = some y) : outL s (L.take (k + 1)) = outL s (L.take k) ++ (if s.out y.id then [y.id] else []) := by
  rw [take_snoc h, outL, outL, List.filter_append, List.map_append]
  cases hy : s.out y.id <;> simp [hy]
theorem outL_le (L : List Ent) : (outL s L).length ≤ L.length := by
  unfold outL; rw [List.length_map]; exact List.length_filter_le _ _
/-- what Next collects -/
def nxt (s : Bk) (now : Int) (e : Ent) : Bool := !s.out e.id && decide (e.due ≤ now)
def nxtL (s : Bk) (now most : Int) (L : List Ent) : List (Vec 32) := ((L.filter (nxt s now)).map Ent.id).take most.toNat
theorem nxtL_snoc {now most : Int} {L : List Ent} {k : Nat} {y : Ent} (h : L[k]? = some y) (hl : ¬ most ≤ (nxtL s now most (L.take k)).length) : nxtL s now most (L.take (k + 1)) = nxtL s now most (L.take k) ++ (if nxt s now y then [y.id] else []) := by
  unfold nxtL at hl ⊢
  rw [take_snoc h, List.filter_append, List.map_append]
  have h1 : ((L.take k).filter (nxt s now)).length < most.toNat := by
    rcases Nat.lt_or_ge ((L.take k).filter (nxt s now)).length most.toNat with h' | h'
    · exact h'
    · exfalso; apply hl
      rw [List.length_take, List.length_map, Nat.min_eq_left h']; omega
  cases hy : nxt s now y
  · simp [hy]
  · simp only [List.filter_cons, hy, if_true, List.filter_nil, List.map_cons, List.map_nil]
    rw [List.take_of_length_le (l := ((L.take k).filter (nxt s now)).map Ent.id ++ [y.id]) (by rw [List.length_append, List.length_map]; simp only [List.length_cons, List.length_nil]; omega), List.take_of_length_le (l := ((L.take k).filter (nxt s now)).map Ent.id) (by rw [List.length_map]; omega)]
theorem nxtL_stop {now most : Int} {L : List Ent} {k : Nat} (hl : most ≤ (nxtL s now most (L.take k)).length) : nxtL s now most L = nxtL s now most (L.take k) := by
  unfold nxtL at hl ⊢
  have e : L.filter (nxt s now) = (L.take k).filter (nxt s now) ++ (L.drop k).filter (nxt s now) := by rw [← List.filter_append, List.take_append_drop]
  rw [e, List.map_append, List.take_append_of_le_length]
  rw [List.length_take] at hl
  rw [List.length_map] at hl ⊢
  omega
theorem nxtL_le (now most : Int) (L : List Ent) : (nxtL s now most L).length ≤ L.length := by
  unfold nxtL; rw [List.length_take, List.length_map]
  have := List.length_filter_le (nxt s now) L; omega
theorem next_any (now most : Int) (hs : Sat K w Hs) [hw : BkIn p s Hs] (hL : s.L.length ≤ 1000000) : Ret Tryz.prog 17 #[ptr p, .int .i64 now, .int .i64 most] w fun r w' => ∃ F', RowL 45 encV 32 r (nxtL s now most s.L) F' ∧ Sat K w' (F' :: Hs) := by
  obtain ⟨v, m, G, H, _, hr, _, hm, _⟩ := hw.ex
  obtain ⟨ad, cap, rfl, hc, hcm, had⟩ := hr.val
  refine Ret.enter (n := 46) (args := [ptr p, .int .i64 now, .int .i64 most]) Tryz.func17 rfl rfl ?_
  refine C.keep [(0, _), (1, _), (2, _)] ⟨rfl, rfl, rfl, trivial⟩ ?_
  refine C.seq ?_
  refine C.region ?_
  refine R.ev rfl (E.assign rfl) ?_
  refine R.done ?_
  refine X.keep [(0, _), (1, _), (2, _)] ⟨rfl, rfl, rfl, trivial⟩ ?_
  refine X.next ?_
  refine C.seq ?_
  refine C.seq ?_
  refine C.region ?_
  refine R.ev rfl (E.move rfl) ?_
  refine R.ev rfl (E.eqlNilF rfl rfl Tryz.underlying33) ?_
  refine R.done ?_
  refine X.keep [(0, _), (1, _), (2, _), (11, _)] ⟨rfl, rfl, rfl, rfl, trivial⟩ ?_
  refine X.next ?_
  refine C.cfalse rfl ?_
  refine C.skip ?_
  refine X.next ?_
  refine C.seq ?_
  refine C.region ?_
  refine R.ev rfl (E.assign rfl) ?_
  refine R.done ?_
  refine X.keep [(0, _), (1, _), (2, _), (7, _)] ⟨rfl, rfl, rfl, rfl, trivial⟩ ?_
  refine X.next ?_
  refine C.seq ?_
  refine C.seq ?_
  refine C.region ?_
  refine R.ev rfl (E.move rfl) ?_
  refine R.ev rfl (E.nilCheck rfl) ?_
  first | refine R.ev rfl (E.fieldAddr0 3 rfl Tryz.underlying79 rfl Tryz.sz77 rfl) ?_ | refine R.ev rfl (E.fieldAddrN 3 rfl Tryz.underlying79 rfl Tryz.sz77 rfl) ?_
  refine R.ev rfl (E.load1 rfl Tryz.underlying77 rfl (by first | exact hs.ldc | exact hs.ld rfl | exact hs.ld (by assumption) | exact by assumption | exact At.cellC (by assumption) | exact hs.ldK rfl)) ?_
  refine R.ev rfl (E.lenSl rfl Tryz.underlying77) ?_
  refine R.ev rfl (E.move rfl) ?_
  refine R.done ?_
  refine X.keep [(0, _), (1, _), (2, _), (7, _), (15, _), (16, _), (17, _)] ⟨rfl, rfl, rfl, rfl, rfl, rfl, rfl, trivial⟩ ?_
  refine X.next ?_
  refine C.block ?_
  refine C.loop (T := Nat × Value × Hl) [(0, _), (1, _), (2, _), (15, _), (16, _)] (fun (k, v, _) => [(7, v), (17, .int .i64 (k : Nat))]) (fun (k, v, F') w' => k ≤ s.L.length ∧ RowL 45 encV 32 v (nxtL s now most (s.L.take k)) F' ∧ Sat K w' (F' :: Hs)) (fun (k, _) => s.L.length - k) ((0, .slice none 0 0, [])) ⟨rfl, rfl, rfl, rfl, rfl, rfl, rfl, trivial⟩ ⟨by omega, by simp [nxtL]; exact RowL.nil _ _ _, hs.nil⟩ ?_
  rintro ⟨k, v, F'⟩ w1 ⟨hk, r1, hs⟩
  have hlen : (nxtL s now most (s.L.take k)).length ≤ 1000000 := by have := nxtL_le (s := s) now most (s.L.take k); simp at this; omega
  obtain ⟨ad1, cap1, rfl, _⟩ := r1.val
  refine C.keep [(0, _), (1, _), (2, _), (7, _), (15, _), (16, _), (17, _)] ⟨rfl, rfl, rfl, rfl, rfl, rfl, rfl, trivial⟩ ?_
  refine C.seq ?_
  refine C.region ?_
  refine R.ev rfl (E.lss rfl rfl) ?_
  refine R.done ?_
  refine X.keep [(0, _), (1, _), (2, _), (7, _), (15, _), (16, _), (17, _), (18, _)] ⟨rfl, rfl, rfl, rfl, rfl, rfl, rfl, rfl, trivial⟩ ?_
  refine X.next ?_
  refine C.seq ?_
  refine C.cdec rfl (fun h18 => ?_) (fun h18 => ?_)
  · obtain ⟨y, bk_y, of_y, hy, my, ly, rfl, Ay⟩ := hs.el (i := k) (ad := ad) (n := s.L.length) (c := cap) (by omega)
    have ay := Ay _ hs
    refine C.skip ?_
    refine X.next ?_
    refine C.seq ?_
    refine C.block ?_
    refine C.seq ?_
    refine C.region ?_
    refine R.ev rfl (E.indexAddr rfl rfl Tryz.underlying77 Tryz.sz86 rfl (by first | omega | decide)) ?_
    refine R.ev rfl (E.loadRowC rfl Tryz.underlying86 rfl Tryz.sz86 (by first | exact ⟨hs.ldA, by first | rfl | assumption | exact encV_len _ | exact Enc.len _ | exact len_ub (by assumption)⟩ | exact ⟨hs.ldP rfl, by first | rfl | assumption | exact encV_len _ | exact Enc.len _ | exact len_ub (by assumption)⟩ | exact ⟨hs.ldM rfl rfl, by first | rfl | assumption | exact encV_len _ | exact Enc.len _ | exact len_ub (by assumption)⟩ | exact ⟨hs.ldM (by assumption) (by first | rfl | assumption), by first | rfl | assumption | exact encV_len _ | exact Enc.len _ | exact len_ub (by assumption)⟩ | exact ⟨by assumption, by first | rfl | assumption | exact encV_len _ | exact Enc.len _ | exact len_ub (by assumption)⟩ | exact hs.ldp | exact At.partC (by assumption))) ?_
    refine R.sallocA hs Tryz.zr86 rfl ?_
    intro b9 w9 hs
    first | refine R.cstoreAll hs rfl rfl Tryz.sz86 (by first | rfl | assumption | exact encV_len _ | exact Enc.len _ | exact len_ub (by assumption) | simp [*]) (by first | rfl | assumption | exact encV_len _ | exact Enc.len _ | exact len_ub (by assumption) | simp [*]) (by first | assumption | exact OneL.all | exact Enc.one _ | exact ub_all _ | (repeat' (first | refine List.forall_mem_cons.2 ⟨?_, ?_⟩ | exact List.forall_mem_nil _ | rfl | exact OneC.one | exact KRow.oneC' (by assumption)))) ?_ | refine R.cstore hs rfl rfl Tryz.sz86 (by first | rfl | assumption | exact encV_len _ | exact Enc.len _ | exact len_ub (by assumption) | simp [*]) (by simp [*]) (by first | assumption | exact OneL.all | exact Enc.one _ | exact ub_all _ | (repeat' (first | refine List.forall_mem_cons.2 ⟨?_, ?_⟩ | exact List.forall_mem_nil _ | rfl | exact OneC.one | exact KRow.oneC' (by assumption)))) ?_
    intro w6_3 hs
    try simp only [List.set_cons_zero, List.set_cons_succ] at hs
    refine R.done ?_
    refine X.keep [(0, _), (1, _), (2, _), (7, _), (9, _), (15, _), (16, _), (17, _)] ⟨rfl, rfl, rfl, rfl, rfl, rfl, rfl, rfl, trivial⟩ ?_
    refine X.next ?_
    refine C.seq ?_
    refine C.seq ?_
    refine C.region ?_
    refine R.ev rfl (E.move rfl) ?_
    refine R.ev rfl (E.lenSl rfl Tryz.underlying55) ?_
    refine R.ev rfl (E.move rfl) ?_
    refine R.ev rfl (E.geq rfl rfl) ?_
    refine R.done ?_
    refine X.keep [(0, _), (1, _), (2, _), (7, _), (9, _), (15, _), (16, _), (17, _), (24, _)] ⟨rfl, rfl, rfl, rfl, rfl, rfl, rfl, rfl, rfl, trivial⟩ ?_
    refine X.next ?_
    refine C.cdec rfl (fun h24 => ?_) (fun h24 => ?_)
    · refine C.exit ?_
      refine X.thenExit ?_
      refine X.blockOther rfl ?_
      refine X.thenExit ?_
      refine X.loopExit ?_
      refine X.blockExit ?_
      refine X.next ?_
      refine C.seq ?_
      refine C.region ?_
      refine R.ev rfl (E.move rfl) ?_
      refine R.ev rfl (E.assign rfl) ?_
      refine R.done ?_
      refine X.keep [(6, _)] ⟨rfl, trivial⟩ ?_
      refine X.next ?_
      refine C.ret ?_
      refine X.ret1 rfl rfl ?_
      first
        | exact ⟨F', by rw [nxtL_stop h24]; exact r1, hs.to⟩
        | (have e : k = s.L.length := by omega
           rw [e, List.take_length] at r1 ⊢
           exact ⟨F', r1, hs.to⟩)
    · refine C.skip ?_
      refine X.next ?_
      refine C.seq ?_
      refine C.drawn (SatS hs) ([3, 5, 6, 10], [0, 1, 2, 4, 7, 8, 9, 11, 12, 13]) (by kernel_rfl) ?_
      have hs := hs.drew
      refine D.evP 0 rfl (by kernel_rfl) rfl (fun _ => hs.to) (fun _ => E.move rfl) ?_
      refine D.evP 1 rfl (by kernel_rfl) rfl (fun _ => hs.to) (fun _ => E.nilCheck rfl) ?_
      first | refine D.evP 2 rfl (by kernel_rfl) rfl (fun _ => hs.to) (fun _ => E.fieldAddr0 4 rfl Tryz.underlying79 rfl Tryz.sz39 rfl) ?_ | refine D.evP 2 rfl (by kernel_rfl) rfl (fun _ => hs.to) (fun _ => E.fieldAddrN 4 rfl Tryz.underlying79 rfl Tryz.sz39 rfl) ?_
      first | refine D.evP 4 rfl (by kernel_rfl) rfl (fun _ => hs.to) (fun _ => E.fieldAddr0 0 rfl Tryz.underlying86 rfl Tryz.sz45 rfl) ?_ | refine D.evP 4 rfl (by kernel_rfl) rfl (fun _ => hs.to) (fun _ => E.fieldAddrN 0 rfl Tryz.underlying86 rfl Tryz.sz45 rfl) ?_
      refine D.ev 3 rfl (by kernel_rfl) rfl hs.to (fun _ hS => E.load1 rfl Tryz.underlying39 rfl (by first | exact hS.ldc | exact hS.ld rfl | exact hS.ld (by assumption) | exact by assumption | exact At.cellC (by assumption) | exact hS.ldK rfl | exact At.cellC ((by assumption : ∀ w', Sat _ w' _ → At w' _ _ _) _ hS) | exact (by assumption : ∀ w', Sat _ w' _ → World.cell? w' _ = some _) _ hS)) ?_
      refine D.ev 5 rfl (by kernel_rfl) rfl hs.to (fun _ hS => E.loadRowC rfl Tryz.underlying45 rfl Tryz.sz45 (by first | exact ⟨hS.ldA, by first | rfl | assumption | exact encV_len _ | exact Enc.len _ | exact len_ub (by assumption)⟩ | exact ⟨hS.ldP rfl, by first | rfl | assumption | exact encV_len _ | exact Enc.len _ | exact len_ub (by assumption)⟩ | exact ⟨hS.ldM rfl rfl, by first | rfl | assumption | exact encV_len _ | exact Enc.len _ | exact len_ub (by assumption)⟩ | exact ⟨hS.ldM (by assumption) (by first | rfl | assumption), by first | rfl | assumption | exact encV_len _ | exact Enc.len _ | exact len_ub (by assumption)⟩ | exact ⟨by assumption, by first | rfl | assumption | exact encV_len _ | exact Enc.len _ | exact len_ub (by assumption)⟩ | exact ⟨(by assumption : ∀ w', Sat _ w' _ → At w' _ _ _) _ hS, by first | rfl | assumption | exact encV_len _ | exact Enc.len _ | exact len_ub (by assumption)⟩ | exact hS.ldp | exact At.partC (by assumption) | exact At.partC ((by assumption : ∀ w', Sat _ w' _ → At w' _ _ _) _ hS))) ?_
      refine D.ev 6 rfl (by kernel_rfl) rfl hs.to (fun _ hS => (E.lookupD hS rfl rfl Tryz.underlying39 y.id (by rfl)).as (u := .bool (s.out y.id)) rfl) ?_
      refine D.evP 7 rfl (by kernel_rfl) rfl (fun _ => hs.to) (fun _ => E.not rfl) ?_
      refine D.evP 8 rfl (by kernel_rfl) rfl (fun _ => hs.to) (fun _ => E.move rfl) ?_
      refine D.split 33 rfl (fun h33 => ?_) (fun h33 => ?_)
      · first | refine D.evPG 9 rfl (by kernel_rfl) rfl rfl rfl (fun _ => hs.to) (fun _ => E.fieldAddr0 32 rfl Tryz.underlying86 rfl Tryz.sz3 rfl) ?_ | refine D.evPG 9 rfl (by kernel_rfl) rfl rfl rfl (fun _ => hs.to) (fun _ => E.fieldAddrN 32 rfl Tryz.underlying86 rfl Tryz.sz3 rfl) ?_
        refine D.evPG 11 rfl (by kernel_rfl) rfl rfl rfl (fun _ => hs.to) (fun _ => E.move rfl) ?_
        refine D.evG 10 rfl (by kernel_rfl) rfl rfl rfl hs.to (fun _ hS => E.load1 rfl Tryz.underlying3 rfl (by first | exact hS.ldc | exact hS.ld rfl | exact hS.ld (by assumption) | exact by assumption | exact At.cellC (by assumption) | exact hS.ldK rfl | exact At.cellC ((by assumption : ∀ w', Sat _ w' _ → At w' _ _ _) _ hS) | exact (by assumption : ∀ w', Sat _ w' _ → World.cell? w' _ = some _) _ hS)) ?_
        refine D.evPG 12 rfl (by kernel_rfl) rfl rfl rfl (fun _ => hs.to) (fun _ => E.leq rfl rfl) ?_
        refine D.evP 13 rfl (by kernel_rfl) rfl (fun _ => hs.to) (fun _ => E.pickT rfl rfl) ?_
        refine D.done rfl (by kernel_rfl) ?_
        refine X.keep [(0, _), (1, _), (2, _), (7, _), (9, _), (15, _), (16, _), (17, _), (38, _)] ⟨rfl, rfl, rfl, rfl, rfl, rfl, rfl, rfl, rfl, trivial⟩ ?_
        refine X.next ?_
        refine C.cbool rfl (fun h38 => ?_) (fun h38 => ?_)
        · refine C.region ?_
          refine R.ev rfl (E.move rfl) ?_
          first | refine R.ev rfl (E.fieldAddr0 0 rfl Tryz.underlying86 rfl Tryz.sz45 rfl) ?_ | refine R.ev rfl (E.fieldAddrN 0 rfl Tryz.underlying86 rfl Tryz.sz45 rfl) ?_
          refine R.ev rfl (E.loadRowC rfl Tryz.underlying45 rfl Tryz.sz45 (by first | exact ⟨hs.ldA, by first | rfl | assumption | exact encV_len _ | exact Enc.len _ | exact len_ub (by assumption)⟩ | exact ⟨hs.ldP rfl, by first | rfl | assumption | exact encV_len _ | exact Enc.len _ | exact len_ub (by assumption)⟩ | exact ⟨hs.ldM rfl rfl, by first | rfl | assumption | exact encV_len _ | exact Enc.len _ | exact len_ub (by assumption)⟩ | exact ⟨hs.ldM (by assumption) (by first | rfl | assumption), by first | rfl | assumption | exact encV_len _ | exact Enc.len _ | exact len_ub (by assumption)⟩ | exact ⟨by assumption, by first | rfl | assumption | exact encV_len _ | exact Enc.len _ | exact len_ub (by assumption)⟩ | exact hs.ldp | exact At.partC (by assumption))) ?_
          refine R.buildSliceA rfl Tryz.underlying55 Tryz.sz45 Tryz.zr45 rfl (by first | rfl | assumption | exact encV_len _ | exact Enc.len _ | simp [*]) (by decide) (by decide) ?_
          intro b42 w42 n42
          have hs := hs.new n42
          refine R.capp1 (y.id) hs rfl rfl Tryz.underlying55 Tryz.by45 (by rfl) rfl (by first | exact hs.ldA | exact hs.ldP rfl | exact by assumption) (by decide) (by first | omega | (simp only [List.length_append, List.length_cons, List.length_nil] at *; omega)) (by first | omega | (simp only [List.length_append, List.length_cons, List.length_nil] at *; omega)) ?_
          intro v43 w43 F43 r43 hs
          refine R.ev rfl (E.assign rfl) ?_
          refine R.done ?_
          refine X.keep [(0, _), (1, _), (2, _), (7, _), (15, _), (16, _), (17, _)] ⟨rfl, rfl, rfl, rfl, rfl, rfl, rfl, trivial⟩ ?_
          refine X.blockNormal ?_
          refine X.next ?_
          refine C.region ?_
          refine R.ev rfl (E.add rfl rfl (by omega) (by omega)) ?_
          refine R.ev rfl (E.move rfl) ?_
          refine R.done ?_
          refine X.keep [(0, _), (1, _), (2, _), (7, _), (15, _), (16, _), (17, _)] ⟨rfl, rfl, rfl, rfl, rfl, rfl, rfl, trivial⟩ ?_
          first
            | exact X.again (k + 1, v43, F43) ⟨rfl, rfl, rfl, rfl, rfl, rfl, rfl, trivial⟩ ⟨by omega, by rw [nxtL_snoc hy h24, show nxt s now y = true by simp_all [nxt]]; exact r43, hs.to⟩ (by show _ - _ < _ - _; omega)
            | exact X.again (k + 1, .slice ad1 (nxtL s now most (s.L.take k)).length cap1, F') ⟨rfl, rfl, rfl, rfl, rfl, rfl, rfl, trivial⟩ ⟨by omega, by rw [nxtL_snoc hy h24, show nxt s now y = false by simp_all [nxt]]; simpa using r1, hs.to⟩ (by show _ - _ < _ - _; omega)
        · refine C.skip ?_
          refine X.blockNormal ?_
          refine X.next ?_
          refine C.region ?_
          refine R.ev rfl (E.add rfl rfl (by omega) (by omega)) ?_
          refine R.ev rfl (E.move rfl) ?_
          refine R.done ?_
          refine X.keep [(0, _), (1, _), (2, _), (7, _), (15, _), (16, _), (17, _)] ⟨rfl, rfl, rfl, rfl, rfl, rfl, rfl, trivial⟩ ?_
          first
            | exact X.again (k + 1, v43, F43) ⟨rfl, rfl, rfl, rfl, rfl, rfl, rfl, trivial⟩ ⟨by omega, by rw [nxtL_snoc hy h24, show nxt s now y = true by simp_all [nxt]]; exact r43, hs.to⟩ (by show _ - _ < _ - _; omega)
            | exact X.again (k + 1, .slice ad1 (nxtL s now most (s.L.take k)).length cap1, F') ⟨rfl, rfl, rfl, rfl, rfl, rfl, rfl, trivial⟩ ⟨by omega, by rw [nxtL_snoc hy h24, show nxt s now y = false by simp_all [nxt]]; simpa using r1, hs.to⟩ (by show _ - _ < _ - _; omega)
      · refine D.skipP 9 rfl (by kernel_rfl) rfl rfl rfl (fun _ => hs.to) ?_
        refine D.skipP 11 rfl (by kernel_rfl) rfl rfl rfl (fun _ => hs.to) ?_
        refine D.skip 10 rfl (by kernel_rfl) rfl rfl rfl hs.to ?_
        refine D.skipP 12 rfl (by kernel_rfl) rfl rfl rfl (fun _ => hs.to) ?_
        refine D.evP 13 rfl (by kernel_rfl) rfl (fun _ => hs.to) (fun _ => E.pickF rfl rfl) ?_
        refine D.done rfl (by kernel_rfl) ?_
        refine X.keep [(0, _), (1, _), (2, _), (7, _), (9, _), (15, _), (16, _), (17, _), (38, _)] ⟨rfl, rfl, rfl, rfl, rfl, rfl, rfl, rfl, rfl, trivial⟩ ?_
        refine X.next ?_
        refine C.cfalse rfl ?_
        refine C.skip ?_
        refine X.blockNormal ?_
        refine X.next ?_
        refine C.region ?_
        refine R.ev rfl (E.add rfl rfl (by omega) (by omega)) ?_
        refine R.ev rfl (E.move rfl) ?_
        refine R.done ?_
        refine X.keep [(0, _), (1, _), (2, _), (7, _), (15, _), (16, _), (17, _)] ⟨rfl, rfl, rfl, rfl, rfl, rfl, rfl, trivial⟩ ?_
        first
          | exact X.again (k + 1, v43, F43) ⟨rfl, rfl, rfl, rfl, rfl, rfl, rfl, trivial⟩ ⟨by omega, by rw [nxtL_snoc hy h24, show nxt s now y = true by simp_all [nxt]]; exact r43, hs.to⟩ (by show _ - _ < _ - _; omega)
          | exact X.again (k + 1, .slice ad1 (nxtL s now most (s.L.take k)).length cap1, F') ⟨rfl, rfl, rfl, rfl, rfl, rfl, rfl, trivial⟩ ⟨by omega, by rw [nxtL_snoc hy h24, show nxt s now y = false by simp_all [nxt]]; simpa using r1, hs.to⟩ (by show _ - _ < _ - _; omega)
  · refine C.exit ?_
    refine X.thenExit ?_
    refine X.loopExit ?_
    refine X.blockExit ?_
    refine X.next ?_
    refine C.seq ?_
    refine C.region ?_
    refine R.ev rfl (E.move rfl) ?_
    refine R.ev rfl (E.assign rfl) ?_
    refine R.done ?_
    refine X.keep [(6, _)] ⟨rfl, trivial⟩ ?_
    refine X.next ?_
    refine C.ret ?_
    refine X.ret1 rfl rfl ?_
    first
      | exact ⟨F', by rw [nxtL_stop h24]; exact r1, hs.to⟩
      | (have e : k = s.L.length := by omega
         rw [e, List.take_length] at r1 ⊢
         exact ⟨F', r1, hs.to⟩)
end Go.Proofs.YtifghjeapfijkaaGreatDoor
