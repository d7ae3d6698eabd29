/-
  package bulletinref25: SetGone, Forget, Judge, Same.
-/
import Derived.Test.YtobhhnfckhbeeaaRef25
namespace Go.Proofs.Ytobhhnfckhbeeaa
open Go.Eng Go.RowKit Go.Sort
variable {K : Kn} {Hs Rs : List Hl} {F : Hl} {w : World} {v : Value} {L : List HEnt}
def goneF (a : Vec 32) : List HEnt → List HEnt
  | [] => []
  | x :: L => if hIs a x then x.gone :: L else x :: goneF a L
theorem goneF_at {a : Vec 32} : ∀ {L : List HEnt} {i : Nat} {o : HEnt}, L[i]? = some o → hIs a o = true → (∀ j, j < i → ∀ z, L[j]? = some z → hIs a z = false) → goneF a L = L.set i o.gone
  | [], i, o, h, _, _ => by simp at h
  | z :: L, 0, o, h, hp, _ => by simp at h; subst h; simp [goneF, hp]
  | z :: L, i + 1, o, h, hp, hno => by
    have hz := hno 0 (by omega) z rfl
    rw [goneF, if_neg (by rw [hz]; decide), goneF_at (by simpa using h) hp (fun j hj y hy => hno (j + 1) (by omega) y (by simpa using hy))]
    simp
theorem findH_at {q : HEnt → Bool} {L : List HEnt} {i : Nat} {o : HEnt} (h : L[i]? = some o) (hp : q o = true) (hno : ∀ j, j < i → ∀ z, L[j]? = some z → q z = false) : L.find? q = some o := by
  induction L generalizing i with
  | nil => simp at h
  | cons z L ih =>
    cases i with
    | zero => simp at h; subst h; simp [hp]
    | succ i =>
      have hz := hno 0 (by omega) z rfl
      rw [List.find?_cons_of_neg (by rw [hz]; decide)]
      exact ih (by simpa using h) (fun j hj y hy => hno (j + 1) (by omega) y (by simpa using hy))
def rGoneE (L : List HEnt) (a : Vec 32) : Int := match L.find? (hIs a) with | none => 8 | some x => if x.state = 1 then 10 else 0
def rGoneL (L : List HEnt) (a : Vec 32) : List HEnt := match L.find? (hIs a) with | none => L | some x => if x.state = 1 then L else goneF a L
theorem rsetGone_any (a : Vec 32) (hs : Sat K w Hs) [hr : KRow encH 36 K v L] (hL : L.length ≤ 100000) : Ret Try.prog 44 #[v, idV a.1] w fun r w' => XPost K Hs (rGoneL L a) (fun v => .tuple #[v, .int .i64 (rGoneE L a)]) r w' := by
  obtain ⟨ad, cap, rfl, hsl, hc⟩ := hr.ex
  have e1 := encV_len a
  refine Ret.enter (n := 29) (args := [.slice ad L.length cap, idV a.1]) Try.func44 rfl rfl ?_
  refine C.keep [(0, _), (1, _)] ⟨rfl, rfl, trivial⟩ ?_
  refine C.seq ?_
  refine C.region ?_
  refine R.sboxA hs rfl rfl ?_
  intro b3 w3 hs
  refine R.ev rfl (E.assign rfl) ?_
  refine R.ev rfl (E.assign rfl) ?_
  refine R.done ?_
  refine X.keep [(0, _), (3, _)] ⟨rfl, rfl, trivial⟩ ?_
  refine X.next ?_
  refine C.seq ?_
  refine C.region ?_
  refine R.ev rfl (E.move rfl) ?_
  refine R.ev rfl (E.loadRowC rfl Try.underlying22 rfl Try.sz22 (by first | exact ⟨hs.ldA, by first | rfl | assumption | exact encV_len _ | exact Enc.len _ | exact len_ub (by assumption)⟩ | exact ⟨hs.ldP rfl, by first | rfl | assumption | exact encV_len _ | exact Enc.len _ | exact len_ub (by assumption)⟩ | exact ⟨hs.ldM rfl rfl, by first | rfl | assumption | exact encV_len _ | exact Enc.len _ | exact len_ub (by assumption)⟩ | exact ⟨hs.ldM (by assumption) (by first | rfl | assumption), by first | rfl | assumption | exact encV_len _ | exact Enc.len _ | exact len_ub (by assumption)⟩ | exact ⟨by assumption, by first | rfl | assumption | exact encV_len _ | exact Enc.len _ | exact len_ub (by assumption)⟩ | exact hs.ldp | exact At.partC (by assumption))) ?_
  refine R.call ⟨_, _, Try.func30, rfl, by kernel_rfl⟩ rfl rfl (rfind_any a hs (by omega)) ?_
  rintro _ w1 ⟨rfl, hs⟩
  refine R.ev rfl (E.assign rfl) ?_
  refine R.done ?_
  refine X.keep [(0, _), (6, _)] ⟨rfl, rfl, trivial⟩ ?_
  refine X.next ?_
  refine C.seq ?_
  refine C.seq ?_
  refine C.region ?_
  refine R.ev rfl (E.move rfl) ?_
  refine R.ev rfl ((E.lss rfl rfl).isB (c := !hHas a L) hIdx_lt) ?_
  refine R.done ?_
  refine X.keep [(0, _), (6, _), (12, _)] ⟨rfl, rfl, rfl, trivial⟩ ?_
  refine X.next ?_
  refine C.cbool rfl (fun h12 => ?_) (fun h12 => ?_)
  · refine C.seq ?_
    refine C.region ?_
    refine R.ev rfl (E.move rfl) ?_
    refine R.ev rfl (E.assign rfl) ?_
    refine R.ev rfl (E.assign rfl) ?_
    refine R.done ?_
    refine X.keep [(4, _), (5, _)] ⟨rfl, rfl, trivial⟩ ?_
    refine X.next ?_
    refine C.ret ?_
    refine X.thenRet ?_
    refine X.ret2 rfl rfl rfl ?_
    have hn : L.find? (hIs a) = none := by
      rw [List.find?_eq_none]
      intro x hx
      have : hHas a L = false := by simpa using h12
      rw [hHas, List.any_eq_false] at this
      exact this x hx
    rw [rGoneE, rGoneL, hn]
    exact XPost.same hr hs.to
  · refine C.skip ?_
    refine X.next ?_
    refine C.seq ?_
    refine C.seq ?_
    refine C.region ?_
    have hh : 0 ≤ idxP (hIs a) L := of_decide_eq_true (hIdx_ge.trans (by simpa using h12))
    obtain ⟨i, o, hi, ho, hpo, hno⟩ := idxP_ge hh
    have hil := (List.getElem?_eq_some_iff.1 ho).1
    have hfo := findH_at ho hpo hno
    rw [hi]
    obtain ⟨y, bk_y, of_y, hy, my, ly, rfl, Ay⟩ := hs.el (i := i) (ad := ad) (n := L.length) (c := cap) (by omega)
    obtain rfl : o = y := by rw [hy] at ho; simpa using ho.symm
    have ay := Ay _ hs
    refine R.ev rfl (E.move rfl) ?_
    refine R.ev rfl (E.move rfl) ?_
    refine R.ev rfl (E.indexAddr rfl rfl Try.underlying36 Try.sz24 rfl (by first | omega | decide)) ?_
    first | refine R.ev rfl (E.fieldAddr0 34 rfl Try.underlying24 rfl Try.sz3 rfl) ?_ | refine R.ev rfl (E.fieldAddrN 34 rfl Try.underlying24 rfl Try.sz3 rfl) ?_
    refine R.ev rfl (E.load1 rfl Try.underlying3 rfl (by first | exact hs.ldc | exact hs.ld rfl | exact hs.ld (by assumption) | exact by assumption | exact At.cellC (by assumption))) ?_
    refine R.ev rfl (E.eql rfl rfl) ?_
    refine R.done ?_
    refine X.keep [(0, _), (6, _), (19, _)] ⟨rfl, rfl, rfl, trivial⟩ ?_
    refine X.next ?_
    refine C.cdec rfl (fun h19 => ?_) (fun h19 => ?_)
    · refine C.seq ?_
      refine C.region ?_
      refine R.ev rfl (E.move rfl) ?_
      refine R.ev rfl (E.assign rfl) ?_
      refine R.ev rfl (E.assign rfl) ?_
      refine R.done ?_
      refine X.keep [(4, _), (5, _)] ⟨rfl, rfl, trivial⟩ ?_
      refine X.next ?_
      refine C.ret ?_
      refine X.thenRet ?_
      refine X.ret2 rfl rfl rfl ?_
      rw [rGoneE, rGoneL, hfo]
      simp only [if_pos h19]
      exact XPost.same hr hs.to
    · refine C.skip ?_
      refine X.next ?_
      refine C.seq ?_
      refine C.region ?_
      refine R.sbuild0 (enc := encH) hs Try.underlying36 Try.sz24 rfl ?_
      intro v21 w21 F21 r21 nn21 hs
      refine R.ev rfl (E.move rfl) ?_
      refine R.cappSl hs rfl rfl Try.underlying36 Try.by24 (by rfl) rfl (by decide) (by first | omega | (simp only [List.length_append, List.length_cons, List.length_nil] at *; omega)) (by first | omega | (simp only [List.length_append, List.length_cons, List.length_nil] at *; omega)) ?_
      intro v23 w23 F23 r23 hs
      rw [List.nil_append] at r23
      obtain ⟨ad2, cap2, rfl, _, _, had2⟩ := r23.val
      obtain ⟨bg, rfl⟩ := had2 (by intro e; rw [e] at hil; simp at hil)
      refine R.ev rfl (E.assign rfl) ?_
      refine R.done ?_
      refine X.keep [(6, _), (7, _)] ⟨rfl, rfl, trivial⟩ ?_
      refine X.next ?_
      refine C.seq ?_
      refine C.region ?_
      refine R.ev rfl (E.move rfl) ?_
      refine R.ev rfl (E.move rfl) ?_
      refine R.ev rfl (E.indexAddr rfl rfl Try.underlying36 Try.sz24 rfl (by first | omega | decide)) ?_
      first | refine R.ev rfl (E.fieldAddr0 34 rfl Try.underlying24 rfl Try.sz3 rfl) ?_ | refine R.ev rfl (E.fieldAddrN 34 rfl Try.underlying24 rfl Try.sz3 rfl) ?_
      refine R.ssetF (el' := o.gone) i (hs.front (F := F23)) r23 rfl rfl Try.sz3 hy ?_ (off := 34) (by omega) (by decide) rfl ?_
      · simp [encH, HEnt.gone, o.id.2, List.set_append]
      intro w7 F7 r7 hs1
      have hs := hs.back (F := F23) hs1
      refine R.done ?_
      refine X.keep [(7, _)] ⟨rfl, trivial⟩ ?_
      refine X.next ?_
      refine C.seq ?_
      refine C.region ?_
      refine R.ev rfl (E.move rfl) ?_
      refine R.ev rfl (E.assign rfl) ?_
      refine R.ev rfl (E.assign rfl) ?_
      refine R.done ?_
      refine X.keep [(4, _), (5, _)] ⟨rfl, rfl, trivial⟩ ?_
      refine X.next ?_
      refine C.ret ?_
      refine X.ret2 rfl rfl rfl ?_
      rw [rGoneE, rGoneL, hfo]
      simp only [if_neg h19]
      rw [goneF_at hy hpo hno]
      exact XPost.new r7 hs.to
def rJudge (L : List HEnt) (cut : Int) (a : Vec 32) (date now : Int) (pm : Bool) : Int := if isMin date = false ∨ isMin now = false then 13 else if hHas a L then 7 else if now + 1440 < date then 15 else if pm = false ∧ (old date now = true ∨ old date cut = true) then 14 else 0
theorem rjudge_any (cut : Int) (a : Vec 32) (date now : Int) (pm : Bool) (hc : 0 ≤ cut ∧ cut ≤ 105190559) (hs : Sat K w Hs) [hr : KRow encH 36 K v L] (hL : L.length ≤ 100000) : Ret Try.prog 19 #[v, .int .i64 cut, idV a.1, .int .i64 date, .int .i64 now, .bool pm] w fun r w' => r = .int .i64 (rJudge L cut a date now pm) ∧ Sat K w' Hs := by
  have e1 := encV_len a
  refine Ret.enter (n := 45) (args := [v, .int .i64 cut, idV a.1, .int .i64 date, .int .i64 now, .bool pm]) Try.func19 rfl rfl ?_
  refine C.keep [(0, _), (1, _), (2, _), (3, _), (4, _), (5, _)] ⟨rfl, rfl, rfl, rfl, rfl, rfl, trivial⟩ ?_
  refine C.seq ?_
  refine C.region ?_
  refine R.sboxA hs rfl rfl ?_
  intro b8 w8 hs
  refine R.ev rfl (E.assign rfl) ?_
  refine R.done ?_
  refine X.keep [(0, _), (1, _), (3, _), (4, _), (5, _), (8, _)] ⟨rfl, rfl, rfl, rfl, rfl, rfl, trivial⟩ ?_
  refine X.next ?_
  refine C.seq ?_
  refine C.block ?_
  refine C.seq ?_
  refine C.region ?_
  refine R.ev rfl (E.move rfl) ?_
  refine R.call ⟨_, _, Try.func42, rfl, by kernel_rfl⟩ rfl rfl (minute_any date _) ?_
  rintro _ _ ⟨rfl, rfl⟩
  refine R.ev rfl ((E.not rfl).isB (c := !(isMin date)) rfl) ?_
  refine R.ev rfl (E.move rfl) ?_
  refine R.split 17 rfl (fun h17 => ?_) (fun h17 => ?_)
  · refine R.gskip rfl rfl rfl ?_
    refine R.gskip rfl rfl rfl ?_
    refine R.gskip rfl rfl rfl ?_
    refine R.ev rfl (E.pickT rfl rfl) ?_
    refine R.ev rfl (E.assign rfl) ?_
    refine R.done ?_
    refine X.keep [(0, _), (1, _), (3, _), (4, _), (5, _), (8, _), (13, _)] ⟨rfl, rfl, rfl, rfl, rfl, rfl, rfl, trivial⟩ ?_
    refine X.next ?_
    refine C.ctrue rfl ?_
    refine C.seq ?_
    refine C.region ?_
    refine R.ev rfl (E.assign rfl) ?_
    refine R.done ?_
    refine X.keep [(12, _)] ⟨rfl, trivial⟩ ?_
    refine X.next ?_
    refine C.ret ?_
    refine X.blockRet ?_
    refine X.thenRet ?_
    refine X.ret1 rfl rfl ?_
    exact ⟨by rw [rJudge, if_pos]; first | exact .inl (by simpa using h17) | exact .inr (by simpa using h13), hs.to⟩
  · refine R.gyes rfl rfl ?_
    refine R.ev rfl (E.move rfl) ?_
    refine R.gyes rfl rfl ?_
    refine R.call ⟨_, _, Try.func42, rfl, by kernel_rfl⟩ rfl rfl (minute_any now _) ?_
    rintro _ _ ⟨rfl, rfl⟩
    refine R.gyes rfl rfl ?_
    refine R.ev rfl ((E.not rfl).isB (c := !(isMin now)) rfl) ?_
    refine R.ev rfl (E.pickF rfl rfl) ?_
    refine R.ev rfl (E.assign rfl) ?_
    refine R.done ?_
    refine X.keep [(0, _), (1, _), (3, _), (4, _), (5, _), (8, _), (13, _)] ⟨rfl, rfl, rfl, rfl, rfl, rfl, rfl, trivial⟩ ?_
    refine X.next ?_
    refine C.cbool rfl (fun h13 => ?_) (fun h13 => ?_)
    · refine C.seq ?_
      refine C.region ?_
      refine R.ev rfl (E.assign rfl) ?_
      refine R.done ?_
      refine X.keep [(12, _)] ⟨rfl, trivial⟩ ?_
      refine X.next ?_
      refine C.ret ?_
      refine X.blockRet ?_
      refine X.thenRet ?_
      refine X.ret1 rfl rfl ?_
      exact ⟨by rw [rJudge, if_pos]; first | exact .inl (by simpa using h17) | exact .inr (by simpa using h13), hs.to⟩
    · refine C.seq ?_
      refine C.region ?_
      have h1 : ¬ (isMin date = false ∨ isMin now = false) := by simp at h17 h13; simp [h17, h13]
      have hn : 0 ≤ now ∧ now ≤ 105190559 := by simp [isMin] at h1; omega
      refine R.ev rfl (E.move rfl) ?_
      refine R.ev rfl (E.loadRowC rfl Try.underlying22 rfl Try.sz22 (by first | exact ⟨hs.ldA, by first | rfl | assumption | exact encV_len _ | exact Enc.len _ | exact len_ub (by assumption)⟩ | exact ⟨hs.ldP rfl, by first | rfl | assumption | exact encV_len _ | exact Enc.len _ | exact len_ub (by assumption)⟩ | exact ⟨hs.ldM rfl rfl, by first | rfl | assumption | exact encV_len _ | exact Enc.len _ | exact len_ub (by assumption)⟩ | exact ⟨hs.ldM (by assumption) (by first | rfl | assumption), by first | rfl | assumption | exact encV_len _ | exact Enc.len _ | exact len_ub (by assumption)⟩ | exact ⟨by assumption, by first | rfl | assumption | exact encV_len _ | exact Enc.len _ | exact len_ub (by assumption)⟩ | exact hs.ldp | exact At.partC (by assumption))) ?_
      refine R.call ⟨_, _, Try.func30, rfl, by kernel_rfl⟩ rfl rfl (rfind_any a hs (by omega)) ?_
      rintro _ w3 ⟨rfl, hs⟩
      refine R.ev rfl ((E.geq rfl rfl).isB (c := hHas a L) hIdx_ge) ?_
      refine R.ev rfl (E.assign rfl) ?_
      refine R.done ?_
      refine X.keep [(1, _), (3, _), (4, _), (5, _), (22, _)] ⟨rfl, rfl, rfl, rfl, rfl, trivial⟩ ?_
      refine X.next ?_
      refine C.cbool rfl (fun h22 => ?_) (fun h22 => ?_)
      · refine C.seq ?_
        refine C.region ?_
        refine R.ev rfl (E.assign rfl) ?_
        refine R.done ?_
        refine X.keep [(12, _)] ⟨rfl, trivial⟩ ?_
        refine X.next ?_
        refine C.ret ?_
        refine X.blockRet ?_
        refine X.thenRet ?_
        refine X.ret1 rfl rfl ?_
        exact ⟨by rw [rJudge, if_neg h1, if_pos h22], hs.to⟩
      · refine C.seq ?_
        refine C.region ?_
        have h2 : ¬ (hHas a L = true) := by rw [h22]; decide
        refine R.ev rfl (E.move rfl) ?_
        refine R.ev rfl (E.move rfl) ?_
        refine R.ev rfl (E.add rfl rfl (by omega) (by omega)) ?_
        refine R.ev rfl (E.gtr rfl rfl) ?_
        refine R.ev rfl (E.assign rfl) ?_
        refine R.done ?_
        refine X.keep [(1, _), (3, _), (4, _), (5, _), (27, _)] ⟨rfl, rfl, rfl, rfl, rfl, trivial⟩ ?_
        refine X.next ?_
        refine C.cdec rfl (fun h27 => ?_) (fun h27 => ?_)
        · refine C.seq ?_
          refine C.region ?_
          refine R.ev rfl (E.assign rfl) ?_
          refine R.done ?_
          refine X.keep [(12, _)] ⟨rfl, trivial⟩ ?_
          refine X.next ?_
          refine C.ret ?_
          refine X.blockRet ?_
          refine X.thenRet ?_
          refine X.ret1 rfl rfl ?_
          exact ⟨by rw [rJudge, if_neg h1, if_neg h2, if_pos h27], hs.to⟩
        · refine C.seq ?_
          refine C.region ?_
          refine R.ev rfl (E.move rfl) ?_
          refine R.ev rfl (E.move rfl) ?_
          refine R.call ⟨_, _, Try.func47, rfl, by kernel_rfl⟩ rfl rfl (rold_any date now _ (by omega)) ?_
          rintro _ _ ⟨rfl, rfl⟩
          refine R.ev rfl (E.move rfl) ?_
          refine R.split 36 rfl (fun h36 => ?_) (fun h36 => ?_)
          · refine R.gskip rfl rfl rfl ?_
            refine R.gskip rfl rfl rfl ?_
            refine R.gskip rfl rfl rfl ?_
            refine R.ev rfl (E.pickT rfl rfl) ?_
            refine R.ev rfl (E.move rfl) ?_
            refine R.gyes rfl rfl ?_
            refine R.ev rfl (E.move rfl) ?_
            refine R.gyes rfl rfl ?_
            refine R.ev rfl ((E.not rfl).isB (c := !pm) rfl) ?_
            refine R.ev rfl (E.pickT rfl rfl) ?_
            refine R.ev rfl (E.assign rfl) ?_
            refine R.done ?_
            refine X.keep [(32, _)] ⟨rfl, trivial⟩ ?_
            refine X.next ?_
            refine C.cbool rfl (fun h32 => ?_) (fun h32 => ?_)
            · refine C.seq ?_
              refine C.region ?_
              refine R.ev rfl (E.assign rfl) ?_
              refine R.done ?_
              refine X.keep [(12, _)] ⟨rfl, trivial⟩ ?_
              refine X.next ?_
              refine C.ret ?_
              refine X.blockRet ?_
              refine X.thenRet ?_
              refine X.ret1 rfl rfl ?_
              exact ⟨by rw [rJudge, if_neg h1, if_neg h2, if_neg h27]; simp_all, hs.to⟩
            · refine C.skip ?_
              refine X.blockNormal ?_
              refine X.next ?_
              refine C.seq ?_
              refine C.region ?_
              refine R.ev rfl (E.assign rfl) ?_
              refine R.done ?_
              refine X.keep [(12, _)] ⟨rfl, trivial⟩ ?_
              refine X.next ?_
              refine C.ret ?_
              refine X.ret1 rfl rfl ?_
              exact ⟨by rw [rJudge, if_neg h1, if_neg h2, if_neg h27]; simp_all, hs.to⟩
          · refine R.gyes rfl rfl ?_
            refine R.ev rfl (E.move rfl) ?_
            refine R.gyes rfl rfl ?_
            refine R.ev rfl (E.move rfl) ?_
            refine R.gyes rfl rfl ?_
            refine R.call ⟨_, _, Try.func47, rfl, by kernel_rfl⟩ rfl rfl (rold_any date cut _ (by omega)) ?_
            rintro _ _ ⟨rfl, rfl⟩
            refine R.ev rfl (E.pickF rfl rfl) ?_
            refine R.ev rfl (E.move rfl) ?_
            refine R.split 41 rfl (fun h41 => ?_) (fun h41 => ?_)
            · refine R.gyes rfl rfl ?_
              refine R.ev rfl (E.move rfl) ?_
              refine R.gyes rfl rfl ?_
              refine R.ev rfl ((E.not rfl).isB (c := !pm) rfl) ?_
              refine R.ev rfl (E.pickT rfl rfl) ?_
              refine R.ev rfl (E.assign rfl) ?_
              refine R.done ?_
              refine X.keep [(32, _)] ⟨rfl, trivial⟩ ?_
              refine X.next ?_
              refine C.cbool rfl (fun h32 => ?_) (fun h32 => ?_)
              · refine C.seq ?_
                refine C.region ?_
                refine R.ev rfl (E.assign rfl) ?_
                refine R.done ?_
                refine X.keep [(12, _)] ⟨rfl, trivial⟩ ?_
                refine X.next ?_
                refine C.ret ?_
                refine X.blockRet ?_
                refine X.thenRet ?_
                refine X.ret1 rfl rfl ?_
                exact ⟨by rw [rJudge, if_neg h1, if_neg h2, if_neg h27]; simp_all, hs.to⟩
              · refine C.skip ?_
                refine X.blockNormal ?_
                refine X.next ?_
                refine C.seq ?_
                refine C.region ?_
                refine R.ev rfl (E.assign rfl) ?_
                refine R.done ?_
                refine X.keep [(12, _)] ⟨rfl, trivial⟩ ?_
                refine X.next ?_
                refine C.ret ?_
                refine X.ret1 rfl rfl ?_
                exact ⟨by rw [rJudge, if_neg h1, if_neg h2, if_neg h27]; simp_all, hs.to⟩
            · refine R.gskip rfl rfl rfl ?_
              refine R.gskip rfl rfl rfl ?_
              refine R.ev rfl (E.pickF rfl rfl) ?_
              refine R.ev rfl (E.assign rfl) ?_
              refine R.done ?_
              refine X.keep [(32, _)] ⟨rfl, trivial⟩ ?_
              refine X.next ?_
              refine C.cfalse rfl ?_
              refine C.skip ?_
              refine X.blockNormal ?_
              refine X.next ?_
              refine C.seq ?_
              refine C.region ?_
              refine R.ev rfl (E.assign rfl) ?_
              refine R.done ?_
              refine X.keep [(12, _)] ⟨rfl, trivial⟩ ?_
              refine X.next ?_
              refine C.ret ?_
              refine X.ret1 rfl rfl ?_
              exact ⟨by rw [rJudge, if_neg h1, if_neg h2, if_neg h27]; simp_all, hs.to⟩
end Go.Proofs.Ytobhhnfckhbeeaa
