/-
  msgid.Site and the reference's Site return the same: one plain function.
-/
import Derived.Test.YtifghjeapfijkaaGreatDoorAscii
namespace Go.Proofs.YtifghjeapfijkaaGreatDoor
open Go.Eng Go.RowKit

/-- the first index from k on, of at most f, that p holds of -/
def findFrom (p : Nat → Bool) : Nat → Nat → Option Nat
  | 0, _ => none
  | f + 1, k => if p k then some k else findFrom p f (k + 1)
theorem findFrom_eq (p : Nat → Bool) (f k : Nat) (h : 0 < f) : findFrom p f k = if p k then some k else findFrom p (f - 1) (k + 1) := by
  obtain ⟨f, rfl⟩ : ∃ f', f = f' + 1 := ⟨f - 1, by omega⟩
  simp [findFrom]

def byteAt (l : List UInt8) (k : Nat) : Int := ((l.getD k 0).toNat : Int)
def badPerm (l : List UInt8) (k : Nat) : Bool := !(isPerm (byteAt l k))
def misplaced (l : List UInt8) (k : Nat) : Bool :=
  (decide (k = 0) && !(isLow (byteAt l k))) || ((decide (0 < k) && decide (byteAt l k = 46) && decide (byteAt l (k - 1) = 46)) || (decide (k + 1 = l.length) && (decide (byteAt l k = 45) || decide (byteAt l k = 46))))
def siteR (l : List UInt8) : Nat × Int :=
  if l = [] then (0, 4) else if 30 < l.length then (30, 5) else
  match findFrom (badPerm l) l.length 0 with
  | some k => (k, 6)
  | none => match findFrom (misplaced l) l.length 0 with
    | some k => (k, 12)
    | none => (0, 0)
theorem siteR_bad {l : List UInt8} {k : Nat} (h1 : l ≠ []) (h2 : ¬ 30 < l.length) (h3 : findFrom (badPerm l) l.length 0 = some k) : siteR l = (k, 6) := by
  simp [siteR, h1, h2, h3]
theorem siteR_mis {l : List UInt8} {k : Nat} (h1 : l ≠ []) (h2 : ¬ 30 < l.length) (h3 : findFrom (badPerm l) l.length 0 = none) (h4 : findFrom (misplaced l) l.length 0 = some k) : siteR l = (k, 12) := by
  simp [siteR, h1, h2, h3, h4]
theorem siteR_ok {l : List UInt8} (h1 : l ≠ []) (h2 : ¬ 30 < l.length) (h3 : findFrom (badPerm l) l.length 0 = none) (h4 : findFrom (misplaced l) l.length 0 = none) : siteR l = (0, 0) := by
  simp [siteR, h1, h2, h3, h4]
theorem byteAt_eq {l : List UInt8} {k : Nat} (_h : k < l.length) : ((l.getD k 0).toNat : Int) = byteAt l k := rfl

theorem site_any (l : List UInt8) (w : World) (hl : l.length ≤ 1000) :
    Ret Tryz.prog 55 #[str l] w fun v w' => v = .tuple #[.int .i64 (siteR l).1, .int .i64 (siteR l).2] ∧ w = w' := by
  refine Ret.enter (n := 75) (args := [str l]) Tryz.func55 rfl rfl ?_
  refine C.keep [(0, _)] ⟨rfl, trivial⟩ ?_
  refine C.seq ?_
  refine C.region ?_
  refine R.ev rfl (E.assign rfl) ?_
  refine R.ev rfl (E.assign rfl) ?_
  refine R.done ?_
  refine X.keep [(0, _)] ⟨rfl, trivial⟩ ?_
  refine X.next ?_
  refine C.seq ?_
  refine C.block ?_
  refine C.seq ?_
  refine C.region ?_
  refine R.ev rfl (E.move rfl) ?_
  refine R.ev rfl (E.seql rfl rfl) ?_
  refine R.ev rfl (E.assign rfl) ?_
  refine R.done ?_
  refine X.keep [(0, _), (8, _)] ⟨rfl, rfl, trivial⟩ ?_
  refine X.next ?_
  refine C.cdec rfl (fun h8 => ?_) (fun h8 => ?_)
  · refine C.seq ?_
    refine C.region ?_
    refine R.ev rfl (E.assign rfl) ?_
    refine R.ev rfl (E.assign rfl) ?_
    refine R.done ?_
    refine X.keep [(2, _), (3, _)] ⟨rfl, rfl, trivial⟩ ?_
    refine X.next ?_
    refine C.ret ?_
    refine X.blockRet ?_
    refine X.thenRet ?_
    refine X.ret2 rfl rfl rfl ?_
    exact ⟨by simp [siteR, h8], rfl⟩
  · refine C.seq ?_
    refine C.region ?_
    refine R.ev rfl (E.move rfl) ?_
    refine R.ev rfl (E.lenStr rfl Tryz.underlying9) ?_
    refine R.ev rfl (E.gtr rfl rfl) ?_
    refine R.ev rfl (E.assign rfl) ?_
    refine R.done ?_
    refine X.keep [(0, _), (11, _)] ⟨rfl, rfl, trivial⟩ ?_
    refine X.next ?_
    refine C.cdec rfl (fun h11 => ?_) (fun h11 => ?_)
    · refine C.seq ?_
      refine C.region ?_
      refine R.ev rfl (E.assign rfl) ?_
      refine R.ev rfl (E.assign rfl) ?_
      refine R.done ?_
      refine X.keep [(2, _), (3, _)] ⟨rfl, rfl, trivial⟩ ?_
      refine X.next ?_
      refine C.ret ?_
      refine X.blockRet ?_
      refine X.thenRet ?_
      refine X.ret2 rfl rfl rfl ?_
      have h12 : 30 < l.length := by omega
      exact ⟨by simp [siteR, h8, h12], rfl⟩
    · refine C.skip ?_
      refine X.blockNormal ?_
      refine X.next ?_
      refine C.seq ?_
      refine C.seq ?_
      refine C.region ?_
      refine R.ev rfl (E.move rfl) ?_
      refine R.ev rfl (E.lenStr rfl Tryz.underlying9) ?_
      refine R.ev rfl (E.move rfl) ?_
      refine R.done ?_
      refine X.keep [(0, _), (16, _), (17, _)] ⟨rfl, rfl, rfl, trivial⟩ ?_
      refine X.next ?_
      refine C.block ?_
      refine C.loop  [(0, _), (16, _)] (fun k => [(17, .int .i64 (k : Nat))]) (fun k w' => k ≤ l.length ∧ w = w' ∧ findFrom (badPerm l) l.length 0 = findFrom (badPerm l) (l.length - k) k) (fun k => l.length - k) (0) ⟨rfl, rfl, rfl, trivial⟩ ⟨by omega, rfl, rfl⟩ ?_
      rintro k _ ⟨hk, rfl, hf⟩
      refine C.keep [(0, _), (16, _), (17, _)] ⟨rfl, rfl, rfl, trivial⟩ ?_
      refine C.seq ?_
      refine C.region ?_
      refine R.ev rfl (E.lss rfl rfl) ?_
      refine R.done ?_
      refine X.keep [(0, _), (16, _), (17, _), (18, _)] ⟨rfl, rfl, rfl, rfl, trivial⟩ ?_
      refine X.next ?_
      refine C.seq ?_
      refine C.cdec rfl (fun h18 => ?_) (fun h18 => ?_)
      · have hlt : k < l.length := by omega
        have hb := byteAt_eq hlt
        have hf2 := findFrom_eq (badPerm l) (l.length - k) k (by omega)
        refine C.skip ?_
        refine X.next ?_
        refine C.seq ?_
        refine C.block ?_
        refine C.seq ?_
        refine C.region ?_
        refine R.ev rfl (E.move rfl) ?_
        refine R.ev rfl (E.assign rfl) ?_
        refine R.done ?_
        refine X.keep [(0, _), (4, _), (16, _), (17, _)] ⟨rfl, rfl, rfl, rfl, trivial⟩ ?_
        refine X.next ?_
        refine C.seq ?_
        refine C.region ?_
        refine R.ev rfl (E.move rfl) ?_
        refine R.ev rfl (E.move rfl) ?_
        refine R.ev rfl (E.sindex rfl rfl Tryz.underlying9 rfl (by first | omega | decide)) ?_
        refine R.call ⟨_, _, Tryz.func75, rfl, by kernel_rfl⟩ rfl rfl (isPermitted_any _ _) ?_
        rintro _ _ ⟨rfl, rfl⟩
        refine R.ev rfl ((E.not rfl).isB (c := badPerm l k) (by rw [badPerm, ← hb])) ?_
        refine R.done ?_
        refine X.keep [(0, _), (4, _), (16, _), (17, _), (24, _)] ⟨rfl, rfl, rfl, rfl, rfl, trivial⟩ ?_
        refine X.next ?_
        refine C.cbool rfl (fun h24 => ?_) (fun h24 => ?_)
        · refine C.seq ?_
          refine C.region ?_
          refine R.ev rfl (E.move rfl) ?_
          refine R.ev rfl (E.assign rfl) ?_
          refine R.ev rfl (E.assign rfl) ?_
          refine R.done ?_
          refine X.keep [(2, _), (3, _)] ⟨rfl, rfl, trivial⟩ ?_
          refine X.next ?_
          refine C.ret ?_
          refine X.blockRet ?_
          refine X.thenRet ?_
          refine X.loopRet ?_
          refine X.blockRet ?_
          refine X.thenRet ?_
          refine X.ret2 rfl rfl rfl ?_
          exact ⟨by rw [siteR_bad h8 (by omega) (by rw [hf, hf2, if_pos h24])], rfl⟩
        · refine C.skip ?_
          refine X.blockNormal ?_
          refine X.next ?_
          refine C.region ?_
          refine R.ev rfl (E.add rfl rfl (by omega) (by omega)) ?_
          refine R.ev rfl (E.move rfl) ?_
          refine R.done ?_
          refine X.keep [(0, _), (16, _), (17, _)] ⟨rfl, rfl, rfl, trivial⟩ ?_
          refine X.again (k + 1) ⟨rfl, rfl, rfl, trivial⟩ ⟨by omega, rfl, by rw [hf, hf2, if_neg (by simp [h24]), Nat.sub_sub]⟩ (by omega)
      · refine C.exit ?_
        refine X.thenExit ?_
        refine X.loopExit ?_
        refine X.blockExit ?_
        refine X.next ?_
        refine C.seq ?_
        refine C.seq ?_
        refine C.region ?_
        refine R.ev rfl (E.move rfl) ?_
        refine R.ev rfl (E.lenStr rfl Tryz.underlying9) ?_
        refine R.ev rfl (E.move rfl) ?_
        refine R.done ?_
        refine X.keep [(0, _), (28, _), (29, _)] ⟨rfl, rfl, rfl, trivial⟩ ?_
        refine X.next ?_
        refine C.block ?_
        refine C.loop  [(0, _), (28, _)] (fun k => [(29, .int .i64 (k : Nat))]) (fun k w' => k ≤ l.length ∧ w = w' ∧ findFrom (misplaced l) l.length 0 = findFrom (misplaced l) (l.length - k) k) (fun k => l.length - k) (0) ⟨rfl, rfl, rfl, trivial⟩ ⟨by omega, rfl, rfl⟩ ?_
        have hf0 : findFrom (badPerm l) l.length 0 = none := by rw [hf, show l.length - k = 0 by omega]; rfl
        clear hf
        rintro k _ ⟨hk, rfl, hf⟩
        refine C.keep [(0, _), (28, _), (29, _)] ⟨rfl, rfl, rfl, trivial⟩ ?_
        refine C.seq ?_
        refine C.region ?_
        refine R.ev rfl (E.lss rfl rfl) ?_
        refine R.done ?_
        refine X.keep [(0, _), (28, _), (29, _), (30, _)] ⟨rfl, rfl, rfl, rfl, trivial⟩ ?_
        refine X.next ?_
        refine C.seq ?_
        refine C.cdec rfl (fun h30 => ?_) (fun h30 => ?_)
        · have hlt : k < l.length := by omega
          have hb := byteAt_eq hlt
          have hf2 := findFrom_eq (misplaced l) (l.length - k) k (by omega)
          refine C.skip ?_
          refine X.next ?_
          refine C.seq ?_
          refine C.block ?_
          refine C.seq ?_
          refine C.region ?_
          refine R.ev rfl (E.move rfl) ?_
          refine R.ev rfl (E.assign rfl) ?_
          refine R.done ?_
          refine X.keep [(0, _), (5, _), (28, _), (29, _)] ⟨rfl, rfl, rfl, rfl, trivial⟩ ?_
          refine X.next ?_
          refine C.seq ?_
          refine C.region ?_
          refine R.ev rfl (E.move rfl) ?_
          refine R.ev rfl (E.move rfl) ?_
          refine R.ev rfl (E.sindex rfl rfl Tryz.underlying9 rfl (by first | omega | decide)) ?_
          refine R.ev rfl (E.assign rfl) ?_
          refine R.done ?_
          refine X.keep [(0, _), (5, _), (6, _), (28, _), (29, _)] ⟨rfl, rfl, rfl, rfl, rfl, trivial⟩ ?_
          refine X.next ?_
          refine C.seq ?_
          refine C.cut [(0, _), (5, _), (28, _), (29, _)] (fun (_ : Unit) => [(7, .bool (misplaced l k))]) (fun _ w' => w = w') ⟨rfl, rfl, rfl, rfl, trivial⟩ ?_ ?_
          · refine C.region ?_
            refine R.ev rfl (E.move rfl) ?_
            refine R.ev rfl (E.eql rfl rfl) ?_
            refine R.ev rfl (E.move rfl) ?_
            refine R.split 37 rfl (fun h37 => ?_) (fun h37 => ?_)
            · refine R.gyes rfl rfl ?_
              refine R.ev rfl (E.move rfl) ?_
              refine R.gyes rfl rfl ?_
              refine R.call ⟨_, _, Tryz.func76, rfl, by kernel_rfl⟩ rfl rfl (isLower_any _ _) ?_
              rintro _ _ ⟨rfl, rfl⟩
              refine R.gyes rfl rfl ?_
              refine R.ev rfl (E.not rfl) ?_
              refine R.ev rfl (E.pickT rfl rfl) ?_
              refine R.ev rfl (E.move rfl) ?_
              refine R.split 42 rfl (fun h42 => ?_) (fun h42 => ?_)
              · refine R.gskip rfl rfl rfl ?_
                refine R.gskip rfl rfl rfl ?_
                refine R.gskip rfl rfl rfl ?_
                refine R.gundef rfl rfl ?_
                refine R.gundef rfl rfl ?_
                refine R.gskip rfl rfl rfl ?_
                refine R.gskip rfl rfl rfl ?_
                refine R.gundef rfl rfl ?_
                refine R.gundef rfl rfl ?_
                refine R.gundef rfl rfl ?_
                refine R.gundef rfl rfl ?_
                refine R.gundef rfl rfl ?_
                refine R.gskip rfl rfl rfl ?_
                refine R.ev rfl (E.pickT rfl rfl) ?_
                refine R.ev rfl (E.move rfl) ?_
                refine R.gskip rfl rfl rfl ?_
                refine R.gskip rfl rfl rfl ?_
                refine R.gskip rfl rfl rfl ?_
                refine R.gskip rfl rfl rfl ?_
                refine R.gskip rfl rfl rfl ?_
                refine R.gskip rfl rfl rfl ?_
                refine R.gundef rfl rfl ?_
                refine R.gundef rfl rfl ?_
                refine R.gundef rfl rfl ?_
                refine R.gundef rfl rfl ?_
                refine R.gundef rfl rfl ?_
                refine R.gundef rfl rfl ?_
                refine R.gskip rfl rfl rfl ?_
                refine R.ev rfl (E.pickT rfl rfl) ?_
                refine R.ev rfl (E.assign rfl) ?_
                refine R.done ?_
                refine X.keep [(0, _), (5, _), (7, _), (28, _), (29, _)] ⟨rfl, rfl, rfl, rfl, rfl, trivial⟩ ?_
                refine X.cut (()) ⟨lkV rfl ?_, rfl, rfl, rfl, rfl, trivial⟩ ?_
                all_goals try exact rfl
                simp only [misplaced, ← hb]
                have h0 : (k = 0 ∨ 0 < k) := by omega
                have hb1 : 0 < k → ((l.getD (k - 1) 0).toNat : Int) = byteAt l (k - 1) := fun _ => byteAt_eq (by omega)
                simp_all
                try omega
              · refine R.gyes rfl rfl ?_
                refine R.ev rfl (E.move rfl) ?_
                refine R.gyes rfl rfl ?_
                refine R.ev rfl (E.gtr rfl rfl) ?_
                refine R.gyes rfl rfl ?_
                refine R.ev rfl (E.move rfl) ?_
                refine R.split 45 rfl (fun h45 => ?_) (fun h45 => ?_)
                · refine R.gyes rfl rfl ?_
                  refine R.ev rfl (E.move rfl) ?_
                  refine R.gyes rfl rfl ?_
                  refine R.ev rfl (E.eql rfl rfl) ?_
                  refine R.gyes rfl rfl ?_
                  refine R.ev rfl (E.pickT rfl rfl) ?_
                  refine R.gyes rfl rfl ?_
                  refine R.ev rfl (E.move rfl) ?_
                  refine R.split 49 rfl (fun h49 => ?_) (fun h49 => ?_)
                  · refine R.gyes rfl rfl ?_
                    refine R.ev rfl (E.move rfl) ?_
                    refine R.gyes rfl rfl ?_
                    refine R.ev rfl (E.move rfl) ?_
                    refine R.gyes rfl rfl ?_
                    refine R.ev rfl (E.sub rfl rfl (by omega) (by omega)) ?_
                    refine R.gyes rfl rfl ?_
                    refine R.ev rfl (E.sindex (i := k - 1) rfl rfl Tryz.underlying9 (by simp at h45; omega) (by omega)) ?_
                    refine R.gyes rfl rfl ?_
                    refine R.ev rfl (E.eql rfl rfl) ?_
                    refine R.gyes rfl rfl ?_
                    refine R.ev rfl (E.pickT rfl rfl) ?_
                    refine R.ev rfl (E.pickF rfl rfl) ?_
                    refine R.ev rfl (E.move rfl) ?_
                    refine R.split 57 rfl (fun h57 => ?_) (fun h57 => ?_)
                    · refine R.gskip rfl rfl rfl ?_
                      refine R.gskip rfl rfl rfl ?_
                      refine R.gskip rfl rfl rfl ?_
                      refine R.gskip rfl rfl rfl ?_
                      refine R.gskip rfl rfl rfl ?_
                      refine R.gskip rfl rfl rfl ?_
                      refine R.gundef rfl rfl ?_
                      refine R.gundef rfl rfl ?_
                      refine R.gundef rfl rfl ?_
                      refine R.gundef rfl rfl ?_
                      refine R.gundef rfl rfl ?_
                      refine R.gundef rfl rfl ?_
                      refine R.gskip rfl rfl rfl ?_
                      refine R.ev rfl (E.pickT rfl rfl) ?_
                      refine R.ev rfl (E.assign rfl) ?_
                      refine R.done ?_
                      refine X.keep [(0, _), (5, _), (7, _), (28, _), (29, _)] ⟨rfl, rfl, rfl, rfl, rfl, trivial⟩ ?_
                      refine X.cut (()) ⟨lkV rfl ?_, rfl, rfl, rfl, rfl, trivial⟩ ?_
                      all_goals try exact rfl
                      simp only [misplaced, ← hb]
                      have h0 : (k = 0 ∨ 0 < k) := by omega
                      have hb1 : 0 < k → ((l.getD (k - 1) 0).toNat : Int) = byteAt l (k - 1) := fun _ => byteAt_eq (by omega)
                      simp_all
                      try omega
                    · refine R.gyes rfl rfl ?_
                      refine R.ev rfl (E.move rfl) ?_
                      refine R.gyes rfl rfl ?_
                      refine R.ev rfl (E.move rfl) ?_
                      refine R.gyes rfl rfl ?_
                      refine R.ev rfl (E.lenStr rfl Tryz.underlying9) ?_
                      refine R.gyes rfl rfl ?_
                      refine R.ev rfl (E.sub rfl rfl (by omega) (by omega)) ?_
                      refine R.gyes rfl rfl ?_
                      refine R.ev rfl (E.eql rfl rfl) ?_
                      refine R.gyes rfl rfl ?_
                      refine R.ev rfl (E.move rfl) ?_
                      refine R.split 63 rfl (fun h63 => ?_) (fun h63 => ?_)
                      · refine R.gyes rfl rfl ?_
                        refine R.ev rfl (E.move rfl) ?_
                        refine R.gyes rfl rfl ?_
                        refine R.ev rfl (E.eql rfl rfl) ?_
                        refine R.gyes rfl rfl ?_
                        refine R.ev rfl (E.move rfl) ?_
                        refine R.split 66 rfl (fun h66 => ?_) (fun h66 => ?_)
                        · refine R.gskip rfl rfl rfl ?_
                          refine R.gskip rfl rfl rfl ?_
                          refine R.gyes rfl rfl ?_
                          refine R.ev rfl (E.pickT rfl rfl) ?_
                          refine R.gyes rfl rfl ?_
                          refine R.ev rfl (E.pickT rfl rfl) ?_
                          refine R.ev rfl (E.pickF rfl rfl) ?_
                          refine R.ev rfl (E.assign rfl) ?_
                          refine R.done ?_
                          refine X.keep [(0, _), (5, _), (7, _), (28, _), (29, _)] ⟨rfl, rfl, rfl, rfl, rfl, trivial⟩ ?_
                          refine X.cut (()) ⟨lkV rfl ?_, rfl, rfl, rfl, rfl, trivial⟩ ?_
                          all_goals try exact rfl
                          simp only [misplaced, ← hb]
                          have h0 : (k = 0 ∨ 0 < k) := by omega
                          have hb1 : 0 < k → ((l.getD (k - 1) 0).toNat : Int) = byteAt l (k - 1) := fun _ => byteAt_eq (by omega)
                          simp_all
                          try omega
                        · refine R.gyes rfl rfl ?_
                          refine R.ev rfl (E.move rfl) ?_
                          refine R.gyes rfl rfl ?_
                          refine R.ev rfl (E.eql rfl rfl) ?_
                          refine R.gyes rfl rfl ?_
                          refine R.ev rfl (E.pickF rfl rfl) ?_
                          refine R.gyes rfl rfl ?_
                          refine R.ev rfl (E.pickT rfl rfl) ?_
                          refine R.ev rfl (E.pickF rfl rfl) ?_
                          refine R.ev rfl (E.assign rfl) ?_
                          refine R.done ?_
                          refine X.keep [(0, _), (5, _), (7, _), (28, _), (29, _)] ⟨rfl, rfl, rfl, rfl, rfl, trivial⟩ ?_
                          refine X.cut (()) ⟨lkV rfl ?_, rfl, rfl, rfl, rfl, trivial⟩ ?_
                          all_goals try exact rfl
                          simp only [misplaced, ← hb]
                          have h0 : (k = 0 ∨ 0 < k) := by omega
                          have hb1 : 0 < k → ((l.getD (k - 1) 0).toNat : Int) = byteAt l (k - 1) := fun _ => byteAt_eq (by omega)
                          simp_all
                          try omega
                      · refine R.gskip rfl rfl rfl ?_
                        refine R.gskip rfl rfl rfl ?_
                        refine R.gskip rfl rfl rfl ?_
                        refine R.gundef rfl rfl ?_
                        refine R.gundef rfl rfl ?_
                        refine R.gskip rfl rfl rfl ?_
                        refine R.gyes rfl rfl ?_
                        refine R.ev rfl (E.pickF rfl rfl) ?_
                        refine R.ev rfl (E.pickF rfl rfl) ?_
                        refine R.ev rfl (E.assign rfl) ?_
                        refine R.done ?_
                        refine X.keep [(0, _), (5, _), (7, _), (28, _), (29, _)] ⟨rfl, rfl, rfl, rfl, rfl, trivial⟩ ?_
                        refine X.cut (()) ⟨lkV rfl ?_, rfl, rfl, rfl, rfl, trivial⟩ ?_
                        all_goals try exact rfl
                        simp only [misplaced, ← hb]
                        have h0 : (k = 0 ∨ 0 < k) := by omega
                        have hb1 : 0 < k → ((l.getD (k - 1) 0).toNat : Int) = byteAt l (k - 1) := fun _ => byteAt_eq (by omega)
                        simp_all
                        try omega
                  · refine R.gskip rfl rfl rfl ?_
                    refine R.gskip rfl rfl rfl ?_
                    refine R.gskip rfl rfl rfl ?_
                    refine R.gskip rfl rfl rfl ?_
                    refine R.gskip rfl rfl rfl ?_
                    refine R.gyes rfl rfl ?_
                    refine R.ev rfl (E.pickF rfl rfl) ?_
                    refine R.ev rfl (E.pickF rfl rfl) ?_
                    refine R.ev rfl (E.move rfl) ?_
                    refine R.gyes rfl rfl ?_
                    refine R.ev rfl (E.move rfl) ?_
                    refine R.gyes rfl rfl ?_
                    refine R.ev rfl (E.move rfl) ?_
                    refine R.gyes rfl rfl ?_
                    refine R.ev rfl (E.lenStr rfl Tryz.underlying9) ?_
                    refine R.gyes rfl rfl ?_
                    refine R.ev rfl (E.sub rfl rfl (by omega) (by omega)) ?_
                    refine R.gyes rfl rfl ?_
                    refine R.ev rfl (E.eql rfl rfl) ?_
                    refine R.gyes rfl rfl ?_
                    refine R.ev rfl (E.move rfl) ?_
                    refine R.split 63 rfl (fun h63 => ?_) (fun h63 => ?_)
                    · refine R.gyes rfl rfl ?_
                      refine R.ev rfl (E.move rfl) ?_
                      refine R.gyes rfl rfl ?_
                      refine R.ev rfl (E.eql rfl rfl) ?_
                      refine R.gyes rfl rfl ?_
                      refine R.ev rfl (E.move rfl) ?_
                      refine R.split 66 rfl (fun h66 => ?_) (fun h66 => ?_)
                      · refine R.gskip rfl rfl rfl ?_
                        refine R.gskip rfl rfl rfl ?_
                        refine R.gyes rfl rfl ?_
                        refine R.ev rfl (E.pickT rfl rfl) ?_
                        refine R.gyes rfl rfl ?_
                        refine R.ev rfl (E.pickT rfl rfl) ?_
                        refine R.ev rfl (E.pickF rfl rfl) ?_
                        refine R.ev rfl (E.assign rfl) ?_
                        refine R.done ?_
                        refine X.keep [(0, _), (5, _), (7, _), (28, _), (29, _)] ⟨rfl, rfl, rfl, rfl, rfl, trivial⟩ ?_
                        refine X.cut (()) ⟨lkV rfl ?_, rfl, rfl, rfl, rfl, trivial⟩ ?_
                        all_goals try exact rfl
                        simp only [misplaced, ← hb]
                        have h0 : (k = 0 ∨ 0 < k) := by omega
                        have hb1 : 0 < k → ((l.getD (k - 1) 0).toNat : Int) = byteAt l (k - 1) := fun _ => byteAt_eq (by omega)
                        simp_all
                        try omega
                      · refine R.gyes rfl rfl ?_
                        refine R.ev rfl (E.move rfl) ?_
                        refine R.gyes rfl rfl ?_
                        refine R.ev rfl (E.eql rfl rfl) ?_
                        refine R.gyes rfl rfl ?_
                        refine R.ev rfl (E.pickF rfl rfl) ?_
                        refine R.gyes rfl rfl ?_
                        refine R.ev rfl (E.pickT rfl rfl) ?_
                        refine R.ev rfl (E.pickF rfl rfl) ?_
                        refine R.ev rfl (E.assign rfl) ?_
                        refine R.done ?_
                        refine X.keep [(0, _), (5, _), (7, _), (28, _), (29, _)] ⟨rfl, rfl, rfl, rfl, rfl, trivial⟩ ?_
                        refine X.cut (()) ⟨lkV rfl ?_, rfl, rfl, rfl, rfl, trivial⟩ ?_
                        all_goals try exact rfl
                        simp only [misplaced, ← hb]
                        have h0 : (k = 0 ∨ 0 < k) := by omega
                        have hb1 : 0 < k → ((l.getD (k - 1) 0).toNat : Int) = byteAt l (k - 1) := fun _ => byteAt_eq (by omega)
                        simp_all
                        try omega
                    · refine R.gskip rfl rfl rfl ?_
                      refine R.gskip rfl rfl rfl ?_
                      refine R.gskip rfl rfl rfl ?_
                      refine R.gundef rfl rfl ?_
                      refine R.gundef rfl rfl ?_
                      refine R.gskip rfl rfl rfl ?_
                      refine R.gyes rfl rfl ?_
                      refine R.ev rfl (E.pickF rfl rfl) ?_
                      refine R.ev rfl (E.pickF rfl rfl) ?_
                      refine R.ev rfl (E.assign rfl) ?_
                      refine R.done ?_
                      refine X.keep [(0, _), (5, _), (7, _), (28, _), (29, _)] ⟨rfl, rfl, rfl, rfl, rfl, trivial⟩ ?_
                      refine X.cut (()) ⟨lkV rfl ?_, rfl, rfl, rfl, rfl, trivial⟩ ?_
                      all_goals try exact rfl
                      simp only [misplaced, ← hb]
                      have h0 : (k = 0 ∨ 0 < k) := by omega
                      have hb1 : 0 < k → ((l.getD (k - 1) 0).toNat : Int) = byteAt l (k - 1) := fun _ => byteAt_eq (by omega)
                      simp_all
                      try omega
                · refine R.gskip rfl rfl rfl ?_
                  refine R.gskip rfl rfl rfl ?_
                  refine R.gyes rfl rfl ?_
                  refine R.ev rfl (E.pickF rfl rfl) ?_
                  refine R.gyes rfl rfl ?_
                  refine R.ev rfl (E.move rfl) ?_
                  refine R.gskip rfl rfl rfl ?_
                  refine R.gskip rfl rfl rfl ?_
                  refine R.gskip rfl rfl rfl ?_
                  refine R.gskip rfl rfl rfl ?_
                  refine R.gskip rfl rfl rfl ?_
                  refine R.gyes rfl rfl ?_
                  refine R.ev rfl (E.pickF rfl rfl) ?_
                  refine R.ev rfl (E.pickF rfl rfl) ?_
                  refine R.ev rfl (E.move rfl) ?_
                  refine R.gyes rfl rfl ?_
                  refine R.ev rfl (E.move rfl) ?_
                  refine R.gyes rfl rfl ?_
                  refine R.ev rfl (E.move rfl) ?_
                  refine R.gyes rfl rfl ?_
                  refine R.ev rfl (E.lenStr rfl Tryz.underlying9) ?_
                  refine R.gyes rfl rfl ?_
                  refine R.ev rfl (E.sub rfl rfl (by omega) (by omega)) ?_
                  refine R.gyes rfl rfl ?_
                  refine R.ev rfl (E.eql rfl rfl) ?_
                  refine R.gyes rfl rfl ?_
                  refine R.ev rfl (E.move rfl) ?_
                  refine R.split 63 rfl (fun h63 => ?_) (fun h63 => ?_)
                  · refine R.gyes rfl rfl ?_
                    refine R.ev rfl (E.move rfl) ?_
                    refine R.gyes rfl rfl ?_
                    refine R.ev rfl (E.eql rfl rfl) ?_
                    refine R.gyes rfl rfl ?_
                    refine R.ev rfl (E.move rfl) ?_
                    refine R.split 66 rfl (fun h66 => ?_) (fun h66 => ?_)
                    · refine R.gskip rfl rfl rfl ?_
                      refine R.gskip rfl rfl rfl ?_
                      refine R.gyes rfl rfl ?_
                      refine R.ev rfl (E.pickT rfl rfl) ?_
                      refine R.gyes rfl rfl ?_
                      refine R.ev rfl (E.pickT rfl rfl) ?_
                      refine R.ev rfl (E.pickF rfl rfl) ?_
                      refine R.ev rfl (E.assign rfl) ?_
                      refine R.done ?_
                      refine X.keep [(0, _), (5, _), (7, _), (28, _), (29, _)] ⟨rfl, rfl, rfl, rfl, rfl, trivial⟩ ?_
                      refine X.cut (()) ⟨lkV rfl ?_, rfl, rfl, rfl, rfl, trivial⟩ ?_
                      all_goals try exact rfl
                      simp only [misplaced, ← hb]
                      have h0 : (k = 0 ∨ 0 < k) := by omega
                      have hb1 : 0 < k → ((l.getD (k - 1) 0).toNat : Int) = byteAt l (k - 1) := fun _ => byteAt_eq (by omega)
                      simp_all
                      try omega
                    · refine R.gyes rfl rfl ?_
                      refine R.ev rfl (E.move rfl) ?_
                      refine R.gyes rfl rfl ?_
                      refine R.ev rfl (E.eql rfl rfl) ?_
                      refine R.gyes rfl rfl ?_
                      refine R.ev rfl (E.pickF rfl rfl) ?_
                      refine R.gyes rfl rfl ?_
                      refine R.ev rfl (E.pickT rfl rfl) ?_
                      refine R.ev rfl (E.pickF rfl rfl) ?_
                      refine R.ev rfl (E.assign rfl) ?_
                      refine R.done ?_
                      refine X.keep [(0, _), (5, _), (7, _), (28, _), (29, _)] ⟨rfl, rfl, rfl, rfl, rfl, trivial⟩ ?_
                      refine X.cut (()) ⟨lkV rfl ?_, rfl, rfl, rfl, rfl, trivial⟩ ?_
                      all_goals try exact rfl
                      simp only [misplaced, ← hb]
                      have h0 : (k = 0 ∨ 0 < k) := by omega
                      have hb1 : 0 < k → ((l.getD (k - 1) 0).toNat : Int) = byteAt l (k - 1) := fun _ => byteAt_eq (by omega)
                      simp_all
                      try omega
                  · refine R.gskip rfl rfl rfl ?_
                    refine R.gskip rfl rfl rfl ?_
                    refine R.gskip rfl rfl rfl ?_
                    refine R.gundef rfl rfl ?_
                    refine R.gundef rfl rfl ?_
                    refine R.gskip rfl rfl rfl ?_
                    refine R.gyes rfl rfl ?_
                    refine R.ev rfl (E.pickF rfl rfl) ?_
                    refine R.ev rfl (E.pickF rfl rfl) ?_
                    refine R.ev rfl (E.assign rfl) ?_
                    refine R.done ?_
                    refine X.keep [(0, _), (5, _), (7, _), (28, _), (29, _)] ⟨rfl, rfl, rfl, rfl, rfl, trivial⟩ ?_
                    refine X.cut (()) ⟨lkV rfl ?_, rfl, rfl, rfl, rfl, trivial⟩ ?_
                    all_goals try exact rfl
                    simp only [misplaced, ← hb]
                    have h0 : (k = 0 ∨ 0 < k) := by omega
                    have hb1 : 0 < k → ((l.getD (k - 1) 0).toNat : Int) = byteAt l (k - 1) := fun _ => byteAt_eq (by omega)
                    simp_all
                    try omega
            · refine R.gskip rfl rfl rfl ?_
              refine R.gskip rfl rfl rfl ?_
              refine R.gskip rfl rfl rfl ?_
              refine R.ev rfl (E.pickF rfl rfl) ?_
              refine R.ev rfl (E.move rfl) ?_
              refine R.gyes rfl rfl ?_
              refine R.ev rfl (E.move rfl) ?_
              refine R.gyes rfl rfl ?_
              refine R.ev rfl (E.gtr rfl rfl) ?_
              refine R.gyes rfl rfl ?_
              refine R.ev rfl (E.move rfl) ?_
              refine R.split 45 rfl (fun h45 => ?_) (fun h45 => ?_)
              · refine R.gyes rfl rfl ?_
                refine R.ev rfl (E.move rfl) ?_
                refine R.gyes rfl rfl ?_
                refine R.ev rfl (E.eql rfl rfl) ?_
                refine R.gyes rfl rfl ?_
                refine R.ev rfl (E.pickT rfl rfl) ?_
                refine R.gyes rfl rfl ?_
                refine R.ev rfl (E.move rfl) ?_
                refine R.split 49 rfl (fun h49 => ?_) (fun h49 => ?_)
                · refine R.gyes rfl rfl ?_
                  refine R.ev rfl (E.move rfl) ?_
                  refine R.gyes rfl rfl ?_
                  refine R.ev rfl (E.move rfl) ?_
                  refine R.gyes rfl rfl ?_
                  refine R.ev rfl (E.sub rfl rfl (by omega) (by omega)) ?_
                  refine R.gyes rfl rfl ?_
                  refine R.ev rfl (E.sindex (i := k - 1) rfl rfl Tryz.underlying9 (by simp at h45; omega) (by omega)) ?_
                  refine R.gyes rfl rfl ?_
                  refine R.ev rfl (E.eql rfl rfl) ?_
                  refine R.gyes rfl rfl ?_
                  refine R.ev rfl (E.pickT rfl rfl) ?_
                  refine R.ev rfl (E.pickF rfl rfl) ?_
                  refine R.ev rfl (E.move rfl) ?_
                  refine R.split 57 rfl (fun h57 => ?_) (fun h57 => ?_)
                  · refine R.gskip rfl rfl rfl ?_
                    refine R.gskip rfl rfl rfl ?_
                    refine R.gskip rfl rfl rfl ?_
                    refine R.gskip rfl rfl rfl ?_
                    refine R.gskip rfl rfl rfl ?_
                    refine R.gskip rfl rfl rfl ?_
                    refine R.gundef rfl rfl ?_
                    refine R.gundef rfl rfl ?_
                    refine R.gundef rfl rfl ?_
                    refine R.gundef rfl rfl ?_
                    refine R.gundef rfl rfl ?_
                    refine R.gundef rfl rfl ?_
                    refine R.gskip rfl rfl rfl ?_
                    refine R.ev rfl (E.pickT rfl rfl) ?_
                    refine R.ev rfl (E.assign rfl) ?_
                    refine R.done ?_
                    refine X.keep [(0, _), (5, _), (7, _), (28, _), (29, _)] ⟨rfl, rfl, rfl, rfl, rfl, trivial⟩ ?_
                    refine X.cut (()) ⟨lkV rfl ?_, rfl, rfl, rfl, rfl, trivial⟩ ?_
                    all_goals try exact rfl
                    simp only [misplaced, ← hb]
                    have h0 : (k = 0 ∨ 0 < k) := by omega
                    have hb1 : 0 < k → ((l.getD (k - 1) 0).toNat : Int) = byteAt l (k - 1) := fun _ => byteAt_eq (by omega)
                    simp_all
                    try omega
                  · refine R.gyes rfl rfl ?_
                    refine R.ev rfl (E.move rfl) ?_
                    refine R.gyes rfl rfl ?_
                    refine R.ev rfl (E.move rfl) ?_
                    refine R.gyes rfl rfl ?_
                    refine R.ev rfl (E.lenStr rfl Tryz.underlying9) ?_
                    refine R.gyes rfl rfl ?_
                    refine R.ev rfl (E.sub rfl rfl (by omega) (by omega)) ?_
                    refine R.gyes rfl rfl ?_
                    refine R.ev rfl (E.eql rfl rfl) ?_
                    refine R.gyes rfl rfl ?_
                    refine R.ev rfl (E.move rfl) ?_
                    refine R.split 63 rfl (fun h63 => ?_) (fun h63 => ?_)
                    · refine R.gyes rfl rfl ?_
                      refine R.ev rfl (E.move rfl) ?_
                      refine R.gyes rfl rfl ?_
                      refine R.ev rfl (E.eql rfl rfl) ?_
                      refine R.gyes rfl rfl ?_
                      refine R.ev rfl (E.move rfl) ?_
                      refine R.split 66 rfl (fun h66 => ?_) (fun h66 => ?_)
                      · refine R.gskip rfl rfl rfl ?_
                        refine R.gskip rfl rfl rfl ?_
                        refine R.gyes rfl rfl ?_
                        refine R.ev rfl (E.pickT rfl rfl) ?_
                        refine R.gyes rfl rfl ?_
                        refine R.ev rfl (E.pickT rfl rfl) ?_
                        refine R.ev rfl (E.pickF rfl rfl) ?_
                        refine R.ev rfl (E.assign rfl) ?_
                        refine R.done ?_
                        refine X.keep [(0, _), (5, _), (7, _), (28, _), (29, _)] ⟨rfl, rfl, rfl, rfl, rfl, trivial⟩ ?_
                        refine X.cut (()) ⟨lkV rfl ?_, rfl, rfl, rfl, rfl, trivial⟩ ?_
                        all_goals try exact rfl
                        simp only [misplaced, ← hb]
                        have h0 : (k = 0 ∨ 0 < k) := by omega
                        have hb1 : 0 < k → ((l.getD (k - 1) 0).toNat : Int) = byteAt l (k - 1) := fun _ => byteAt_eq (by omega)
                        simp_all
                        try omega
                      · refine R.gyes rfl rfl ?_
                        refine R.ev rfl (E.move rfl) ?_
                        refine R.gyes rfl rfl ?_
                        refine R.ev rfl (E.eql rfl rfl) ?_
                        refine R.gyes rfl rfl ?_
                        refine R.ev rfl (E.pickF rfl rfl) ?_
                        refine R.gyes rfl rfl ?_
                        refine R.ev rfl (E.pickT rfl rfl) ?_
                        refine R.ev rfl (E.pickF rfl rfl) ?_
                        refine R.ev rfl (E.assign rfl) ?_
                        refine R.done ?_
                        refine X.keep [(0, _), (5, _), (7, _), (28, _), (29, _)] ⟨rfl, rfl, rfl, rfl, rfl, trivial⟩ ?_
                        refine X.cut (()) ⟨lkV rfl ?_, rfl, rfl, rfl, rfl, trivial⟩ ?_
                        all_goals try exact rfl
                        simp only [misplaced, ← hb]
                        have h0 : (k = 0 ∨ 0 < k) := by omega
                        have hb1 : 0 < k → ((l.getD (k - 1) 0).toNat : Int) = byteAt l (k - 1) := fun _ => byteAt_eq (by omega)
                        simp_all
                        try omega
                    · refine R.gskip rfl rfl rfl ?_
                      refine R.gskip rfl rfl rfl ?_
                      refine R.gskip rfl rfl rfl ?_
                      refine R.gundef rfl rfl ?_
                      refine R.gundef rfl rfl ?_
                      refine R.gskip rfl rfl rfl ?_
                      refine R.gyes rfl rfl ?_
                      refine R.ev rfl (E.pickF rfl rfl) ?_
                      refine R.ev rfl (E.pickF rfl rfl) ?_
                      refine R.ev rfl (E.assign rfl) ?_
                      refine R.done ?_
                      refine X.keep [(0, _), (5, _), (7, _), (28, _), (29, _)] ⟨rfl, rfl, rfl, rfl, rfl, trivial⟩ ?_
                      refine X.cut (()) ⟨lkV rfl ?_, rfl, rfl, rfl, rfl, trivial⟩ ?_
                      all_goals try exact rfl
                      simp only [misplaced, ← hb]
                      have h0 : (k = 0 ∨ 0 < k) := by omega
                      have hb1 : 0 < k → ((l.getD (k - 1) 0).toNat : Int) = byteAt l (k - 1) := fun _ => byteAt_eq (by omega)
                      simp_all
                      try omega
                · refine R.gskip rfl rfl rfl ?_
                  refine R.gskip rfl rfl rfl ?_
                  refine R.gskip rfl rfl rfl ?_
                  refine R.gskip rfl rfl rfl ?_
                  refine R.gskip rfl rfl rfl ?_
                  refine R.gyes rfl rfl ?_
                  refine R.ev rfl (E.pickF rfl rfl) ?_
                  refine R.ev rfl (E.pickF rfl rfl) ?_
                  refine R.ev rfl (E.move rfl) ?_
                  refine R.gyes rfl rfl ?_
                  refine R.ev rfl (E.move rfl) ?_
                  refine R.gyes rfl rfl ?_
                  refine R.ev rfl (E.move rfl) ?_
                  refine R.gyes rfl rfl ?_
                  refine R.ev rfl (E.lenStr rfl Tryz.underlying9) ?_
                  refine R.gyes rfl rfl ?_
                  refine R.ev rfl (E.sub rfl rfl (by omega) (by omega)) ?_
                  refine R.gyes rfl rfl ?_
                  refine R.ev rfl (E.eql rfl rfl) ?_
                  refine R.gyes rfl rfl ?_
                  refine R.ev rfl (E.move rfl) ?_
                  refine R.split 63 rfl (fun h63 => ?_) (fun h63 => ?_)
                  · refine R.gyes rfl rfl ?_
                    refine R.ev rfl (E.move rfl) ?_
                    refine R.gyes rfl rfl ?_
                    refine R.ev rfl (E.eql rfl rfl) ?_
                    refine R.gyes rfl rfl ?_
                    refine R.ev rfl (E.move rfl) ?_
                    refine R.split 66 rfl (fun h66 => ?_) (fun h66 => ?_)
                    · refine R.gskip rfl rfl rfl ?_
                      refine R.gskip rfl rfl rfl ?_
                      refine R.gyes rfl rfl ?_
                      refine R.ev rfl (E.pickT rfl rfl) ?_
                      refine R.gyes rfl rfl ?_
                      refine R.ev rfl (E.pickT rfl rfl) ?_
                      refine R.ev rfl (E.pickF rfl rfl) ?_
                      refine R.ev rfl (E.assign rfl) ?_
                      refine R.done ?_
                      refine X.keep [(0, _), (5, _), (7, _), (28, _), (29, _)] ⟨rfl, rfl, rfl, rfl, rfl, trivial⟩ ?_
                      refine X.cut (()) ⟨lkV rfl ?_, rfl, rfl, rfl, rfl, trivial⟩ ?_
                      all_goals try exact rfl
                      simp only [misplaced, ← hb]
                      have h0 : (k = 0 ∨ 0 < k) := by omega
                      have hb1 : 0 < k → ((l.getD (k - 1) 0).toNat : Int) = byteAt l (k - 1) := fun _ => byteAt_eq (by omega)
                      simp_all
                      try omega
                    · refine R.gyes rfl rfl ?_
                      refine R.ev rfl (E.move rfl) ?_
                      refine R.gyes rfl rfl ?_
                      refine R.ev rfl (E.eql rfl rfl) ?_
                      refine R.gyes rfl rfl ?_
                      refine R.ev rfl (E.pickF rfl rfl) ?_
                      refine R.gyes rfl rfl ?_
                      refine R.ev rfl (E.pickT rfl rfl) ?_
                      refine R.ev rfl (E.pickF rfl rfl) ?_
                      refine R.ev rfl (E.assign rfl) ?_
                      refine R.done ?_
                      refine X.keep [(0, _), (5, _), (7, _), (28, _), (29, _)] ⟨rfl, rfl, rfl, rfl, rfl, trivial⟩ ?_
                      refine X.cut (()) ⟨lkV rfl ?_, rfl, rfl, rfl, rfl, trivial⟩ ?_
                      all_goals try exact rfl
                      simp only [misplaced, ← hb]
                      have h0 : (k = 0 ∨ 0 < k) := by omega
                      have hb1 : 0 < k → ((l.getD (k - 1) 0).toNat : Int) = byteAt l (k - 1) := fun _ => byteAt_eq (by omega)
                      simp_all
                      try omega
                  · refine R.gskip rfl rfl rfl ?_
                    refine R.gskip rfl rfl rfl ?_
                    refine R.gskip rfl rfl rfl ?_
                    refine R.gundef rfl rfl ?_
                    refine R.gundef rfl rfl ?_
                    refine R.gskip rfl rfl rfl ?_
                    refine R.gyes rfl rfl ?_
                    refine R.ev rfl (E.pickF rfl rfl) ?_
                    refine R.ev rfl (E.pickF rfl rfl) ?_
                    refine R.ev rfl (E.assign rfl) ?_
                    refine R.done ?_
                    refine X.keep [(0, _), (5, _), (7, _), (28, _), (29, _)] ⟨rfl, rfl, rfl, rfl, rfl, trivial⟩ ?_
                    refine X.cut (()) ⟨lkV rfl ?_, rfl, rfl, rfl, rfl, trivial⟩ ?_
                    all_goals try exact rfl
                    simp only [misplaced, ← hb]
                    have h0 : (k = 0 ∨ 0 < k) := by omega
                    have hb1 : 0 < k → ((l.getD (k - 1) 0).toNat : Int) = byteAt l (k - 1) := fun _ => byteAt_eq (by omega)
                    simp_all
                    try omega
              · refine R.gskip rfl rfl rfl ?_
                refine R.gskip rfl rfl rfl ?_
                refine R.gyes rfl rfl ?_
                refine R.ev rfl (E.pickF rfl rfl) ?_
                refine R.gyes rfl rfl ?_
                refine R.ev rfl (E.move rfl) ?_
                refine R.gskip rfl rfl rfl ?_
                refine R.gskip rfl rfl rfl ?_
                refine R.gskip rfl rfl rfl ?_
                refine R.gskip rfl rfl rfl ?_
                refine R.gskip rfl rfl rfl ?_
                refine R.gyes rfl rfl ?_
                refine R.ev rfl (E.pickF rfl rfl) ?_
                refine R.ev rfl (E.pickF rfl rfl) ?_
                refine R.ev rfl (E.move rfl) ?_
                refine R.gyes rfl rfl ?_
                refine R.ev rfl (E.move rfl) ?_
                refine R.gyes rfl rfl ?_
                refine R.ev rfl (E.move rfl) ?_
                refine R.gyes rfl rfl ?_
                refine R.ev rfl (E.lenStr rfl Tryz.underlying9) ?_
                refine R.gyes rfl rfl ?_
                refine R.ev rfl (E.sub rfl rfl (by omega) (by omega)) ?_
                refine R.gyes rfl rfl ?_
                refine R.ev rfl (E.eql rfl rfl) ?_
                refine R.gyes rfl rfl ?_
                refine R.ev rfl (E.move rfl) ?_
                refine R.split 63 rfl (fun h63 => ?_) (fun h63 => ?_)
                · refine R.gyes rfl rfl ?_
                  refine R.ev rfl (E.move rfl) ?_
                  refine R.gyes rfl rfl ?_
                  refine R.ev rfl (E.eql rfl rfl) ?_
                  refine R.gyes rfl rfl ?_
                  refine R.ev rfl (E.move rfl) ?_
                  refine R.split 66 rfl (fun h66 => ?_) (fun h66 => ?_)
                  · refine R.gskip rfl rfl rfl ?_
                    refine R.gskip rfl rfl rfl ?_
                    refine R.gyes rfl rfl ?_
                    refine R.ev rfl (E.pickT rfl rfl) ?_
                    refine R.gyes rfl rfl ?_
                    refine R.ev rfl (E.pickT rfl rfl) ?_
                    refine R.ev rfl (E.pickF rfl rfl) ?_
                    refine R.ev rfl (E.assign rfl) ?_
                    refine R.done ?_
                    refine X.keep [(0, _), (5, _), (7, _), (28, _), (29, _)] ⟨rfl, rfl, rfl, rfl, rfl, trivial⟩ ?_
                    refine X.cut (()) ⟨lkV rfl ?_, rfl, rfl, rfl, rfl, trivial⟩ ?_
                    all_goals try exact rfl
                    simp only [misplaced, ← hb]
                    have h0 : (k = 0 ∨ 0 < k) := by omega
                    have hb1 : 0 < k → ((l.getD (k - 1) 0).toNat : Int) = byteAt l (k - 1) := fun _ => byteAt_eq (by omega)
                    simp_all
                    try omega
                  · refine R.gyes rfl rfl ?_
                    refine R.ev rfl (E.move rfl) ?_
                    refine R.gyes rfl rfl ?_
                    refine R.ev rfl (E.eql rfl rfl) ?_
                    refine R.gyes rfl rfl ?_
                    refine R.ev rfl (E.pickF rfl rfl) ?_
                    refine R.gyes rfl rfl ?_
                    refine R.ev rfl (E.pickT rfl rfl) ?_
                    refine R.ev rfl (E.pickF rfl rfl) ?_
                    refine R.ev rfl (E.assign rfl) ?_
                    refine R.done ?_
                    refine X.keep [(0, _), (5, _), (7, _), (28, _), (29, _)] ⟨rfl, rfl, rfl, rfl, rfl, trivial⟩ ?_
                    refine X.cut (()) ⟨lkV rfl ?_, rfl, rfl, rfl, rfl, trivial⟩ ?_
                    all_goals try exact rfl
                    simp only [misplaced, ← hb]
                    have h0 : (k = 0 ∨ 0 < k) := by omega
                    have hb1 : 0 < k → ((l.getD (k - 1) 0).toNat : Int) = byteAt l (k - 1) := fun _ => byteAt_eq (by omega)
                    simp_all
                    try omega
                · refine R.gskip rfl rfl rfl ?_
                  refine R.gskip rfl rfl rfl ?_
                  refine R.gskip rfl rfl rfl ?_
                  refine R.gundef rfl rfl ?_
                  refine R.gundef rfl rfl ?_
                  refine R.gskip rfl rfl rfl ?_
                  refine R.gyes rfl rfl ?_
                  refine R.ev rfl (E.pickF rfl rfl) ?_
                  refine R.ev rfl (E.pickF rfl rfl) ?_
                  refine R.ev rfl (E.assign rfl) ?_
                  refine R.done ?_
                  refine X.keep [(0, _), (5, _), (7, _), (28, _), (29, _)] ⟨rfl, rfl, rfl, rfl, rfl, trivial⟩ ?_
                  refine X.cut (()) ⟨lkV rfl ?_, rfl, rfl, rfl, rfl, trivial⟩ ?_
                  all_goals try exact rfl
                  simp only [misplaced, ← hb]
                  have h0 : (k = 0 ∨ 0 < k) := by omega
                  have hb1 : 0 < k → ((l.getD (k - 1) 0).toNat : Int) = byteAt l (k - 1) := fun _ => byteAt_eq (by omega)
                  simp_all
                  try omega
          · rintro _ _ rfl
            refine X.keep [(0, _), (5, _), (7, _), (28, _), (29, _)] ⟨rfl, rfl, rfl, rfl, rfl, trivial⟩ ?_
            refine X.next ?_
            refine C.seq ?_
            refine C.region ?_
            refine R.ev rfl (E.move rfl) ?_
            refine R.done ?_
            refine X.keep [(0, _), (5, _), (28, _), (29, _), (72, _)] ⟨rfl, rfl, rfl, rfl, rfl, trivial⟩ ?_
            refine X.next ?_
            refine C.cbool rfl (fun h72 => ?_) (fun h72 => ?_)
            · refine C.seq ?_
              refine C.region ?_
              refine R.ev rfl (E.move rfl) ?_
              refine R.ev rfl (E.assign rfl) ?_
              refine R.ev rfl (E.assign rfl) ?_
              refine R.done ?_
              refine X.keep [(2, _), (3, _)] ⟨rfl, rfl, trivial⟩ ?_
              refine X.next ?_
              refine C.ret ?_
              refine X.blockRet ?_
              refine X.thenRet ?_
              refine X.loopRet ?_
              refine X.blockRet ?_
              refine X.thenRet ?_
              refine X.ret2 rfl rfl rfl ?_
              exact ⟨by rw [siteR_mis h8 (by omega) hf0 (by rw [hf, hf2, if_pos h72])], rfl⟩
            · refine C.skip ?_
              refine X.blockNormal ?_
              refine X.next ?_
              refine C.region ?_
              refine R.ev rfl (E.add rfl rfl (by omega) (by omega)) ?_
              refine R.ev rfl (E.move rfl) ?_
              refine R.done ?_
              refine X.keep [(0, _), (28, _), (29, _)] ⟨rfl, rfl, rfl, trivial⟩ ?_
              refine X.again (k + 1) ⟨rfl, rfl, rfl, trivial⟩ ⟨by omega, rfl, by rw [hf, hf2, if_neg (by simp [h72]), Nat.sub_sub]⟩ (by omega)
        · refine C.exit ?_
          refine X.thenExit ?_
          refine X.loopExit ?_
          refine X.blockExit ?_
          refine X.next ?_
          refine C.seq ?_
          refine C.region ?_
          refine R.ev rfl (E.assign rfl) ?_
          refine R.ev rfl (E.assign rfl) ?_
          refine R.done ?_
          refine X.keep [(2, _), (3, _)] ⟨rfl, rfl, trivial⟩ ?_
          refine X.next ?_
          refine C.ret ?_
          refine X.ret2 rfl rfl rfl ?_
          exact ⟨by rw [siteR_ok h8 (by omega) hf0 (by rw [hf, show l.length - k = 0 by omega]; rfl)]; rfl, rfl⟩
end Go.Proofs.YtifghjeapfijkaaGreatDoor
