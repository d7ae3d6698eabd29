/-
  Shorten: msgid's and the reference's.
-/
import Derived.Test.YtkmgmdgkphckgaaResolve
import Derived.Test.YtkmgmdgkphckgaaKnown
namespace Go.Proofs.Ytkmgmdgkphckgaa
open Go.Eng Go.RowKit

theorem resF_iff {p : List UInt8} {f : List (List UInt8)} {a x : List UInt8} : x ∈ resF p f a ↔ x ∈ f ∨ (x = a ∧ (hexL x).take p.length = p) := by
  unfold resF tst
  by_cases h1 : (hexL a).take p.length = p
  · by_cases h2 : a ∈ f
    · simp only [h1, h2, decide_true, Bool.not_true, Bool.and_false, Bool.false_eq_true, if_false]
      constructor
      · exact .inl
      · rintro (h | ⟨rfl, _⟩)
        · exact h
        · exact h2
    · simp only [h1, h2, decide_true, decide_false, Bool.not_false, Bool.and_true, if_true, List.mem_append, List.mem_singleton]
      constructor
      · rintro (h | rfl)
        · exact .inl h
        · exact .inr ⟨rfl, h1⟩
      · rintro (h | ⟨rfl, _⟩)
        · exact .inl h
        · exact .inr rfl
  · simp only [h1, decide_false, Bool.false_and, Bool.false_eq_true, if_false]
    constructor
    · exact .inl
    · rintro (h | ⟨rfl, h⟩)
      · exact h
      · exact absurd h h1
theorem foldF_iff {p : List UInt8} {x : List UInt8} : ∀ {L f : List (List UInt8)}, x ∈ L.foldl (resF p) f ↔ x ∈ f ∨ (x ∈ L ∧ (hexL x).take p.length = p)
  | [], f => by simp
  | a :: L, f => by
    rw [List.foldl_cons, foldF_iff (L := L), resF_iff]
    simp only [List.mem_cons]
    constructor
    · rintro ((h | ⟨h1, h2⟩) | ⟨h1, h2⟩)
      · exact .inl h
      · exact .inr ⟨.inl h1, h2⟩
      · exact .inr ⟨.inr h1, h2⟩
    · rintro (h | ⟨h1 | h1, h2⟩)
      · exact .inl (.inl h)
      · exact .inl (.inr ⟨h1, h2⟩)
      · exact .inr ⟨h1, h2⟩
theorem resL_iff {p x : List UInt8} {L : List (List UInt8)} : x ∈ resL p L ↔ x ∈ L ∧ (hexL x).take p.length = p := by
  unfold resL; rw [foldF_iff]; simp
theorem foldF_nodup {p : List UInt8} : ∀ {L f : List (List UInt8)}, f.Nodup → (L.foldl (resF p) f).Nodup
  | [], _, h => h
  | a :: L, f, h => by
    refine foldF_nodup (L := L) ?_
    unfold resF tst
    split
    · rename_i h2
      simp at h2
      rw [List.nodup_append]
      exact ⟨h, by simp, by intro x hx y hy; simp at hy; subst hy; intro e; subst e; exact h2.2 hx⟩
    · exact h
theorem resL_nodup {p : List UInt8} {L : List (List UInt8)} : (resL p L).Nodup := foldF_nodup List.nodup_nil

/-- n digits of a tell it from all others of L -/
def Uniq (a : List UInt8) (L : List (List UInt8)) (n : Nat) : Prop := ∀ b ∈ L, b ≠ a → (hexL b).take n ≠ (hexL a).take n
def IsMin (a : List UInt8) (L : List (List UInt8)) (m : Nat) : Prop := 4 ≤ m ∧ m ≤ 64 ∧ ∀ n, 4 ≤ n → n ≤ 64 → (m ≤ n ↔ Uniq a L n)

theorem hexL_good {a : List UInt8} : (hexL a).any badHex = false := by
  rw [← Bool.not_eq_true, List.any_eq_true]
  rintro ⟨c, hc, hb⟩
  obtain ⟨i, hi, rfl⟩ := List.mem_iff_getElem.1 hc
  have := hexL_get (a := a) (k := i) (by rw [← hexL_len]; exact hi)
  rw [List.getD_eq_getElem?_getD, List.getElem?_eq_getElem hi, Option.getD_some, isHx_eq] at this
  rw [badHex, this] at hb
  cases hb
theorem any_take {p : UInt8 → Bool} {l : List UInt8} {n : Nat} (h : l.any p = false) : (l.take n).any p = false := by
  rw [← Bool.not_eq_true, List.any_eq_true] at h ⊢
  rintro ⟨c, hc, hb⟩
  exact h ⟨c, List.mem_of_mem_take hc, hb⟩
theorem resolve_pre {a : List UInt8} {L : List (List UInt8)} {n : Nat} (ha : a.length = 32) (h4 : 4 ≤ n) (h64 : n ≤ 64) :
    resolveR ((hexL a).take n) L = if (resL ((hexL a).take n) L).length = 0 then (zid, 8) else if (resL ((hexL a).take n) L).length = 1 then ((resL ((hexL a).take n) L).headD zid, 0) else (zid, 7) := by
  have hl := hexL_len a
  have h : ((hexL a).take n).length = n := by simp; omega
  rw [resolveR, h, if_neg (by omega), if_neg (by omega), if_neg (by rw [any_take hexL_good]; decide)]
theorem resolve_out {a : List UInt8} {L : List (List UInt8)} {n : Nat} (ha : a.length = 32) (h4 : 4 ≤ n) (h64 : n ≤ 64) (hn : a ∉ L) : resolveR ((hexL a).take n) L ≠ (a, 0) := by
  rw [resolve_pre ha h4 h64]
  split
  · simp
  · split
    · rename_i h1
      obtain ⟨y, hy⟩ := List.length_eq_one_iff.1 h1
      rw [hy]
      have hm : y ∈ resL ((hexL a).take n) L := by rw [hy]; simp
      intro e
      simp only [List.headD_cons, Prod.mk.injEq, and_true] at e
      subst e
      exact hn (resL_iff.1 hm).1
    · simp
theorem all_same {a : List UInt8} : ∀ {F : List (List UInt8)}, F.Nodup → a ∈ F → (∀ x ∈ F, x = a) → F = [a]
  | [], _, h, _ => by cases h
  | [x], _, _, h => by rw [h x (by simp)]
  | x :: y :: F, hd, _, h => by
    have e1 := h x (by simp)
    have e2 := h y (by simp)
    rw [e1, e2] at hd
    simp at hd
theorem resolve_in {a : List UInt8} {L : List (List UInt8)} {n : Nat} (ha : a.length = 32) (h4 : 4 ≤ n) (h64 : n ≤ 64) (hn : a ∈ L) : resolveR ((hexL a).take n) L = (a, 0) ↔ Uniq a L n := by
  have hl := hexL_len a
  have hpl : ((hexL a).take n).length = n := by simp; omega
  have hmem : a ∈ resL ((hexL a).take n) L := resL_iff.2 ⟨hn, by rw [hpl]⟩
  rw [resolve_pre ha h4 h64]
  constructor
  · intro e b hb hne heq
    have hbm : b ∈ resL ((hexL a).take n) L := resL_iff.2 ⟨hb, by rw [hpl]; exact heq⟩
    split at e
    · simp at e
    · split at e
      · rename_i h1
        obtain ⟨y, hy⟩ := List.length_eq_one_iff.1 h1
        rw [hy] at hmem hbm
        simp at hmem hbm
        exact hne (by rw [hbm, hmem])
      · simp at e
  · intro hu
    have : resL ((hexL a).take n) L = [a] := all_same resL_nodup hmem (fun x hx => by
      have := resL_iff.1 hx
      rw [hpl] at this
      by_cases h : x = a
      · exact h
      · exact absurd this.2 (hu x this.1 h))
    rw [this]; rfl

theorem refShorten_out (a : List UInt8) (ad : Option Addr) (n cap : Nat) (L : List (List UInt8)) (w : World) (ha : a.length = 32) (hs : SlE encI 32 w ad n L) (hn : n ≤ 40) (rv : Value)
    (hrv : (a ∉ L ∧ rv = .tuple #[str [], .int .i64 8]) ∨ (a ∈ L ∧ ∃ m, IsMin a L m ∧ rv = .tuple #[str ((hexL a).take m), .int .i64 0])) :
    Ret Try.prog 27 #[idV a, .slice ad n cap] w fun v w' => v = rv ∧ Mod [] w w' := by
  have hla := hexL_len a
  refine Ret.enter (n := 34) (args := [idV a, .slice ad n cap]) Try.func27 rfl rfl ?_
  refine C.keep [(0, _), (1, _)] ⟨rfl, rfl, trivial⟩ ?_
  refine C.seq ?_
  refine C.region ?_
  refine R.boxA rfl rfl ?_
  intro b2 w2 n2
  refine R.ev rfl (E.assign rfl) ?_
  refine R.ev rfl (E.assign rfl) ?_
  refine R.done ?_
  refine X.keep [(1, _), (2, _)] ⟨rfl, rfl, trivial⟩ ?_
  refine X.next ?_
  refine C.seq ?_
  refine C.region ?_
  have hat2 := n2.blk.at
  refine R.ev rfl (E.loadRow rfl Try.underlying30 rfl Try.sz30 (by assumption) (by first | rfl | exact len_ub (by assumption) | simp [*])) ?_
  refine R.call ⟨_, _, Try.func40, rfl, by kernel_rfl⟩ rfl rfl (refDigits_any a _ ha) ?_
  rintro _ w3 ⟨rfl, m3⟩
  have hat3 := hat2.keep m3 (by simp)
  refine R.ev rfl (E.assign rfl) ?_
  refine R.done ?_
  refine X.keep [(1, _), (2, _), (6, _)] ⟨rfl, rfl, rfl, trivial⟩ ?_
  refine X.next ?_
  refine C.seq ?_
  refine C.seq ?_
  refine C.region ?_
  refine R.ev rfl (E.assign rfl) ?_
  refine R.done ?_
  refine X.keep [(1, _), (2, _), (6, _), (7, _)] ⟨rfl, rfl, rfl, rfl, trivial⟩ ?_
  refine X.next ?_
  refine C.block ?_
  refine C.loop  [(1, _), (2, _), (6, _)] (fun k => [(7, .int .i64 (k : Nat))]) (fun k w' => 4 ≤ k ∧ k ≤ 65 ∧ Mod [] w w' ∧ At w' b2 0 (a.map ub) ∧ ∀ i, 4 ≤ i → i < k → resolveR ((hexL a).take i) L ≠ (a, 0)) (fun k => 65 - k) (4) ⟨rfl, rfl, rfl, rfl, trivial⟩ ⟨by omega, by omega, n2.mod.tr m3, hat3, fun i h1 h2 => by omega⟩ ?_
  rintro k w4 ⟨hk4, hk, hm, hat4, hno⟩
  refine C.keep [(1, _), (2, _), (6, _), (7, _)] ⟨rfl, rfl, rfl, rfl, trivial⟩ ?_
  refine C.seq ?_
  refine C.seq ?_
  refine C.region ?_
  refine R.ev rfl (E.move rfl) ?_
  refine R.ev rfl (E.leq rfl rfl) ?_
  refine R.done ?_
  refine X.keep [(1, _), (2, _), (6, _), (7, _), (13, _)] ⟨rfl, rfl, rfl, rfl, rfl, trivial⟩ ?_
  refine X.next ?_
  refine C.cdec rfl (fun h13 => ?_) (fun h13 => ?_)
  · have hs4 := hs.keep0 hm
    have hrl : (resolveR ((hexL a).take k) L).1.length = 32 := resolveR_len hs.size
    refine C.skip ?_
    refine X.next ?_
    refine C.seq ?_
    refine C.block ?_
    refine C.seq ?_
    refine C.region ?_
    refine R.ev rfl (E.move rfl) ?_
    refine R.ev rfl (E.move rfl) ?_
    refine R.ev rfl (E.ssliceH rfl rfl Try.underlying9 rfl (by omega)) ?_
    refine R.ev rfl (E.move rfl) ?_
    refine R.call ⟨_, _, Try.func24, rfl, by kernel_rfl⟩ rfl rfl (refResolve_any ((hexL a).take k) ad n _ L _ (by simp; omega) hs4 hn) ?_
    rintro _ w5 ⟨rfl, m5⟩
    generalize hR : resolveR ((hexL a).take k) L = rr at hrl ⊢
    refine R.ev rfl (E.move rfl) ?_
    refine R.ev rfl (E.extract rfl rfl) ?_
    refine R.ev rfl (E.extract rfl rfl) ?_
    refine R.allocA Try.zr30 rfl ?_
    intro b8 w8 n8
    refine R.storeAll rfl rfl Try.sz30 (n8.blk) (by first | rfl | exact len_ub (by assumption) | simp [*]) (by first | rfl | exact len_ub (by assumption) | simp [*]) (by first | exact ub_all _ | simp [Value.oneCell']) ?_
    intro w6 k6 m6 s6
    have hge8 := n8.ge
    have hsz5 := m5.size
    have hm6 : Mod [] w4 w6 := (m5.tr n8.mod).tr' m6 (by intro x hx; simp at hx; subst hx; omega)
    have hat6 := hat4.keep hm6 (by simp)
    have hat8 := k6.at
    refine R.ev rfl (E.assign rfl) ?_
    refine R.done ?_
    refine X.keep [(1, _), (2, _), (6, _), (7, _), (8, _), (9, _)] ⟨rfl, rfl, rfl, rfl, rfl, rfl, trivial⟩ ?_
    refine X.next ?_
    refine C.seq ?_
    refine C.cut [(1, _), (2, _), (6, _), (7, _)] (fun (_ : Unit) => [(30, .bool (decide (rr = (a, 0))))]) (fun _ w' => w6 = w') ⟨rfl, rfl, rfl, rfl, trivial⟩ ?_ ?_
    · refine C.region ?_
      refine R.ev rfl (E.move rfl) ?_
      refine R.ev rfl (E.eql rfl rfl) ?_
      refine R.ev rfl (E.move rfl) ?_
      refine R.split 26 rfl (fun h26 => ?_) (fun h26 => ?_)
      · refine R.gyes rfl rfl ?_
        refine R.ev rfl (E.loadRow rfl Try.underlying30 rfl Try.sz30 (by assumption) (by first | rfl | exact len_ub (by assumption) | simp [*])) ?_
        refine R.gyes rfl rfl ?_
        refine R.ev rfl (E.loadRow rfl Try.underlying30 rfl Try.sz30 (by assumption) (by first | rfl | exact len_ub (by assumption) | simp [*])) ?_
        refine R.gyes rfl rfl ?_
        refine R.ev rfl (E.eqId 10 32 rfl rfl Try.lv30 rfl Try.underlying30 rfl Try.gd30 (by assumption) (by assumption)) ?_
        refine R.ev rfl (E.pickT rfl rfl) ?_
        refine R.done ?_
        refine X.keep [(1, _), (2, _), (6, _), (7, _), (30, _)] ⟨rfl, rfl, rfl, rfl, rfl, trivial⟩ ?_
        refine X.cut (()) ⟨lkV rfl ?_, rfl, rfl, rfl, rfl, trivial⟩ ?_
        all_goals try exact rfl
        obtain ⟨r1, r2⟩ := rr
        simp_all
      · refine R.gskip rfl rfl rfl ?_
        refine R.gskip rfl rfl rfl ?_
        refine R.gskip rfl rfl rfl ?_
        refine R.ev rfl (E.pickF rfl rfl) ?_
        refine R.done ?_
        refine X.keep [(1, _), (2, _), (6, _), (7, _), (30, _)] ⟨rfl, rfl, rfl, rfl, rfl, trivial⟩ ?_
        refine X.cut (()) ⟨lkV rfl ?_, rfl, rfl, rfl, rfl, trivial⟩ ?_
        all_goals try exact rfl
        obtain ⟨r1, r2⟩ := rr
        simp_all
    · rintro _ _ rfl
      refine X.keep [(1, _), (2, _), (6, _), (7, _), (30, _)] ⟨rfl, rfl, rfl, rfl, rfl, trivial⟩ ?_
      refine X.next ?_
      refine C.cdec rfl (fun h30 => ?_) (fun h30 => ?_)
      · refine C.seq ?_
        refine C.region ?_
        refine R.ev rfl (E.move rfl) ?_
        refine R.ev rfl (E.move rfl) ?_
        refine R.ev rfl (E.ssliceH rfl rfl Try.underlying9 rfl (by omega)) ?_
        refine R.ev rfl (E.assign rfl) ?_
        refine R.ev rfl (E.assign rfl) ?_
        refine R.done ?_
        refine X.keep [(4, _), (5, _)] ⟨rfl, rfl, trivial⟩ ?_
        refine X.next ?_
        refine C.ret ?_
        refine X.blockRet ?_
        refine X.thenRet ?_
        refine X.loopRet ?_
        refine X.blockRet ?_
        refine X.thenRet ?_
        refine X.ret2 rfl rfl rfl ?_
        refine ⟨?_, hm.tr hm6⟩
        rcases hrv with ⟨hna, rfl⟩ | ⟨hin, m, ⟨hm4, hm64, hmin⟩, rfl⟩
        · exact absurd (hR.trans h30) (resolve_out ha hk4 (by omega) hna)
        · have h1 := (hmin k hk4 (by omega)).2 ((resolve_in ha hk4 (by omega) hin).1 (hR.trans h30))
          have h2 : ¬ m < k := fun h => hno m hm4 h ((resolve_in ha hm4 hm64 hin).2 ((hmin m hm4 hm64).1 (Nat.le_refl _)))
          rw [show m = k by omega]
      · refine C.skip ?_
        refine X.blockNormal ?_
        refine X.next ?_
        refine C.region ?_
        refine R.ev rfl (E.move rfl) ?_
        refine R.ev rfl (E.add rfl rfl (by omega) (by omega)) ?_
        refine R.ev rfl (E.assign rfl) ?_
        refine R.done ?_
        refine X.keep [(1, _), (2, _), (6, _), (7, _)] ⟨rfl, rfl, rfl, rfl, trivial⟩ ?_
        refine X.again (k + 1) ⟨rfl, rfl, rfl, rfl, trivial⟩ ⟨by omega, by omega, hm.tr hm6, hat6, ?_⟩ (by omega)
        intro i h1 h2
        by_cases h : i = k
        · subst h; rw [hR]; exact h30
        · exact hno i h1 (by omega)
  · refine C.exit ?_
    refine X.thenExit ?_
    refine X.loopExit ?_
    refine X.blockExit ?_
    refine X.next ?_
    refine C.seq ?_
    refine C.region ?_
    refine R.ev rfl (E.assign rfl) ?_
    refine R.ev rfl (E.assign rfl) ?_
    refine R.done ?_
    refine X.keep [(4, _), (5, _)] ⟨rfl, rfl, trivial⟩ ?_
    refine X.next ?_
    refine C.ret ?_
    refine X.ret2 rfl rfl rfl ?_
    refine ⟨?_, hm⟩
    rcases hrv with ⟨hna, rfl⟩ | ⟨hin, m, ⟨hm4, hm64, hmin⟩, rfl⟩
    · rfl
    · exact absurd ((resolve_in ha hm4 hm64 hin).2 ((hmin m hm4 hm64).1 (Nat.le_refl _))) (hno m hm4 (by omega))

theorem getD_take {l : List UInt8} {i j : Nat} (h : j < i) : (l.take i).getD j 0 = l.getD j 0 := by
  rw [List.getD_eq_getElem?_getD, List.getD_eq_getElem?_getD, List.getElem?_take_of_lt h]
theorem take_ne {x y : List UInt8} {d i : Nat} (hx : x.length = 64) (hy : y.length = 64) (heq : ∀ j, j < d → x.getD j 0 = y.getD j 0) (hne : x.getD d 0 ≠ y.getD d 0) (hi : i ≤ 64) : y.take i ≠ x.take i ↔ d < i := by
  constructor
  · intro h
    by_cases hd : d < i
    · exact hd
    · refine absurd (List.ext_getElem (by simp; omega) fun j h1 h2 => ?_) h
      simp at h1 h2
      have := heq j (by omega)
      rw [List.getD_eq_getElem?_getD, List.getD_eq_getElem?_getD, List.getElem?_eq_getElem (by omega), List.getElem?_eq_getElem (by omega)] at this
      simpa using this.symm
  · intro h e
    have := congrArg (fun l => l.getD d 0) e
    simp only [getD_take h] at this
    exact hne this.symm
theorem uniq_snoc {a y : List UInt8} {L : List (List UInt8)} {k i : Nat} (h : L[k]? = some y) : Uniq a (L.take (k + 1)) i ↔ Uniq a (L.take k) i ∧ (y ≠ a → (hexL y).take i ≠ (hexL a).take i) := by
  rw [take_snoc h]
  constructor
  · intro hu
    exact ⟨fun b hb => hu b (by simp [hb]), hu y (by simp)⟩
  · rintro ⟨h1, h2⟩ b hb
    rcases List.mem_append.1 hb with hb | hb
    · exact h1 b hb
    · rw [List.mem_singleton.1 hb]; exact h2

theorem shorten_any (a : List UInt8) (ad : Option Addr) (n cap : Nat) (L : List (List UInt8)) (w : World) (ha : a.length = 32) (hs : SlE encI 32 w ad n L) (hn : n ≤ 40) :
    Ret Try.prog 26 #[idV a, .slice ad n cap] w fun v w' => ((a ∉ L ∧ v = .tuple #[str [], .int .i64 8]) ∨ (a ∈ L ∧ ∃ m, IsMin a L m ∧ v = .tuple #[str ((hexL a).take m), .int .i64 0])) ∧ Mod [] w w' := by
  have hla : (hexL a).length = 64 := by rw [hexL_len]; omega
  have hln := hs.len
  refine Ret.enter (n := 46) (args := [idV a, .slice ad n cap]) Try.func26 rfl rfl ?_
  refine C.keep [(0, _), (1, _)] ⟨rfl, rfl, trivial⟩ ?_
  refine C.seq ?_
  refine C.region ?_
  refine R.boxA rfl rfl ?_
  intro b2 w2 n2
  refine R.ev rfl (E.assign rfl) ?_
  refine R.ev rfl (E.assign rfl) ?_
  refine R.done ?_
  refine X.keep [(1, _), (2, _)] ⟨rfl, rfl, trivial⟩ ?_
  refine X.next ?_
  refine C.seq ?_
  refine C.seq ?_
  refine C.region ?_
  have hat2 := n2.blk.at
  refine R.ev rfl (E.move rfl) ?_
  refine R.ev rfl (E.loadRow rfl Try.underlying23 rfl Try.sz23 (by assumption) (by first | rfl | exact len_ub (by assumption) | simp [*])) ?_
  refine R.call ⟨_, _, Try.func49, rfl, by kernel_rfl⟩ rfl rfl (contains_any ad n _ L a _ (hs.keep0 n2.mod) (by omega) ha) ?_
  rintro _ w3 ⟨rfl, m3⟩
  have hat3 := hat2.keep m3 (by simp)
  refine R.ev rfl ((E.not rfl).isB (c := decide (a ∉ L)) (by simp)) ?_
  refine R.done ?_
  refine X.keep [(1, _), (2, _), (15, _)] ⟨rfl, rfl, rfl, trivial⟩ ?_
  refine X.next ?_
  refine C.cdec rfl (fun h15 => ?_) (fun h15 => ?_)
  · refine C.seq ?_
    refine C.region ?_
    refine R.ev rfl (E.assign rfl) ?_
    refine R.ev rfl (E.assign rfl) ?_
    refine R.done ?_
    refine X.keep [(4, _), (5, _)] ⟨rfl, rfl, trivial⟩ ?_
    refine X.next ?_
    refine C.ret ?_
    refine X.thenRet ?_
    refine X.ret2 rfl rfl rfl ?_
    exact ⟨.inl ⟨h15, rfl⟩, n2.mod.tr m3⟩
  · refine C.skip ?_
    refine X.next ?_
    refine C.seq ?_
    refine C.region ?_
    refine R.ev rfl (E.loadRow rfl Try.underlying23 rfl Try.sz23 (by assumption) (by first | rfl | exact len_ub (by assumption) | simp [*])) ?_
    refine R.call ⟨_, _, Try.func37, rfl, by kernel_rfl⟩ rfl rfl (digits_any a _ ha) ?_
    rintro _ w4 ⟨rfl, m4⟩
    refine R.allocA Try.zr67 rfl ?_
    intro b6 w6 n6
    refine R.storeAll rfl rfl Try.sz67 (n6.blk) (by first | rfl | exact len_ub (by assumption) | simp [*]) (by first | rfl | exact len_ub (by assumption) | simp [*]) (by first | exact ub_all _ | simp [Value.oneCell']) ?_
    intro w5 k5 m5 s5
    have hge6 := n6.ge
    have hge2 := n2.blk.lt
    have hsz2 := n2.mod.size
    have hsz3 := m3.size
    have hsz4 := m4.size
    have hm5 : Mod [] w w5 := (((n2.mod.tr m3).tr m4).tr n6.mod).tr' m5 (by intro x hx; simp at hx; subst hx; omega)
    have hat25 : At w5 b2 0 (a.map ub) := ((hat3.keep m4 (by simp)).keep n6.mod (by simp)).keep m5 (by simp; omega)
    refine R.ev rfl (E.assign rfl) ?_
    refine R.done ?_
    refine X.keep [(1, _), (2, _), (6, _), (7, _)] ⟨rfl, rfl, rfl, rfl, trivial⟩ ?_
    refine X.next ?_
    refine C.seq ?_
    refine C.seq ?_
    refine C.region ?_
    refine R.ev rfl (E.move rfl) ?_
    refine R.ev rfl (E.lenSl rfl Try.underlying45) ?_
    refine R.ev rfl (E.move rfl) ?_
    refine R.done ?_
    refine X.keep [(2, _), (6, _), (7, _), (18, _), (19, _), (20, _)] ⟨rfl, rfl, rfl, rfl, rfl, rfl, trivial⟩ ?_
    refine X.next ?_
    refine C.block ?_
    refine C.loop (T := Nat × Nat) [(2, _), (6, _), (18, _), (19, _)] (fun (k, m) => [(7, .int .i64 (m : Nat)), (20, .int .i64 (k : Nat))]) (fun (k, m) w' => k ≤ n ∧ 4 ≤ m ∧ m ≤ 64 ∧ Mod [] w w' ∧ At w' b2 0 (a.map ub) ∧ At w' b6 0 ((hexL a).map ub) ∧ ∀ i, 4 ≤ i → i ≤ 64 → (m ≤ i ↔ Uniq a (L.take k) i)) (fun (k, _) => n - k) ((0, 4)) ⟨rfl, rfl, rfl, rfl, rfl, rfl, trivial⟩ ⟨by omega, by omega, by omega, hm5, hat25, k5.at, fun i h1 h2 => ⟨fun _ b hb => by simp at hb, fun _ => h1⟩⟩ ?_
    rintro ⟨k, m⟩ w6 ⟨hk, hm4, hm64, hm, ha2, ha6, hmin⟩
    refine C.keep [(2, _), (6, _), (7, _), (18, _), (19, _), (20, _)] ⟨rfl, rfl, rfl, rfl, rfl, rfl, trivial⟩ ?_
    refine C.seq ?_
    refine C.region ?_
    refine R.ev rfl (E.lss rfl rfl) ?_
    refine R.done ?_
    refine X.keep [(2, _), (6, _), (7, _), (18, _), (19, _), (20, _), (21, _)] ⟨rfl, rfl, rfl, rfl, rfl, rfl, rfl, trivial⟩ ?_
    refine X.next ?_
    refine C.seq ?_
    refine C.cdec rfl (fun h21 => ?_) (fun h21 => ?_)
    · have hlt : k < n := by omega
      obtain ⟨y, hy, hym⟩ := hs.nth hlt
      have hyl := hs.size y hym
      obtain ⟨b, off, rfl, hat, _⟩ := (hs.keep0 hm).get hy
      have hyl' : y.length = 32 := by simpa using hyl
      have hh : (hexL y).length = 64 := by rw [hexL_len]; omega
      refine C.skip ?_
      refine X.next ?_
      refine C.seq ?_
      refine C.block ?_
      refine C.seq ?_
      refine C.region ?_
      refine R.ev rfl (E.indexAddr rfl rfl Try.underlying45 Try.sz23 rfl (by first | omega | decide)) ?_
      refine R.ev rfl (E.loadRow rfl Try.underlying23 rfl Try.sz23 (by assumption) (by first | rfl | exact len_ub (by assumption) | simp [*])) ?_
      refine R.allocA Try.zr23 rfl ?_
      intro b9 w9 n9
      refine R.storeAll rfl rfl Try.sz23 (n9.blk) (by first | rfl | exact len_ub (by assumption) | simp [*]) (by first | rfl | exact len_ub (by assumption) | simp [*]) (by first | exact ub_all _ | simp [Value.oneCell']) ?_
      intro w7 k7 m7 s7
      have hm7 : Mod [] w6 w7 := n9.mod.tr' m7 (by intro x hx; simp at hx; subst hx; exact n9.ge)
      have hat7 := k7.at
      have ha27 := ha2.keep hm7 (by simp)
      have ha67 := ha6.keep hm7 (by simp)
      refine R.done ?_
      refine X.keep [(2, _), (6, _), (7, _), (9, _), (18, _), (19, _), (20, _)] ⟨rfl, rfl, rfl, rfl, rfl, rfl, rfl, trivial⟩ ?_
      refine X.next ?_
      refine C.seq ?_
      refine C.seq ?_
      refine C.region ?_
      refine R.ev rfl (E.loadRow rfl Try.underlying23 rfl Try.sz23 (by assumption) (by first | rfl | exact len_ub (by assumption) | simp [*])) ?_
      refine R.ev rfl (E.loadRow rfl Try.underlying23 rfl Try.sz23 (by assumption) (by first | rfl | exact len_ub (by assumption) | simp [*])) ?_
      refine R.ev rfl (E.eqId 10 32 rfl rfl Try.lv23 rfl Try.underlying23 rfl Try.gd23 (by assumption) (by assumption)) ?_
      refine R.done ?_
      refine X.keep [(2, _), (6, _), (7, _), (9, _), (18, _), (19, _), (20, _), (26, _)] ⟨rfl, rfl, rfl, rfl, rfl, rfl, rfl, rfl, trivial⟩ ?_
      refine X.next ?_
      refine C.cdec rfl (fun h26 => ?_) (fun h26 => ?_)
      · refine C.exit ?_
        refine X.thenExit ?_
        refine X.blockExit ?_
        refine X.next ?_
        refine C.region ?_
        refine R.ev rfl (E.add rfl rfl (by omega) (by omega)) ?_
        refine R.ev rfl (E.move rfl) ?_
        refine R.done ?_
        refine X.keep [(2, _), (6, _), (7, _), (18, _), (19, _), (20, _)] ⟨rfl, rfl, rfl, rfl, rfl, rfl, trivial⟩ ?_
        first
          | (refine X.again (k + 1, m) ⟨rfl, rfl, rfl, rfl, rfl, rfl, trivial⟩ ⟨by omega, hm4, hm64, hm.tr hm7, ha27, ha67, fun i h1 h2 => ?_⟩ (by show _ - _ < _ - _; omega)
             rw [uniq_snoc hy, hmin i h1 h2]
             exact ⟨fun h => ⟨h, fun hne => absurd h26 hne⟩, fun h => h.1⟩)
          | (have hm11 : Mod [] w6 w10.drew := (hm9.tr hm10).tr (Mod.drew _ _)
             refine X.again (k + 1, max m (j + 1)) ⟨rfl, rfl, rfl, rfl, rfl, rfl, trivial⟩ ⟨by omega, by omega, by omega, hm.tr hm11, ha2.keep hm11 (by simp), ha6.keep hm11 (by simp), fun i h1 h2 => ?_⟩ (by show _ - _ < _ - _; omega)
             rw [uniq_snoc hy, ← hmin i h1 h2, take_ne hla hh heq h35' h2]
             constructor
             · intro h; exact ⟨by omega, fun _ => by omega⟩
             · rintro ⟨h3, h4⟩; have := h4 h26; omega)
      · refine C.skip ?_
        refine X.next ?_
        refine C.seq ?_
        refine C.region ?_
        refine R.ev rfl (E.loadRow rfl Try.underlying23 rfl Try.sz23 (by assumption) (by first | rfl | exact len_ub (by assumption) | simp [*])) ?_
        refine R.call ⟨_, _, Try.func37, rfl, by kernel_rfl⟩ rfl rfl (digits_any y _ hyl') ?_
        rintro _ w8 ⟨rfl, m8⟩
        refine R.allocA Try.zr67 rfl ?_
        intro b10 w10 n10
        refine R.storeAll rfl rfl Try.sz67 (n10.blk) (by first | rfl | exact len_ub (by assumption) | simp [*]) (by first | rfl | exact len_ub (by assumption) | simp [*]) (by first | exact ub_all _ | simp [Value.oneCell']) ?_
        intro w9 k9 m9 s9
        have hge10 := n10.ge
        have hsz7 := hm7.size
        have hsz8 := m8.size
        have hm9 : Mod [] w6 w9 := ((hm7.tr m8).tr n10.mod).tr' m9 (by intro x hx; simp at hx; subst hx; omega)
        have ha29 := ha2.keep hm9 (by simp)
        have ha69 := ha6.keep hm9 (by simp)
        have ha99 := k9.at
        refine R.ev rfl (E.assign rfl) ?_
        refine R.done ?_
        refine X.keep [(2, _), (6, _), (7, _), (10, _), (11, _), (18, _), (19, _), (20, _)] ⟨rfl, rfl, rfl, rfl, rfl, rfl, rfl, rfl, trivial⟩ ?_
        refine X.next ?_
        refine C.seq ?_
        refine C.block ?_
        refine C.loop  [(2, _), (6, _), (7, _), (10, _), (18, _), (19, _), (20, _)] (fun j => [(11, .int .i64 (j : Nat))]) (fun j w' => j ≤ 64 ∧ Mod [] w9 w' ∧ ∀ i, i < j → (hexL a).getD i 0 = (hexL y).getD i 0) (fun j => 65 - j) (0) ⟨rfl, rfl, rfl, rfl, rfl, rfl, rfl, rfl, trivial⟩ ⟨by omega, Mod.refl _ _, fun i h => by omega⟩ ?_
        rintro j w10 ⟨hj, hm10, heq⟩
        have hj64 : j < 64 := by
          by_cases h : j < 64
          · exact h
          · exfalso
            refine h26 ?_
            rw [← unhex_hex y, ← unhex_hex a]
            congr 1
            refine List.ext_getElem (by omega) fun i h1 h2 => ?_
            have := heq i (by omega)
            rw [List.getD_eq_getElem?_getD, List.getD_eq_getElem?_getD, List.getElem?_eq_getElem (by omega), List.getElem?_eq_getElem (by omega)] at this
            simpa using this.symm
        have hc6 : w10.cell? ⟨b6, 0 + j * 1, none⟩ = some (ub ((hexL a).getD j 0)) := by
          have := (ha69.keep hm10 (by simp)) j (ub ((hexL a).getD j 0)) (by simp [show j < (hexL a).length by omega])
          rw [Nat.mul_one]; exact this
        have hc9 : w10.cell? ⟨b10, 0 + j * 1, none⟩ = some (ub ((hexL y).getD j 0)) := by
          have := (ha99.keep hm10 (by simp)) j (ub ((hexL y).getD j 0)) (by simp [show j < (hexL y).length by omega])
          rw [Nat.mul_one]; exact this
        refine C.keep [(2, _), (6, _), (7, _), (10, _), (11, _), (18, _), (19, _), (20, _)] ⟨rfl, rfl, rfl, rfl, rfl, rfl, rfl, rfl, trivial⟩ ?_
        refine C.seq ?_
        refine C.seq ?_
        refine C.drawn (fun w' => Mod [] w10 w') [0, 1, 2, 3, 4, 5, 6] (by kernel_rfl) ?_
        have hS9 : (fun w' => Mod [] w10 w') _ := Mod.drew _ _
        dsimp only at hS9
        refine D.ev 0 rfl (by kernel_rfl) rfl hS9 (fun _ hS => E.move rfl) ?_
        refine D.ev 1 rfl (by kernel_rfl) rfl hS9 (fun _ hS => E.indexAddrA rfl rfl Try.underlying67 Try.sz5 rfl (by first | omega | decide)) ?_
        refine D.ev 2 rfl (by kernel_rfl) rfl hS9 (fun _ hS => E.load1 rfl Try.underlying5 rfl (Mod.cell hS hc6 (by simp))) ?_
        refine D.ev 3 rfl (by kernel_rfl) rfl hS9 (fun _ hS => E.move rfl) ?_
        refine D.ev 4 rfl (by kernel_rfl) rfl hS9 (fun _ hS => E.indexAddrA rfl rfl Try.underlying67 Try.sz5 rfl (by first | omega | decide)) ?_
        refine D.ev 5 rfl (by kernel_rfl) rfl hS9 (fun _ hS => E.load1 rfl Try.underlying5 rfl (Mod.cell hS hc9 (by simp))) ?_
        refine D.ev 6 rfl (by kernel_rfl) rfl hS9 (fun _ hS => E.eql rfl rfl) ?_
        refine D.done rfl (by kernel_rfl) ?_
        refine X.keep [(2, _), (6, _), (7, _), (10, _), (11, _), (18, _), (19, _), (20, _), (35, _)] ⟨rfl, rfl, rfl, rfl, rfl, rfl, rfl, rfl, rfl, trivial⟩ ?_
        refine X.next ?_
        refine C.cdec rfl (fun h35 => ?_) (fun h35 => ?_)
        · have h35' : (hexL a).getD j 0 = (hexL y).getD j 0 := UInt8.toNat_inj.1 (by omega)
          refine C.skip ?_
          refine X.next ?_
          refine C.block ?_
          refine C.region ?_
          refine R.ev rfl (E.move rfl) ?_
          refine R.ev rfl (E.add rfl rfl (by omega) (by omega)) ?_
          refine R.ev rfl (E.assign rfl) ?_
          refine R.done ?_
          refine X.keep [(2, _), (6, _), (7, _), (10, _), (11, _), (18, _), (19, _), (20, _)] ⟨rfl, rfl, rfl, rfl, rfl, rfl, rfl, rfl, trivial⟩ ?_
          refine X.blockNormal ?_
          refine X.again (j + 1) ⟨rfl, rfl, rfl, rfl, rfl, rfl, rfl, rfl, trivial⟩ ⟨by omega, hm10.tr (Mod.drew _ _), fun i hi => ?_⟩ (by omega)
          by_cases h : i = j
          · subst h; exact h35'
          · exact heq i (by omega)
        · have h35' : (hexL a).getD j 0 ≠ (hexL y).getD j 0 := fun h => h35 (by rw [h])
          refine C.exit ?_
          refine X.thenExit ?_
          refine X.loopExit ?_
          refine X.blockExit ?_
          refine X.next ?_
          refine C.region ?_
          refine R.ev rfl (E.move rfl) ?_
          refine R.ev rfl (E.move rfl) ?_
          refine R.ev rfl (E.add rfl rfl (by omega) (by omega)) ?_
          refine R.ev rfl ((E.max2 rfl rfl).isI (c := ((max m (j + 1) : Nat) : Int)) (by omega)) ?_
          refine R.ev rfl (E.assign rfl) ?_
          refine R.done ?_
          refine X.keep [(2, _), (6, _), (7, _), (18, _), (19, _), (20, _)] ⟨rfl, rfl, rfl, rfl, rfl, rfl, trivial⟩ ?_
          refine X.blockNormal ?_
          refine X.next ?_
          refine C.region ?_
          refine R.ev rfl (E.add rfl rfl (by omega) (by omega)) ?_
          refine R.ev rfl (E.move rfl) ?_
          refine R.done ?_
          refine X.keep [(2, _), (6, _), (7, _), (18, _), (19, _), (20, _)] ⟨rfl, rfl, rfl, rfl, rfl, rfl, trivial⟩ ?_
          first
            | (refine X.again (k + 1, m) ⟨rfl, rfl, rfl, rfl, rfl, rfl, trivial⟩ ⟨by omega, hm4, hm64, hm.tr hm7, ha27, ha67, fun i h1 h2 => ?_⟩ (by show _ - _ < _ - _; omega)
               rw [uniq_snoc hy, hmin i h1 h2]
               exact ⟨fun h => ⟨h, fun hne => absurd h26 hne⟩, fun h => h.1⟩)
            | (have hm11 : Mod [] w6 w10.drew := (hm9.tr hm10).tr (Mod.drew _ _)
               refine X.again (k + 1, max m (j + 1)) ⟨rfl, rfl, rfl, rfl, rfl, rfl, trivial⟩ ⟨by omega, by omega, by omega, hm.tr hm11, ha2.keep hm11 (by simp), ha6.keep hm11 (by simp), fun i h1 h2 => ?_⟩ (by show _ - _ < _ - _; omega)
               rw [uniq_snoc hy, ← hmin i h1 h2, take_ne hla hh heq h35' h2]
               constructor
               · intro h; exact ⟨by omega, fun _ => by omega⟩
               · rintro ⟨h3, h4⟩; have := h4 h26; omega)
    · refine C.exit ?_
      refine X.thenExit ?_
      refine X.loopExit ?_
      refine X.blockExit ?_
      refine X.next ?_
      refine C.seq ?_
      refine C.region ?_
      refine R.ev rfl (E.move rfl) ?_
      refine R.ev rfl (E.sliceAH (b := m) rfl rfl Try.underlying67 Try.sz5 rfl (by omega)) ?_
      refine R.ev rfl (E.bytesStr (l := (hexL a).take m) rfl Try.underlying35 Try.underlying5 Try.underlying9 (by simp; omega) (by have := ha6.sub 0 m; simpa [List.map_take] using this)) ?_
      refine R.ev rfl (E.assign rfl) ?_
      refine R.ev rfl (E.assign rfl) ?_
      refine R.done ?_
      refine X.keep [(4, _), (5, _)] ⟨rfl, rfl, trivial⟩ ?_
      refine X.next ?_
      refine C.ret ?_
      refine X.ret2 rfl rfl rfl ?_
      refine ⟨.inr ⟨by simpa using h15, m, ⟨hm4, hm64, ?_⟩, rfl⟩, hm⟩
      rw [show k = n by omega, List.take_of_length_le (by omega)] at hmin
      exact hmin
end Go.Proofs.Ytkmgmdgkphckgaa
