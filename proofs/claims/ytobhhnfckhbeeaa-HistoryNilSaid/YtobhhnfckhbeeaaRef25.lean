/-
  package bulletinref25: the reference as plain functions on a list of entries.
-/
import Derived.Test.YtobhhnfckhbeeaaHisK
namespace Go.Proofs.Ytobhhnfckhbeeaa
open Go.Eng Go.RowKit Go.Sort
variable {K : Kn} {Hs Rs : List Hl} {F : Hl} {w : World} {v : Value} {L : List HEnt}
def hIs (a : Vec 32) : HEnt → Bool := fun o => decide (o.id = a)
def hHas (a : Vec 32) (L : List HEnt) : Bool := L.any (hIs a)
theorem hIdx_ge {a : Vec 32} : decide (0 ≤ idxP (hIs a) L) = hHas a L := by
  rw [Bool.eq_iff_iff, decide_eq_true_eq, idxP_nonneg_iff, hHas, List.any_eq_true]
theorem hIdx_lt {a : Vec 32} : decide (idxP (hIs a) L < 0) = !hHas a L := by
  rw [← hIdx_ge, Bool.eq_iff_iff]; simp
/-- rows of the reference, frozen, and other results -/
def XPost (K : Kn) (Hs : List Hl) (L : List HEnt) (f : Value → Value) (r : Value) (w' : World) : Prop := ∃ K' v', r = f v' ∧ KLe K K' ∧ KRow encH 36 K' v' L ∧ Sat K' w' Hs
theorem XPost.same {f : Value → Value} (h : KRow encH 36 K v L) (hs : Sat K w Hs) : XPost K Hs L f (f v) w := ⟨K, v, rfl, KLe.refl K, h, hs⟩
theorem XPost.new {f : Value → Value} {e : TypeId} (h : RowL e encH 36 v L F) (hs : Sat K w (F :: Hs)) : XPost K Hs L f (f v) w := by
  obtain ⟨K1, hk1, r1, hs1⟩ := h.freezeK hs
  exact ⟨K1, v, rfl, hk1, r1, hs1⟩
theorem rfind_any (a : Vec 32) (hs : Sat K w Hs) [hr : KRow encH 36 K v L] (hL : L.length ≤ 1000000) : Ret Try.prog 30 #[v, idV a.1] w fun r w' => r = .int .i64 (idxP (hIs a) L) ∧ Sat K w' Hs := by
  obtain ⟨ad, cap, rfl, hsl, hc⟩ := hr.ex
  have e1 := encV_len a
  refine Ret.enter (n := 20) (args := [.slice ad L.length cap, idV a.1]) Try.func30 rfl rfl ?_
  refine C.keep [(0, _), (1, _)] ⟨rfl, rfl, trivial⟩ ?_
  refine C.seq ?_
  refine C.region ?_
  refine R.sboxA hs rfl rfl ?_
  intro b3 w3 hs
  refine R.ev rfl (E.assign rfl) ?_
  refine R.done ?_
  refine X.keep [(0, _), (3, _)] ⟨rfl, rfl, trivial⟩ ?_
  refine X.next ?_
  refine C.seq ?_
  refine C.seq ?_
  refine C.region ?_
  refine R.ev rfl (E.assign rfl) ?_
  refine R.done ?_
  refine X.keep [(0, _), (3, _), (5, _)] ⟨rfl, rfl, rfl, trivial⟩ ?_
  refine X.next ?_
  refine C.block ?_
  refine C.loop  [(0, _), (3, _)] (fun k => [(5, .int .i64 (k : Nat))]) (fun k w' => k ≤ L.length ∧ Sat K w' (row b3 22 (a.1.map ub) :: Hs) ∧ ∀ j, j < k → ∀ y, L[j]? = some y → hIs a y = false) (fun k => L.length - k) (0) ⟨rfl, rfl, rfl, trivial⟩ ⟨Nat.zero_le _, hs, fun j h => by omega⟩ ?_
  rintro k w1 ⟨hk, hs, hno⟩
  refine C.keep [(0, _), (3, _), (5, _)] ⟨rfl, rfl, rfl, trivial⟩ ?_
  refine C.seq ?_
  refine C.seq ?_
  refine C.region ?_
  refine R.ev rfl (E.move rfl) ?_
  refine R.ev rfl (E.move rfl) ?_
  refine R.ev rfl (E.lenSl rfl Try.underlying36) ?_
  refine R.ev rfl (E.lss rfl rfl) ?_
  refine R.done ?_
  refine X.keep [(0, _), (3, _), (5, _), (9, _)] ⟨rfl, rfl, rfl, rfl, trivial⟩ ?_
  refine X.next ?_
  refine C.cdec rfl (fun h9 => ?_) (fun h9 => ?_)
  · obtain ⟨y, bk_y, of_y, hy, my, ly, rfl, Ay⟩ := hs.el (i := k) (ad := ad) (n := L.length) (c := cap) (by omega)
    have ay := Ay _ hs
    have e2 := encV_len y.id
    refine C.skip ?_
    refine X.next ?_
    refine C.seq ?_
    refine C.block ?_
    refine C.seq ?_
    refine C.drawn (SatS hs) ([4, 5], [0, 1, 2, 3, 6]) (by kernel_rfl) ?_
    have hs := hs.drew
    refine D.evP 0 rfl (by kernel_rfl) rfl (fun _ => hs.to) (fun _ => E.move rfl) ?_
    refine D.evP 1 rfl (by kernel_rfl) rfl (fun _ => hs.to) (fun _ => E.move rfl) ?_
    refine D.evP 2 rfl (by kernel_rfl) rfl (fun _ => hs.to) (fun _ => E.indexAddr rfl rfl Try.underlying36 Try.sz24 rfl (by first | omega | decide)) ?_
    first | refine D.evP 3 rfl (by kernel_rfl) rfl (fun _ => hs.to) (fun _ => E.fieldAddr0 0 rfl Try.underlying24 rfl Try.sz22 rfl) ?_ | refine D.evP 3 rfl (by kernel_rfl) rfl (fun _ => hs.to) (fun _ => E.fieldAddrN 0 rfl Try.underlying24 rfl Try.sz22 rfl) ?_
    refine D.ev 4 rfl (by kernel_rfl) rfl hs.to (fun _ hS => E.loadRow (cs := y.id.1.map ub) rfl Try.underlying22 rfl Try.sz22 (Ay _ hS).app.1 e2) ?_
    refine D.ev 5 rfl (by kernel_rfl) rfl hs.to (fun _ hS => E.loadRowC rfl Try.underlying22 rfl Try.sz22 (by first | exact ⟨hS.ldA, by first | rfl | assumption | exact encV_len _ | exact Enc.len _ | exact len_ub (by assumption)⟩ | exact ⟨hS.ldP rfl, by first | rfl | assumption | exact encV_len _ | exact Enc.len _ | exact len_ub (by assumption)⟩ | exact ⟨hS.ldM rfl rfl, by first | rfl | assumption | exact encV_len _ | exact Enc.len _ | exact len_ub (by assumption)⟩ | exact ⟨hS.ldM (by assumption) (by first | rfl | assumption), by first | rfl | assumption | exact encV_len _ | exact Enc.len _ | exact len_ub (by assumption)⟩ | exact ⟨by assumption, by first | rfl | assumption | exact encV_len _ | exact Enc.len _ | exact len_ub (by assumption)⟩ | exact ⟨(by assumption : ∀ w', Sat _ w' _ → At w' _ _ _) _ hS, by first | rfl | assumption | exact encV_len _ | exact Enc.len _ | exact len_ub (by assumption)⟩ | exact hS.ldp | exact At.partC (by assumption) | exact At.partC ((by assumption : ∀ w', Sat _ w' _ → At w' _ _ _) _ hS))) ?_
    refine D.evP 6 rfl (by kernel_rfl) rfl (fun _ => hs.to) (fun _ => (E.eqV 10 (a := y.id) (b := a) rfl rfl Try.lv22 rfl Try.underlying22 rfl Try.gd22)) ?_
    refine D.done rfl (by kernel_rfl) ?_
    refine X.keep [(0, _), (3, _), (5, _), (18, _)] ⟨rfl, rfl, rfl, rfl, trivial⟩ ?_
    refine X.next ?_
    refine C.cbool rfl (fun h18 => ?_) (fun h18 => ?_)
    · refine C.seq ?_
      refine C.region ?_
      refine R.ev rfl (E.move rfl) ?_
      refine R.ev rfl (E.assign rfl) ?_
      refine R.done ?_
      refine X.keep [(4, _)] ⟨rfl, trivial⟩ ?_
      refine X.next ?_
      refine C.ret ?_
      refine X.blockRet ?_
      refine X.thenRet ?_
      refine X.loopRet ?_
      refine X.blockRet ?_
      refine X.thenRet ?_
      refine X.ret1 rfl rfl ?_
      exact ⟨by rw [idxP_some (p := hIs a) hy h18 hno], hs.to⟩
    · refine C.skip ?_
      refine X.blockNormal ?_
      refine X.next ?_
      refine C.region ?_
      refine R.ev rfl (E.move rfl) ?_
      refine R.ev rfl (E.add rfl rfl (by omega) (by omega)) ?_
      refine R.ev rfl (E.assign rfl) ?_
      refine R.done ?_
      refine X.keep [(0, _), (3, _), (5, _)] ⟨rfl, rfl, rfl, trivial⟩ ?_
      exact X.again (k + 1) ⟨rfl, rfl, rfl, trivial⟩ ⟨by omega, hs.to, idxP_step (p := hIs a) hy h18 hno⟩ (by omega)
  · refine C.exit ?_
    refine X.thenExit ?_
    refine X.loopExit ?_
    refine X.blockExit ?_
    refine X.next ?_
    refine C.seq ?_
    refine C.region ?_
    refine R.ev rfl (E.assign rfl) ?_
    refine R.done ?_
    refine X.keep [(4, _)] ⟨rfl, trivial⟩ ?_
    refine X.next ?_
    refine C.ret ?_
    refine X.ret1 rfl rfl ?_
    exact ⟨by rw [idxP_none (p := hIs a) hno (by omega)], hs.to⟩
theorem bytesLess_cmp : ∀ (a b : List UInt8), Op.bytesLess a b = decide (cmpL a b < 0)
  | [], [] => by simp [Op.bytesLess, cmpL]
  | [], _ :: _ => by simp [Op.bytesLess, cmpL]
  | _ :: _, [] => by simp [Op.bytesLess, cmpL]
  | x :: a, y :: b => by
    unfold Op.bytesLess cmpL
    rw [bytesLess_cmp a b]
    by_cases h1 : x < y
    · simp [h1]
    · by_cases h2 : y < x
      · have : x ≠ y := fun e => by subst e; exact UInt8.lt_irrefl _ h2
        simp [h1, h2, this]
      · have : x = y := by
          rw [UInt8.lt_iff_toNat_lt] at h1 h2
          exact UInt8.toNat_inj.1 (by omega)
        subst this
        simp [h1]
theorem before_any (a b : Vec 32) (hs : Sat K w Hs) : Ret Try.prog 63 #[idV a.1, idV b.1] w fun r w' => r = .bool (ltV a b) ∧ Sat K w' Hs := by
  have e1 := encV_len a
  have e2 := encV_len b
  refine Ret.enter (n := 10) (args := [idV a.1, idV b.1]) Try.func63 rfl rfl ?_
  refine C.keep [(0, _), (1, _)] ⟨rfl, rfl, trivial⟩ ?_
  refine C.seq ?_
  refine C.region ?_
  refine R.sboxA hs rfl rfl ?_
  intro b2 w2 hs
  refine R.sboxA hs rfl rfl ?_
  intro b3 w3 hs
  refine R.ev rfl (E.assign rfl) ?_
  refine R.done ?_
  refine X.keep [(2, _), (3, _)] ⟨rfl, rfl, trivial⟩ ?_
  refine X.next ?_
  refine C.seq ?_
  refine C.drawn (SatS hs) ([1, 3], [0, 2, 4, 5]) (by kernel_rfl) ?_
  have hs := hs.drew
  refine D.evP 0 rfl (by kernel_rfl) rfl (fun _ => hs.to) (fun _ => E.sliceA rfl Try.underlying22 Try.sz5) ?_
  refine D.evP 2 rfl (by kernel_rfl) rfl (fun _ => hs.to) (fun _ => E.sliceA rfl Try.underlying22 Try.sz5) ?_
  refine D.ev 1 rfl (by kernel_rfl) rfl hs.to (fun _ hS => E.bytesStr (l := a.1) rfl Try.underlying69 Try.underlying5 Try.underlying9 a.2 (hS.ldA)) ?_
  refine D.ev 3 rfl (by kernel_rfl) rfl hs.to (fun _ hS => E.bytesStr (l := b.1) rfl Try.underlying69 Try.underlying5 Try.underlying9 b.2 (hS.ldA)) ?_
  refine D.evP 4 rfl (by kernel_rfl) rfl (fun _ => hs.to) (fun _ => (E.slss rfl rfl).isB (c := ltV a b) (bytesLess_cmp _ _)) ?_
  refine D.evP 5 rfl (by kernel_rfl) rfl (fun _ => hs.to) (fun _ => E.assign rfl) ?_
  refine D.done rfl (by kernel_rfl) ?_
  refine X.keep [(4, _)] ⟨rfl, trivial⟩ ?_
  refine X.next ?_
  refine C.ret ?_
  refine X.ret1 rfl rfl ?_
  exact ⟨rfl, hs.to⟩
theorem rold_any (d n : Int) (w : World) (hn : -9223372036854775808 ≤ n - 20160 ∧ n ≤ 9223372036854775807) : Ret Try.prog 47 #[.int .i64 d, .int .i64 n] w fun v w' => v = .bool (old d n) ∧ w = w' := by
  refine Ret.enter (n := 9) (args := [.int .i64 d, .int .i64 n]) Try.func47 rfl rfl ?_
  refine C.keep [(0, _), (1, _)] ⟨rfl, rfl, trivial⟩ ?_
  refine C.seq ?_
  refine C.region ?_
  refine R.ev rfl (E.assign rfl) ?_
  refine R.done ?_
  refine X.keep [(0, _), (1, _)] ⟨rfl, rfl, trivial⟩ ?_
  refine X.next ?_
  refine C.seq ?_
  refine C.region ?_
  refine R.ev rfl (E.move rfl) ?_
  refine R.ev rfl (E.move rfl) ?_
  refine R.ev rfl (E.sub rfl rfl (by omega) (by omega)) ?_
  refine R.ev rfl (E.lss rfl rfl) ?_
  refine R.ev rfl (E.assign rfl) ?_
  refine R.done ?_
  refine X.keep [(4, _)] ⟨rfl, trivial⟩ ?_
  refine X.next ?_
  refine C.ret ?_
  refine X.ret1 rfl rfl ?_
  exact ⟨rfl, rfl⟩
/-- the place of an identity -/
def atH (a : Vec 32) (L : List HEnt) : Nat := (L.takeWhile fun y => ltV y.id a).length
theorem atH_le {a : Vec 32} : atH a L ≤ L.length := (List.takeWhile_prefix _).length_le
theorem atH_stop {a : Vec 32} : ∀ {L : List HEnt} {k : Nat} {y : HEnt}, (∀ j, j < k → ∀ z, L[j]? = some z → ltV z.id a = true) → L[k]? = some y → ltV y.id a = false → atH a L = k
  | [], k, y, _, h, _ => by simp at h
  | z :: L, 0, y, _, h, hy => by
    simp at h; subst h
    simp [atH, List.takeWhile_cons, hy]
  | z :: L, k + 1, y, hall, h, hy => by
    have h0 := hall 0 (by omega) z rfl
    have := atH_stop (L := L) (k := k) (fun j hj x hx => hall (j + 1) (by omega) x (by simpa using hx)) (by simpa using h) hy
    simp only [atH] at this ⊢
    rw [List.takeWhile_cons, h0]; simp [this]
theorem atH_end {a : Vec 32} : ∀ {L : List HEnt}, (∀ (j : Nat) (z : HEnt), L[j]? = some z → ltV z.id a = true) → atH a L = L.length
  | [], _ => rfl
  | z :: L, h => by
    have h0 := h 0 z rfl
    have := atH_end (L := L) (fun j x hx => h (j + 1) x (by simpa using hx))
    simp only [atH] at this ⊢
    rw [List.takeWhile_cons, h0]; simp [this]
def insH (x : HEnt) (L : List HEnt) : List HEnt := L.take (atH x.id L) ++ [x] ++ L.drop (atH x.id L)
def rAddE (L : List HEnt) (x : HEnt) : Int := if x.check ≠ 0 then x.check else if hHas x.id L then 7 else 0
def rAddL (L : List HEnt) (x : HEnt) : List HEnt := if rAddE L x = 0 then insH x L else L
theorem radd_any (x : HEnt) (hs : Sat K w Hs) [hr : KRow encH 36 K v L] (hL : L.length ≤ 100000) : Ret Try.prog 43 #[v, evH x] w fun r w' => XPost K Hs (rAddL L x) (fun v => .tuple #[v, .int .i64 (rAddE L x)]) r w' := by
  obtain ⟨ad, cap, rfl, hsl, hc⟩ := hr.ex
  refine Ret.enter (n := 51) (args := [.slice ad L.length cap, evH x]) Try.func43 rfl rfl ?_
  refine C.keep [(0, _), (1, _)] ⟨rfl, rfl, trivial⟩ ?_
  refine C.seq ?_
  refine C.region ?_
  refine R.sboxA hs rfl rfl ?_
  intro b3 w3 hs
  refine R.ev rfl (E.assign rfl) ?_
  refine R.ev rfl (E.assign rfl) ?_
  refine R.done ?_
  refine X.keep [(0, _), (3, _)] ⟨rfl, rfl, trivial⟩ ?_
  refine X.next ?_
  refine C.seq ?_
  refine C.seq ?_
  refine C.region ?_
  refine R.ev rfl (E.loadRowC rfl Try.underlying24 rfl Try.sz24 (by first | exact ⟨hs.ldA, by first | rfl | assumption | exact encV_len _ | exact Enc.len _ | exact len_ub (by assumption)⟩ | exact ⟨hs.ldP rfl, by first | rfl | assumption | exact encV_len _ | exact Enc.len _ | exact len_ub (by assumption)⟩ | exact ⟨hs.ldM rfl rfl, by first | rfl | assumption | exact encV_len _ | exact Enc.len _ | exact len_ub (by assumption)⟩ | exact ⟨hs.ldM (by assumption) (by first | rfl | assumption), by first | rfl | assumption | exact encV_len _ | exact Enc.len _ | exact len_ub (by assumption)⟩ | exact ⟨by assumption, by first | rfl | assumption | exact encV_len _ | exact Enc.len _ | exact len_ub (by assumption)⟩ | exact hs.ldp | exact At.partC (by assumption))) ?_
  refine R.call ⟨_, _, Try.func16, rfl, by kernel_rfl⟩ rfl rfl (rcheck_any x hs) ?_
  rintro _ w1 ⟨rfl, hs⟩
  refine R.ev rfl (E.assign rfl) ?_
  refine R.done ?_
  refine X.keep [(0, _), (3, _), (6, _)] ⟨rfl, rfl, rfl, trivial⟩ ?_
  refine X.next ?_
  refine C.seq ?_
  refine C.region ?_
  refine R.ev rfl (E.move rfl) ?_
  refine R.ev rfl (E.neq rfl rfl) ?_
  refine R.done ?_
  refine X.keep [(0, _), (3, _), (6, _), (12, _)] ⟨rfl, rfl, rfl, rfl, trivial⟩ ?_
  refine X.next ?_
  refine C.cdec rfl (fun h12 => ?_) (fun h12 => ?_)
  · refine C.seq ?_
    refine C.region ?_
    refine R.ev rfl (E.move rfl) ?_
    refine R.ev rfl (E.move rfl) ?_
    refine R.ev rfl (E.assign rfl) ?_
    refine R.ev rfl (E.assign rfl) ?_
    refine R.done ?_
    refine X.keep [(4, _), (5, _)] ⟨rfl, rfl, trivial⟩ ?_
    refine X.next ?_
    refine C.ret ?_
    refine X.thenRet ?_
    refine X.ret2 rfl rfl rfl ?_
    have hE : rAddE L x = x.check := by rw [rAddE, if_pos h12]
    rw [rAddL, hE, if_neg h12]
    exact XPost.same hr hs.to
  · refine C.skip ?_
    refine X.next ?_
    refine C.seq ?_
    refine C.seq ?_
    refine C.region ?_
    have h12' : ¬ x.check ≠ 0 := h12
    refine R.ev rfl (E.move rfl) ?_
    first | refine R.ev rfl (E.fieldAddr0 0 rfl Try.underlying24 rfl Try.sz22 rfl) ?_ | refine R.ev rfl (E.fieldAddrN 0 rfl Try.underlying24 rfl Try.sz22 rfl) ?_
    refine R.ev rfl (E.loadRowC rfl Try.underlying22 rfl Try.sz22 (by first | exact ⟨hs.ldA, by first | rfl | assumption | exact encV_len _ | exact Enc.len _ | exact len_ub (by assumption)⟩ | exact ⟨hs.ldP rfl, by first | rfl | assumption | exact encV_len _ | exact Enc.len _ | exact len_ub (by assumption)⟩ | exact ⟨hs.ldM rfl rfl, by first | rfl | assumption | exact encV_len _ | exact Enc.len _ | exact len_ub (by assumption)⟩ | exact ⟨hs.ldM (by assumption) (by first | rfl | assumption), by first | rfl | assumption | exact encV_len _ | exact Enc.len _ | exact len_ub (by assumption)⟩ | exact ⟨by assumption, by first | rfl | assumption | exact encV_len _ | exact Enc.len _ | exact len_ub (by assumption)⟩ | exact hs.ldp | exact At.partC (by assumption))) ?_
    refine R.call ⟨_, _, Try.func30, rfl, by kernel_rfl⟩ rfl rfl (rfind_any x.id hs (by omega)) ?_
    rintro _ w4 ⟨rfl, hs⟩
    refine R.ev rfl ((E.geq rfl rfl).isB (c := hHas x.id L) hIdx_ge) ?_
    refine R.done ?_
    refine X.keep [(0, _), (3, _), (19, _)] ⟨rfl, rfl, rfl, trivial⟩ ?_
    refine X.next ?_
    refine C.cbool rfl (fun h19 => ?_) (fun h19 => ?_)
    · refine C.seq ?_
      refine C.region ?_
      refine R.ev rfl (E.move rfl) ?_
      refine R.ev rfl (E.assign rfl) ?_
      refine R.ev rfl (E.assign rfl) ?_
      refine R.done ?_
      refine X.keep [(4, _), (5, _)] ⟨rfl, rfl, trivial⟩ ?_
      refine X.next ?_
      refine C.ret ?_
      refine X.thenRet ?_
      refine X.ret2 rfl rfl rfl ?_
      have hE : rAddE L x = 7 := by rw [rAddE, if_neg h12', if_pos h19]
      rw [rAddL, hE, if_neg (by decide)]
      exact XPost.same hr hs.to
    · refine C.skip ?_
      refine X.next ?_
      refine C.seq ?_
      refine C.region ?_
      have hE : rAddE L x = 0 := by rw [rAddE, if_neg h12', if_neg (by rw [h19]; decide)]
      refine R.ev rfl (E.assign rfl) ?_
      refine R.done ?_
      refine X.keep [(0, _), (3, _), (7, _)] ⟨rfl, rfl, rfl, trivial⟩ ?_
      refine X.next ?_
      refine C.seq ?_
      refine C.block ?_
      refine C.loop  [(0, _), (3, _)] (fun k => [(7, .int .i64 (k : Nat))]) (fun k w' => k ≤ L.length ∧ Sat K w' (row b3 24 (encH x) :: Hs) ∧ ∀ j, j < k → ∀ y, L[j]? = some y → ltV y.id x.id = true) (fun k => L.length - k) (0) ⟨rfl, rfl, rfl, trivial⟩ ⟨Nat.zero_le _, hs, fun j h => by omega⟩ ?_
      rintro k w1 ⟨hk, hs, hno⟩
      refine C.keep [(0, _), (3, _), (7, _)] ⟨rfl, rfl, rfl, trivial⟩ ?_
      refine C.seq ?_
      refine C.seq ?_
      refine C.drawn (SatS hs) ([9, 11], [0, 1, 2, 3, 4, 5, 6, 7, 8, 10, 13]) (by kernel_rfl) ?_
      have hs := hs.drew
      refine D.evP 0 rfl (by kernel_rfl) rfl (fun _ => hs.to) (fun _ => E.move rfl) ?_
      refine D.evP 1 rfl (by kernel_rfl) rfl (fun _ => hs.to) (fun _ => E.move rfl) ?_
      refine D.evP 2 rfl (by kernel_rfl) rfl (fun _ => hs.to) (fun _ => E.lenSl rfl Try.underlying36) ?_
      refine D.evP 3 rfl (by kernel_rfl) rfl (fun _ => hs.to) (fun _ => E.lss rfl rfl) ?_
      refine D.evP 4 rfl (by kernel_rfl) rfl (fun _ => hs.to) (fun _ => E.move rfl) ?_
      refine D.split 25 rfl (fun h25 => ?_) (fun h25 => ?_)
      · obtain ⟨y, bk_y, of_y, hy, my, ly, rfl, Ay⟩ := hs.el (i := k) (ad := ad) (n := L.length) (c := cap) ((by have := of_decide_eq_true h25; omega))
        have ay := Ay _ hs
        refine D.evPG 5 rfl (by kernel_rfl) rfl rfl rfl (fun _ => hs.to) (fun _ => E.move rfl) ?_
        refine D.evPG 6 rfl (by kernel_rfl) rfl rfl rfl (fun _ => hs.to) (fun _ => E.move rfl) ?_
        refine D.evPG 7 rfl (by kernel_rfl) rfl rfl rfl (fun _ => hs.to) (fun _ => E.indexAddr (i := k) rfl rfl Try.underlying36 Try.sz24 rfl (by have := of_decide_eq_true h25; omega)) ?_
        first | refine D.evPG 8 rfl (by kernel_rfl) rfl rfl rfl (fun _ => hs.to) (fun _ => E.fieldAddr0 0 rfl Try.underlying24 rfl Try.sz22 rfl) ?_ | refine D.evPG 8 rfl (by kernel_rfl) rfl rfl rfl (fun _ => hs.to) (fun _ => E.fieldAddrN 0 rfl Try.underlying24 rfl Try.sz22 rfl) ?_
        first | refine D.evPG 10 rfl (by kernel_rfl) rfl rfl rfl (fun _ => hs.to) (fun _ => E.fieldAddr0 0 rfl Try.underlying24 rfl Try.sz22 rfl) ?_ | refine D.evPG 10 rfl (by kernel_rfl) rfl rfl rfl (fun _ => hs.to) (fun _ => E.fieldAddrN 0 rfl Try.underlying24 rfl Try.sz22 rfl) ?_
        refine D.evG 9 rfl (by kernel_rfl) rfl rfl rfl hs.to (fun _ hS => E.loadRowC rfl Try.underlying22 rfl Try.sz22 (by first | exact ⟨hS.ldA, by first | rfl | assumption | exact encV_len _ | exact Enc.len _ | exact len_ub (by assumption)⟩ | exact ⟨hS.ldP rfl, by first | rfl | assumption | exact encV_len _ | exact Enc.len _ | exact len_ub (by assumption)⟩ | exact ⟨hS.ldM rfl rfl, by first | rfl | assumption | exact encV_len _ | exact Enc.len _ | exact len_ub (by assumption)⟩ | exact ⟨hS.ldM (by assumption) (by first | rfl | assumption), by first | rfl | assumption | exact encV_len _ | exact Enc.len _ | exact len_ub (by assumption)⟩ | exact ⟨by assumption, by first | rfl | assumption | exact encV_len _ | exact Enc.len _ | exact len_ub (by assumption)⟩ | exact ⟨(by assumption : ∀ w', Sat _ w' _ → At w' _ _ _) _ hS, by first | rfl | assumption | exact encV_len _ | exact Enc.len _ | exact len_ub (by assumption)⟩ | exact hS.ldp | exact At.partC (by assumption) | exact At.partC ((by assumption : ∀ w', Sat _ w' _ → At w' _ _ _) _ hS))) ?_
        refine D.evG 11 rfl (by kernel_rfl) rfl rfl rfl hs.to (fun _ hS => E.loadRowC rfl Try.underlying22 rfl Try.sz22 (by first | exact ⟨hS.ldA, by first | rfl | assumption | exact encV_len _ | exact Enc.len _ | exact len_ub (by assumption)⟩ | exact ⟨hS.ldP rfl, by first | rfl | assumption | exact encV_len _ | exact Enc.len _ | exact len_ub (by assumption)⟩ | exact ⟨hS.ldM rfl rfl, by first | rfl | assumption | exact encV_len _ | exact Enc.len _ | exact len_ub (by assumption)⟩ | exact ⟨hS.ldM (by assumption) (by first | rfl | assumption), by first | rfl | assumption | exact encV_len _ | exact Enc.len _ | exact len_ub (by assumption)⟩ | exact ⟨by assumption, by first | rfl | assumption | exact encV_len _ | exact Enc.len _ | exact len_ub (by assumption)⟩ | exact ⟨(by assumption : ∀ w', Sat _ w' _ → At w' _ _ _) _ hS, by first | rfl | assumption | exact encV_len _ | exact Enc.len _ | exact len_ub (by assumption)⟩ | exact hS.ldp | exact At.partC (by assumption) | exact At.partC ((by assumption : ∀ w', Sat _ w' _ → At w' _ _ _) _ hS))) ?_
        refine D.act 12 rfl (by kernel_rfl) ?_
        refine R.gyes rfl rfl ?_
        refine R.call ⟨_, _, Try.func63, rfl, by kernel_rfl⟩ rfl rfl (before_any y.id x.id hs) ?_
        rintro _ w7 ⟨rfl, hs⟩
        refine D.backT (by kernel_rfl) ?_
        refine D.evP 13 rfl (by kernel_rfl) rfl (np (by kernel_rfl)) (fun _ => E.pickT rfl rfl) ?_
        refine D.done rfl (by kernel_rfl) ?_
        refine X.keep [(0, _), (3, _), (7, _), (34, _)] ⟨rfl, rfl, rfl, rfl, trivial⟩ ?_
        refine X.next ?_
        refine C.cbool rfl (fun h34 => ?_) (fun h34 => ?_)
        · refine C.skip ?_
          refine X.next ?_
          refine C.block ?_
          refine C.region ?_
          refine R.ev rfl (E.move rfl) ?_
          refine R.ev rfl (E.add rfl rfl (by omega) (by omega)) ?_
          refine R.ev rfl (E.assign rfl) ?_
          refine R.done ?_
          refine X.keep [(0, _), (3, _), (7, _)] ⟨rfl, rfl, rfl, trivial⟩ ?_
          refine X.blockNormal ?_
          have hkl : k < L.length := (List.getElem?_eq_some_iff.1 hy).1
          exact X.again (k + 1) ⟨rfl, rfl, rfl, trivial⟩ ⟨by omega, hs.to, fun j hj z hz => by
            rcases Nat.lt_or_ge j k with h | h
            · exact hno j h z hz
            · obtain rfl : j = k := by omega
              rw [hy] at hz; simp at hz; subst hz; exact h34⟩ (by omega)
        · refine C.exit ?_
          refine X.thenExit ?_
          refine X.loopExit ?_
          refine X.blockExit ?_
          refine X.next ?_
          refine C.seq ?_
          refine C.region ?_
          have hat : atH x.id L = k := by
            first
              | exact atH_stop hno hy h34
              | (have hke : k = L.length := by have := of_decide_eq_false h25; omega
                 rw [hke]; exact atH_end fun j z hz => hno j (by have := (List.getElem?_eq_some_iff.1 hz).1; omega) z hz)
          have k1 := hr.first (i := k) hk
          have k2 := hr.behind (i := k) hk
          have hl1 : (L.take k).length = k := by rw [List.length_take]; omega
          have hl2 : (L.drop k).length = L.length - k := List.length_drop
          refine R.sbuild0 (enc := encH) hs Try.underlying36 Try.sz24 rfl ?_
          intro v37 w37 F37 r37 nn37 hs
          refine R.ev rfl (E.move rfl) ?_
          refine R.ev rfl (E.move rfl) ?_
          refine R.ev rfl (E.sliceH rfl rfl Try.underlying36 Try.sz24 rfl (by omega)) ?_
          refine R.cappSl hs rfl rfl Try.underlying36 Try.by24 (by rfl) rfl (by decide) (by first | omega | (simp only [List.length_append, List.length_cons, List.length_nil] at *; omega)) (by first | omega | (simp only [List.length_append, List.length_cons, List.length_nil] at *; omega)) ?_
          intro v41 w41 F41 r41 hs
          rw [List.nil_append] at r41
          refine R.ev rfl (E.assign rfl) ?_
          refine R.done ?_
          refine X.keep [(0, _), (3, _), (7, _), (8, _)] ⟨rfl, rfl, rfl, rfl, trivial⟩ ?_
          refine X.next ?_
          refine C.seq ?_
          refine C.region ?_
          refine R.ev rfl (E.move rfl) ?_
          refine R.ev rfl (E.loadRowC rfl Try.underlying24 rfl Try.sz24 (by first | exact ⟨hs.ldA, by first | rfl | assumption | exact encV_len _ | exact Enc.len _ | exact len_ub (by assumption)⟩ | exact ⟨hs.ldP rfl, by first | rfl | assumption | exact encV_len _ | exact Enc.len _ | exact len_ub (by assumption)⟩ | exact ⟨hs.ldM rfl rfl, by first | rfl | assumption | exact encV_len _ | exact Enc.len _ | exact len_ub (by assumption)⟩ | exact ⟨hs.ldM (by assumption) (by first | rfl | assumption), by first | rfl | assumption | exact encV_len _ | exact Enc.len _ | exact len_ub (by assumption)⟩ | exact ⟨by assumption, by first | rfl | assumption | exact encV_len _ | exact Enc.len _ | exact len_ub (by assumption)⟩ | exact hs.ldp | exact At.partC (by assumption))) ?_
          refine R.buildSliceA rfl Try.underlying36 Try.sz24 Try.zr24 rfl (by first | rfl | assumption | exact encV_len _ | exact Enc.len _ | simp [*]) (by decide) (by decide) ?_
          intro b44 w44 n44
          have hs := hs.new n44
          refine R.capp1 (x) hs rfl rfl Try.underlying36 Try.by24 (by rfl) rfl (by first | exact hs.ldA | exact hs.ldP rfl | exact by assumption) (by decide) (by first | omega | (simp only [List.length_append, List.length_cons, List.length_nil] at *; omega)) (by first | omega | (simp only [List.length_append, List.length_cons, List.length_nil] at *; omega)) ?_
          intro v45 w45 F45 r45 hs
          refine R.ev rfl (E.assign rfl) ?_
          refine R.done ?_
          refine X.keep [(0, _), (7, _), (8, _)] ⟨rfl, rfl, rfl, trivial⟩ ?_
          refine X.next ?_
          refine C.seq ?_
          refine C.region ?_
          refine R.ev rfl (E.move rfl) ?_
          refine R.ev rfl (E.move rfl) ?_
          refine R.ev rfl (E.move rfl) ?_
          refine R.ev rfl (E.sliceLs (a := k) rfl rfl Try.underlying36 Try.sz24 rfl (by omega)) ?_
          refine R.cappSl hs rfl rfl Try.underlying36 Try.by24 (by rfl) rfl (by decide) (by first | omega | (simp only [List.length_append, List.length_cons, List.length_nil] at *; omega)) (by first | omega | (simp only [List.length_append, List.length_cons, List.length_nil] at *; omega)) ?_
          intro v50 w50 F50 r50 hs
          refine R.ev rfl (E.assign rfl) ?_
          refine R.ev rfl (E.assign rfl) ?_
          refine R.done ?_
          refine X.keep [(4, _), (5, _)] ⟨rfl, rfl, trivial⟩ ?_
          refine X.next ?_
          refine C.ret ?_
          refine X.ret2 rfl rfl rfl ?_
          rw [rAddL, hE, if_pos rfl, insH, hat]
          exact XPost.new r50 hs.to
      · refine D.skipP 5 rfl (by kernel_rfl) rfl rfl rfl (fun _ => hs.to) ?_
        refine D.skipP 6 rfl (by kernel_rfl) rfl rfl rfl (fun _ => hs.to) ?_
        refine D.skipP 7 rfl (by kernel_rfl) rfl rfl rfl (fun _ => hs.to) ?_
        refine D.skipP 8 rfl (by kernel_rfl) rfl rfl rfl (fun _ => hs.to) ?_
        refine D.skipP 10 rfl (by kernel_rfl) rfl rfl rfl (fun _ => hs.to) ?_
        refine D.skip 9 rfl (by kernel_rfl) rfl rfl rfl hs.to ?_
        refine D.skip 11 rfl (by kernel_rfl) rfl rfl rfl hs.to ?_
        refine D.act 12 rfl (by kernel_rfl) ?_
        refine R.gskip rfl rfl rfl ?_
        refine D.backT (by kernel_rfl) ?_
        refine D.evP 13 rfl (by kernel_rfl) rfl (np (by kernel_rfl)) (fun _ => E.pickF rfl rfl) ?_
        refine D.done rfl (by kernel_rfl) ?_
        refine X.keep [(0, _), (3, _), (7, _), (34, _)] ⟨rfl, rfl, rfl, rfl, trivial⟩ ?_
        refine X.next ?_
        refine C.cfalse rfl ?_
        refine C.exit ?_
        refine X.thenExit ?_
        refine X.loopExit ?_
        refine X.blockExit ?_
        refine X.next ?_
        refine C.seq ?_
        refine C.region ?_
        have hat : atH x.id L = k := by
          first
            | exact atH_stop hno hy h34
            | (have hke : k = L.length := by have := of_decide_eq_false h25; omega
               rw [hke]; exact atH_end fun j z hz => hno j (by have := (List.getElem?_eq_some_iff.1 hz).1; omega) z hz)
        have k1 := hr.first (i := k) hk
        have k2 := hr.behind (i := k) hk
        have hl1 : (L.take k).length = k := by rw [List.length_take]; omega
        have hl2 : (L.drop k).length = L.length - k := List.length_drop
        refine R.sbuild0 (enc := encH) hs Try.underlying36 Try.sz24 rfl ?_
        intro v37 w37 F37 r37 nn37 hs
        refine R.ev rfl (E.move rfl) ?_
        refine R.ev rfl (E.move rfl) ?_
        refine R.ev rfl (E.sliceH rfl rfl Try.underlying36 Try.sz24 rfl (by omega)) ?_
        refine R.cappSl hs rfl rfl Try.underlying36 Try.by24 (by rfl) rfl (by decide) (by first | omega | (simp only [List.length_append, List.length_cons, List.length_nil] at *; omega)) (by first | omega | (simp only [List.length_append, List.length_cons, List.length_nil] at *; omega)) ?_
        intro v41 w41 F41 r41 hs
        rw [List.nil_append] at r41
        refine R.ev rfl (E.assign rfl) ?_
        refine R.done ?_
        refine X.keep [(0, _), (3, _), (7, _), (8, _)] ⟨rfl, rfl, rfl, rfl, trivial⟩ ?_
        refine X.next ?_
        refine C.seq ?_
        refine C.region ?_
        refine R.ev rfl (E.move rfl) ?_
        refine R.ev rfl (E.loadRowC rfl Try.underlying24 rfl Try.sz24 (by first | exact ⟨hs.ldA, by first | rfl | assumption | exact encV_len _ | exact Enc.len _ | exact len_ub (by assumption)⟩ | exact ⟨hs.ldP rfl, by first | rfl | assumption | exact encV_len _ | exact Enc.len _ | exact len_ub (by assumption)⟩ | exact ⟨hs.ldM rfl rfl, by first | rfl | assumption | exact encV_len _ | exact Enc.len _ | exact len_ub (by assumption)⟩ | exact ⟨hs.ldM (by assumption) (by first | rfl | assumption), by first | rfl | assumption | exact encV_len _ | exact Enc.len _ | exact len_ub (by assumption)⟩ | exact ⟨by assumption, by first | rfl | assumption | exact encV_len _ | exact Enc.len _ | exact len_ub (by assumption)⟩ | exact hs.ldp | exact At.partC (by assumption))) ?_
        refine R.buildSliceA rfl Try.underlying36 Try.sz24 Try.zr24 rfl (by first | rfl | assumption | exact encV_len _ | exact Enc.len _ | simp [*]) (by decide) (by decide) ?_
        intro b44 w44 n44
        have hs := hs.new n44
        refine R.capp1 (x) hs rfl rfl Try.underlying36 Try.by24 (by rfl) rfl (by first | exact hs.ldA | exact hs.ldP rfl | exact by assumption) (by decide) (by first | omega | (simp only [List.length_append, List.length_cons, List.length_nil] at *; omega)) (by first | omega | (simp only [List.length_append, List.length_cons, List.length_nil] at *; omega)) ?_
        intro v45 w45 F45 r45 hs
        refine R.ev rfl (E.assign rfl) ?_
        refine R.done ?_
        refine X.keep [(0, _), (7, _), (8, _)] ⟨rfl, rfl, rfl, trivial⟩ ?_
        refine X.next ?_
        refine C.seq ?_
        refine C.region ?_
        refine R.ev rfl (E.move rfl) ?_
        refine R.ev rfl (E.move rfl) ?_
        refine R.ev rfl (E.move rfl) ?_
        refine R.ev rfl (E.sliceLs (a := k) rfl rfl Try.underlying36 Try.sz24 rfl (by omega)) ?_
        refine R.cappSl hs rfl rfl Try.underlying36 Try.by24 (by rfl) rfl (by decide) (by first | omega | (simp only [List.length_append, List.length_cons, List.length_nil] at *; omega)) (by first | omega | (simp only [List.length_append, List.length_cons, List.length_nil] at *; omega)) ?_
        intro v50 w50 F50 r50 hs
        refine R.ev rfl (E.assign rfl) ?_
        refine R.ev rfl (E.assign rfl) ?_
        refine R.done ?_
        refine X.keep [(4, _), (5, _)] ⟨rfl, rfl, trivial⟩ ?_
        refine X.next ?_
        refine C.ret ?_
        refine X.ret2 rfl rfl rfl ?_
        rw [rAddL, hE, if_pos rfl, insH, hat]
        exact XPost.new r50 hs.to
def goneL (a : Vec 32) (L : List HEnt) : List HEnt := L.map fun x => if x.id = a then x.gone else x
end Go.Proofs.Ytobhhnfckhbeeaa
