/-
  package bulletinref38: Drop, Change, Scan.
-/
import Derived.Test.YtoidpcmcbmioiaaRef38
namespace Go.Proofs.Ytoidpcmcbmioiaa
open Go.Eng Go.RowKit

variable {K : Kn} {Hs Rs : List Hl} {F : Hl} {w : World} {s : RB} {v : Value}
def rOff (e : RE) : RE := { e with out := false }
def rDropL (L : List RE) : List RE := L.map rOff
def rOuts (L : List RE) : Nat := (L.filter RE.out).length
theorem rOuts_snoc {L : List RE} {k : Nat} {y : RE} (h : L[k]? = some y) : rOuts (L.take (k + 1)) = rOuts (L.take k) + (if y.out then 1 else 0) := by
  unfold rOuts; rw [take_snoc h, List.filter_append]; cases hy : y.out <;> simp [hy]
theorem rDrop_get {L : List RE} {k : Nat} (h : k < L.length) : (rDropL (L.take k) ++ L.drop k)[k]? = L[k]? := by
  have hl : (rDropL (L.take k)).length = k := by simp [rDropL]; omega
  rw [List.getElem?_append_right (by omega), hl, Nat.sub_self, List.getElem?_drop, Nat.add_zero]
theorem rDrop_set {L : List RE} {k : Nat} {y : RE} (h : L[k]? = some y) : (rDropL (L.take k) ++ L.drop k).set k (rOff y) = rDropL (L.take (k + 1)) ++ L.drop (k + 1) := by
  obtain ⟨h1, h2⟩ := List.getElem?_eq_some_iff.1 h
  have hl : (rDropL (L.take k)).length = k := by simp [rDropL]; omega
  rw [List.set_append_right _ _ (by omega), hl, Nat.sub_self, List.drop_eq_getElem_cons h1, h2, List.set_cons_zero, take_snoc h, rDropL, rDropL, List.map_append]
  simp
theorem rdrop_any (hs : Sat K w Hs) [hr : KRow encRE 35 K v s.L] (hL : s.L.length ≤ 1000000) : Ret Try.prog 42 #[s.v v] w fun r w' => RPost K Hs { s with L := rDropL s.L } (fun b => .tuple #[b, .int .i64 (rOuts s.L : Nat)]) r w' := by
  obtain ⟨c, wt, inc, L⟩ := s
  simp only at hr hL ⊢
  obtain ⟨ad, cap, rfl, hsl, hc⟩ := hr.ex
  refine Ret.enter (n := 32) (args := [.agg #[.int .i64 c, .int .i64 wt, .bool inc, .slice ad L.length cap]]) Try.func42 rfl rfl ?_
  refine C.keep [(0, _)] ⟨rfl, trivial⟩ ?_
  refine C.seq ?_
  refine C.region ?_
  refine R.sboxA hs rfl rfl ?_
  intro b1 w1 hs
  refine R.sallocA hs Try.zr52 rfl ?_
  intro b2 w2 hs
  refine R.ev rfl (E.assign rfl) ?_
  refine R.done ?_
  refine X.keep [(1, _), (2, _)] ⟨rfl, rfl, trivial⟩ ?_
  refine X.next ?_
  refine C.seq ?_
  refine C.region ?_
  refine R.ev rfl (E.assign rfl) ?_
  refine R.done ?_
  refine X.keep [(1, _), (2, _), (4, _)] ⟨rfl, rfl, rfl, trivial⟩ ?_
  refine X.next ?_
  refine C.seq ?_
  refine C.region ?_
  refine R.sbuild0 (enc := encRE) hs Try.underlying50 Try.sz90 rfl ?_
  intro v7 w7 F7 r7 nn7 hs
  first | refine R.ev rfl (E.fieldAddr0 3 rfl Try.underlying52 rfl Try.sz50 rfl) ?_ | refine R.ev rfl (E.fieldAddrN 3 rfl Try.underlying52 rfl Try.sz50 rfl) ?_
  refine R.ev rfl (E.load1 rfl Try.underlying50 rfl (by first | exact hs.ldc | exact hs.ld rfl | exact hs.ld (by assumption) | exact by assumption | exact At.cellC (by assumption))) ?_
  refine R.cappSl hs rfl rfl Try.underlying50 Try.by90 (by rfl) rfl (by decide) (by first | omega | (simp only [List.length_append, List.length_cons, List.length_nil] at *; omega)) (by first | omega | (simp only [List.length_append, List.length_cons, List.length_nil] at *; omega)) ?_
  intro v10 w10 F10 r10 hs
  rw [List.nil_append] at r10
  obtain ⟨ad5, cap5, rfl, hc5, _, had5⟩ := r10.val
  refine R.ev rfl (E.assign rfl) ?_
  refine R.done ?_
  refine X.keep [(1, _), (2, _), (4, _), (5, _)] ⟨rfl, rfl, rfl, rfl, trivial⟩ ?_
  refine X.next ?_
  refine C.seq ?_
  refine C.seq ?_
  refine C.region ?_
  refine R.ev rfl (E.assign rfl) ?_
  refine R.done ?_
  refine X.keep [(1, _), (2, _), (4, _), (5, _), (6, _)] ⟨rfl, rfl, rfl, rfl, rfl, trivial⟩ ?_
  refine X.next ?_
  refine C.block ?_
  refine C.loop (T := Nat × Nat × Hl) [(1, _), (2, _), (5, _)] (fun (k, n, _) => [(4, .int .i64 (n : Nat)), (6, .int .i64 (k : Nat))]) (fun (k, n, F') w' => k ≤ L.length ∧ n = rOuts (L.take k) ∧ RowL 90 encRE 35 (.slice ad5 L.length cap5) (rDropL (L.take k) ++ L.drop k) F' ∧ Sat K w' (F' :: row b2 52 [.int .i64 0, .int .i64 0, .bool false, .slice none 0 0] :: row b1 52 [.int .i64 c, .int .i64 wt, .bool inc, .slice ad L.length cap] :: Hs)) (fun (k, _) => L.length - k) ((0, 0, F10)) ⟨rfl, rfl, rfl, rfl, rfl, trivial⟩ ⟨by omega, rfl, by simpa [rDropL] using r10, hs.to⟩ ?_
  rintro ⟨k, n, F1⟩ w1 ⟨hk, hn, r1, hs⟩
  have hno : n ≤ L.length := by rw [hn]; unfold rOuts; have := List.length_filter_le RE.out (L.take k); simp at this; omega
  refine C.keep [(1, _), (2, _), (4, _), (5, _), (6, _)] ⟨rfl, rfl, rfl, rfl, rfl, trivial⟩ ?_
  refine C.seq ?_
  refine C.seq ?_
  refine C.region ?_
  refine R.ev rfl (E.move rfl) ?_
  refine R.ev rfl (E.move rfl) ?_
  refine R.ev rfl (E.lenSl rfl Try.underlying50) ?_
  refine R.ev rfl (E.lss rfl rfl) ?_
  refine R.done ?_
  refine X.keep [(1, _), (2, _), (4, _), (5, _), (6, _), (14, _)] ⟨rfl, rfl, rfl, rfl, rfl, rfl, trivial⟩ ?_
  refine X.next ?_
  refine C.cdec rfl (fun h14 => ?_) (fun h14 => ?_)
  · obtain ⟨g5, rfl⟩ := had5 (by intro e; rw [e] at h14; simp at h14; omega)
    obtain ⟨y, bk, off, hy, my, ly, eb, Ay⟩ := hs.el (i := k) (ad := some ⟨g5, 0, none⟩) (n := L.length) (c := cap5) (by omega)
    simp only [Option.some.injEq, Addr.mk.injEq, and_true] at eb
    obtain ⟨rfl, rfl⟩ := eb
    have hy0 := hy
    rw [rDrop_get (by omega)] at hy
    have ay := Ay _ hs
    refine C.skip ?_
    refine X.next ?_
    refine C.seq ?_
    refine C.block ?_
    refine C.seq ?_
    refine C.seq ?_
    refine C.region ?_
    refine R.ev rfl (E.move rfl) ?_
    refine R.ev rfl (E.move rfl) ?_
    refine R.ev rfl (E.indexAddr rfl rfl Try.underlying50 Try.sz90 rfl (by first | omega | decide)) ?_
    first | refine R.ev rfl (E.fieldAddr0 34 rfl Try.underlying90 rfl Try.sz4 rfl) ?_ | refine R.ev rfl (E.fieldAddrN 34 rfl Try.underlying90 rfl Try.sz4 rfl) ?_
    refine R.ev rfl (E.load1 rfl Try.underlying4 rfl (by first | exact hs.ldc | exact hs.ld rfl | exact hs.ld (by assumption) | exact by assumption | exact At.cellC (by assumption))) ?_
    refine R.done ?_
    refine X.keep [(1, _), (2, _), (4, _), (5, _), (6, _), (21, _)] ⟨rfl, rfl, rfl, rfl, rfl, rfl, trivial⟩ ?_
    refine X.next ?_
    refine C.cbool rfl (fun h21 => ?_) (fun h21 => ?_)
    · refine C.region ?_
      refine R.ev rfl (E.move rfl) ?_
      refine R.ev rfl (E.add rfl rfl (by omega) (by omega)) ?_
      refine R.ev rfl (E.assign rfl) ?_
      refine R.done ?_
      refine X.keep [(1, _), (2, _), (4, _), (5, _), (6, _)] ⟨rfl, rfl, rfl, rfl, rfl, trivial⟩ ?_
      refine X.next ?_
      refine C.region ?_
      refine R.ev rfl (E.move rfl) ?_
      refine R.ev rfl (E.move rfl) ?_
      refine R.ev rfl (E.indexAddr rfl rfl Try.underlying50 Try.sz90 rfl (by first | omega | decide)) ?_
      first | refine R.ev rfl (E.fieldAddr0 34 rfl Try.underlying90 rfl Try.sz4 rfl) ?_ | refine R.ev rfl (E.fieldAddrN 34 rfl Try.underlying90 rfl Try.sz4 rfl) ?_
      refine R.ssetF (el' := rOff y) k (hs.front (F := F1)) r1 rfl rfl Try.sz4 hy0 ?_ (off := 34) (by omega) (by decide) rfl ?_
      · simp only [encRE, rOff]
        rw [List.set_append_right _ _ (by simp [y.id.2])]
        simp [y.id.2]
      intro w8 F8 r8 hs1
      have hs := hs.back (F := F1) hs1
      rw [rDrop_set hy] at r8
      refine R.done ?_
      refine X.keep [(1, _), (2, _), (4, _), (5, _), (6, _)] ⟨rfl, rfl, rfl, rfl, rfl, trivial⟩ ?_
      refine X.blockNormal ?_
      refine X.next ?_
      refine C.region ?_
      refine R.ev rfl (E.move rfl) ?_
      refine R.ev rfl (E.add rfl rfl (by omega) (by omega)) ?_
      refine R.ev rfl (E.assign rfl) ?_
      refine R.done ?_
      refine X.keep [(1, _), (2, _), (4, _), (5, _), (6, _)] ⟨rfl, rfl, rfl, rfl, rfl, trivial⟩ ?_
      first
        | exact X.again (k + 1, n + 1, F8) ⟨rfl, rfl, rfl, rfl, rfl, trivial⟩ ⟨by omega, by rw [rOuts_snoc hy, h21, hn]; rfl, r8, hs.to⟩ (by show _ - _ < _ - _; omega)
        | exact X.again (k + 1, n, F8) ⟨rfl, rfl, rfl, rfl, rfl, trivial⟩ ⟨by omega, by rw [rOuts_snoc hy, h21, hn]; rfl, r8, hs.to⟩ (by show _ - _ < _ - _; omega)
    · refine C.skip ?_
      refine X.next ?_
      refine C.region ?_
      refine R.ev rfl (E.move rfl) ?_
      refine R.ev rfl (E.move rfl) ?_
      refine R.ev rfl (E.indexAddr rfl rfl Try.underlying50 Try.sz90 rfl (by first | omega | decide)) ?_
      first | refine R.ev rfl (E.fieldAddr0 34 rfl Try.underlying90 rfl Try.sz4 rfl) ?_ | refine R.ev rfl (E.fieldAddrN 34 rfl Try.underlying90 rfl Try.sz4 rfl) ?_
      refine R.ssetF (el' := rOff y) k (hs.front (F := F1)) r1 rfl rfl Try.sz4 hy0 ?_ (off := 34) (by omega) (by decide) rfl ?_
      · simp only [encRE, rOff]
        rw [List.set_append_right _ _ (by simp [y.id.2])]
        simp [y.id.2]
      intro w8 F8 r8 hs1
      have hs := hs.back (F := F1) hs1
      rw [rDrop_set hy] at r8
      refine R.done ?_
      refine X.keep [(1, _), (2, _), (4, _), (5, _), (6, _)] ⟨rfl, rfl, rfl, rfl, rfl, trivial⟩ ?_
      refine X.blockNormal ?_
      refine X.next ?_
      refine C.region ?_
      refine R.ev rfl (E.move rfl) ?_
      refine R.ev rfl (E.add rfl rfl (by omega) (by omega)) ?_
      refine R.ev rfl (E.assign rfl) ?_
      refine R.done ?_
      refine X.keep [(1, _), (2, _), (4, _), (5, _), (6, _)] ⟨rfl, rfl, rfl, rfl, rfl, trivial⟩ ?_
      first
        | exact X.again (k + 1, n + 1, F8) ⟨rfl, rfl, rfl, rfl, rfl, trivial⟩ ⟨by omega, by rw [rOuts_snoc hy, h21, hn]; rfl, r8, hs.to⟩ (by show _ - _ < _ - _; omega)
        | exact X.again (k + 1, n, F8) ⟨rfl, rfl, rfl, rfl, rfl, trivial⟩ ⟨by omega, by rw [rOuts_snoc hy, h21, hn]; rfl, r8, hs.to⟩ (by show _ - _ < _ - _; omega)
  · refine C.exit ?_
    refine X.thenExit ?_
    refine X.loopExit ?_
    refine X.blockExit ?_
    refine X.next ?_
    refine C.seq ?_
    refine C.region ?_
    have hke : k = L.length := by omega
    rw [hke, List.take_length, List.drop_length, List.append_nil] at r1
    rw [hke, List.take_length] at hn
    subst hn
    refine R.ev rfl (E.loadRowC rfl Try.underlying52 rfl Try.sz52 (by first | exact ⟨hs.ldA, by first | rfl | assumption | exact encV_len _ | exact Enc.len _ | exact len_ub (by assumption)⟩ | exact ⟨hs.ldP rfl, by first | rfl | assumption | exact encV_len _ | exact Enc.len _ | exact len_ub (by assumption)⟩ | exact ⟨hs.ldM rfl rfl, by first | rfl | assumption | exact encV_len _ | exact Enc.len _ | exact len_ub (by assumption)⟩ | exact ⟨hs.ldM (by assumption) (by first | rfl | assumption), by first | rfl | assumption | exact encV_len _ | exact Enc.len _ | exact len_ub (by assumption)⟩ | exact ⟨by assumption, by first | rfl | assumption | exact encV_len _ | exact Enc.len _ | exact len_ub (by assumption)⟩ | exact hs.ldp | exact At.partC (by assumption))) ?_
    refine R.ev rfl (E.move rfl) ?_
    refine R.call ⟨_, _, Try.func72, rfl, by kernel_rfl⟩ rfl rfl (with_any ⟨c, wt, inc, L⟩ (.slice ad L.length cap) _ rfl rfl hs) ?_
    rintro _ w30 ⟨rfl, hs⟩
    refine R.ev rfl (E.move rfl) ?_
    first | refine R.cstoreAll hs rfl rfl Try.sz52 (by first | rfl | assumption | exact encV_len _ | exact Enc.len _ | exact len_ub (by assumption) | simp [*]) (by first | rfl | assumption | exact encV_len _ | exact Enc.len _ | exact len_ub (by assumption) | simp [*]) (by first | assumption | exact OneL.all | exact Enc.one _ | exact ub_all _ | (repeat' (first | refine List.forall_mem_cons.2 ⟨?_, ?_⟩ | exact List.forall_mem_nil _ | rfl | exact OneC.one | exact KRow.oneC' (by assumption)))) ?_ | refine R.cstore hs rfl rfl Try.sz52 (by first | rfl | assumption | exact encV_len _ | exact Enc.len _ | exact len_ub (by assumption) | simp [*]) (by simp [*]) (by first | assumption | exact OneL.all | exact Enc.one _ | exact ub_all _ | (repeat' (first | refine List.forall_mem_cons.2 ⟨?_, ?_⟩ | exact List.forall_mem_nil _ | rfl | exact OneC.one | exact KRow.oneC' (by assumption)))) ?_
    intro w9_4 hs
    try simp only [List.set_cons_zero, List.set_cons_succ] at hs
    refine R.ev rfl (E.assign rfl) ?_
    refine R.done ?_
    refine X.keep [(2, _), (3, _)] ⟨rfl, rfl, trivial⟩ ?_
    refine X.next ?_
    refine C.ret ?_
    refine X.resCT rfl rfl Try.underlying52 rfl Try.sz52 (by first | exact ⟨hs.ldA, by first | rfl | assumption | exact encV_len _ | exact Enc.len _ | exact len_ub (by assumption)⟩ | exact ⟨hs.ldP rfl, by first | rfl | assumption | exact encV_len _ | exact Enc.len _ | exact len_ub (by assumption)⟩ | exact ⟨by assumption, by first | rfl | assumption | exact encV_len _ | exact Enc.len _ | exact len_ub (by assumption)⟩) rfl ?_
    exact RPost.new (Hs := Hs) (s := ⟨c, wt, inc, rDropL L⟩) r1 hs.to
/-! Change -/
def rOutL (a : Vec 32) : List RE → List RE
  | [] => []
  | e :: L => if rIs a e then { e with out := true } :: L else e :: rOutL a L
theorem rOutL_at {a : Vec 32} : ∀ {L : List RE} {i : Nat} {o : RE}, L[i]? = some o → rIs a o = true → (∀ j, j < i → ∀ z, L[j]? = some z → rIs a z = false) → rOutL a L = L.set i { o with out := true }
  | [], i, o, h, _, _ => by simp at h
  | z :: L, 0, o, h, hp, _ => by simp at h; subst h; simp only [rOutL, hp, if_true]; simp
  | z :: L, i + 1, o, h, hp, hno => by
    have hz := hno 0 (by omega) z rfl
    rw [rOutL, if_neg (by rw [hz]; decide), rOutL_at (by simpa using h) hp (fun j hj y hy => hno (j + 1) (by omega) y (by simpa using hy))]
    simp
theorem rfind_at {q : RE → Bool} {L : List RE} {i : Nat} {o : RE} (h : L[i]? = some o) (hp : q o = true) (hno : ∀ j, j < i → ∀ z, L[j]? = some z → q z = false) : L.find? q = some o := by
  induction L generalizing i with
  | nil => simp at h
  | cons z L ih =>
    cases i with
    | zero => simp at h; subst h; simp [hp]
    | succ i =>
      have hz := hno 0 (by omega) z rfl
      rw [List.find?_cons_of_neg (by rw [hz]; decide)]
      exact ih (by simpa using h) (fun j hj y hy => hno (j + 1) (by omega) y (by simpa using hy))
theorem rfind_no {a : Vec 32} {L : List RE} (h : rHas a L = false) : L.find? (rIs a) = none := by
  rw [List.find?_eq_none]; intro x hx hp
  have : rHas a L = true := List.any_eq_true.2 ⟨x, hx, hp⟩
  rw [h] at this; cases this
def rBad (s : RB) (kind now : Int) : Prop := kind = 2 ∧ (isMin now = false ∨ isMin (now + s.wait) = false)
instance {s : RB} {kind now : Int} : Decidable (rBad s kind now) := by unfold rBad; infer_instance
def rChE (s : RB) (kind : Int) (a : Vec 32) (now : Int) : Int := if rBad s kind now then 2 else match s.L.find? (rIs a) with | none => 8 | some e => if e.out = decide (kind = 0) then 10 else 0
def rTries (a : Vec 32) (L : List RE) : Int := match L.find? (rIs a) with | some e => e.tries | none => 0
def rChS (s : RB) (kind : Int) (a : Vec 32) (now : Int) : RB := if rChE s kind a now = 0 then { s with L := if kind = 0 then rOutL a s.L else if kind = 1 then rRemL a s.L else rRemL a s.L ++ [⟨a, now + s.wait, rTries a s.L + 1, false⟩] } else s
theorem rchange_any (kind : Int) (a : Vec 32) (now : Int) (hs : Sat K w Hs) [hr : KRow encRE 35 K v s.L] (hL : s.L.length ≤ 1000000) (hwt : 0 ≤ s.wait ∧ s.wait ≤ 100000) (htr : ∀ e ∈ s.L, 0 ≤ e.tries ∧ e.tries ≤ 4611686018427387904) (hnow : kind = 0 ∨ kind = 1 ∨ kind = 2) :
    Ret Try.prog 66 #[s.v v, .int .i64 kind, idV a.1, .int .i64 now] w fun r w' => RPost K Hs (rChS s kind a now) (fun b => .tuple #[b, .int .i64 (rChE s kind a now)]) r w' := by
  obtain ⟨c, wt, inc, L⟩ := s
  simp only at hr hL htr hwt ⊢
  obtain ⟨ad, cap, rfl, hsl, hc⟩ := hr.ex
  have e1 := encV_len a
  refine Ret.enter (n := 90) (args := [.agg #[.int .i64 c, .int .i64 wt, .bool inc, .slice ad L.length cap], .int .i64 kind, idV a.1, .int .i64 now]) Try.func66 rfl rfl ?_
  refine C.keep [(0, _), (1, _), (2, _), (3, _)] ⟨rfl, rfl, rfl, rfl, trivial⟩ ?_
  refine C.seq ?_
  refine C.region ?_
  refine R.sboxA hs rfl rfl ?_
  intro b4 w4 hs
  refine R.sboxA hs rfl rfl ?_
  intro b6 w6 hs
  refine R.sallocA hs Try.zr52 rfl ?_
  intro b8 w8 hs
  refine R.ev rfl (E.assign rfl) ?_
  refine R.done ?_
  refine X.keep [(1, _), (3, _), (4, _), (6, _), (8, _)] ⟨rfl, rfl, rfl, rfl, rfl, trivial⟩ ?_
  refine X.next ?_
  refine C.seq ?_
  refine C.seq ?_
  refine C.region ?_
  refine R.ev rfl (E.move rfl) ?_
  refine R.ev rfl (E.eql rfl rfl) ?_
  refine R.ev rfl (E.move rfl) ?_
  refine R.split 15 rfl (fun h15 => ?_) (fun h15 => ?_)
  · refine R.gyes rfl rfl ?_
    refine R.ev rfl (E.move rfl) ?_
    refine R.gyes rfl rfl ?_
    refine R.call ⟨_, _, Try.func62, rfl, by kernel_rfl⟩ rfl rfl (rminute_any now _) ?_
    rintro _ _ ⟨rfl, rfl⟩
    refine R.gyes rfl rfl ?_
    refine R.ev rfl ((E.not rfl).isB (c := !(isMin now)) rfl) ?_
    refine R.gyes rfl rfl ?_
    refine R.ev rfl (E.move rfl) ?_
    refine R.split 19 rfl (fun h19 => ?_) (fun h19 => ?_)
    · refine R.gskip rfl rfl rfl ?_
      refine R.gskip rfl rfl rfl ?_
      refine R.gskip rfl rfl rfl ?_
      refine R.gskip rfl rfl rfl ?_
      refine R.gskip rfl rfl rfl ?_
      refine R.gskip rfl rfl rfl ?_
      refine R.gyes rfl rfl ?_
      refine R.ev rfl (E.pickT rfl rfl) ?_
      refine R.ev rfl (E.pickT rfl rfl) ?_
      refine R.done ?_
      refine X.keep [(1, _), (3, _), (4, _), (6, _), (8, _), (27, _)] ⟨rfl, rfl, rfl, rfl, rfl, rfl, trivial⟩ ?_
      refine X.next ?_
      refine C.ctrue rfl ?_
      refine C.seq ?_
      refine C.region ?_
      refine R.ev rfl (E.loadRowC rfl Try.underlying52 rfl Try.sz52 (by first | exact ⟨hs.ldA, by first | rfl | assumption | exact encV_len _ | exact Enc.len _ | exact len_ub (by assumption)⟩ | exact ⟨hs.ldP rfl, by first | rfl | assumption | exact encV_len _ | exact Enc.len _ | exact len_ub (by assumption)⟩ | exact ⟨hs.ldM rfl rfl, by first | rfl | assumption | exact encV_len _ | exact Enc.len _ | exact len_ub (by assumption)⟩ | exact ⟨hs.ldM (by assumption) (by first | rfl | assumption), by first | rfl | assumption | exact encV_len _ | exact Enc.len _ | exact len_ub (by assumption)⟩ | exact ⟨by assumption, by first | rfl | assumption | exact encV_len _ | exact Enc.len _ | exact len_ub (by assumption)⟩ | exact hs.ldp | exact At.partC (by assumption))) ?_
      first | refine R.cstoreAll hs rfl rfl Try.sz52 (by first | rfl | assumption | exact encV_len _ | exact Enc.len _ | exact len_ub (by assumption) | simp [*]) (by first | rfl | assumption | exact encV_len _ | exact Enc.len _ | exact len_ub (by assumption) | simp [*]) (by first | assumption | exact OneL.all | exact Enc.one _ | exact ub_all _ | (repeat' (first | refine List.forall_mem_cons.2 ⟨?_, ?_⟩ | exact List.forall_mem_nil _ | rfl | exact OneC.one | exact KRow.oneC' (by assumption)))) ?_ | refine R.cstore hs rfl rfl Try.sz52 (by first | rfl | assumption | exact encV_len _ | exact Enc.len _ | exact len_ub (by assumption) | simp [*]) (by simp [*]) (by first | assumption | exact OneL.all | exact Enc.one _ | exact ub_all _ | (repeat' (first | refine List.forall_mem_cons.2 ⟨?_, ?_⟩ | exact List.forall_mem_nil _ | rfl | exact OneC.one | exact KRow.oneC' (by assumption)))) ?_
      intro w2_1 hs
      try simp only [List.set_cons_zero, List.set_cons_succ] at hs
      refine R.ev rfl (E.assign rfl) ?_
      refine R.done ?_
      refine X.keep [(8, _), (9, _)] ⟨rfl, rfl, trivial⟩ ?_
      refine X.next ?_
      refine C.ret ?_
      refine X.thenRet ?_
      refine X.resCT rfl rfl Try.underlying52 rfl Try.sz52 (by first | exact ⟨hs.ldA, by first | rfl | assumption | exact encV_len _ | exact Enc.len _ | exact len_ub (by assumption)⟩ | exact ⟨hs.ldP rfl, by first | rfl | assumption | exact encV_len _ | exact Enc.len _ | exact len_ub (by assumption)⟩ | exact ⟨by assumption, by first | rfl | assumption | exact encV_len _ | exact Enc.len _ | exact len_ub (by assumption)⟩) rfl ?_
      have hB : rBad ⟨c, wt, inc, L⟩ kind now := by unfold rBad; simp_all
      have hE : rChE ⟨c, wt, inc, L⟩ kind a now = 2 := by rw [rChE, if_pos hB]
      rw [rChS, hE, if_neg (by decide)]
      exact RPost.same (s := ⟨c, wt, inc, L⟩) hr hs.to
    · refine R.gyes rfl rfl ?_
      refine R.ev rfl (E.move rfl) ?_
      refine R.gyes rfl rfl ?_
      first | refine R.ev rfl (E.fieldAddr0 1 rfl Try.underlying52 rfl Try.sz3 rfl) ?_ | refine R.ev rfl (E.fieldAddrN 1 rfl Try.underlying52 rfl Try.sz3 rfl) ?_
      refine R.gyes rfl rfl ?_
      refine R.ev rfl (E.load1 rfl Try.underlying3 rfl (by first | exact hs.ldc | exact hs.ld rfl | exact hs.ld (by assumption) | exact by assumption | exact At.cellC (by assumption))) ?_
      refine R.gyes rfl rfl ?_
      have hmn : 0 ≤ now ∧ now ≤ 105190559 := by simpa [isMin] using h19
      refine R.ev rfl (E.add rfl rfl (by omega) (by omega)) ?_
      refine R.gyes rfl rfl ?_
      refine R.call ⟨_, _, Try.func62, rfl, by kernel_rfl⟩ rfl rfl (rminute_any (now + wt) _) ?_
      rintro _ _ ⟨rfl, rfl⟩
      refine R.gyes rfl rfl ?_
      refine R.ev rfl ((E.not rfl).isB (c := !(isMin (now + wt))) rfl) ?_
      refine R.gyes rfl rfl ?_
      refine R.ev rfl (E.pickF rfl rfl) ?_
      refine R.ev rfl (E.pickT rfl rfl) ?_
      refine R.done ?_
      refine X.keep [(1, _), (3, _), (4, _), (6, _), (8, _), (27, _)] ⟨rfl, rfl, rfl, rfl, rfl, rfl, trivial⟩ ?_
      refine X.next ?_
      refine C.cbool rfl (fun h27 => ?_) (fun h27 => ?_)
      · refine C.seq ?_
        refine C.region ?_
        refine R.ev rfl (E.loadRowC rfl Try.underlying52 rfl Try.sz52 (by first | exact ⟨hs.ldA, by first | rfl | assumption | exact encV_len _ | exact Enc.len _ | exact len_ub (by assumption)⟩ | exact ⟨hs.ldP rfl, by first | rfl | assumption | exact encV_len _ | exact Enc.len _ | exact len_ub (by assumption)⟩ | exact ⟨hs.ldM rfl rfl, by first | rfl | assumption | exact encV_len _ | exact Enc.len _ | exact len_ub (by assumption)⟩ | exact ⟨hs.ldM (by assumption) (by first | rfl | assumption), by first | rfl | assumption | exact encV_len _ | exact Enc.len _ | exact len_ub (by assumption)⟩ | exact ⟨by assumption, by first | rfl | assumption | exact encV_len _ | exact Enc.len _ | exact len_ub (by assumption)⟩ | exact hs.ldp | exact At.partC (by assumption))) ?_
        first | refine R.cstoreAll hs rfl rfl Try.sz52 (by first | rfl | assumption | exact encV_len _ | exact Enc.len _ | exact len_ub (by assumption) | simp [*]) (by first | rfl | assumption | exact encV_len _ | exact Enc.len _ | exact len_ub (by assumption) | simp [*]) (by first | assumption | exact OneL.all | exact Enc.one _ | exact ub_all _ | (repeat' (first | refine List.forall_mem_cons.2 ⟨?_, ?_⟩ | exact List.forall_mem_nil _ | rfl | exact OneC.one | exact KRow.oneC' (by assumption)))) ?_ | refine R.cstore hs rfl rfl Try.sz52 (by first | rfl | assumption | exact encV_len _ | exact Enc.len _ | exact len_ub (by assumption) | simp [*]) (by simp [*]) (by first | assumption | exact OneL.all | exact Enc.one _ | exact ub_all _ | (repeat' (first | refine List.forall_mem_cons.2 ⟨?_, ?_⟩ | exact List.forall_mem_nil _ | rfl | exact OneC.one | exact KRow.oneC' (by assumption)))) ?_
        intro w2_1 hs
        try simp only [List.set_cons_zero, List.set_cons_succ] at hs
        refine R.ev rfl (E.assign rfl) ?_
        refine R.done ?_
        refine X.keep [(8, _), (9, _)] ⟨rfl, rfl, trivial⟩ ?_
        refine X.next ?_
        refine C.ret ?_
        refine X.thenRet ?_
        refine X.resCT rfl rfl Try.underlying52 rfl Try.sz52 (by first | exact ⟨hs.ldA, by first | rfl | assumption | exact encV_len _ | exact Enc.len _ | exact len_ub (by assumption)⟩ | exact ⟨hs.ldP rfl, by first | rfl | assumption | exact encV_len _ | exact Enc.len _ | exact len_ub (by assumption)⟩ | exact ⟨by assumption, by first | rfl | assumption | exact encV_len _ | exact Enc.len _ | exact len_ub (by assumption)⟩) rfl ?_
        have hB : rBad ⟨c, wt, inc, L⟩ kind now := by unfold rBad; simp_all
        have hE : rChE ⟨c, wt, inc, L⟩ kind a now = 2 := by rw [rChE, if_pos hB]
        rw [rChS, hE, if_neg (by decide)]
        exact RPost.same (s := ⟨c, wt, inc, L⟩) hr hs.to
      · refine C.skip ?_
        refine X.next ?_
        refine C.seq ?_
        refine C.region ?_
        have hB : ¬ rBad ⟨c, wt, inc, L⟩ kind now := by unfold rBad; simp_all
        refine R.ev rfl (E.loadRowC rfl Try.underlying52 rfl Try.sz52 (by first | exact ⟨hs.ldA, by first | rfl | assumption | exact encV_len _ | exact Enc.len _ | exact len_ub (by assumption)⟩ | exact ⟨hs.ldP rfl, by first | rfl | assumption | exact encV_len _ | exact Enc.len _ | exact len_ub (by assumption)⟩ | exact ⟨hs.ldM rfl rfl, by first | rfl | assumption | exact encV_len _ | exact Enc.len _ | exact len_ub (by assumption)⟩ | exact ⟨hs.ldM (by assumption) (by first | rfl | assumption), by first | rfl | assumption | exact encV_len _ | exact Enc.len _ | exact len_ub (by assumption)⟩ | exact ⟨by assumption, by first | rfl | assumption | exact encV_len _ | exact Enc.len _ | exact len_ub (by assumption)⟩ | exact hs.ldp | exact At.partC (by assumption))) ?_
        refine R.ev rfl (E.loadRowC rfl Try.underlying29 rfl Try.sz29 (by first | exact ⟨hs.ldA, by first | rfl | assumption | exact encV_len _ | exact Enc.len _ | exact len_ub (by assumption)⟩ | exact ⟨hs.ldP rfl, by first | rfl | assumption | exact encV_len _ | exact Enc.len _ | exact len_ub (by assumption)⟩ | exact ⟨hs.ldM rfl rfl, by first | rfl | assumption | exact encV_len _ | exact Enc.len _ | exact len_ub (by assumption)⟩ | exact ⟨hs.ldM (by assumption) (by first | rfl | assumption), by first | rfl | assumption | exact encV_len _ | exact Enc.len _ | exact len_ub (by assumption)⟩ | exact ⟨by assumption, by first | rfl | assumption | exact encV_len _ | exact Enc.len _ | exact len_ub (by assumption)⟩ | exact hs.ldp | exact At.partC (by assumption))) ?_
        refine R.call ⟨_, _, Try.func61, rfl, by kernel_rfl⟩ rfl rfl (rfind_any (s := ⟨c, wt, inc, L⟩) a hs hL) ?_
        rintro _ w5 ⟨rfl, hs⟩
        refine R.ev rfl (E.assign rfl) ?_
        refine R.done ?_
        refine X.keep [(1, _), (3, _), (4, _), (8, _), (10, _)] ⟨rfl, rfl, rfl, rfl, rfl, trivial⟩ ?_
        refine X.next ?_
        refine C.seq ?_
        refine C.seq ?_
        refine C.region ?_
        refine R.ev rfl (E.move rfl) ?_
        refine R.ev rfl ((E.lss rfl rfl).isB (c := !rHas a L) rIdx_lt) ?_
        refine R.done ?_
        refine X.keep [(1, _), (3, _), (4, _), (8, _), (10, _), (33, _)] ⟨rfl, rfl, rfl, rfl, rfl, rfl, trivial⟩ ?_
        refine X.next ?_
        refine C.cbool rfl (fun h33 => ?_) (fun h33 => ?_)
        · have hh : rHas a L = false := by simpa using h33
          refine C.seq ?_
          refine C.region ?_
          refine R.ev rfl (E.loadRowC rfl Try.underlying52 rfl Try.sz52 (by first | exact ⟨hs.ldA, by first | rfl | assumption | exact encV_len _ | exact Enc.len _ | exact len_ub (by assumption)⟩ | exact ⟨hs.ldP rfl, by first | rfl | assumption | exact encV_len _ | exact Enc.len _ | exact len_ub (by assumption)⟩ | exact ⟨hs.ldM rfl rfl, by first | rfl | assumption | exact encV_len _ | exact Enc.len _ | exact len_ub (by assumption)⟩ | exact ⟨hs.ldM (by assumption) (by first | rfl | assumption), by first | rfl | assumption | exact encV_len _ | exact Enc.len _ | exact len_ub (by assumption)⟩ | exact ⟨by assumption, by first | rfl | assumption | exact encV_len _ | exact Enc.len _ | exact len_ub (by assumption)⟩ | exact hs.ldp | exact At.partC (by assumption))) ?_
          first | refine R.cstoreAll hs rfl rfl Try.sz52 (by first | rfl | assumption | exact encV_len _ | exact Enc.len _ | exact len_ub (by assumption) | simp [*]) (by first | rfl | assumption | exact encV_len _ | exact Enc.len _ | exact len_ub (by assumption) | simp [*]) (by first | assumption | exact OneL.all | exact Enc.one _ | exact ub_all _ | (repeat' (first | refine List.forall_mem_cons.2 ⟨?_, ?_⟩ | exact List.forall_mem_nil _ | rfl | exact OneC.one | exact KRow.oneC' (by assumption)))) ?_ | refine R.cstore hs rfl rfl Try.sz52 (by first | rfl | assumption | exact encV_len _ | exact Enc.len _ | exact len_ub (by assumption) | simp [*]) (by simp [*]) (by first | assumption | exact OneL.all | exact Enc.one _ | exact ub_all _ | (repeat' (first | refine List.forall_mem_cons.2 ⟨?_, ?_⟩ | exact List.forall_mem_nil _ | rfl | exact OneC.one | exact KRow.oneC' (by assumption)))) ?_
          intro w5_1 hs
          try simp only [List.set_cons_zero, List.set_cons_succ] at hs
          refine R.ev rfl (E.assign rfl) ?_
          refine R.done ?_
          refine X.keep [(8, _), (9, _)] ⟨rfl, rfl, trivial⟩ ?_
          refine X.next ?_
          refine C.ret ?_
          refine X.thenRet ?_
          refine X.resCT rfl rfl Try.underlying52 rfl Try.sz52 (by first | exact ⟨hs.ldA, by first | rfl | assumption | exact encV_len _ | exact Enc.len _ | exact len_ub (by assumption)⟩ | exact ⟨hs.ldP rfl, by first | rfl | assumption | exact encV_len _ | exact Enc.len _ | exact len_ub (by assumption)⟩ | exact ⟨by assumption, by first | rfl | assumption | exact encV_len _ | exact Enc.len _ | exact len_ub (by assumption)⟩) rfl ?_
          have hE : rChE ⟨c, wt, inc, L⟩ kind a now = 8 := by rw [rChE, if_neg hB]; simp only [rfind_no hh]
          rw [rChS, hE, if_neg (by decide)]
          exact RPost.same (s := ⟨c, wt, inc, L⟩) hr hs.to
        · have hh : rHas a L = true := by simpa using h33
          obtain ⟨i, o, hi, ho, hp, hno⟩ := rHas_idx hh
          rw [show idxP (rIs a) ({ cap := c, wait := wt, inc := inc, L := L } : RB).L = ((i : Nat) : Int) from hi]
          have hil := (List.getElem?_eq_some_iff.1 ho).1
          have hfi := rfind_at ho hp hno
          refine C.skip ?_
          refine X.next ?_
          refine C.seq ?_
          refine C.seq ?_
          refine C.region ?_
          obtain ⟨y, bk, off, hy, my, ly, rfl, Ay⟩ := hs.el (i := i) (ad := ad) (n := L.length) (c := cap) hil
          rw [ho] at hy
          simp only [Option.some.injEq] at hy
          subst hy
          have ay := Ay _ hs
          have hto := htr o my
          first | refine R.ev rfl (E.fieldAddr0 3 rfl Try.underlying52 rfl Try.sz50 rfl) ?_ | refine R.ev rfl (E.fieldAddrN 3 rfl Try.underlying52 rfl Try.sz50 rfl) ?_
          refine R.ev rfl (E.load1 rfl Try.underlying50 rfl (by first | exact hs.ldc | exact hs.ld rfl | exact hs.ld (by assumption) | exact by assumption | exact At.cellC (by assumption))) ?_
          refine R.ev rfl (E.move rfl) ?_
          refine R.ev rfl (E.indexAddr rfl rfl Try.underlying50 Try.sz90 rfl (by first | omega | decide)) ?_
          first | refine R.ev rfl (E.fieldAddr0 34 rfl Try.underlying90 rfl Try.sz4 rfl) ?_ | refine R.ev rfl (E.fieldAddrN 34 rfl Try.underlying90 rfl Try.sz4 rfl) ?_
          refine R.ev rfl (E.load1 rfl Try.underlying4 rfl (by first | exact hs.ldc | exact hs.ld rfl | exact hs.ld (by assumption) | exact by assumption | exact At.cellC (by assumption))) ?_
          refine R.ev rfl (E.move rfl) ?_
          refine R.ev rfl (E.eql rfl rfl) ?_
          refine R.ev rfl (E.eqlB rfl rfl Try.underlying4) ?_
          refine R.done ?_
          refine X.keep [(1, _), (3, _), (4, _), (8, _), (10, _), (43, _)] ⟨rfl, rfl, rfl, rfl, rfl, rfl, trivial⟩ ?_
          refine X.next ?_
          refine C.cbool rfl (fun h43 => ?_) (fun h43 => ?_)
          · refine C.seq ?_
            refine C.region ?_
            refine R.ev rfl (E.loadRowC rfl Try.underlying52 rfl Try.sz52 (by first | exact ⟨hs.ldA, by first | rfl | assumption | exact encV_len _ | exact Enc.len _ | exact len_ub (by assumption)⟩ | exact ⟨hs.ldP rfl, by first | rfl | assumption | exact encV_len _ | exact Enc.len _ | exact len_ub (by assumption)⟩ | exact ⟨hs.ldM rfl rfl, by first | rfl | assumption | exact encV_len _ | exact Enc.len _ | exact len_ub (by assumption)⟩ | exact ⟨hs.ldM (by assumption) (by first | rfl | assumption), by first | rfl | assumption | exact encV_len _ | exact Enc.len _ | exact len_ub (by assumption)⟩ | exact ⟨by assumption, by first | rfl | assumption | exact encV_len _ | exact Enc.len _ | exact len_ub (by assumption)⟩ | exact hs.ldp | exact At.partC (by assumption))) ?_
            first | refine R.cstoreAll hs rfl rfl Try.sz52 (by first | rfl | assumption | exact encV_len _ | exact Enc.len _ | exact len_ub (by assumption) | simp [*]) (by first | rfl | assumption | exact encV_len _ | exact Enc.len _ | exact len_ub (by assumption) | simp [*]) (by first | assumption | exact OneL.all | exact Enc.one _ | exact ub_all _ | (repeat' (first | refine List.forall_mem_cons.2 ⟨?_, ?_⟩ | exact List.forall_mem_nil _ | rfl | exact OneC.one | exact KRow.oneC' (by assumption)))) ?_ | refine R.cstore hs rfl rfl Try.sz52 (by first | rfl | assumption | exact encV_len _ | exact Enc.len _ | exact len_ub (by assumption) | simp [*]) (by simp [*]) (by first | assumption | exact OneL.all | exact Enc.one _ | exact ub_all _ | (repeat' (first | refine List.forall_mem_cons.2 ⟨?_, ?_⟩ | exact List.forall_mem_nil _ | rfl | exact OneC.one | exact KRow.oneC' (by assumption)))) ?_
            intro w7_1 hs
            try simp only [List.set_cons_zero, List.set_cons_succ] at hs
            refine R.ev rfl (E.assign rfl) ?_
            refine R.done ?_
            refine X.keep [(8, _), (9, _)] ⟨rfl, rfl, trivial⟩ ?_
            refine X.next ?_
            refine C.ret ?_
            refine X.thenRet ?_
            refine X.resCT rfl rfl Try.underlying52 rfl Try.sz52 (by first | exact ⟨hs.ldA, by first | rfl | assumption | exact encV_len _ | exact Enc.len _ | exact len_ub (by assumption)⟩ | exact ⟨hs.ldP rfl, by first | rfl | assumption | exact encV_len _ | exact Enc.len _ | exact len_ub (by assumption)⟩ | exact ⟨by assumption, by first | rfl | assumption | exact encV_len _ | exact Enc.len _ | exact len_ub (by assumption)⟩) rfl ?_
            have hE : rChE ⟨c, wt, inc, L⟩ kind a now = 10 := by rw [rChE, if_neg hB]; simp only [hfi]; rw [if_pos (by simpa using h43)]
            rw [rChS, hE, if_neg (by decide)]
            exact RPost.same (s := ⟨c, wt, inc, L⟩) hr hs.to
          · refine C.skip ?_
            refine X.next ?_
            refine C.seq ?_
            refine C.region ?_
            have hE : rChE ⟨c, wt, inc, L⟩ kind a now = 0 := by rw [rChE, if_neg hB]; simp only [hfi]; rw [if_neg (by simpa using h43)]
            rw [rChS, hE, if_pos rfl]
            have hoid : o.id = a := of_decide_eq_true hp
            have hT : rTries a L = o.tries := by unfold rTries; rw [hfi]
            first | refine R.ev rfl (E.fieldAddr0 3 rfl Try.underlying52 rfl Try.sz50 rfl) ?_ | refine R.ev rfl (E.fieldAddrN 3 rfl Try.underlying52 rfl Try.sz50 rfl) ?_
            refine R.ev rfl (E.load1 rfl Try.underlying50 rfl (by first | exact hs.ldc | exact hs.ld rfl | exact hs.ld (by assumption) | exact by assumption | exact At.cellC (by assumption))) ?_
            refine R.ev rfl (E.move rfl) ?_
            refine R.ev rfl (E.indexAddr rfl rfl Try.underlying50 Try.sz90 rfl (by first | omega | decide)) ?_
            refine R.ev rfl (E.loadRowC rfl Try.underlying90 rfl Try.sz90 (by first | exact ⟨hs.ldA, by first | rfl | assumption | exact encV_len _ | exact Enc.len _ | exact len_ub (by assumption)⟩ | exact ⟨hs.ldP rfl, by first | rfl | assumption | exact encV_len _ | exact Enc.len _ | exact len_ub (by assumption)⟩ | exact ⟨hs.ldM rfl rfl, by first | rfl | assumption | exact encV_len _ | exact Enc.len _ | exact len_ub (by assumption)⟩ | exact ⟨hs.ldM (by assumption) (by first | rfl | assumption), by first | rfl | assumption | exact encV_len _ | exact Enc.len _ | exact len_ub (by assumption)⟩ | exact ⟨by assumption, by first | rfl | assumption | exact encV_len _ | exact Enc.len _ | exact len_ub (by assumption)⟩ | exact hs.ldp | exact At.partC (by assumption))) ?_
            refine R.sallocA hs Try.zr90 rfl ?_
            intro b11 w11 hs
            first | refine R.cstoreAll hs rfl rfl Try.sz90 (by first | rfl | assumption | exact encV_len _ | exact Enc.len _ | exact len_ub (by assumption) | simp [*]) (by first | rfl | assumption | exact encV_len _ | exact Enc.len _ | exact len_ub (by assumption) | simp [*]) (by first | assumption | exact OneL.all | exact Enc.one _ | exact ub_all _ | (repeat' (first | refine List.forall_mem_cons.2 ⟨?_, ?_⟩ | exact List.forall_mem_nil _ | rfl | exact OneC.one | exact KRow.oneC' (by assumption)))) ?_ | refine R.cstore hs rfl rfl Try.sz90 (by first | rfl | assumption | exact encV_len _ | exact Enc.len _ | exact len_ub (by assumption) | simp [*]) (by simp [*]) (by first | assumption | exact OneL.all | exact Enc.one _ | exact ub_all _ | (repeat' (first | refine List.forall_mem_cons.2 ⟨?_, ?_⟩ | exact List.forall_mem_nil _ | rfl | exact OneC.one | exact KRow.oneC' (by assumption)))) ?_
            intro w8_6 hs
            try simp only [List.set_cons_zero, List.set_cons_succ] at hs
            refine R.done ?_
            refine X.keep [(1, _), (3, _), (4, _), (8, _), (10, _), (11, _)] ⟨rfl, rfl, rfl, rfl, rfl, rfl, trivial⟩ ?_
            refine X.next ?_
            refine C.seq ?_
            refine C.seq ?_
            refine C.region ?_
            refine R.ev rfl (E.move rfl) ?_
            refine R.done ?_
            refine X.keep [(3, _), (4, _), (8, _), (10, _), (11, _), (50, _)] ⟨rfl, rfl, rfl, rfl, rfl, rfl, trivial⟩ ?_
            refine X.next ?_
            refine C.block ?_
            refine C.seq ?_
            refine C.region ?_
            refine R.ev rfl (E.eql rfl rfl) ?_
            refine R.ev rfl (E.assign rfl) ?_
            refine R.done ?_
            refine X.keep [(3, _), (4, _), (8, _), (10, _), (11, _), (50, _), (51, _)] ⟨rfl, rfl, rfl, rfl, rfl, rfl, rfl, trivial⟩ ?_
            refine X.next ?_
            refine C.cdec rfl (fun h51 => ?_) (fun h51 => ?_)
            · refine C.seq ?_
              refine C.region ?_
              refine R.sbuild0 (enc := encRE) hs Try.underlying50 Try.sz90 rfl ?_
              intro v53 w53 F53 r53 nn53 hs
              first | refine R.ev rfl (E.fieldAddr0 3 rfl Try.underlying52 rfl Try.sz50 rfl) ?_ | refine R.ev rfl (E.fieldAddrN 3 rfl Try.underlying52 rfl Try.sz50 rfl) ?_
              refine R.ev rfl (E.load1 rfl Try.underlying50 rfl (by first | exact hs.ldc | exact hs.ld rfl | exact hs.ld (by assumption) | exact by assumption | exact At.cellC (by assumption))) ?_
              refine R.cappSl hs rfl rfl Try.underlying50 Try.by90 (by rfl) rfl (by decide) (by first | omega | (simp only [List.length_append, List.length_cons, List.length_nil] at *; omega)) (by first | omega | (simp only [List.length_append, List.length_cons, List.length_nil] at *; omega)) ?_
              intro v56 w56 F56 r56 hs
              rw [List.nil_append] at r56
              obtain ⟨ad5, cap5, rfl, hc5, _, had5⟩ := r56.val
              obtain ⟨g5, rfl⟩ := had5 (by intro e; rw [e] at hil; simp at hil)
              refine R.ev rfl (E.assign rfl) ?_
              refine R.done ?_
              refine X.keep [(4, _), (8, _), (10, _), (12, _)] ⟨rfl, rfl, rfl, rfl, trivial⟩ ?_
              refine X.next ?_
              refine C.seq ?_
              refine C.region ?_
              refine R.ev rfl (E.move rfl) ?_
              refine R.ev rfl (E.move rfl) ?_
              refine R.ev rfl (E.indexAddr rfl rfl Try.underlying50 Try.sz90 rfl (by first | omega | decide)) ?_
              first | refine R.ev rfl (E.fieldAddr0 34 rfl Try.underlying90 rfl Try.sz4 rfl) ?_ | refine R.ev rfl (E.fieldAddrN 34 rfl Try.underlying90 rfl Try.sz4 rfl) ?_
              refine R.ssetF (el' := { o with out := true }) i (hs.front (F := F56)) r56 rfl rfl Try.sz4 ho ?_ (off := 34) (by omega) (by decide) rfl ?_
              · simp only [encRE]
                rw [List.set_append_right _ _ (by simp [o.id.2])]
                simp [o.id.2]
              intro w12 F12 r12 hs1
              have hs := hs.back (F := F56) hs1
              rw [← rOutL_at ho hp hno] at r12
              refine R.done ?_
              refine X.keep [(4, _), (8, _), (12, _)] ⟨rfl, rfl, rfl, trivial⟩ ?_
              refine X.next ?_
              refine C.seq ?_
              refine C.region ?_
              refine R.ev rfl (E.loadRowC rfl Try.underlying52 rfl Try.sz52 (by first | exact ⟨hs.ldA, by first | rfl | assumption | exact encV_len _ | exact Enc.len _ | exact len_ub (by assumption)⟩ | exact ⟨hs.ldP rfl, by first | rfl | assumption | exact encV_len _ | exact Enc.len _ | exact len_ub (by assumption)⟩ | exact ⟨hs.ldM rfl rfl, by first | rfl | assumption | exact encV_len _ | exact Enc.len _ | exact len_ub (by assumption)⟩ | exact ⟨hs.ldM (by assumption) (by first | rfl | assumption), by first | rfl | assumption | exact encV_len _ | exact Enc.len _ | exact len_ub (by assumption)⟩ | exact ⟨by assumption, by first | rfl | assumption | exact encV_len _ | exact Enc.len _ | exact len_ub (by assumption)⟩ | exact hs.ldp | exact At.partC (by assumption))) ?_
              refine R.ev rfl (E.move rfl) ?_
              refine R.call ⟨_, _, Try.func72, rfl, by kernel_rfl⟩ rfl rfl (with_any ⟨c, wt, inc, L⟩ _ _ rfl rfl hs) ?_
              rintro _ w63 ⟨rfl, hs⟩
              first | refine R.cstoreAll hs rfl rfl Try.sz52 (by first | rfl | assumption | exact encV_len _ | exact Enc.len _ | exact len_ub (by assumption) | simp [*]) (by first | rfl | assumption | exact encV_len _ | exact Enc.len _ | exact len_ub (by assumption) | simp [*]) (by first | assumption | exact OneL.all | exact Enc.one _ | exact ub_all _ | (repeat' (first | refine List.forall_mem_cons.2 ⟨?_, ?_⟩ | exact List.forall_mem_nil _ | rfl | exact OneC.one | exact KRow.oneC' (by assumption)))) ?_ | refine R.cstore hs rfl rfl Try.sz52 (by first | rfl | assumption | exact encV_len _ | exact Enc.len _ | exact len_ub (by assumption) | simp [*]) (by simp [*]) (by first | assumption | exact OneL.all | exact Enc.one _ | exact ub_all _ | (repeat' (first | refine List.forall_mem_cons.2 ⟨?_, ?_⟩ | exact List.forall_mem_nil _ | rfl | exact OneC.one | exact KRow.oneC' (by assumption)))) ?_
              intro w13_3 hs
              try simp only [List.set_cons_zero, List.set_cons_succ] at hs
              refine R.ev rfl (E.assign rfl) ?_
              refine R.done ?_
              refine X.keep [(8, _), (9, _)] ⟨rfl, rfl, trivial⟩ ?_
              refine X.next ?_
              refine C.ret ?_
              refine X.blockRet ?_
              refine X.thenRet ?_
              refine X.resCT rfl rfl Try.underlying52 rfl Try.sz52 (by first | exact ⟨hs.ldA, by first | rfl | assumption | exact encV_len _ | exact Enc.len _ | exact len_ub (by assumption)⟩ | exact ⟨hs.ldP rfl, by first | rfl | assumption | exact encV_len _ | exact Enc.len _ | exact len_ub (by assumption)⟩ | exact ⟨by assumption, by first | rfl | assumption | exact encV_len _ | exact Enc.len _ | exact len_ub (by assumption)⟩) rfl ?_
              rw [if_pos h51]
              exact RPost.new (Hs := Hs) (s := ⟨c, wt, inc, rOutL a L⟩) r12 hs.to
            · refine C.seq ?_
              refine C.region ?_
              refine R.ev rfl (E.eql rfl rfl) ?_
              refine R.ev rfl (E.assign rfl) ?_
              refine R.done ?_
              refine X.keep [(3, _), (4, _), (8, _), (10, _), (11, _), (64, _)] ⟨rfl, rfl, rfl, rfl, rfl, rfl, trivial⟩ ?_
              refine X.next ?_
              refine C.cdec rfl (fun h64 => ?_) (fun h64 => ?_)
              · refine C.seq ?_
                refine C.drawn (SatS hs) ([0, 2], [1, 3, 7]) (by kernel_rfl) ?_
                have hs := hs.drew
                first | refine D.evP 1 rfl (by kernel_rfl) rfl (fun _ => hs.to) (fun _ => E.fieldAddr0 3 rfl Try.underlying52 rfl Try.sz50 rfl) ?_ | refine D.evP 1 rfl (by kernel_rfl) rfl (fun _ => hs.to) (fun _ => E.fieldAddrN 3 rfl Try.underlying52 rfl Try.sz50 rfl) ?_
                refine D.evP 3 rfl (by kernel_rfl) rfl (fun _ => hs.to) (fun _ => E.move rfl) ?_
                refine D.ev 0 rfl (by kernel_rfl) rfl hs.to (fun _ hS => E.loadRowC rfl Try.underlying52 rfl Try.sz52 (by first | exact ⟨hS.ldA, by first | rfl | assumption | exact encV_len _ | exact Enc.len _ | exact len_ub (by assumption)⟩ | exact ⟨hS.ldP rfl, by first | rfl | assumption | exact encV_len _ | exact Enc.len _ | exact len_ub (by assumption)⟩ | exact ⟨hS.ldM rfl rfl, by first | rfl | assumption | exact encV_len _ | exact Enc.len _ | exact len_ub (by assumption)⟩ | exact ⟨hS.ldM (by assumption) (by first | rfl | assumption), by first | rfl | assumption | exact encV_len _ | exact Enc.len _ | exact len_ub (by assumption)⟩ | exact ⟨by assumption, by first | rfl | assumption | exact encV_len _ | exact Enc.len _ | exact len_ub (by assumption)⟩ | exact ⟨(by assumption : ∀ w', Sat _ w' _ → At w' _ _ _) _ hS, by first | rfl | assumption | exact encV_len _ | exact Enc.len _ | exact len_ub (by assumption)⟩ | exact hS.ldp | exact At.partC (by assumption) | exact At.partC ((by assumption : ∀ w', Sat _ w' _ → At w' _ _ _) _ hS))) ?_
                refine D.ev 2 rfl (by kernel_rfl) rfl hs.to (fun _ hS => E.load1 rfl Try.underlying50 rfl (by first | exact hS.ldc | exact hS.ld rfl | exact hS.ld (by assumption) | exact by assumption | exact At.cellC (by assumption) | exact At.cellC ((by assumption : ∀ w', Sat _ w' _ → At w' _ _ _) _ hS) | exact (by assumption : ∀ w', Sat _ w' _ → World.cell? w' _ = some _) _ hS)) ?_
                refine D.act 4 rfl (by kernel_rfl) ?_
                refine R.call ⟨_, _, Try.func76, rfl, by kernel_rfl⟩ rfl rfl (without_any (L := L) i hs hil hL) ?_
                rintro v70 w70 ⟨F70, r70, hs⟩
                refine D.back hs.to ?_
                refine D.act 5 rfl (by kernel_rfl) ?_
                refine R.call ⟨_, _, Try.func72, rfl, by kernel_rfl⟩ rfl rfl (with_any ⟨c, wt, inc, L⟩ _ v70 rfl RowL.oneC hs) ?_
                rintro _ w71 ⟨rfl, hs⟩
                refine D.backT (by kernel_rfl) ?_
                refine D.act 6 rfl (by kernel_rfl) ?_
                first | refine R.cstoreAll hs rfl rfl Try.sz52 (by first | rfl | assumption | exact encV_len _ | exact Enc.len _ | exact len_ub (by assumption) | simp [*]) (by first | rfl | assumption | exact encV_len _ | exact Enc.len _ | exact len_ub (by assumption) | simp [*]) (by first | assumption | exact OneL.all | exact Enc.one _ | exact ub_all _ | (repeat' (first | refine List.forall_mem_cons.2 ⟨?_, ?_⟩ | exact List.forall_mem_nil _ | rfl | exact OneC.one | exact KRow.oneC' (by assumption)))) ?_ | refine R.cstore hs rfl rfl Try.sz52 (by first | rfl | assumption | exact encV_len _ | exact Enc.len _ | exact len_ub (by assumption) | simp [*]) (by simp [*]) (by first | assumption | exact OneL.all | exact Enc.one _ | exact ub_all _ | (repeat' (first | refine List.forall_mem_cons.2 ⟨?_, ?_⟩ | exact List.forall_mem_nil _ | rfl | exact OneC.one | exact KRow.oneC' (by assumption)))) ?_
                intro w15_6 hs
                try simp only [List.set_cons_zero, List.set_cons_succ] at hs
                refine D.backT (by kernel_rfl) ?_
                refine D.evP 7 rfl (by kernel_rfl) rfl (np (by kernel_rfl)) (fun _ => E.assign rfl) ?_
                refine D.done rfl (by kernel_rfl) ?_
                refine X.keep [(8, _), (9, _)] ⟨rfl, rfl, trivial⟩ ?_
                refine X.next ?_
                refine C.ret ?_
                refine X.blockRet ?_
                refine X.thenRet ?_
                refine X.resCT rfl rfl Try.underlying52 rfl Try.sz52 (by first | exact ⟨hs.ldA, by first | rfl | assumption | exact encV_len _ | exact Enc.len _ | exact len_ub (by assumption)⟩ | exact ⟨hs.ldP rfl, by first | rfl | assumption | exact encV_len _ | exact Enc.len _ | exact len_ub (by assumption)⟩ | exact ⟨by assumption, by first | rfl | assumption | exact encV_len _ | exact Enc.len _ | exact len_ub (by assumption)⟩) rfl ?_
                rw [if_neg h51, if_pos h64]
                exact RPost.new (Hs := Hs) (s := ⟨c, wt, inc, rRemL a L⟩) (by rw [rRemL_at ho hp hno]; exact r70) hs.to
              · refine C.skip ?_
                refine X.blockNormal ?_
                refine X.next ?_
                refine C.seq ?_
                refine C.drawn (SatS hs) ([0, 2, 6, 9, 12], [1, 3, 5, 7, 8, 10, 11, 13, 14, 19]) (by kernel_rfl) ?_
                have hs := hs.drew
                first | refine D.evP 1 rfl (by kernel_rfl) rfl (fun _ => hs.to) (fun _ => E.fieldAddr0 3 rfl Try.underlying52 rfl Try.sz50 rfl) ?_ | refine D.evP 1 rfl (by kernel_rfl) rfl (fun _ => hs.to) (fun _ => E.fieldAddrN 3 rfl Try.underlying52 rfl Try.sz50 rfl) ?_
                refine D.evP 3 rfl (by kernel_rfl) rfl (fun _ => hs.to) (fun _ => E.move rfl) ?_
                first | refine D.evP 5 rfl (by kernel_rfl) rfl (fun _ => hs.to) (fun _ => E.fieldAddr0 0 rfl Try.underlying90 rfl Try.sz29 rfl) ?_ | refine D.evP 5 rfl (by kernel_rfl) rfl (fun _ => hs.to) (fun _ => E.fieldAddrN 0 rfl Try.underlying90 rfl Try.sz29 rfl) ?_
                refine D.evP 7 rfl (by kernel_rfl) rfl (fun _ => hs.to) (fun _ => E.move rfl) ?_
                first | refine D.evP 8 rfl (by kernel_rfl) rfl (fun _ => hs.to) (fun _ => E.fieldAddr0 1 rfl Try.underlying52 rfl Try.sz3 rfl) ?_ | refine D.evP 8 rfl (by kernel_rfl) rfl (fun _ => hs.to) (fun _ => E.fieldAddrN 1 rfl Try.underlying52 rfl Try.sz3 rfl) ?_
                first | refine D.evP 11 rfl (by kernel_rfl) rfl (fun _ => hs.to) (fun _ => E.fieldAddr0 33 rfl Try.underlying90 rfl Try.sz3 rfl) ?_ | refine D.evP 11 rfl (by kernel_rfl) rfl (fun _ => hs.to) (fun _ => E.fieldAddrN 33 rfl Try.underlying90 rfl Try.sz3 rfl) ?_
                have hk2 : kind = 2 := by omega
                have hmn : (0 ≤ now ∧ now ≤ 105190559) ∧ 0 ≤ now + wt ∧ now + wt ≤ 105190559 := by simpa [rBad, hk2, isMin] using hB
                refine D.ev 0 rfl (by kernel_rfl) rfl hs.to (fun _ hS => E.loadRowC rfl Try.underlying52 rfl Try.sz52 (by first | exact ⟨hS.ldA, by first | rfl | assumption | exact encV_len _ | exact Enc.len _ | exact len_ub (by assumption)⟩ | exact ⟨hS.ldP rfl, by first | rfl | assumption | exact encV_len _ | exact Enc.len _ | exact len_ub (by assumption)⟩ | exact ⟨hS.ldM rfl rfl, by first | rfl | assumption | exact encV_len _ | exact Enc.len _ | exact len_ub (by assumption)⟩ | exact ⟨hS.ldM (by assumption) (by first | rfl | assumption), by first | rfl | assumption | exact encV_len _ | exact Enc.len _ | exact len_ub (by assumption)⟩ | exact ⟨by assumption, by first | rfl | assumption | exact encV_len _ | exact Enc.len _ | exact len_ub (by assumption)⟩ | exact ⟨(by assumption : ∀ w', Sat _ w' _ → At w' _ _ _) _ hS, by first | rfl | assumption | exact encV_len _ | exact Enc.len _ | exact len_ub (by assumption)⟩ | exact hS.ldp | exact At.partC (by assumption) | exact At.partC ((by assumption : ∀ w', Sat _ w' _ → At w' _ _ _) _ hS))) ?_
                refine D.ev 2 rfl (by kernel_rfl) rfl hs.to (fun _ hS => E.load1 rfl Try.underlying50 rfl (by first | exact hS.ldc | exact hS.ld rfl | exact hS.ld (by assumption) | exact by assumption | exact At.cellC (by assumption) | exact At.cellC ((by assumption : ∀ w', Sat _ w' _ → At w' _ _ _) _ hS) | exact (by assumption : ∀ w', Sat _ w' _ → World.cell? w' _ = some _) _ hS)) ?_
                refine D.ev 6 rfl (by kernel_rfl) rfl hs.to (fun _ hS => E.loadRowC rfl Try.underlying29 rfl Try.sz29 (by first | exact ⟨hS.ldA, by first | rfl | assumption | exact encV_len _ | exact Enc.len _ | exact len_ub (by assumption)⟩ | exact ⟨hS.ldP rfl, by first | rfl | assumption | exact encV_len _ | exact Enc.len _ | exact len_ub (by assumption)⟩ | exact ⟨hS.ldM rfl rfl, by first | rfl | assumption | exact encV_len _ | exact Enc.len _ | exact len_ub (by assumption)⟩ | exact ⟨hS.ldM (by assumption) (by first | rfl | assumption), by first | rfl | assumption | exact encV_len _ | exact Enc.len _ | exact len_ub (by assumption)⟩ | exact ⟨by assumption, by first | rfl | assumption | exact encV_len _ | exact Enc.len _ | exact len_ub (by assumption)⟩ | exact ⟨(by assumption : ∀ w', Sat _ w' _ → At w' _ _ _) _ hS, by first | rfl | assumption | exact encV_len _ | exact Enc.len _ | exact len_ub (by assumption)⟩ | exact hS.ldp | exact At.partC (by assumption) | exact At.partC ((by assumption : ∀ w', Sat _ w' _ → At w' _ _ _) _ hS))) ?_
                refine D.ev 9 rfl (by kernel_rfl) rfl hs.to (fun _ hS => E.load1 rfl Try.underlying3 rfl (by first | exact hS.ldc | exact hS.ld rfl | exact hS.ld (by assumption) | exact by assumption | exact At.cellC (by assumption) | exact At.cellC ((by assumption : ∀ w', Sat _ w' _ → At w' _ _ _) _ hS) | exact (by assumption : ∀ w', Sat _ w' _ → World.cell? w' _ = some _) _ hS)) ?_
                refine D.evP 10 rfl (by kernel_rfl) rfl (fun _ => hs.to) (fun _ => E.add rfl rfl (by omega) (by omega)) ?_
                refine D.ev 12 rfl (by kernel_rfl) rfl hs.to (fun _ hS => E.load1 rfl Try.underlying3 rfl (by first | exact hS.ldc | exact hS.ld rfl | exact hS.ld (by assumption) | exact by assumption | exact At.cellC (by assumption) | exact At.cellC ((by assumption : ∀ w', Sat _ w' _ → At w' _ _ _) _ hS) | exact (by assumption : ∀ w', Sat _ w' _ → World.cell? w' _ = some _) _ hS)) ?_
                refine D.evP 13 rfl (by kernel_rfl) rfl (fun _ => hs.to) (fun _ => E.add rfl rfl (by omega) (by omega)) ?_
                refine D.evP 14 rfl (by kernel_rfl) rfl (fun _ => hs.to) (fun _ => E.buildG (r := encRE ⟨o.id, now + wt, o.tries + 1, false⟩) rfl Try.underlying90 Try.zr90 Try.ql90 (by kernel_rfl) (by kernel_rfl) ⟨⟨_, rfl, by first | rfl | exact vsz _ | simp [Value.cells, *]⟩, ⟨_, rfl, by first | rfl | exact vsz _ | simp [Value.cells, *]⟩, ⟨_, rfl, by first | rfl | exact vsz _ | simp [Value.cells, *]⟩, trivial⟩ (by first | rfl | simp [setF, fieldsOf, Value.cells])) ?_
                refine D.act2 4 15 rfl rfl (by kernel_rfl) ?_ ?_
                · refine R.call ⟨_, _, Try.func76, rfl, by kernel_rfl⟩ rfl rfl (without_any (L := L) i hs hil hL) ?_
                  rintro v76 w76 ⟨F76, r76, hs⟩
                  have hl76 : (L.take i ++ L.drop (i + 1)).length ≤ L.length := by simp; omega
                  refine D.back hs.to ?_
                  refine D.act 15 rfl (by kernel_rfl) ?_
                  refine R.buildSliceA rfl Try.underlying50 Try.sz90 Try.zr90 rfl (by first | rfl | assumption | exact encV_len _ | exact Enc.len _ | simp [*]) (by decide) (by decide) ?_
                  intro b87 w87 n87
                  have hs := hs.new n87
                  refine D.back hs.to ?_
                  refine D.act 16 rfl (by kernel_rfl) ?_
                  refine R.capp1 (⟨o.id, now + wt, o.tries + 1, false⟩) hs rfl rfl Try.underlying50 Try.by90 (by rfl) rfl (by first | exact hs.ldA | exact hs.ldP rfl | exact by assumption) (by decide) (by first | omega | (simp only [List.length_append, List.length_cons, List.length_nil] at *; omega)) (by first | omega | (simp only [List.length_append, List.length_cons, List.length_nil] at *; omega)) ?_
                  intro v88 w88 F88 r88 hs
                  refine D.back hs.to ?_
                  refine D.act 17 rfl (by kernel_rfl) ?_
                  refine R.call ⟨_, _, Try.func72, rfl, by kernel_rfl⟩ rfl rfl (with_any ⟨c, wt, inc, L⟩ _ v88 rfl RowL.oneC hs) ?_
                  rintro _ w89 ⟨rfl, hs⟩
                  refine D.backT (by kernel_rfl) ?_
                  refine D.act 18 rfl (by kernel_rfl) ?_
                  first | refine R.cstoreAll hs rfl rfl Try.sz52 (by first | rfl | assumption | exact encV_len _ | exact Enc.len _ | exact len_ub (by assumption) | simp [*]) (by first | rfl | assumption | exact encV_len _ | exact Enc.len _ | exact len_ub (by assumption) | simp [*]) (by first | assumption | exact OneL.all | exact Enc.one _ | exact ub_all _ | (repeat' (first | refine List.forall_mem_cons.2 ⟨?_, ?_⟩ | exact List.forall_mem_nil _ | rfl | exact OneC.one | exact KRow.oneC' (by assumption)))) ?_ | refine R.cstore hs rfl rfl Try.sz52 (by first | rfl | assumption | exact encV_len _ | exact Enc.len _ | exact len_ub (by assumption) | simp [*]) (by simp [*]) (by first | assumption | exact OneL.all | exact Enc.one _ | exact ub_all _ | (repeat' (first | refine List.forall_mem_cons.2 ⟨?_, ?_⟩ | exact List.forall_mem_nil _ | rfl | exact OneC.one | exact KRow.oneC' (by assumption)))) ?_
                  intro w16_18 hs
                  try simp only [List.set_cons_zero, List.set_cons_succ] at hs
                  refine D.backT (by kernel_rfl) ?_
                  refine D.evP 19 rfl (by kernel_rfl) rfl (np (by kernel_rfl)) (fun _ => E.assign rfl) ?_
                  refine D.done rfl (by kernel_rfl) ?_
                  refine X.keep [(8, _), (9, _)] ⟨rfl, rfl, trivial⟩ ?_
                  refine X.next ?_
                  refine C.ret ?_
                  refine X.resCT rfl rfl Try.underlying52 rfl Try.sz52 (by first | exact ⟨hs.ldA, by first | rfl | assumption | exact encV_len _ | exact Enc.len _ | exact len_ub (by assumption)⟩ | exact ⟨hs.ldP rfl, by first | rfl | assumption | exact encV_len _ | exact Enc.len _ | exact len_ub (by assumption)⟩ | exact ⟨by assumption, by first | rfl | assumption | exact encV_len _ | exact Enc.len _ | exact len_ub (by assumption)⟩) rfl ?_
                  rw [if_neg h51, if_neg h64, hT]
                  rw [hoid] at r88
                  exact RPost.new (Hs := Hs) (s := ⟨c, wt, inc, rRemL a L ++ [⟨a, now + wt, o.tries + 1, false⟩]⟩) (by rw [rRemL_at ho hp hno]; exact r88) hs.to
                · refine R.buildSliceA rfl Try.underlying50 Try.sz90 Try.zr90 rfl (by first | rfl | assumption | exact encV_len _ | exact Enc.len _ | simp [*]) (by decide) (by decide) ?_
                  intro b87 w87 n87
                  have hs := hs.new n87
                  refine D.back hs.to ?_
                  refine D.act 4 rfl (by kernel_rfl) ?_
                  refine R.call ⟨_, _, Try.func76, rfl, by kernel_rfl⟩ rfl rfl (without_any (L := L) i hs hil hL) ?_
                  rintro v76 w76 ⟨F76, r76, hs⟩
                  have hl76 : (L.take i ++ L.drop (i + 1)).length ≤ L.length := by simp; omega
                  refine D.back hs.to ?_
                  refine D.act 16 rfl (by kernel_rfl) ?_
                  refine R.capp1 (⟨o.id, now + wt, o.tries + 1, false⟩) hs rfl rfl Try.underlying50 Try.by90 (by rfl) rfl (by first | exact hs.ldA | exact hs.ldP rfl | exact by assumption) (by decide) (by first | omega | (simp only [List.length_append, List.length_cons, List.length_nil] at *; omega)) (by first | omega | (simp only [List.length_append, List.length_cons, List.length_nil] at *; omega)) ?_
                  intro v88 w88 F88 r88 hs
                  refine D.back hs.to ?_
                  refine D.act 17 rfl (by kernel_rfl) ?_
                  refine R.call ⟨_, _, Try.func72, rfl, by kernel_rfl⟩ rfl rfl (with_any ⟨c, wt, inc, L⟩ _ v88 rfl RowL.oneC hs) ?_
                  rintro _ w89 ⟨rfl, hs⟩
                  refine D.backT (by kernel_rfl) ?_
                  refine D.act 18 rfl (by kernel_rfl) ?_
                  first | refine R.cstoreAll hs rfl rfl Try.sz52 (by first | rfl | assumption | exact encV_len _ | exact Enc.len _ | exact len_ub (by assumption) | simp [*]) (by first | rfl | assumption | exact encV_len _ | exact Enc.len _ | exact len_ub (by assumption) | simp [*]) (by first | assumption | exact OneL.all | exact Enc.one _ | exact ub_all _ | (repeat' (first | refine List.forall_mem_cons.2 ⟨?_, ?_⟩ | exact List.forall_mem_nil _ | rfl | exact OneC.one | exact KRow.oneC' (by assumption)))) ?_ | refine R.cstore hs rfl rfl Try.sz52 (by first | rfl | assumption | exact encV_len _ | exact Enc.len _ | exact len_ub (by assumption) | simp [*]) (by simp [*]) (by first | assumption | exact OneL.all | exact Enc.one _ | exact ub_all _ | (repeat' (first | refine List.forall_mem_cons.2 ⟨?_, ?_⟩ | exact List.forall_mem_nil _ | rfl | exact OneC.one | exact KRow.oneC' (by assumption)))) ?_
                  intro w16_18 hs
                  try simp only [List.set_cons_zero, List.set_cons_succ] at hs
                  refine D.backT (by kernel_rfl) ?_
                  refine D.evP 19 rfl (by kernel_rfl) rfl (np (by kernel_rfl)) (fun _ => E.assign rfl) ?_
                  refine D.done rfl (by kernel_rfl) ?_
                  refine X.keep [(8, _), (9, _)] ⟨rfl, rfl, trivial⟩ ?_
                  refine X.next ?_
                  refine C.ret ?_
                  refine X.resCT rfl rfl Try.underlying52 rfl Try.sz52 (by first | exact ⟨hs.ldA, by first | rfl | assumption | exact encV_len _ | exact Enc.len _ | exact len_ub (by assumption)⟩ | exact ⟨hs.ldP rfl, by first | rfl | assumption | exact encV_len _ | exact Enc.len _ | exact len_ub (by assumption)⟩ | exact ⟨by assumption, by first | rfl | assumption | exact encV_len _ | exact Enc.len _ | exact len_ub (by assumption)⟩) rfl ?_
                  rw [if_neg h51, if_neg h64, hT]
                  rw [hoid] at r88
                  exact RPost.new (Hs := Hs) (s := ⟨c, wt, inc, rRemL a L ++ [⟨a, now + wt, o.tries + 1, false⟩]⟩) (by rw [rRemL_at ho hp hno]; exact r88) hs.to
  · refine R.gskip rfl rfl rfl ?_
    refine R.gskip rfl rfl rfl ?_
    refine R.gskip rfl rfl rfl ?_
    refine R.gskip rfl rfl rfl ?_
    refine R.gundef rfl rfl ?_
    refine R.gundef rfl rfl ?_
    refine R.gundef rfl rfl ?_
    refine R.gundef rfl rfl ?_
    refine R.gundef rfl rfl ?_
    refine R.gundef rfl rfl ?_
    refine R.gskip rfl rfl rfl ?_
    refine R.ev rfl (E.pickF rfl rfl) ?_
    refine R.done ?_
    refine X.keep [(1, _), (3, _), (4, _), (6, _), (8, _), (27, _)] ⟨rfl, rfl, rfl, rfl, rfl, rfl, trivial⟩ ?_
    refine X.next ?_
    refine C.cfalse rfl ?_
    refine C.skip ?_
    refine X.next ?_
    refine C.seq ?_
    refine C.region ?_
    have hB : ¬ rBad ⟨c, wt, inc, L⟩ kind now := by unfold rBad; simp_all
    refine R.ev rfl (E.loadRowC rfl Try.underlying52 rfl Try.sz52 (by first | exact ⟨hs.ldA, by first | rfl | assumption | exact encV_len _ | exact Enc.len _ | exact len_ub (by assumption)⟩ | exact ⟨hs.ldP rfl, by first | rfl | assumption | exact encV_len _ | exact Enc.len _ | exact len_ub (by assumption)⟩ | exact ⟨hs.ldM rfl rfl, by first | rfl | assumption | exact encV_len _ | exact Enc.len _ | exact len_ub (by assumption)⟩ | exact ⟨hs.ldM (by assumption) (by first | rfl | assumption), by first | rfl | assumption | exact encV_len _ | exact Enc.len _ | exact len_ub (by assumption)⟩ | exact ⟨by assumption, by first | rfl | assumption | exact encV_len _ | exact Enc.len _ | exact len_ub (by assumption)⟩ | exact hs.ldp | exact At.partC (by assumption))) ?_
    refine R.ev rfl (E.loadRowC rfl Try.underlying29 rfl Try.sz29 (by first | exact ⟨hs.ldA, by first | rfl | assumption | exact encV_len _ | exact Enc.len _ | exact len_ub (by assumption)⟩ | exact ⟨hs.ldP rfl, by first | rfl | assumption | exact encV_len _ | exact Enc.len _ | exact len_ub (by assumption)⟩ | exact ⟨hs.ldM rfl rfl, by first | rfl | assumption | exact encV_len _ | exact Enc.len _ | exact len_ub (by assumption)⟩ | exact ⟨hs.ldM (by assumption) (by first | rfl | assumption), by first | rfl | assumption | exact encV_len _ | exact Enc.len _ | exact len_ub (by assumption)⟩ | exact ⟨by assumption, by first | rfl | assumption | exact encV_len _ | exact Enc.len _ | exact len_ub (by assumption)⟩ | exact hs.ldp | exact At.partC (by assumption))) ?_
    refine R.call ⟨_, _, Try.func61, rfl, by kernel_rfl⟩ rfl rfl (rfind_any (s := ⟨c, wt, inc, L⟩) a hs hL) ?_
    rintro _ w5 ⟨rfl, hs⟩
    refine R.ev rfl (E.assign rfl) ?_
    refine R.done ?_
    refine X.keep [(1, _), (3, _), (4, _), (8, _), (10, _)] ⟨rfl, rfl, rfl, rfl, rfl, trivial⟩ ?_
    refine X.next ?_
    refine C.seq ?_
    refine C.seq ?_
    refine C.region ?_
    refine R.ev rfl (E.move rfl) ?_
    refine R.ev rfl ((E.lss rfl rfl).isB (c := !rHas a L) rIdx_lt) ?_
    refine R.done ?_
    refine X.keep [(1, _), (3, _), (4, _), (8, _), (10, _), (33, _)] ⟨rfl, rfl, rfl, rfl, rfl, rfl, trivial⟩ ?_
    refine X.next ?_
    refine C.cbool rfl (fun h33 => ?_) (fun h33 => ?_)
    · have hh : rHas a L = false := by simpa using h33
      refine C.seq ?_
      refine C.region ?_
      refine R.ev rfl (E.loadRowC rfl Try.underlying52 rfl Try.sz52 (by first | exact ⟨hs.ldA, by first | rfl | assumption | exact encV_len _ | exact Enc.len _ | exact len_ub (by assumption)⟩ | exact ⟨hs.ldP rfl, by first | rfl | assumption | exact encV_len _ | exact Enc.len _ | exact len_ub (by assumption)⟩ | exact ⟨hs.ldM rfl rfl, by first | rfl | assumption | exact encV_len _ | exact Enc.len _ | exact len_ub (by assumption)⟩ | exact ⟨hs.ldM (by assumption) (by first | rfl | assumption), by first | rfl | assumption | exact encV_len _ | exact Enc.len _ | exact len_ub (by assumption)⟩ | exact ⟨by assumption, by first | rfl | assumption | exact encV_len _ | exact Enc.len _ | exact len_ub (by assumption)⟩ | exact hs.ldp | exact At.partC (by assumption))) ?_
      first | refine R.cstoreAll hs rfl rfl Try.sz52 (by first | rfl | assumption | exact encV_len _ | exact Enc.len _ | exact len_ub (by assumption) | simp [*]) (by first | rfl | assumption | exact encV_len _ | exact Enc.len _ | exact len_ub (by assumption) | simp [*]) (by first | assumption | exact OneL.all | exact Enc.one _ | exact ub_all _ | (repeat' (first | refine List.forall_mem_cons.2 ⟨?_, ?_⟩ | exact List.forall_mem_nil _ | rfl | exact OneC.one | exact KRow.oneC' (by assumption)))) ?_ | refine R.cstore hs rfl rfl Try.sz52 (by first | rfl | assumption | exact encV_len _ | exact Enc.len _ | exact len_ub (by assumption) | simp [*]) (by simp [*]) (by first | assumption | exact OneL.all | exact Enc.one _ | exact ub_all _ | (repeat' (first | refine List.forall_mem_cons.2 ⟨?_, ?_⟩ | exact List.forall_mem_nil _ | rfl | exact OneC.one | exact KRow.oneC' (by assumption)))) ?_
      intro w5_1 hs
      try simp only [List.set_cons_zero, List.set_cons_succ] at hs
      refine R.ev rfl (E.assign rfl) ?_
      refine R.done ?_
      refine X.keep [(8, _), (9, _)] ⟨rfl, rfl, trivial⟩ ?_
      refine X.next ?_
      refine C.ret ?_
      refine X.thenRet ?_
      refine X.resCT rfl rfl Try.underlying52 rfl Try.sz52 (by first | exact ⟨hs.ldA, by first | rfl | assumption | exact encV_len _ | exact Enc.len _ | exact len_ub (by assumption)⟩ | exact ⟨hs.ldP rfl, by first | rfl | assumption | exact encV_len _ | exact Enc.len _ | exact len_ub (by assumption)⟩ | exact ⟨by assumption, by first | rfl | assumption | exact encV_len _ | exact Enc.len _ | exact len_ub (by assumption)⟩) rfl ?_
      have hE : rChE ⟨c, wt, inc, L⟩ kind a now = 8 := by rw [rChE, if_neg hB]; simp only [rfind_no hh]
      rw [rChS, hE, if_neg (by decide)]
      exact RPost.same (s := ⟨c, wt, inc, L⟩) hr hs.to
    · have hh : rHas a L = true := by simpa using h33
      obtain ⟨i, o, hi, ho, hp, hno⟩ := rHas_idx hh
      rw [show idxP (rIs a) ({ cap := c, wait := wt, inc := inc, L := L } : RB).L = ((i : Nat) : Int) from hi]
      have hil := (List.getElem?_eq_some_iff.1 ho).1
      have hfi := rfind_at ho hp hno
      refine C.skip ?_
      refine X.next ?_
      refine C.seq ?_
      refine C.seq ?_
      refine C.region ?_
      obtain ⟨y, bk, off, hy, my, ly, rfl, Ay⟩ := hs.el (i := i) (ad := ad) (n := L.length) (c := cap) hil
      rw [ho] at hy
      simp only [Option.some.injEq] at hy
      subst hy
      have ay := Ay _ hs
      have hto := htr o my
      first | refine R.ev rfl (E.fieldAddr0 3 rfl Try.underlying52 rfl Try.sz50 rfl) ?_ | refine R.ev rfl (E.fieldAddrN 3 rfl Try.underlying52 rfl Try.sz50 rfl) ?_
      refine R.ev rfl (E.load1 rfl Try.underlying50 rfl (by first | exact hs.ldc | exact hs.ld rfl | exact hs.ld (by assumption) | exact by assumption | exact At.cellC (by assumption))) ?_
      refine R.ev rfl (E.move rfl) ?_
      refine R.ev rfl (E.indexAddr rfl rfl Try.underlying50 Try.sz90 rfl (by first | omega | decide)) ?_
      first | refine R.ev rfl (E.fieldAddr0 34 rfl Try.underlying90 rfl Try.sz4 rfl) ?_ | refine R.ev rfl (E.fieldAddrN 34 rfl Try.underlying90 rfl Try.sz4 rfl) ?_
      refine R.ev rfl (E.load1 rfl Try.underlying4 rfl (by first | exact hs.ldc | exact hs.ld rfl | exact hs.ld (by assumption) | exact by assumption | exact At.cellC (by assumption))) ?_
      refine R.ev rfl (E.move rfl) ?_
      refine R.ev rfl (E.eql rfl rfl) ?_
      refine R.ev rfl (E.eqlB rfl rfl Try.underlying4) ?_
      refine R.done ?_
      refine X.keep [(1, _), (3, _), (4, _), (8, _), (10, _), (43, _)] ⟨rfl, rfl, rfl, rfl, rfl, rfl, trivial⟩ ?_
      refine X.next ?_
      refine C.cbool rfl (fun h43 => ?_) (fun h43 => ?_)
      · refine C.seq ?_
        refine C.region ?_
        refine R.ev rfl (E.loadRowC rfl Try.underlying52 rfl Try.sz52 (by first | exact ⟨hs.ldA, by first | rfl | assumption | exact encV_len _ | exact Enc.len _ | exact len_ub (by assumption)⟩ | exact ⟨hs.ldP rfl, by first | rfl | assumption | exact encV_len _ | exact Enc.len _ | exact len_ub (by assumption)⟩ | exact ⟨hs.ldM rfl rfl, by first | rfl | assumption | exact encV_len _ | exact Enc.len _ | exact len_ub (by assumption)⟩ | exact ⟨hs.ldM (by assumption) (by first | rfl | assumption), by first | rfl | assumption | exact encV_len _ | exact Enc.len _ | exact len_ub (by assumption)⟩ | exact ⟨by assumption, by first | rfl | assumption | exact encV_len _ | exact Enc.len _ | exact len_ub (by assumption)⟩ | exact hs.ldp | exact At.partC (by assumption))) ?_
        first | refine R.cstoreAll hs rfl rfl Try.sz52 (by first | rfl | assumption | exact encV_len _ | exact Enc.len _ | exact len_ub (by assumption) | simp [*]) (by first | rfl | assumption | exact encV_len _ | exact Enc.len _ | exact len_ub (by assumption) | simp [*]) (by first | assumption | exact OneL.all | exact Enc.one _ | exact ub_all _ | (repeat' (first | refine List.forall_mem_cons.2 ⟨?_, ?_⟩ | exact List.forall_mem_nil _ | rfl | exact OneC.one | exact KRow.oneC' (by assumption)))) ?_ | refine R.cstore hs rfl rfl Try.sz52 (by first | rfl | assumption | exact encV_len _ | exact Enc.len _ | exact len_ub (by assumption) | simp [*]) (by simp [*]) (by first | assumption | exact OneL.all | exact Enc.one _ | exact ub_all _ | (repeat' (first | refine List.forall_mem_cons.2 ⟨?_, ?_⟩ | exact List.forall_mem_nil _ | rfl | exact OneC.one | exact KRow.oneC' (by assumption)))) ?_
        intro w7_1 hs
        try simp only [List.set_cons_zero, List.set_cons_succ] at hs
        refine R.ev rfl (E.assign rfl) ?_
        refine R.done ?_
        refine X.keep [(8, _), (9, _)] ⟨rfl, rfl, trivial⟩ ?_
        refine X.next ?_
        refine C.ret ?_
        refine X.thenRet ?_
        refine X.resCT rfl rfl Try.underlying52 rfl Try.sz52 (by first | exact ⟨hs.ldA, by first | rfl | assumption | exact encV_len _ | exact Enc.len _ | exact len_ub (by assumption)⟩ | exact ⟨hs.ldP rfl, by first | rfl | assumption | exact encV_len _ | exact Enc.len _ | exact len_ub (by assumption)⟩ | exact ⟨by assumption, by first | rfl | assumption | exact encV_len _ | exact Enc.len _ | exact len_ub (by assumption)⟩) rfl ?_
        have hE : rChE ⟨c, wt, inc, L⟩ kind a now = 10 := by rw [rChE, if_neg hB]; simp only [hfi]; rw [if_pos (by simpa using h43)]
        rw [rChS, hE, if_neg (by decide)]
        exact RPost.same (s := ⟨c, wt, inc, L⟩) hr hs.to
      · refine C.skip ?_
        refine X.next ?_
        refine C.seq ?_
        refine C.region ?_
        have hE : rChE ⟨c, wt, inc, L⟩ kind a now = 0 := by rw [rChE, if_neg hB]; simp only [hfi]; rw [if_neg (by simpa using h43)]
        rw [rChS, hE, if_pos rfl]
        have hoid : o.id = a := of_decide_eq_true hp
        have hT : rTries a L = o.tries := by unfold rTries; rw [hfi]
        first | refine R.ev rfl (E.fieldAddr0 3 rfl Try.underlying52 rfl Try.sz50 rfl) ?_ | refine R.ev rfl (E.fieldAddrN 3 rfl Try.underlying52 rfl Try.sz50 rfl) ?_
        refine R.ev rfl (E.load1 rfl Try.underlying50 rfl (by first | exact hs.ldc | exact hs.ld rfl | exact hs.ld (by assumption) | exact by assumption | exact At.cellC (by assumption))) ?_
        refine R.ev rfl (E.move rfl) ?_
        refine R.ev rfl (E.indexAddr rfl rfl Try.underlying50 Try.sz90 rfl (by first | omega | decide)) ?_
        refine R.ev rfl (E.loadRowC rfl Try.underlying90 rfl Try.sz90 (by first | exact ⟨hs.ldA, by first | rfl | assumption | exact encV_len _ | exact Enc.len _ | exact len_ub (by assumption)⟩ | exact ⟨hs.ldP rfl, by first | rfl | assumption | exact encV_len _ | exact Enc.len _ | exact len_ub (by assumption)⟩ | exact ⟨hs.ldM rfl rfl, by first | rfl | assumption | exact encV_len _ | exact Enc.len _ | exact len_ub (by assumption)⟩ | exact ⟨hs.ldM (by assumption) (by first | rfl | assumption), by first | rfl | assumption | exact encV_len _ | exact Enc.len _ | exact len_ub (by assumption)⟩ | exact ⟨by assumption, by first | rfl | assumption | exact encV_len _ | exact Enc.len _ | exact len_ub (by assumption)⟩ | exact hs.ldp | exact At.partC (by assumption))) ?_
        refine R.sallocA hs Try.zr90 rfl ?_
        intro b11 w11 hs
        first | refine R.cstoreAll hs rfl rfl Try.sz90 (by first | rfl | assumption | exact encV_len _ | exact Enc.len _ | exact len_ub (by assumption) | simp [*]) (by first | rfl | assumption | exact encV_len _ | exact Enc.len _ | exact len_ub (by assumption) | simp [*]) (by first | assumption | exact OneL.all | exact Enc.one _ | exact ub_all _ | (repeat' (first | refine List.forall_mem_cons.2 ⟨?_, ?_⟩ | exact List.forall_mem_nil _ | rfl | exact OneC.one | exact KRow.oneC' (by assumption)))) ?_ | refine R.cstore hs rfl rfl Try.sz90 (by first | rfl | assumption | exact encV_len _ | exact Enc.len _ | exact len_ub (by assumption) | simp [*]) (by simp [*]) (by first | assumption | exact OneL.all | exact Enc.one _ | exact ub_all _ | (repeat' (first | refine List.forall_mem_cons.2 ⟨?_, ?_⟩ | exact List.forall_mem_nil _ | rfl | exact OneC.one | exact KRow.oneC' (by assumption)))) ?_
        intro w8_6 hs
        try simp only [List.set_cons_zero, List.set_cons_succ] at hs
        refine R.done ?_
        refine X.keep [(1, _), (3, _), (4, _), (8, _), (10, _), (11, _)] ⟨rfl, rfl, rfl, rfl, rfl, rfl, trivial⟩ ?_
        refine X.next ?_
        refine C.seq ?_
        refine C.seq ?_
        refine C.region ?_
        refine R.ev rfl (E.move rfl) ?_
        refine R.done ?_
        refine X.keep [(3, _), (4, _), (8, _), (10, _), (11, _), (50, _)] ⟨rfl, rfl, rfl, rfl, rfl, rfl, trivial⟩ ?_
        refine X.next ?_
        refine C.block ?_
        refine C.seq ?_
        refine C.region ?_
        refine R.ev rfl (E.eql rfl rfl) ?_
        refine R.ev rfl (E.assign rfl) ?_
        refine R.done ?_
        refine X.keep [(3, _), (4, _), (8, _), (10, _), (11, _), (50, _), (51, _)] ⟨rfl, rfl, rfl, rfl, rfl, rfl, rfl, trivial⟩ ?_
        refine X.next ?_
        refine C.cdec rfl (fun h51 => ?_) (fun h51 => ?_)
        · refine C.seq ?_
          refine C.region ?_
          refine R.sbuild0 (enc := encRE) hs Try.underlying50 Try.sz90 rfl ?_
          intro v53 w53 F53 r53 nn53 hs
          first | refine R.ev rfl (E.fieldAddr0 3 rfl Try.underlying52 rfl Try.sz50 rfl) ?_ | refine R.ev rfl (E.fieldAddrN 3 rfl Try.underlying52 rfl Try.sz50 rfl) ?_
          refine R.ev rfl (E.load1 rfl Try.underlying50 rfl (by first | exact hs.ldc | exact hs.ld rfl | exact hs.ld (by assumption) | exact by assumption | exact At.cellC (by assumption))) ?_
          refine R.cappSl hs rfl rfl Try.underlying50 Try.by90 (by rfl) rfl (by decide) (by first | omega | (simp only [List.length_append, List.length_cons, List.length_nil] at *; omega)) (by first | omega | (simp only [List.length_append, List.length_cons, List.length_nil] at *; omega)) ?_
          intro v56 w56 F56 r56 hs
          rw [List.nil_append] at r56
          obtain ⟨ad5, cap5, rfl, hc5, _, had5⟩ := r56.val
          obtain ⟨g5, rfl⟩ := had5 (by intro e; rw [e] at hil; simp at hil)
          refine R.ev rfl (E.assign rfl) ?_
          refine R.done ?_
          refine X.keep [(4, _), (8, _), (10, _), (12, _)] ⟨rfl, rfl, rfl, rfl, trivial⟩ ?_
          refine X.next ?_
          refine C.seq ?_
          refine C.region ?_
          refine R.ev rfl (E.move rfl) ?_
          refine R.ev rfl (E.move rfl) ?_
          refine R.ev rfl (E.indexAddr rfl rfl Try.underlying50 Try.sz90 rfl (by first | omega | decide)) ?_
          first | refine R.ev rfl (E.fieldAddr0 34 rfl Try.underlying90 rfl Try.sz4 rfl) ?_ | refine R.ev rfl (E.fieldAddrN 34 rfl Try.underlying90 rfl Try.sz4 rfl) ?_
          refine R.ssetF (el' := { o with out := true }) i (hs.front (F := F56)) r56 rfl rfl Try.sz4 ho ?_ (off := 34) (by omega) (by decide) rfl ?_
          · simp only [encRE]
            rw [List.set_append_right _ _ (by simp [o.id.2])]
            simp [o.id.2]
          intro w12 F12 r12 hs1
          have hs := hs.back (F := F56) hs1
          rw [← rOutL_at ho hp hno] at r12
          refine R.done ?_
          refine X.keep [(4, _), (8, _), (12, _)] ⟨rfl, rfl, rfl, trivial⟩ ?_
          refine X.next ?_
          refine C.seq ?_
          refine C.region ?_
          refine R.ev rfl (E.loadRowC rfl Try.underlying52 rfl Try.sz52 (by first | exact ⟨hs.ldA, by first | rfl | assumption | exact encV_len _ | exact Enc.len _ | exact len_ub (by assumption)⟩ | exact ⟨hs.ldP rfl, by first | rfl | assumption | exact encV_len _ | exact Enc.len _ | exact len_ub (by assumption)⟩ | exact ⟨hs.ldM rfl rfl, by first | rfl | assumption | exact encV_len _ | exact Enc.len _ | exact len_ub (by assumption)⟩ | exact ⟨hs.ldM (by assumption) (by first | rfl | assumption), by first | rfl | assumption | exact encV_len _ | exact Enc.len _ | exact len_ub (by assumption)⟩ | exact ⟨by assumption, by first | rfl | assumption | exact encV_len _ | exact Enc.len _ | exact len_ub (by assumption)⟩ | exact hs.ldp | exact At.partC (by assumption))) ?_
          refine R.ev rfl (E.move rfl) ?_
          refine R.call ⟨_, _, Try.func72, rfl, by kernel_rfl⟩ rfl rfl (with_any ⟨c, wt, inc, L⟩ _ _ rfl rfl hs) ?_
          rintro _ w63 ⟨rfl, hs⟩
          first | refine R.cstoreAll hs rfl rfl Try.sz52 (by first | rfl | assumption | exact encV_len _ | exact Enc.len _ | exact len_ub (by assumption) | simp [*]) (by first | rfl | assumption | exact encV_len _ | exact Enc.len _ | exact len_ub (by assumption) | simp [*]) (by first | assumption | exact OneL.all | exact Enc.one _ | exact ub_all _ | (repeat' (first | refine List.forall_mem_cons.2 ⟨?_, ?_⟩ | exact List.forall_mem_nil _ | rfl | exact OneC.one | exact KRow.oneC' (by assumption)))) ?_ | refine R.cstore hs rfl rfl Try.sz52 (by first | rfl | assumption | exact encV_len _ | exact Enc.len _ | exact len_ub (by assumption) | simp [*]) (by simp [*]) (by first | assumption | exact OneL.all | exact Enc.one _ | exact ub_all _ | (repeat' (first | refine List.forall_mem_cons.2 ⟨?_, ?_⟩ | exact List.forall_mem_nil _ | rfl | exact OneC.one | exact KRow.oneC' (by assumption)))) ?_
          intro w13_3 hs
          try simp only [List.set_cons_zero, List.set_cons_succ] at hs
          refine R.ev rfl (E.assign rfl) ?_
          refine R.done ?_
          refine X.keep [(8, _), (9, _)] ⟨rfl, rfl, trivial⟩ ?_
          refine X.next ?_
          refine C.ret ?_
          refine X.blockRet ?_
          refine X.thenRet ?_
          refine X.resCT rfl rfl Try.underlying52 rfl Try.sz52 (by first | exact ⟨hs.ldA, by first | rfl | assumption | exact encV_len _ | exact Enc.len _ | exact len_ub (by assumption)⟩ | exact ⟨hs.ldP rfl, by first | rfl | assumption | exact encV_len _ | exact Enc.len _ | exact len_ub (by assumption)⟩ | exact ⟨by assumption, by first | rfl | assumption | exact encV_len _ | exact Enc.len _ | exact len_ub (by assumption)⟩) rfl ?_
          rw [if_pos h51]
          exact RPost.new (Hs := Hs) (s := ⟨c, wt, inc, rOutL a L⟩) r12 hs.to
        · refine C.seq ?_
          refine C.region ?_
          refine R.ev rfl (E.eql rfl rfl) ?_
          refine R.ev rfl (E.assign rfl) ?_
          refine R.done ?_
          refine X.keep [(3, _), (4, _), (8, _), (10, _), (11, _), (64, _)] ⟨rfl, rfl, rfl, rfl, rfl, rfl, trivial⟩ ?_
          refine X.next ?_
          refine C.cdec rfl (fun h64 => ?_) (fun h64 => ?_)
          · refine C.seq ?_
            refine C.drawn (SatS hs) ([0, 2], [1, 3, 7]) (by kernel_rfl) ?_
            have hs := hs.drew
            first | refine D.evP 1 rfl (by kernel_rfl) rfl (fun _ => hs.to) (fun _ => E.fieldAddr0 3 rfl Try.underlying52 rfl Try.sz50 rfl) ?_ | refine D.evP 1 rfl (by kernel_rfl) rfl (fun _ => hs.to) (fun _ => E.fieldAddrN 3 rfl Try.underlying52 rfl Try.sz50 rfl) ?_
            refine D.evP 3 rfl (by kernel_rfl) rfl (fun _ => hs.to) (fun _ => E.move rfl) ?_
            refine D.ev 0 rfl (by kernel_rfl) rfl hs.to (fun _ hS => E.loadRowC rfl Try.underlying52 rfl Try.sz52 (by first | exact ⟨hS.ldA, by first | rfl | assumption | exact encV_len _ | exact Enc.len _ | exact len_ub (by assumption)⟩ | exact ⟨hS.ldP rfl, by first | rfl | assumption | exact encV_len _ | exact Enc.len _ | exact len_ub (by assumption)⟩ | exact ⟨hS.ldM rfl rfl, by first | rfl | assumption | exact encV_len _ | exact Enc.len _ | exact len_ub (by assumption)⟩ | exact ⟨hS.ldM (by assumption) (by first | rfl | assumption), by first | rfl | assumption | exact encV_len _ | exact Enc.len _ | exact len_ub (by assumption)⟩ | exact ⟨by assumption, by first | rfl | assumption | exact encV_len _ | exact Enc.len _ | exact len_ub (by assumption)⟩ | exact ⟨(by assumption : ∀ w', Sat _ w' _ → At w' _ _ _) _ hS, by first | rfl | assumption | exact encV_len _ | exact Enc.len _ | exact len_ub (by assumption)⟩ | exact hS.ldp | exact At.partC (by assumption) | exact At.partC ((by assumption : ∀ w', Sat _ w' _ → At w' _ _ _) _ hS))) ?_
            refine D.ev 2 rfl (by kernel_rfl) rfl hs.to (fun _ hS => E.load1 rfl Try.underlying50 rfl (by first | exact hS.ldc | exact hS.ld rfl | exact hS.ld (by assumption) | exact by assumption | exact At.cellC (by assumption) | exact At.cellC ((by assumption : ∀ w', Sat _ w' _ → At w' _ _ _) _ hS) | exact (by assumption : ∀ w', Sat _ w' _ → World.cell? w' _ = some _) _ hS)) ?_
            refine D.act 4 rfl (by kernel_rfl) ?_
            refine R.call ⟨_, _, Try.func76, rfl, by kernel_rfl⟩ rfl rfl (without_any (L := L) i hs hil hL) ?_
            rintro v70 w70 ⟨F70, r70, hs⟩
            refine D.back hs.to ?_
            refine D.act 5 rfl (by kernel_rfl) ?_
            refine R.call ⟨_, _, Try.func72, rfl, by kernel_rfl⟩ rfl rfl (with_any ⟨c, wt, inc, L⟩ _ v70 rfl RowL.oneC hs) ?_
            rintro _ w71 ⟨rfl, hs⟩
            refine D.backT (by kernel_rfl) ?_
            refine D.act 6 rfl (by kernel_rfl) ?_
            first | refine R.cstoreAll hs rfl rfl Try.sz52 (by first | rfl | assumption | exact encV_len _ | exact Enc.len _ | exact len_ub (by assumption) | simp [*]) (by first | rfl | assumption | exact encV_len _ | exact Enc.len _ | exact len_ub (by assumption) | simp [*]) (by first | assumption | exact OneL.all | exact Enc.one _ | exact ub_all _ | (repeat' (first | refine List.forall_mem_cons.2 ⟨?_, ?_⟩ | exact List.forall_mem_nil _ | rfl | exact OneC.one | exact KRow.oneC' (by assumption)))) ?_ | refine R.cstore hs rfl rfl Try.sz52 (by first | rfl | assumption | exact encV_len _ | exact Enc.len _ | exact len_ub (by assumption) | simp [*]) (by simp [*]) (by first | assumption | exact OneL.all | exact Enc.one _ | exact ub_all _ | (repeat' (first | refine List.forall_mem_cons.2 ⟨?_, ?_⟩ | exact List.forall_mem_nil _ | rfl | exact OneC.one | exact KRow.oneC' (by assumption)))) ?_
            intro w15_6 hs
            try simp only [List.set_cons_zero, List.set_cons_succ] at hs
            refine D.backT (by kernel_rfl) ?_
            refine D.evP 7 rfl (by kernel_rfl) rfl (np (by kernel_rfl)) (fun _ => E.assign rfl) ?_
            refine D.done rfl (by kernel_rfl) ?_
            refine X.keep [(8, _), (9, _)] ⟨rfl, rfl, trivial⟩ ?_
            refine X.next ?_
            refine C.ret ?_
            refine X.blockRet ?_
            refine X.thenRet ?_
            refine X.resCT rfl rfl Try.underlying52 rfl Try.sz52 (by first | exact ⟨hs.ldA, by first | rfl | assumption | exact encV_len _ | exact Enc.len _ | exact len_ub (by assumption)⟩ | exact ⟨hs.ldP rfl, by first | rfl | assumption | exact encV_len _ | exact Enc.len _ | exact len_ub (by assumption)⟩ | exact ⟨by assumption, by first | rfl | assumption | exact encV_len _ | exact Enc.len _ | exact len_ub (by assumption)⟩) rfl ?_
            rw [if_neg h51, if_pos h64]
            exact RPost.new (Hs := Hs) (s := ⟨c, wt, inc, rRemL a L⟩) (by rw [rRemL_at ho hp hno]; exact r70) hs.to
          · refine C.skip ?_
            refine X.blockNormal ?_
            refine X.next ?_
            refine C.seq ?_
            refine C.drawn (SatS hs) ([0, 2, 6, 9, 12], [1, 3, 5, 7, 8, 10, 11, 13, 14, 19]) (by kernel_rfl) ?_
            have hs := hs.drew
            first | refine D.evP 1 rfl (by kernel_rfl) rfl (fun _ => hs.to) (fun _ => E.fieldAddr0 3 rfl Try.underlying52 rfl Try.sz50 rfl) ?_ | refine D.evP 1 rfl (by kernel_rfl) rfl (fun _ => hs.to) (fun _ => E.fieldAddrN 3 rfl Try.underlying52 rfl Try.sz50 rfl) ?_
            refine D.evP 3 rfl (by kernel_rfl) rfl (fun _ => hs.to) (fun _ => E.move rfl) ?_
            first | refine D.evP 5 rfl (by kernel_rfl) rfl (fun _ => hs.to) (fun _ => E.fieldAddr0 0 rfl Try.underlying90 rfl Try.sz29 rfl) ?_ | refine D.evP 5 rfl (by kernel_rfl) rfl (fun _ => hs.to) (fun _ => E.fieldAddrN 0 rfl Try.underlying90 rfl Try.sz29 rfl) ?_
            refine D.evP 7 rfl (by kernel_rfl) rfl (fun _ => hs.to) (fun _ => E.move rfl) ?_
            first | refine D.evP 8 rfl (by kernel_rfl) rfl (fun _ => hs.to) (fun _ => E.fieldAddr0 1 rfl Try.underlying52 rfl Try.sz3 rfl) ?_ | refine D.evP 8 rfl (by kernel_rfl) rfl (fun _ => hs.to) (fun _ => E.fieldAddrN 1 rfl Try.underlying52 rfl Try.sz3 rfl) ?_
            first | refine D.evP 11 rfl (by kernel_rfl) rfl (fun _ => hs.to) (fun _ => E.fieldAddr0 33 rfl Try.underlying90 rfl Try.sz3 rfl) ?_ | refine D.evP 11 rfl (by kernel_rfl) rfl (fun _ => hs.to) (fun _ => E.fieldAddrN 33 rfl Try.underlying90 rfl Try.sz3 rfl) ?_
            have hk2 : kind = 2 := by omega
            have hmn : (0 ≤ now ∧ now ≤ 105190559) ∧ 0 ≤ now + wt ∧ now + wt ≤ 105190559 := by simpa [rBad, hk2, isMin] using hB
            refine D.ev 0 rfl (by kernel_rfl) rfl hs.to (fun _ hS => E.loadRowC rfl Try.underlying52 rfl Try.sz52 (by first | exact ⟨hS.ldA, by first | rfl | assumption | exact encV_len _ | exact Enc.len _ | exact len_ub (by assumption)⟩ | exact ⟨hS.ldP rfl, by first | rfl | assumption | exact encV_len _ | exact Enc.len _ | exact len_ub (by assumption)⟩ | exact ⟨hS.ldM rfl rfl, by first | rfl | assumption | exact encV_len _ | exact Enc.len _ | exact len_ub (by assumption)⟩ | exact ⟨hS.ldM (by assumption) (by first | rfl | assumption), by first | rfl | assumption | exact encV_len _ | exact Enc.len _ | exact len_ub (by assumption)⟩ | exact ⟨by assumption, by first | rfl | assumption | exact encV_len _ | exact Enc.len _ | exact len_ub (by assumption)⟩ | exact ⟨(by assumption : ∀ w', Sat _ w' _ → At w' _ _ _) _ hS, by first | rfl | assumption | exact encV_len _ | exact Enc.len _ | exact len_ub (by assumption)⟩ | exact hS.ldp | exact At.partC (by assumption) | exact At.partC ((by assumption : ∀ w', Sat _ w' _ → At w' _ _ _) _ hS))) ?_
            refine D.ev 2 rfl (by kernel_rfl) rfl hs.to (fun _ hS => E.load1 rfl Try.underlying50 rfl (by first | exact hS.ldc | exact hS.ld rfl | exact hS.ld (by assumption) | exact by assumption | exact At.cellC (by assumption) | exact At.cellC ((by assumption : ∀ w', Sat _ w' _ → At w' _ _ _) _ hS) | exact (by assumption : ∀ w', Sat _ w' _ → World.cell? w' _ = some _) _ hS)) ?_
            refine D.ev 6 rfl (by kernel_rfl) rfl hs.to (fun _ hS => E.loadRowC rfl Try.underlying29 rfl Try.sz29 (by first | exact ⟨hS.ldA, by first | rfl | assumption | exact encV_len _ | exact Enc.len _ | exact len_ub (by assumption)⟩ | exact ⟨hS.ldP rfl, by first | rfl | assumption | exact encV_len _ | exact Enc.len _ | exact len_ub (by assumption)⟩ | exact ⟨hS.ldM rfl rfl, by first | rfl | assumption | exact encV_len _ | exact Enc.len _ | exact len_ub (by assumption)⟩ | exact ⟨hS.ldM (by assumption) (by first | rfl | assumption), by first | rfl | assumption | exact encV_len _ | exact Enc.len _ | exact len_ub (by assumption)⟩ | exact ⟨by assumption, by first | rfl | assumption | exact encV_len _ | exact Enc.len _ | exact len_ub (by assumption)⟩ | exact ⟨(by assumption : ∀ w', Sat _ w' _ → At w' _ _ _) _ hS, by first | rfl | assumption | exact encV_len _ | exact Enc.len _ | exact len_ub (by assumption)⟩ | exact hS.ldp | exact At.partC (by assumption) | exact At.partC ((by assumption : ∀ w', Sat _ w' _ → At w' _ _ _) _ hS))) ?_
            refine D.ev 9 rfl (by kernel_rfl) rfl hs.to (fun _ hS => E.load1 rfl Try.underlying3 rfl (by first | exact hS.ldc | exact hS.ld rfl | exact hS.ld (by assumption) | exact by assumption | exact At.cellC (by assumption) | exact At.cellC ((by assumption : ∀ w', Sat _ w' _ → At w' _ _ _) _ hS) | exact (by assumption : ∀ w', Sat _ w' _ → World.cell? w' _ = some _) _ hS)) ?_
            refine D.evP 10 rfl (by kernel_rfl) rfl (fun _ => hs.to) (fun _ => E.add rfl rfl (by omega) (by omega)) ?_
            refine D.ev 12 rfl (by kernel_rfl) rfl hs.to (fun _ hS => E.load1 rfl Try.underlying3 rfl (by first | exact hS.ldc | exact hS.ld rfl | exact hS.ld (by assumption) | exact by assumption | exact At.cellC (by assumption) | exact At.cellC ((by assumption : ∀ w', Sat _ w' _ → At w' _ _ _) _ hS) | exact (by assumption : ∀ w', Sat _ w' _ → World.cell? w' _ = some _) _ hS)) ?_
            refine D.evP 13 rfl (by kernel_rfl) rfl (fun _ => hs.to) (fun _ => E.add rfl rfl (by omega) (by omega)) ?_
            refine D.evP 14 rfl (by kernel_rfl) rfl (fun _ => hs.to) (fun _ => E.buildG (r := encRE ⟨o.id, now + wt, o.tries + 1, false⟩) rfl Try.underlying90 Try.zr90 Try.ql90 (by kernel_rfl) (by kernel_rfl) ⟨⟨_, rfl, by first | rfl | exact vsz _ | simp [Value.cells, *]⟩, ⟨_, rfl, by first | rfl | exact vsz _ | simp [Value.cells, *]⟩, ⟨_, rfl, by first | rfl | exact vsz _ | simp [Value.cells, *]⟩, trivial⟩ (by first | rfl | simp [setF, fieldsOf, Value.cells])) ?_
            refine D.act2 4 15 rfl rfl (by kernel_rfl) ?_ ?_
            · refine R.call ⟨_, _, Try.func76, rfl, by kernel_rfl⟩ rfl rfl (without_any (L := L) i hs hil hL) ?_
              rintro v76 w76 ⟨F76, r76, hs⟩
              have hl76 : (L.take i ++ L.drop (i + 1)).length ≤ L.length := by simp; omega
              refine D.back hs.to ?_
              refine D.act 15 rfl (by kernel_rfl) ?_
              refine R.buildSliceA rfl Try.underlying50 Try.sz90 Try.zr90 rfl (by first | rfl | assumption | exact encV_len _ | exact Enc.len _ | simp [*]) (by decide) (by decide) ?_
              intro b87 w87 n87
              have hs := hs.new n87
              refine D.back hs.to ?_
              refine D.act 16 rfl (by kernel_rfl) ?_
              refine R.capp1 (⟨o.id, now + wt, o.tries + 1, false⟩) hs rfl rfl Try.underlying50 Try.by90 (by rfl) rfl (by first | exact hs.ldA | exact hs.ldP rfl | exact by assumption) (by decide) (by first | omega | (simp only [List.length_append, List.length_cons, List.length_nil] at *; omega)) (by first | omega | (simp only [List.length_append, List.length_cons, List.length_nil] at *; omega)) ?_
              intro v88 w88 F88 r88 hs
              refine D.back hs.to ?_
              refine D.act 17 rfl (by kernel_rfl) ?_
              refine R.call ⟨_, _, Try.func72, rfl, by kernel_rfl⟩ rfl rfl (with_any ⟨c, wt, inc, L⟩ _ v88 rfl RowL.oneC hs) ?_
              rintro _ w89 ⟨rfl, hs⟩
              refine D.backT (by kernel_rfl) ?_
              refine D.act 18 rfl (by kernel_rfl) ?_
              first | refine R.cstoreAll hs rfl rfl Try.sz52 (by first | rfl | assumption | exact encV_len _ | exact Enc.len _ | exact len_ub (by assumption) | simp [*]) (by first | rfl | assumption | exact encV_len _ | exact Enc.len _ | exact len_ub (by assumption) | simp [*]) (by first | assumption | exact OneL.all | exact Enc.one _ | exact ub_all _ | (repeat' (first | refine List.forall_mem_cons.2 ⟨?_, ?_⟩ | exact List.forall_mem_nil _ | rfl | exact OneC.one | exact KRow.oneC' (by assumption)))) ?_ | refine R.cstore hs rfl rfl Try.sz52 (by first | rfl | assumption | exact encV_len _ | exact Enc.len _ | exact len_ub (by assumption) | simp [*]) (by simp [*]) (by first | assumption | exact OneL.all | exact Enc.one _ | exact ub_all _ | (repeat' (first | refine List.forall_mem_cons.2 ⟨?_, ?_⟩ | exact List.forall_mem_nil _ | rfl | exact OneC.one | exact KRow.oneC' (by assumption)))) ?_
              intro w16_18 hs
              try simp only [List.set_cons_zero, List.set_cons_succ] at hs
              refine D.backT (by kernel_rfl) ?_
              refine D.evP 19 rfl (by kernel_rfl) rfl (np (by kernel_rfl)) (fun _ => E.assign rfl) ?_
              refine D.done rfl (by kernel_rfl) ?_
              refine X.keep [(8, _), (9, _)] ⟨rfl, rfl, trivial⟩ ?_
              refine X.next ?_
              refine C.ret ?_
              refine X.resCT rfl rfl Try.underlying52 rfl Try.sz52 (by first | exact ⟨hs.ldA, by first | rfl | assumption | exact encV_len _ | exact Enc.len _ | exact len_ub (by assumption)⟩ | exact ⟨hs.ldP rfl, by first | rfl | assumption | exact encV_len _ | exact Enc.len _ | exact len_ub (by assumption)⟩ | exact ⟨by assumption, by first | rfl | assumption | exact encV_len _ | exact Enc.len _ | exact len_ub (by assumption)⟩) rfl ?_
              rw [if_neg h51, if_neg h64, hT]
              rw [hoid] at r88
              exact RPost.new (Hs := Hs) (s := ⟨c, wt, inc, rRemL a L ++ [⟨a, now + wt, o.tries + 1, false⟩]⟩) (by rw [rRemL_at ho hp hno]; exact r88) hs.to
            · refine R.buildSliceA rfl Try.underlying50 Try.sz90 Try.zr90 rfl (by first | rfl | assumption | exact encV_len _ | exact Enc.len _ | simp [*]) (by decide) (by decide) ?_
              intro b87 w87 n87
              have hs := hs.new n87
              refine D.back hs.to ?_
              refine D.act 4 rfl (by kernel_rfl) ?_
              refine R.call ⟨_, _, Try.func76, rfl, by kernel_rfl⟩ rfl rfl (without_any (L := L) i hs hil hL) ?_
              rintro v76 w76 ⟨F76, r76, hs⟩
              have hl76 : (L.take i ++ L.drop (i + 1)).length ≤ L.length := by simp; omega
              refine D.back hs.to ?_
              refine D.act 16 rfl (by kernel_rfl) ?_
              refine R.capp1 (⟨o.id, now + wt, o.tries + 1, false⟩) hs rfl rfl Try.underlying50 Try.by90 (by rfl) rfl (by first | exact hs.ldA | exact hs.ldP rfl | exact by assumption) (by decide) (by first | omega | (simp only [List.length_append, List.length_cons, List.length_nil] at *; omega)) (by first | omega | (simp only [List.length_append, List.length_cons, List.length_nil] at *; omega)) ?_
              intro v88 w88 F88 r88 hs
              refine D.back hs.to ?_
              refine D.act 17 rfl (by kernel_rfl) ?_
              refine R.call ⟨_, _, Try.func72, rfl, by kernel_rfl⟩ rfl rfl (with_any ⟨c, wt, inc, L⟩ _ v88 rfl RowL.oneC hs) ?_
              rintro _ w89 ⟨rfl, hs⟩
              refine D.backT (by kernel_rfl) ?_
              refine D.act 18 rfl (by kernel_rfl) ?_
              first | refine R.cstoreAll hs rfl rfl Try.sz52 (by first | rfl | assumption | exact encV_len _ | exact Enc.len _ | exact len_ub (by assumption) | simp [*]) (by first | rfl | assumption | exact encV_len _ | exact Enc.len _ | exact len_ub (by assumption) | simp [*]) (by first | assumption | exact OneL.all | exact Enc.one _ | exact ub_all _ | (repeat' (first | refine List.forall_mem_cons.2 ⟨?_, ?_⟩ | exact List.forall_mem_nil _ | rfl | exact OneC.one | exact KRow.oneC' (by assumption)))) ?_ | refine R.cstore hs rfl rfl Try.sz52 (by first | rfl | assumption | exact encV_len _ | exact Enc.len _ | exact len_ub (by assumption) | simp [*]) (by simp [*]) (by first | assumption | exact OneL.all | exact Enc.one _ | exact ub_all _ | (repeat' (first | refine List.forall_mem_cons.2 ⟨?_, ?_⟩ | exact List.forall_mem_nil _ | rfl | exact OneC.one | exact KRow.oneC' (by assumption)))) ?_
              intro w16_18 hs
              try simp only [List.set_cons_zero, List.set_cons_succ] at hs
              refine D.backT (by kernel_rfl) ?_
              refine D.evP 19 rfl (by kernel_rfl) rfl (np (by kernel_rfl)) (fun _ => E.assign rfl) ?_
              refine D.done rfl (by kernel_rfl) ?_
              refine X.keep [(8, _), (9, _)] ⟨rfl, rfl, trivial⟩ ?_
              refine X.next ?_
              refine C.ret ?_
              refine X.resCT rfl rfl Try.underlying52 rfl Try.sz52 (by first | exact ⟨hs.ldA, by first | rfl | assumption | exact encV_len _ | exact Enc.len _ | exact len_ub (by assumption)⟩ | exact ⟨hs.ldP rfl, by first | rfl | assumption | exact encV_len _ | exact Enc.len _ | exact len_ub (by assumption)⟩ | exact ⟨by assumption, by first | rfl | assumption | exact encV_len _ | exact Enc.len _ | exact len_ub (by assumption)⟩) rfl ?_
              rw [if_neg h51, if_neg h64, hT]
              rw [hoid] at r88
              exact RPost.new (Hs := Hs) (s := ⟨c, wt, inc, rRemL a L ++ [⟨a, now + wt, o.tries + 1, false⟩]⟩) (by rw [rRemL_at ho hp hno]; exact r88) hs.to
/-! Scan -/
def rScanL (now : Int) : RB → Nat → List (Vec 32) → RB × Nat × Bool
  | s, n, [] => ({ s with inc := false }, n, true)
  | s, n, a :: l => if a = zid ∨ rHas a s.L = true then rScanL now s n l else if rAddE s a now = 0 then rScanL now (rAddS s a now) (n + 1) l else (rAddS s a now, n, false)
def rScan (s : RB) (ids : List (Vec 32)) (now : Int) : RB × Nat × Bool := if isMin now then rScanL now s 0 ids else (s, 0, false)
theorem rScanL_at {now : Int} {s : RB} {n : Nat} {L : List (Vec 32)} {k : Nat} {y : Vec 32} (hy : L[k]? = some y) : rScanL now s n (L.drop k) = if y = zid ∨ rHas y s.L = true then rScanL now s n (L.drop (k + 1)) else if rAddE s y now = 0 then rScanL now (rAddS s y now) (n + 1) (L.drop (k + 1)) else (rAddS s y now, n, false) := by
  obtain ⟨h1, h2⟩ := List.getElem?_eq_some_iff.1 hy
  rw [List.drop_eq_getElem_cons h1, h2, rScanL]
theorem rAddS_len (s : RB) (a : Vec 32) (due : Int) : (rAddS s a due).L.length ≤ s.L.length + 1 := by
  unfold rAddS; split
  · simp
  · split <;> simp
theorem orOf {p : Prop} [Decidable p] {b : Bool} (_ : decide p = false) (h : b = true) : p ∨ b = true := .inr h
theorem rscan_any {vi : Value} {ids : List (Vec 32)} (now : Int) (hs : Sat K w Hs) [hr : KRow encRE 35 K v s.L] [hi : KRow encV 32 K vi ids] (hL : s.L.length + ids.length ≤ 1000000) :
    Ret Try.prog 69 #[s.v v, vi, .int .i64 now] w fun r w' => RPost K Hs (rScan s ids now).1 (fun b => .tuple #[b, .int .i64 ((rScan s ids now).2.1 : Nat), .bool (rScan s ids now).2.2]) r w' := by
  obtain ⟨ad, cap, rfl, _, hic⟩ := hi.ex
  obtain ⟨adv, capv, hve, hvs, _⟩ := hr.ex
  have o1 : OneC v := ⟨KRow.oneC' hr⟩
  refine Ret.enter (n := 58) (args := [s.v v, .slice ad ids.length cap, .int .i64 now]) Try.func69 rfl rfl ?_
  refine C.keep [(0, _), (1, _), (2, _)] ⟨rfl, rfl, rfl, trivial⟩ ?_
  refine C.seq ?_
  refine C.region ?_
  refine R.sboxA hs rfl rfl ?_
  intro b3 w3 hs
  refine R.sallocA hs Try.zr52 rfl ?_
  intro b6 w6 hs
  refine R.ev rfl (E.assign rfl) ?_
  refine R.ev rfl (E.assign rfl) ?_
  refine R.done ?_
  refine X.keep [(1, _), (2, _), (3, _), (6, _)] ⟨rfl, rfl, rfl, rfl, trivial⟩ ?_
  refine X.next ?_
  refine C.seq ?_
  refine C.seq ?_
  refine C.region ?_
  refine R.ev rfl (E.move rfl) ?_
  refine R.call ⟨_, _, Try.func62, rfl, by kernel_rfl⟩ rfl rfl (rminute_any now _) ?_
  rintro _ _ ⟨rfl, rfl⟩
  refine R.ev rfl ((E.not rfl).isB (c := !(isMin now)) rfl) ?_
  refine R.done ?_
  refine X.keep [(1, _), (2, _), (3, _), (6, _), (15, _)] ⟨rfl, rfl, rfl, rfl, rfl, trivial⟩ ?_
  refine X.next ?_
  refine C.cbool rfl (fun h15 => ?_) (fun h15 => ?_)
  · have hm : ¬ isMin now = true := by simpa using h15
    refine C.seq ?_
    refine C.region ?_
    refine R.ev rfl (E.loadRowC rfl Try.underlying52 rfl Try.sz52 (by first | exact ⟨hs.ldA, by first | rfl | assumption | exact encV_len _ | exact Enc.len _ | exact len_ub (by assumption)⟩ | exact ⟨hs.ldP rfl, by first | rfl | assumption | exact encV_len _ | exact Enc.len _ | exact len_ub (by assumption)⟩ | exact ⟨hs.ldM rfl rfl, by first | rfl | assumption | exact encV_len _ | exact Enc.len _ | exact len_ub (by assumption)⟩ | exact ⟨hs.ldM (by assumption) (by first | rfl | assumption), by first | rfl | assumption | exact encV_len _ | exact Enc.len _ | exact len_ub (by assumption)⟩ | exact ⟨by assumption, by first | rfl | assumption | exact encV_len _ | exact Enc.len _ | exact len_ub (by assumption)⟩ | exact hs.ldp | exact At.partC (by assumption))) ?_
    first | refine R.cstoreAll hs rfl rfl Try.sz52 (by first | rfl | assumption | exact encV_len _ | exact Enc.len _ | exact len_ub (by assumption) | simp [*]) (by first | rfl | assumption | exact encV_len _ | exact Enc.len _ | exact len_ub (by assumption) | simp [*]) (by first | assumption | exact OneL.all | exact Enc.one _ | exact ub_all _ | (repeat' (first | refine List.forall_mem_cons.2 ⟨?_, ?_⟩ | exact List.forall_mem_nil _ | rfl | exact OneC.one | exact KRow.oneC' (by assumption)))) ?_ | refine R.cstore hs rfl rfl Try.sz52 (by first | rfl | assumption | exact encV_len _ | exact Enc.len _ | exact len_ub (by assumption) | simp [*]) (by simp [*]) (by first | assumption | exact OneL.all | exact Enc.one _ | exact ub_all _ | (repeat' (first | refine List.forall_mem_cons.2 ⟨?_, ?_⟩ | exact List.forall_mem_nil _ | rfl | exact OneC.one | exact KRow.oneC' (by assumption)))) ?_
    intro w2_1 hs
    try simp only [List.set_cons_zero, List.set_cons_succ] at hs
    refine R.ev rfl (E.assign rfl) ?_
    refine R.ev rfl (E.assign rfl) ?_
    refine R.done ?_
    refine X.keep [(6, _), (7, _), (8, _)] ⟨rfl, rfl, rfl, trivial⟩ ?_
    refine X.next ?_
    refine C.ret ?_
    refine X.thenRet ?_
    refine X.resCTT rfl rfl Try.underlying52 rfl Try.sz52 (by first | exact ⟨hs.ldA, by first | rfl | assumption | exact encV_len _ | exact Enc.len _ | exact len_ub (by assumption)⟩ | exact ⟨hs.ldP rfl, by first | rfl | assumption | exact encV_len _ | exact Enc.len _ | exact len_ub (by assumption)⟩ | exact ⟨by assumption, by first | rfl | assumption | exact encV_len _ | exact Enc.len _ | exact len_ub (by assumption)⟩) rfl rfl ?_
    rw [rScan, if_neg hm]
    exact RPost.same (s := s) hr hs.to
  · have hm : isMin now = true := by simpa using h15
    refine C.skip ?_
    refine X.next ?_
    refine C.seq ?_
    refine C.region ?_
    refine R.ev rfl (E.assign rfl) ?_
    refine R.done ?_
    refine X.keep [(1, _), (2, _), (3, _), (6, _), (9, _)] ⟨rfl, rfl, rfl, rfl, rfl, trivial⟩ ?_
    refine X.next ?_
    refine C.seq ?_
    refine C.seq ?_
    refine C.region ?_
    refine R.ev rfl (E.assign rfl) ?_
    refine R.done ?_
    refine X.keep [(1, _), (2, _), (3, _), (6, _), (9, _), (10, _)] ⟨rfl, rfl, rfl, rfl, rfl, rfl, trivial⟩ ?_
    refine X.next ?_
    refine C.block ?_
    refine C.loop (T := Nat × Nat × RB × Kn × Value) [(1, _), (2, _), (3, _), (6, _)] (fun (k, n, _, _, _) => [(9, .int .i64 (n : Nat)), (10, .int .i64 (k : Nat))]) (fun (k, n, s1, K1, v1) w' => k ≤ ids.length ∧ n ≤ k ∧ rScanL now s 0 ids = rScanL now s1 n (ids.drop k) ∧ s1.L.length ≤ s.L.length + k ∧ KLe K K1 ∧ KRow encRE 35 K1 v1 s1.L ∧ Sat K1 w' (row b6 52 [.int .i64 0, .int .i64 0, .bool false, .slice none 0 0] :: row b3 52 [.int .i64 s1.cap, .int .i64 s1.wait, .bool s1.inc, v1] :: Hs)) (fun (k, _) => ids.length - k) ((0, 0, s, K, v)) ⟨rfl, rfl, rfl, rfl, rfl, rfl, trivial⟩ ⟨by omega, by omega, rfl, by omega, KLe.refl K, hr, hs⟩ ?_
    rintro ⟨k, n, s1, K1, v1⟩ w1 ⟨hk, hn, hrun, hl1, hk1, hr1, hs⟩
    have o2 : OneC v1 := ⟨KRow.oneC' hr1⟩
    refine C.keep [(1, _), (2, _), (3, _), (6, _), (9, _), (10, _)] ⟨rfl, rfl, rfl, rfl, rfl, rfl, trivial⟩ ?_
    refine C.seq ?_
    refine C.seq ?_
    refine C.region ?_
    refine R.ev rfl (E.move rfl) ?_
    refine R.ev rfl (E.move rfl) ?_
    refine R.ev rfl (E.lenSl rfl Try.underlying31) ?_
    refine R.ev rfl (E.lss rfl rfl) ?_
    refine R.done ?_
    refine X.keep [(1, _), (2, _), (3, _), (6, _), (9, _), (10, _), (20, _)] ⟨rfl, rfl, rfl, rfl, rfl, rfl, rfl, trivial⟩ ?_
    refine X.next ?_
    refine C.cdec rfl (fun h20 => ?_) (fun h20 => ?_)
    · obtain ⟨y, bk_y, of_y, hy, my, ly, rfl, Ay⟩ := hs.el (i := k) (ad := ad) (n := ids.length) (c := cap) (by omega)
      have ay := Ay _ hs
      have e2 := encV_len y
      rw [rScanL_at hy] at hrun
      refine C.skip ?_
      refine X.next ?_
      refine C.seq ?_
      refine C.block ?_
      refine C.seq ?_
      refine C.seq ?_
      refine C.drawn (SatS hs) ([3, 7, 11], [0, 1, 2, 4, 5, 6, 8, 9, 10, 13, 14]) (by kernel_rfl) ?_
      have hs := hs.drew
      refine D.evP 0 rfl (by kernel_rfl) rfl (fun _ => hs.to) (fun _ => E.move rfl) ?_
      refine D.evP 1 rfl (by kernel_rfl) rfl (fun _ => hs.to) (fun _ => E.move rfl) ?_
      refine D.evP 2 rfl (by kernel_rfl) rfl (fun _ => hs.to) (fun _ => E.indexAddr rfl rfl Try.underlying31 Try.sz29 rfl (by first | omega | decide)) ?_
      refine D.evP 4 rfl (by kernel_rfl) rfl (fun _ => hs.to) (fun _ => (E.buildA rfl Try.underlying29 Try.zr29 Try.sz5 rfl).as (u := .agg (encV zid).toArray) (by rfl)) ?_
      refine D.ev 3 rfl (by kernel_rfl) rfl hs.to (fun _ hS => E.loadRow (cs := y.1.map ub) rfl Try.underlying29 rfl Try.sz29 (Ay _ hS) e2) ?_
      refine D.evP 5 rfl (by kernel_rfl) rfl (fun _ => hs.to) (fun _ => (E.eqV 10 (a := y) (b := zid) rfl rfl Try.lv29 rfl Try.underlying29 rfl Try.gd29)) ?_
      refine D.evP 6 rfl (by kernel_rfl) rfl (fun _ => hs.to) (fun _ => E.move rfl) ?_
      refine D.split 29 rfl (fun h29 => ?_) (fun h29 => ?_)
      · refine D.skipP 8 rfl (by kernel_rfl) rfl rfl rfl (fun _ => hs.to) ?_
        refine D.skipP 9 rfl (by kernel_rfl) rfl rfl rfl (fun _ => hs.to) ?_
        refine D.skipP 10 rfl (by kernel_rfl) rfl rfl rfl (fun _ => hs.to) ?_
        refine D.skip 7 rfl (by kernel_rfl) rfl rfl rfl hs.to ?_
        refine D.skip 11 rfl (by kernel_rfl) rfl rfl rfl hs.to ?_
        refine D.act 12 rfl (by kernel_rfl) ?_
        refine R.gskip rfl rfl rfl ?_
        refine D.backT (by kernel_rfl) ?_
        refine D.skipP 13 rfl (by kernel_rfl) rfl rfl rfl (np (by kernel_rfl)) ?_
        refine D.evP 14 rfl (by kernel_rfl) rfl (np (by kernel_rfl)) (fun _ => E.pickT rfl rfl) ?_
        refine D.done rfl (by kernel_rfl) ?_
        refine X.keep [(1, _), (2, _), (3, _), (6, _), (9, _), (10, _), (37, _)] ⟨rfl, rfl, rfl, rfl, rfl, rfl, rfl, trivial⟩ ?_
        refine X.next ?_
        refine C.ctrue rfl ?_
        refine C.exit ?_
        refine X.thenExit ?_
        refine X.blockExit ?_
        refine X.next ?_
        refine C.region ?_
        refine R.ev rfl (E.move rfl) ?_
        refine R.ev rfl (E.add rfl rfl (by omega) (by omega)) ?_
        refine R.ev rfl (E.assign rfl) ?_
        refine R.done ?_
        refine X.keep [(1, _), (2, _), (3, _), (6, _), (9, _), (10, _)] ⟨rfl, rfl, rfl, rfl, rfl, rfl, trivial⟩ ?_
        first
          | exact X.again (k + 1, n + 1, rAddS s1 y now, K2, v2) ⟨rfl, rfl, rfl, rfl, rfl, rfl, trivial⟩ ⟨by omega, by omega, by rw [if_pos he0] at hrun; exact hrun, by omega, hk12, hr2, hs.to⟩ (by show _ - _ < _ - _; omega)
          | exact X.again (k + 1, n, s1, K1, v1) ⟨rfl, rfl, rfl, rfl, rfl, rfl, trivial⟩ ⟨by omega, by omega, by rw [if_pos (orOf h29 h37)] at hrun; exact hrun, by omega, hk1, hr1, hs.to⟩ (by show _ - _ < _ - _; omega)
          | exact X.again (k + 1, n, s1, K1, v1) ⟨rfl, rfl, rfl, rfl, rfl, rfl, trivial⟩ ⟨by omega, by omega, by rw [if_pos (.inl (of_decide_eq_true h29))] at hrun; exact hrun, by omega, hk1, hr1, hs.to⟩ (by show _ - _ < _ - _; omega)
      · refine D.evPG 8 rfl (by kernel_rfl) rfl rfl rfl (fun _ => hs.to) (fun _ => E.move rfl) ?_
        refine D.evPG 9 rfl (by kernel_rfl) rfl rfl rfl (fun _ => hs.to) (fun _ => E.move rfl) ?_
        refine D.evPG 10 rfl (by kernel_rfl) rfl rfl rfl (fun _ => hs.to) (fun _ => E.indexAddr rfl rfl Try.underlying31 Try.sz29 rfl (by first | omega | decide)) ?_
        refine D.evG 7 rfl (by kernel_rfl) rfl rfl rfl hs.to (fun _ hS => E.loadRowC rfl Try.underlying52 rfl Try.sz52 (by first | exact ⟨hS.ldA, by first | rfl | assumption | exact encV_len _ | exact Enc.len _ | exact len_ub (by assumption)⟩ | exact ⟨hS.ldP rfl, by first | rfl | assumption | exact encV_len _ | exact Enc.len _ | exact len_ub (by assumption)⟩ | exact ⟨hS.ldM rfl rfl, by first | rfl | assumption | exact encV_len _ | exact Enc.len _ | exact len_ub (by assumption)⟩ | exact ⟨hS.ldM (by assumption) (by first | rfl | assumption), by first | rfl | assumption | exact encV_len _ | exact Enc.len _ | exact len_ub (by assumption)⟩ | exact ⟨by assumption, by first | rfl | assumption | exact encV_len _ | exact Enc.len _ | exact len_ub (by assumption)⟩ | exact ⟨(by assumption : ∀ w', Sat _ w' _ → At w' _ _ _) _ hS, by first | rfl | assumption | exact encV_len _ | exact Enc.len _ | exact len_ub (by assumption)⟩ | exact hS.ldp | exact At.partC (by assumption) | exact At.partC ((by assumption : ∀ w', Sat _ w' _ → At w' _ _ _) _ hS))) ?_
        refine D.evG 11 rfl (by kernel_rfl) rfl rfl rfl hs.to (fun _ hS => E.loadRow (cs := y.1.map ub) rfl Try.underlying29 rfl Try.sz29 (Ay _ hS) e2) ?_
        refine D.act 12 rfl (by kernel_rfl) ?_
        refine R.gyes rfl rfl ?_
        refine R.call ⟨_, _, Try.func61, rfl, by kernel_rfl⟩ rfl rfl (rfind_any (s := s1) (v := v1) y hs (by omega)) ?_
        rintro _ w712 ⟨rfl, hs⟩
        refine D.backT (by kernel_rfl) ?_
        refine D.evPG 13 rfl (by kernel_rfl) rfl rfl rfl (np (by kernel_rfl)) (fun _ => (E.geq rfl rfl).isB (c := rHas y s1.L) rIdx_ge) ?_
        refine D.evP 14 rfl (by kernel_rfl) rfl (np (by kernel_rfl)) (fun _ => E.pickF rfl rfl) ?_
        refine D.done rfl (by kernel_rfl) ?_
        refine X.keep [(1, _), (2, _), (3, _), (6, _), (9, _), (10, _), (37, _)] ⟨rfl, rfl, rfl, rfl, rfl, rfl, rfl, trivial⟩ ?_
        refine X.next ?_
        refine C.cbool rfl (fun h37 => ?_) (fun h37 => ?_)
        · refine C.exit ?_
          refine X.thenExit ?_
          refine X.blockExit ?_
          refine X.next ?_
          refine C.region ?_
          refine R.ev rfl (E.move rfl) ?_
          refine R.ev rfl (E.add rfl rfl (by omega) (by omega)) ?_
          refine R.ev rfl (E.assign rfl) ?_
          refine R.done ?_
          refine X.keep [(1, _), (2, _), (3, _), (6, _), (9, _), (10, _)] ⟨rfl, rfl, rfl, rfl, rfl, rfl, trivial⟩ ?_
          first
            | exact X.again (k + 1, n + 1, rAddS s1 y now, K2, v2) ⟨rfl, rfl, rfl, rfl, rfl, rfl, trivial⟩ ⟨by omega, by omega, by rw [if_pos he0] at hrun; exact hrun, by omega, hk12, hr2, hs.to⟩ (by show _ - _ < _ - _; omega)
            | exact X.again (k + 1, n, s1, K1, v1) ⟨rfl, rfl, rfl, rfl, rfl, rfl, trivial⟩ ⟨by omega, by omega, by rw [if_pos (orOf h29 h37)] at hrun; exact hrun, by omega, hk1, hr1, hs.to⟩ (by show _ - _ < _ - _; omega)
            | exact X.again (k + 1, n, s1, K1, v1) ⟨rfl, rfl, rfl, rfl, rfl, rfl, trivial⟩ ⟨by omega, by omega, by rw [if_pos (.inl (of_decide_eq_true h29))] at hrun; exact hrun, by omega, hk1, hr1, hs.to⟩ (by show _ - _ < _ - _; omega)
        · refine C.skip ?_
          refine X.next ?_
          refine C.seq ?_
          refine C.drawn (SatS hs) ([0, 4], [1, 2, 3, 5, 7, 8, 9, 12]) (by kernel_rfl) ?_
          have hs := hs.drew
          refine D.evP 1 rfl (by kernel_rfl) rfl (fun _ => hs.to) (fun _ => E.move rfl) ?_
          refine D.evP 2 rfl (by kernel_rfl) rfl (fun _ => hs.to) (fun _ => E.move rfl) ?_
          refine D.evP 3 rfl (by kernel_rfl) rfl (fun _ => hs.to) (fun _ => E.indexAddr rfl rfl Try.underlying31 Try.sz29 rfl (by first | omega | decide)) ?_
          refine D.evP 5 rfl (by kernel_rfl) rfl (fun _ => hs.to) (fun _ => E.move rfl) ?_
          have hid : ¬ (y = zid ∨ rHas y s1.L = true) := fun h => h.elim (fun h => of_decide_eq_false h29 h) (fun h => Bool.noConfusion (h.symm.trans h37))
          rw [if_neg hid] at hrun
          have hal := rAddS_len s1 y now
          refine D.ev 0 rfl (by kernel_rfl) rfl hs.to (fun _ hS => E.loadRowC rfl Try.underlying52 rfl Try.sz52 (by first | exact ⟨hS.ldA, by first | rfl | assumption | exact encV_len _ | exact Enc.len _ | exact len_ub (by assumption)⟩ | exact ⟨hS.ldP rfl, by first | rfl | assumption | exact encV_len _ | exact Enc.len _ | exact len_ub (by assumption)⟩ | exact ⟨hS.ldM rfl rfl, by first | rfl | assumption | exact encV_len _ | exact Enc.len _ | exact len_ub (by assumption)⟩ | exact ⟨hS.ldM (by assumption) (by first | rfl | assumption), by first | rfl | assumption | exact encV_len _ | exact Enc.len _ | exact len_ub (by assumption)⟩ | exact ⟨by assumption, by first | rfl | assumption | exact encV_len _ | exact Enc.len _ | exact len_ub (by assumption)⟩ | exact ⟨(by assumption : ∀ w', Sat _ w' _ → At w' _ _ _) _ hS, by first | rfl | assumption | exact encV_len _ | exact Enc.len _ | exact len_ub (by assumption)⟩ | exact hS.ldp | exact At.partC (by assumption) | exact At.partC ((by assumption : ∀ w', Sat _ w' _ → At w' _ _ _) _ hS))) ?_
          refine D.ev 4 rfl (by kernel_rfl) rfl hs.to (fun _ hS => E.loadRow (cs := y.1.map ub) rfl Try.underlying29 rfl Try.sz29 (Ay _ hS) e2) ?_
          refine D.act2 6 10 rfl rfl (by kernel_rfl) ?_ ?_
          · refine R.call ⟨_, _, Try.func67, rfl, by kernel_rfl⟩ rfl rfl (radd_any (s := s1) (v := v1) y now hs (by omega)) ?_
            rintro _ w86 ⟨K2, v2, rfl, hk2, hr2, hs⟩
            have o3 : OneC v2 := ⟨KRow.oneC' hr2⟩
            have hk12 := hk1.trans hk2
            refine D.backT (by kernel_rfl) ?_
            refine D.evP 7 rfl (by kernel_rfl) rfl (np (by kernel_rfl)) (fun _ => E.move rfl) ?_
            refine D.evP 8 rfl (by kernel_rfl) rfl (np (by kernel_rfl)) (fun _ => E.extract rfl rfl) ?_
            refine D.evP 9 rfl (by kernel_rfl) rfl (np (by kernel_rfl)) (fun _ => E.extract rfl rfl) ?_
            refine D.act 10 rfl (by kernel_rfl) ?_
            refine R.sallocA hs Try.zr52 rfl ?_
            intro b11 w11 hs
            refine D.backT (by kernel_rfl) ?_
            refine D.act 11 rfl (by kernel_rfl) ?_
            first | refine R.cstoreAll hs rfl rfl Try.sz52 (by first | rfl | assumption | exact encV_len _ | exact Enc.len _ | exact len_ub (by assumption) | simp [*]) (by first | rfl | assumption | exact encV_len _ | exact Enc.len _ | exact len_ub (by assumption) | simp [*]) (by first | assumption | exact OneL.all | exact Enc.one _ | exact ub_all _ | (repeat' (first | refine List.forall_mem_cons.2 ⟨?_, ?_⟩ | exact List.forall_mem_nil _ | rfl | exact OneC.one | exact KRow.oneC' (by assumption)))) ?_ | refine R.cstore hs rfl rfl Try.sz52 (by first | rfl | assumption | exact encV_len _ | exact Enc.len _ | exact len_ub (by assumption) | simp [*]) (by simp [*]) (by first | assumption | exact OneL.all | exact Enc.one _ | exact ub_all _ | (repeat' (first | refine List.forall_mem_cons.2 ⟨?_, ?_⟩ | exact List.forall_mem_nil _ | rfl | exact OneC.one | exact KRow.oneC' (by assumption)))) ?_
            intro w8_11 hs
            try simp only [List.set_cons_zero, List.set_cons_succ] at hs
            refine D.backT (by kernel_rfl) ?_
            refine D.evP 12 rfl (by kernel_rfl) rfl (np (by kernel_rfl)) (fun _ => E.assign rfl) ?_
            refine D.done rfl (by kernel_rfl) ?_
            refine X.keep [(1, _), (2, _), (3, _), (6, _), (9, _), (10, _), (11, _), (12, _)] ⟨rfl, rfl, rfl, rfl, rfl, rfl, rfl, rfl, trivial⟩ ?_
            refine X.next ?_
            refine C.seq ?_
            refine C.region ?_
            refine R.ev rfl (E.loadRowC rfl Try.underlying52 rfl Try.sz52 (by first | exact ⟨hs.ldA, by first | rfl | assumption | exact encV_len _ | exact Enc.len _ | exact len_ub (by assumption)⟩ | exact ⟨hs.ldP rfl, by first | rfl | assumption | exact encV_len _ | exact Enc.len _ | exact len_ub (by assumption)⟩ | exact ⟨hs.ldM rfl rfl, by first | rfl | assumption | exact encV_len _ | exact Enc.len _ | exact len_ub (by assumption)⟩ | exact ⟨hs.ldM (by assumption) (by first | rfl | assumption), by first | rfl | assumption | exact encV_len _ | exact Enc.len _ | exact len_ub (by assumption)⟩ | exact ⟨by assumption, by first | rfl | assumption | exact encV_len _ | exact Enc.len _ | exact len_ub (by assumption)⟩ | exact hs.ldp | exact At.partC (by assumption))) ?_
            first | refine R.cstoreAll hs rfl rfl Try.sz52 (by first | rfl | assumption | exact encV_len _ | exact Enc.len _ | exact len_ub (by assumption) | simp [*]) (by first | rfl | assumption | exact encV_len _ | exact Enc.len _ | exact len_ub (by assumption) | simp [*]) (by first | assumption | exact OneL.all | exact Enc.one _ | exact ub_all _ | (repeat' (first | refine List.forall_mem_cons.2 ⟨?_, ?_⟩ | exact List.forall_mem_nil _ | rfl | exact OneC.one | exact KRow.oneC' (by assumption)))) ?_ | refine R.cstore hs rfl rfl Try.sz52 (by first | rfl | assumption | exact encV_len _ | exact Enc.len _ | exact len_ub (by assumption) | simp [*]) (by simp [*]) (by first | assumption | exact OneL.all | exact Enc.one _ | exact ub_all _ | (repeat' (first | refine List.forall_mem_cons.2 ⟨?_, ?_⟩ | exact List.forall_mem_nil _ | rfl | exact OneC.one | exact KRow.oneC' (by assumption)))) ?_
            intro w9_1 hs
            try simp only [List.set_cons_zero, List.set_cons_succ] at hs
            refine R.done ?_
            refine X.keep [(1, _), (2, _), (3, _), (6, _), (9, _), (10, _), (12, _)] ⟨rfl, rfl, rfl, rfl, rfl, rfl, rfl, trivial⟩ ?_
            refine X.next ?_
            refine C.seq ?_
            refine C.seq ?_
            refine C.region ?_
            refine R.ev rfl (E.move rfl) ?_
            refine R.ev rfl (E.neq rfl rfl) ?_
            refine R.done ?_
            refine X.keep [(1, _), (2, _), (3, _), (6, _), (9, _), (10, _), (50, _)] ⟨rfl, rfl, rfl, rfl, rfl, rfl, rfl, trivial⟩ ?_
            refine X.next ?_
            refine C.cbool rfl (fun h50 => ?_) (fun h50 => ?_)
            · have hne : ¬ rAddE s1 y now = 0 := by simpa using h50
              refine C.seq ?_
              refine C.region ?_
              refine R.ev rfl (E.loadRowC rfl Try.underlying52 rfl Try.sz52 (by first | exact ⟨hs.ldA, by first | rfl | assumption | exact encV_len _ | exact Enc.len _ | exact len_ub (by assumption)⟩ | exact ⟨hs.ldP rfl, by first | rfl | assumption | exact encV_len _ | exact Enc.len _ | exact len_ub (by assumption)⟩ | exact ⟨hs.ldM rfl rfl, by first | rfl | assumption | exact encV_len _ | exact Enc.len _ | exact len_ub (by assumption)⟩ | exact ⟨hs.ldM (by assumption) (by first | rfl | assumption), by first | rfl | assumption | exact encV_len _ | exact Enc.len _ | exact len_ub (by assumption)⟩ | exact ⟨by assumption, by first | rfl | assumption | exact encV_len _ | exact Enc.len _ | exact len_ub (by assumption)⟩ | exact hs.ldp | exact At.partC (by assumption))) ?_
              refine R.ev rfl (E.move rfl) ?_
              first | refine R.cstoreAll hs rfl rfl Try.sz52 (by first | rfl | assumption | exact encV_len _ | exact Enc.len _ | exact len_ub (by assumption) | simp [*]) (by first | rfl | assumption | exact encV_len _ | exact Enc.len _ | exact len_ub (by assumption) | simp [*]) (by first | assumption | exact OneL.all | exact Enc.one _ | exact ub_all _ | (repeat' (first | refine List.forall_mem_cons.2 ⟨?_, ?_⟩ | exact List.forall_mem_nil _ | rfl | exact OneC.one | exact KRow.oneC' (by assumption)))) ?_ | refine R.cstore hs rfl rfl Try.sz52 (by first | rfl | assumption | exact encV_len _ | exact Enc.len _ | exact len_ub (by assumption) | simp [*]) (by simp [*]) (by first | assumption | exact OneL.all | exact Enc.one _ | exact ub_all _ | (repeat' (first | refine List.forall_mem_cons.2 ⟨?_, ?_⟩ | exact List.forall_mem_nil _ | rfl | exact OneC.one | exact KRow.oneC' (by assumption)))) ?_
              intro w11_2 hs
              try simp only [List.set_cons_zero, List.set_cons_succ] at hs
              refine R.ev rfl (E.assign rfl) ?_
              refine R.ev rfl (E.assign rfl) ?_
              refine R.done ?_
              refine X.keep [(6, _), (7, _), (8, _)] ⟨rfl, rfl, rfl, trivial⟩ ?_
              refine X.next ?_
              refine C.ret ?_
              refine X.thenRet ?_
              refine X.blockRet ?_
              refine X.thenRet ?_
              refine X.loopRet ?_
              refine X.blockRet ?_
              refine X.thenRet ?_
              refine X.resCTT rfl rfl Try.underlying52 rfl Try.sz52 (by first | exact ⟨hs.ldA, by first | rfl | assumption | exact encV_len _ | exact Enc.len _ | exact len_ub (by assumption)⟩ | exact ⟨hs.ldP rfl, by first | rfl | assumption | exact encV_len _ | exact Enc.len _ | exact len_ub (by assumption)⟩ | exact ⟨by assumption, by first | rfl | assumption | exact encV_len _ | exact Enc.len _ | exact len_ub (by assumption)⟩) rfl rfl ?_
              rw [if_neg hne] at hrun
              rw [rScan, if_pos hm, hrun]
              exact ⟨K2, v2, rfl, hk12, hr2, hs.to⟩
            · have he0 : rAddE s1 y now = 0 := by simpa using h50
              refine C.skip ?_
              refine X.next ?_
              refine C.region ?_
              refine R.ev rfl (E.move rfl) ?_
              refine R.ev rfl (E.add rfl rfl (by omega) (by omega)) ?_
              refine R.ev rfl (E.assign rfl) ?_
              refine R.done ?_
              refine X.keep [(1, _), (2, _), (3, _), (6, _), (9, _), (10, _)] ⟨rfl, rfl, rfl, rfl, rfl, rfl, trivial⟩ ?_
              refine X.blockNormal ?_
              refine X.next ?_
              refine C.region ?_
              refine R.ev rfl (E.move rfl) ?_
              refine R.ev rfl (E.add rfl rfl (by omega) (by omega)) ?_
              refine R.ev rfl (E.assign rfl) ?_
              refine R.done ?_
              refine X.keep [(1, _), (2, _), (3, _), (6, _), (9, _), (10, _)] ⟨rfl, rfl, rfl, rfl, rfl, rfl, trivial⟩ ?_
              first
                | exact X.again (k + 1, n + 1, rAddS s1 y now, K2, v2) ⟨rfl, rfl, rfl, rfl, rfl, rfl, trivial⟩ ⟨by omega, by omega, by rw [if_pos he0] at hrun; exact hrun, by omega, hk12, hr2, hs.to⟩ (by show _ - _ < _ - _; omega)
                | exact X.again (k + 1, n, s1, K1, v1) ⟨rfl, rfl, rfl, rfl, rfl, rfl, trivial⟩ ⟨by omega, by omega, by rw [if_pos (orOf h29 h37)] at hrun; exact hrun, by omega, hk1, hr1, hs.to⟩ (by show _ - _ < _ - _; omega)
                | exact X.again (k + 1, n, s1, K1, v1) ⟨rfl, rfl, rfl, rfl, rfl, rfl, trivial⟩ ⟨by omega, by omega, by rw [if_pos (.inl (of_decide_eq_true h29))] at hrun; exact hrun, by omega, hk1, hr1, hs.to⟩ (by show _ - _ < _ - _; omega)
          · refine R.sallocA hs Try.zr52 rfl ?_
            intro b11 w11 hs
            refine D.back hs.to ?_
            refine D.act 6 rfl (by kernel_rfl) ?_
            refine R.call ⟨_, _, Try.func67, rfl, by kernel_rfl⟩ rfl rfl (radd_any (s := s1) (v := v1) y now hs (by omega)) ?_
            rintro _ w86 ⟨K2, v2, rfl, hk2, hr2, hs⟩
            have o3 : OneC v2 := ⟨KRow.oneC' hr2⟩
            have hk12 := hk1.trans hk2
            refine D.backT (by kernel_rfl) ?_
            refine D.evP 7 rfl (by kernel_rfl) rfl (np (by kernel_rfl)) (fun _ => E.move rfl) ?_
            refine D.evP 8 rfl (by kernel_rfl) rfl (np (by kernel_rfl)) (fun _ => E.extract rfl rfl) ?_
            refine D.evP 9 rfl (by kernel_rfl) rfl (np (by kernel_rfl)) (fun _ => E.extract rfl rfl) ?_
            refine D.act 11 rfl (by kernel_rfl) ?_
            first | refine R.cstoreAll hs rfl rfl Try.sz52 (by first | rfl | assumption | exact encV_len _ | exact Enc.len _ | exact len_ub (by assumption) | simp [*]) (by first | rfl | assumption | exact encV_len _ | exact Enc.len _ | exact len_ub (by assumption) | simp [*]) (by first | assumption | exact OneL.all | exact Enc.one _ | exact ub_all _ | (repeat' (first | refine List.forall_mem_cons.2 ⟨?_, ?_⟩ | exact List.forall_mem_nil _ | rfl | exact OneC.one | exact KRow.oneC' (by assumption)))) ?_ | refine R.cstore hs rfl rfl Try.sz52 (by first | rfl | assumption | exact encV_len _ | exact Enc.len _ | exact len_ub (by assumption) | simp [*]) (by simp [*]) (by first | assumption | exact OneL.all | exact Enc.one _ | exact ub_all _ | (repeat' (first | refine List.forall_mem_cons.2 ⟨?_, ?_⟩ | exact List.forall_mem_nil _ | rfl | exact OneC.one | exact KRow.oneC' (by assumption)))) ?_
            intro w8_11 hs
            try simp only [List.set_cons_zero, List.set_cons_succ] at hs
            refine D.backT (by kernel_rfl) ?_
            refine D.evP 12 rfl (by kernel_rfl) rfl (np (by kernel_rfl)) (fun _ => E.assign rfl) ?_
            refine D.done rfl (by kernel_rfl) ?_
            refine X.keep [(1, _), (2, _), (3, _), (6, _), (9, _), (10, _), (11, _), (12, _)] ⟨rfl, rfl, rfl, rfl, rfl, rfl, rfl, rfl, trivial⟩ ?_
            refine X.next ?_
            refine C.seq ?_
            refine C.region ?_
            refine R.ev rfl (E.loadRowC rfl Try.underlying52 rfl Try.sz52 (by first | exact ⟨hs.ldA, by first | rfl | assumption | exact encV_len _ | exact Enc.len _ | exact len_ub (by assumption)⟩ | exact ⟨hs.ldP rfl, by first | rfl | assumption | exact encV_len _ | exact Enc.len _ | exact len_ub (by assumption)⟩ | exact ⟨hs.ldM rfl rfl, by first | rfl | assumption | exact encV_len _ | exact Enc.len _ | exact len_ub (by assumption)⟩ | exact ⟨hs.ldM (by assumption) (by first | rfl | assumption), by first | rfl | assumption | exact encV_len _ | exact Enc.len _ | exact len_ub (by assumption)⟩ | exact ⟨by assumption, by first | rfl | assumption | exact encV_len _ | exact Enc.len _ | exact len_ub (by assumption)⟩ | exact hs.ldp | exact At.partC (by assumption))) ?_
            first | refine R.cstoreAll hs rfl rfl Try.sz52 (by first | rfl | assumption | exact encV_len _ | exact Enc.len _ | exact len_ub (by assumption) | simp [*]) (by first | rfl | assumption | exact encV_len _ | exact Enc.len _ | exact len_ub (by assumption) | simp [*]) (by first | assumption | exact OneL.all | exact Enc.one _ | exact ub_all _ | (repeat' (first | refine List.forall_mem_cons.2 ⟨?_, ?_⟩ | exact List.forall_mem_nil _ | rfl | exact OneC.one | exact KRow.oneC' (by assumption)))) ?_ | refine R.cstore hs rfl rfl Try.sz52 (by first | rfl | assumption | exact encV_len _ | exact Enc.len _ | exact len_ub (by assumption) | simp [*]) (by simp [*]) (by first | assumption | exact OneL.all | exact Enc.one _ | exact ub_all _ | (repeat' (first | refine List.forall_mem_cons.2 ⟨?_, ?_⟩ | exact List.forall_mem_nil _ | rfl | exact OneC.one | exact KRow.oneC' (by assumption)))) ?_
            intro w9_1 hs
            try simp only [List.set_cons_zero, List.set_cons_succ] at hs
            refine R.done ?_
            refine X.keep [(1, _), (2, _), (3, _), (6, _), (9, _), (10, _), (12, _)] ⟨rfl, rfl, rfl, rfl, rfl, rfl, rfl, trivial⟩ ?_
            refine X.next ?_
            refine C.seq ?_
            refine C.seq ?_
            refine C.region ?_
            refine R.ev rfl (E.move rfl) ?_
            refine R.ev rfl (E.neq rfl rfl) ?_
            refine R.done ?_
            refine X.keep [(1, _), (2, _), (3, _), (6, _), (9, _), (10, _), (50, _)] ⟨rfl, rfl, rfl, rfl, rfl, rfl, rfl, trivial⟩ ?_
            refine X.next ?_
            refine C.cbool rfl (fun h50 => ?_) (fun h50 => ?_)
            · have hne : ¬ rAddE s1 y now = 0 := by simpa using h50
              refine C.seq ?_
              refine C.region ?_
              refine R.ev rfl (E.loadRowC rfl Try.underlying52 rfl Try.sz52 (by first | exact ⟨hs.ldA, by first | rfl | assumption | exact encV_len _ | exact Enc.len _ | exact len_ub (by assumption)⟩ | exact ⟨hs.ldP rfl, by first | rfl | assumption | exact encV_len _ | exact Enc.len _ | exact len_ub (by assumption)⟩ | exact ⟨hs.ldM rfl rfl, by first | rfl | assumption | exact encV_len _ | exact Enc.len _ | exact len_ub (by assumption)⟩ | exact ⟨hs.ldM (by assumption) (by first | rfl | assumption), by first | rfl | assumption | exact encV_len _ | exact Enc.len _ | exact len_ub (by assumption)⟩ | exact ⟨by assumption, by first | rfl | assumption | exact encV_len _ | exact Enc.len _ | exact len_ub (by assumption)⟩ | exact hs.ldp | exact At.partC (by assumption))) ?_
              refine R.ev rfl (E.move rfl) ?_
              first | refine R.cstoreAll hs rfl rfl Try.sz52 (by first | rfl | assumption | exact encV_len _ | exact Enc.len _ | exact len_ub (by assumption) | simp [*]) (by first | rfl | assumption | exact encV_len _ | exact Enc.len _ | exact len_ub (by assumption) | simp [*]) (by first | assumption | exact OneL.all | exact Enc.one _ | exact ub_all _ | (repeat' (first | refine List.forall_mem_cons.2 ⟨?_, ?_⟩ | exact List.forall_mem_nil _ | rfl | exact OneC.one | exact KRow.oneC' (by assumption)))) ?_ | refine R.cstore hs rfl rfl Try.sz52 (by first | rfl | assumption | exact encV_len _ | exact Enc.len _ | exact len_ub (by assumption) | simp [*]) (by simp [*]) (by first | assumption | exact OneL.all | exact Enc.one _ | exact ub_all _ | (repeat' (first | refine List.forall_mem_cons.2 ⟨?_, ?_⟩ | exact List.forall_mem_nil _ | rfl | exact OneC.one | exact KRow.oneC' (by assumption)))) ?_
              intro w11_2 hs
              try simp only [List.set_cons_zero, List.set_cons_succ] at hs
              refine R.ev rfl (E.assign rfl) ?_
              refine R.ev rfl (E.assign rfl) ?_
              refine R.done ?_
              refine X.keep [(6, _), (7, _), (8, _)] ⟨rfl, rfl, rfl, trivial⟩ ?_
              refine X.next ?_
              refine C.ret ?_
              refine X.thenRet ?_
              refine X.blockRet ?_
              refine X.thenRet ?_
              refine X.loopRet ?_
              refine X.blockRet ?_
              refine X.thenRet ?_
              refine X.resCTT rfl rfl Try.underlying52 rfl Try.sz52 (by first | exact ⟨hs.ldA, by first | rfl | assumption | exact encV_len _ | exact Enc.len _ | exact len_ub (by assumption)⟩ | exact ⟨hs.ldP rfl, by first | rfl | assumption | exact encV_len _ | exact Enc.len _ | exact len_ub (by assumption)⟩ | exact ⟨by assumption, by first | rfl | assumption | exact encV_len _ | exact Enc.len _ | exact len_ub (by assumption)⟩) rfl rfl ?_
              rw [if_neg hne] at hrun
              rw [rScan, if_pos hm, hrun]
              exact ⟨K2, v2, rfl, hk12, hr2, hs.to⟩
            · have he0 : rAddE s1 y now = 0 := by simpa using h50
              refine C.skip ?_
              refine X.next ?_
              refine C.region ?_
              refine R.ev rfl (E.move rfl) ?_
              refine R.ev rfl (E.add rfl rfl (by omega) (by omega)) ?_
              refine R.ev rfl (E.assign rfl) ?_
              refine R.done ?_
              refine X.keep [(1, _), (2, _), (3, _), (6, _), (9, _), (10, _)] ⟨rfl, rfl, rfl, rfl, rfl, rfl, trivial⟩ ?_
              refine X.blockNormal ?_
              refine X.next ?_
              refine C.region ?_
              refine R.ev rfl (E.move rfl) ?_
              refine R.ev rfl (E.add rfl rfl (by omega) (by omega)) ?_
              refine R.ev rfl (E.assign rfl) ?_
              refine R.done ?_
              refine X.keep [(1, _), (2, _), (3, _), (6, _), (9, _), (10, _)] ⟨rfl, rfl, rfl, rfl, rfl, rfl, trivial⟩ ?_
              first
                | exact X.again (k + 1, n + 1, rAddS s1 y now, K2, v2) ⟨rfl, rfl, rfl, rfl, rfl, rfl, trivial⟩ ⟨by omega, by omega, by rw [if_pos he0] at hrun; exact hrun, by omega, hk12, hr2, hs.to⟩ (by show _ - _ < _ - _; omega)
                | exact X.again (k + 1, n, s1, K1, v1) ⟨rfl, rfl, rfl, rfl, rfl, rfl, trivial⟩ ⟨by omega, by omega, by rw [if_pos (orOf h29 h37)] at hrun; exact hrun, by omega, hk1, hr1, hs.to⟩ (by show _ - _ < _ - _; omega)
                | exact X.again (k + 1, n, s1, K1, v1) ⟨rfl, rfl, rfl, rfl, rfl, rfl, trivial⟩ ⟨by omega, by omega, by rw [if_pos (.inl (of_decide_eq_true h29))] at hrun; exact hrun, by omega, hk1, hr1, hs.to⟩ (by show _ - _ < _ - _; omega)
    · refine C.exit ?_
      refine X.thenExit ?_
      refine X.loopExit ?_
      refine X.blockExit ?_
      refine X.next ?_
      refine C.seq ?_
      refine C.region ?_
      first | refine R.ev rfl (E.fieldAddr0 2 rfl Try.underlying52 rfl Try.sz4 rfl) ?_ | refine R.ev rfl (E.fieldAddrN 2 rfl Try.underlying52 rfl Try.sz4 rfl) ?_
      refine R.cstore1 hs rfl rfl Try.sz4 (by first | decide | simp [*]) (by first | rfl | exact OneC.one | exact KRow.oneC' (by assumption)) ?_
      intro w13_1 hs
      try simp only [List.set_cons_zero, List.set_cons_succ] at hs
      refine R.done ?_
      refine X.keep [(3, _), (6, _), (9, _)] ⟨rfl, rfl, rfl, trivial⟩ ?_
      refine X.next ?_
      refine C.seq ?_
      refine C.region ?_
      refine R.ev rfl (E.loadRowC rfl Try.underlying52 rfl Try.sz52 (by first | exact ⟨hs.ldA, by first | rfl | assumption | exact encV_len _ | exact Enc.len _ | exact len_ub (by assumption)⟩ | exact ⟨hs.ldP rfl, by first | rfl | assumption | exact encV_len _ | exact Enc.len _ | exact len_ub (by assumption)⟩ | exact ⟨hs.ldM rfl rfl, by first | rfl | assumption | exact encV_len _ | exact Enc.len _ | exact len_ub (by assumption)⟩ | exact ⟨hs.ldM (by assumption) (by first | rfl | assumption), by first | rfl | assumption | exact encV_len _ | exact Enc.len _ | exact len_ub (by assumption)⟩ | exact ⟨by assumption, by first | rfl | assumption | exact encV_len _ | exact Enc.len _ | exact len_ub (by assumption)⟩ | exact hs.ldp | exact At.partC (by assumption))) ?_
      refine R.ev rfl (E.move rfl) ?_
      first | refine R.cstoreAll hs rfl rfl Try.sz52 (by first | rfl | assumption | exact encV_len _ | exact Enc.len _ | exact len_ub (by assumption) | simp [*]) (by first | rfl | assumption | exact encV_len _ | exact Enc.len _ | exact len_ub (by assumption) | simp [*]) (by first | assumption | exact OneL.all | exact Enc.one _ | exact ub_all _ | (repeat' (first | refine List.forall_mem_cons.2 ⟨?_, ?_⟩ | exact List.forall_mem_nil _ | rfl | exact OneC.one | exact KRow.oneC' (by assumption)))) ?_ | refine R.cstore hs rfl rfl Try.sz52 (by first | rfl | assumption | exact encV_len _ | exact Enc.len _ | exact len_ub (by assumption) | simp [*]) (by simp [*]) (by first | assumption | exact OneL.all | exact Enc.one _ | exact ub_all _ | (repeat' (first | refine List.forall_mem_cons.2 ⟨?_, ?_⟩ | exact List.forall_mem_nil _ | rfl | exact OneC.one | exact KRow.oneC' (by assumption)))) ?_
      intro w14_2 hs
      try simp only [List.set_cons_zero, List.set_cons_succ] at hs
      refine R.ev rfl (E.assign rfl) ?_
      refine R.ev rfl (E.assign rfl) ?_
      refine R.done ?_
      refine X.keep [(6, _), (7, _), (8, _)] ⟨rfl, rfl, rfl, trivial⟩ ?_
      refine X.next ?_
      refine C.ret ?_
      refine X.resCTT rfl rfl Try.underlying52 rfl Try.sz52 (by first | exact ⟨hs.ldA, by first | rfl | assumption | exact encV_len _ | exact Enc.len _ | exact len_ub (by assumption)⟩ | exact ⟨hs.ldP rfl, by first | rfl | assumption | exact encV_len _ | exact Enc.len _ | exact len_ub (by assumption)⟩ | exact ⟨by assumption, by first | rfl | assumption | exact encV_len _ | exact Enc.len _ | exact len_ub (by assumption)⟩) rfl rfl ?_
      have hke : ids.length ≤ k := by omega
      rw [List.drop_eq_nil_of_le hke, rScanL] at hrun
      rw [rScan, if_pos hm, hrun]
      exact ⟨K1, v1, rfl, hk1, hr1, hs.to⟩
end Go.Proofs.Ytoidpcmcbmioiaa
