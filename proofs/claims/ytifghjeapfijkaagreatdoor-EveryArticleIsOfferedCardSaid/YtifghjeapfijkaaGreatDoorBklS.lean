/-
  package backlog: Scan over the values of a slice.
-/
import Derived.Test.YtifghjeapfijkaaGreatDoorBklM
import Derived.Test.YtifghjeapfijkaaGreatDoorFun
namespace Go.Proofs.YtifghjeapfijkaaGreatDoor
open Go.Eng Go.RowKit

variable {K : Kn} {Hs Rs : List Hl} {F : Hl} {w : World} {p : Nat} {s : Bk}
/-- a list gone through until the step says no -/
def runL {σ α : Type} (step : σ → α → σ) (go : σ → α → Bool) : σ → List α → σ
  | σ, [] => σ
  | σ, a :: l => if go σ a then runL step go (step σ a) l else step σ a
theorem runL_at {σ α : Type} {step : σ → α → σ} {go : σ → α → Bool} {s0 s1 : σ} {L : List α} {k : Nat} {y : α} (h : runL step go s0 L = runL step go s1 (L.drop k)) (hy : L[k]? = some y) :
    (go s1 y = true → runL step go s0 L = runL step go (step s1 y) (L.drop (k + 1))) ∧ (go s1 y = false → runL step go s0 L = step s1 y) := by
  obtain ⟨h1, h2⟩ := List.getElem?_eq_some_iff.1 hy
  rw [List.drop_eq_getElem_cons h1, h2, runL] at h
  exact ⟨fun hg => by rw [h, if_pos hg], fun hg => by rw [h, if_neg (by rw [hg]; decide)]⟩
theorem runL_end {σ α : Type} {step : σ → α → σ} {go : σ → α → Bool} {s0 s1 : σ} {L : List α} {k : Nat} {Pc : σ → Hl → Prop} {F : Hl} (hp : Pc s1 F) (h : runL step go s0 L = runL step go s1 (L.drop k)) (hk : L.length ≤ k) : Pc (runL step go s0 L) F := by
  rw [h, List.drop_eq_nil_of_le hk]; exact hp
theorem values1_any {σ : Type} (Pc : σ → Hl → Prop) (step : σ → Vec 32 → σ) (go : σ → Vec 32 → Bool) {fid : FuncId} {first cap : List Value} {s0 : σ} {L : List (Vec 32)} {ad : Option Addr} {n c b : Nat} (hcal : Callable Tryz.prog fid)
    (hf : ∀ (s1 : σ) (F1 : Hl) (R1 : List Hl) (a : Vec 32) (w1 : World), Pc s1 F1 → Sat K w1 (F1 :: R1) → Ret Tryz.prog fid (first ++ [idV a.1] ++ cap).toArray w1 fun r w' => r = .bool (go s1 a) ∧ ∃ F', Pc (step s1 a) F' ∧ Sat K w' (F' :: R1))
    (hX : Pc s0 F) (hs : Sat K w (F :: Rs)) [hb : InH b (.cells [Value.slice ad n c].toArray 55 (0, 0)) Rs] [hrd : Rd encV 32 K Rs (.slice ad n c) L] (hn : n ≤ 9223372036854775807) :
    Ret Tryz.prog 43 #[.func (.func fid) first.toArray cap.toArray, ptr b] w fun _ w' => ∃ F', Pc (runL step go s0 L) F' ∧ Sat K w' (F' :: Rs) := by
  have hln := hrd.len
  refine Ret.enter (n := 16) (args := [.func (.func fid) first.toArray cap.toArray, ptr b]) Tryz.func43 rfl rfl ?_
  refine C.keep [(0, _), (1, _)] ⟨rfl, rfl, trivial⟩ ?_
  refine C.seq ?_
  refine C.region ?_
  refine R.ev rfl (E.load1 rfl Tryz.underlying55 rfl (by first | exact hs.ldc | exact hs.ld rfl | exact hs.ld (by assumption) | exact by assumption | exact At.cellC (by assumption) | exact hs.ldK rfl)) ?_
  refine R.ev rfl (E.lenSl rfl Tryz.underlying55) ?_
  refine R.ev rfl (E.move rfl) ?_
  refine R.done ?_
  refine X.keep [(0, _), (5, _), (6, _), (7, _)] ⟨rfl, rfl, rfl, rfl, trivial⟩ ?_
  refine X.next ?_
  refine C.block ?_
  refine C.loop (T := Nat × σ × Hl) [(0, _), (5, _), (6, _)] (fun (k, _, _) => [(7, .int .i64 (k : Nat))]) (fun (k, s1, F') w' => k ≤ n ∧ Pc s1 F' ∧ runL step go s0 L = runL step go s1 (L.drop k) ∧ Sat K w' (F' :: Rs)) (fun (k, _) => n - k) ((0, s0, F)) ⟨rfl, rfl, rfl, rfl, trivial⟩ ⟨Nat.zero_le _, hX, rfl, hs⟩ ?_
  rintro ⟨k, s1, F1⟩ w1 ⟨hk, hX1, hrun, hs⟩
  refine C.keep [(0, _), (5, _), (6, _), (7, _)] ⟨rfl, rfl, rfl, rfl, trivial⟩ ?_
  refine C.seq ?_
  refine C.region ?_
  refine R.ev rfl (E.lss rfl rfl) ?_
  refine R.done ?_
  refine X.keep [(0, _), (5, _), (6, _), (7, _), (8, _)] ⟨rfl, rfl, rfl, rfl, rfl, trivial⟩ ?_
  refine X.next ?_
  refine C.seq ?_
  refine C.cdec rfl (fun h8 => ?_) (fun h8 => ?_)
  · obtain ⟨y, bk_y, of_y, hy, my, ly, rfl, Ay⟩ := hs.el (i := k) (ad := ad) (n := n) (c := c) (by omega)
    have ay := Ay _ hs
    have e2 := encV_len y
    have hat := runL_at hrun hy
    refine C.skip ?_
    refine X.next ?_
    refine C.seq ?_
    refine C.block ?_
    refine C.seq ?_
    refine C.region ?_
    refine R.ev rfl (E.indexAddr rfl rfl Tryz.underlying55 Tryz.sz45 rfl (by first | omega | decide)) ?_
    refine R.ev rfl (E.loadRowC rfl Tryz.underlying45 rfl Tryz.sz45 (by first | exact ⟨hs.ldA, by first | rfl | assumption | exact encV_len _ | exact Enc.len _ | exact len_ub (by assumption)⟩ | exact ⟨hs.ldP rfl, by first | rfl | assumption | exact encV_len _ | exact Enc.len _ | exact len_ub (by assumption)⟩ | exact ⟨hs.ldM rfl rfl, by first | rfl | assumption | exact encV_len _ | exact Enc.len _ | exact len_ub (by assumption)⟩ | exact ⟨hs.ldM (by assumption) (by first | rfl | assumption), by first | rfl | assumption | exact encV_len _ | exact Enc.len _ | exact len_ub (by assumption)⟩ | exact ⟨by assumption, by first | rfl | assumption | exact encV_len _ | exact Enc.len _ | exact len_ub (by assumption)⟩ | exact hs.ldp | exact At.partC (by assumption))) ?_
    refine R.sallocA hs Tryz.zr45 rfl ?_
    intro b4 w4 hs
    first | refine R.cstoreAll hs rfl rfl Tryz.sz45 (by first | rfl | assumption | exact encV_len _ | exact Enc.len _ | exact len_ub (by assumption) | simp [*]) (by first | rfl | assumption | exact encV_len _ | exact Enc.len _ | exact len_ub (by assumption) | simp [*]) (by first | assumption | exact OneL.all | exact Enc.one _ | exact ub_all _ | (repeat' (first | refine List.forall_mem_cons.2 ⟨?_, ?_⟩ | exact List.forall_mem_nil _ | rfl | exact OneC.one | exact KRow.oneC' (by assumption)))) ?_ | refine R.cstore hs rfl rfl Tryz.sz45 (by first | rfl | assumption | exact encV_len _ | exact Enc.len _ | exact len_ub (by assumption) | simp [*]) (by simp [*]) (by first | assumption | exact OneL.all | exact Enc.one _ | exact ub_all _ | (repeat' (first | refine List.forall_mem_cons.2 ⟨?_, ?_⟩ | exact List.forall_mem_nil _ | rfl | exact OneC.one | exact KRow.oneC' (by assumption)))) ?_
    intro w2_3 hs
    try simp only [List.set_cons_zero, List.set_cons_succ] at hs
    refine R.done ?_
    refine X.keep [(0, _), (4, _), (5, _), (6, _), (7, _)] ⟨rfl, rfl, rfl, rfl, rfl, trivial⟩ ?_
    refine X.next ?_
    refine C.seq ?_
    refine C.region ?_
    refine R.ev rfl (E.move rfl) ?_
    refine R.ev rfl (E.loadRowC rfl Tryz.underlying45 rfl Tryz.sz45 (by first | exact ⟨hs.ldA, by first | rfl | assumption | exact encV_len _ | exact Enc.len _ | exact len_ub (by assumption)⟩ | exact ⟨hs.ldP rfl, by first | rfl | assumption | exact encV_len _ | exact Enc.len _ | exact len_ub (by assumption)⟩ | exact ⟨hs.ldM rfl rfl, by first | rfl | assumption | exact encV_len _ | exact Enc.len _ | exact len_ub (by assumption)⟩ | exact ⟨hs.ldM (by assumption) (by first | rfl | assumption), by first | rfl | assumption | exact encV_len _ | exact Enc.len _ | exact len_ub (by assumption)⟩ | exact ⟨by assumption, by first | rfl | assumption | exact encV_len _ | exact Enc.len _ | exact len_ub (by assumption)⟩ | exact hs.ldp | exact At.partC (by assumption))) ?_
    refine R.callV hcal rfl rfl rfl (hf s1 F1 _ y _ hX1 (hs.front (F := F1))) ?_
    rintro _ w2 ⟨rfl, F2, hX2, hs1⟩
    have hs := hs.back (F := F1) hs1
    refine R.ev rfl ((E.not rfl).isB (c := !(go s1 y)) rfl) ?_
    refine R.done ?_
    refine X.keep [(0, _), (5, _), (6, _), (7, _), (14, _)] ⟨rfl, rfl, rfl, rfl, rfl, trivial⟩ ?_
    refine X.next ?_
    refine C.cbool rfl (fun h14 => ?_) (fun h14 => ?_)
    · have hgo : go s1 y = false := by simpa using h14
      refine C.ret ?_
      refine X.blockRet ?_
      refine X.thenRet ?_
      refine X.loopRet ?_
      refine X.blockRet ?_
      refine X.ret0 rfl ?_
      first
        | exact ⟨F2, by rw [hat.2 hgo]; exact hX2, hs.to⟩
        | exact ⟨F1, runL_end hX1 hrun (by omega), hs.to⟩
    · have hgo : go s1 y = true := by simpa using h14
      refine C.skip ?_
      refine X.blockNormal ?_
      refine X.next ?_
      refine C.region ?_
      refine R.ev rfl (E.add rfl rfl (by omega) (by omega)) ?_
      refine R.ev rfl (E.move rfl) ?_
      refine R.done ?_
      refine X.keep [(0, _), (5, _), (6, _), (7, _)] ⟨rfl, rfl, rfl, rfl, trivial⟩ ?_
      exact X.again (k + 1, step s1 y, F2) ⟨rfl, rfl, rfl, rfl, trivial⟩ ⟨by omega, hX2, hat.1 hgo, hs.to⟩ (by show _ - _ < _ - _; omega)
  · refine C.exit ?_
    refine X.thenExit ?_
    refine X.loopExit ?_
    refine X.blockExit ?_
    refine X.bodyNormal ?_
    refine X.ret0 rfl ?_
    first
      | exact ⟨F2, by rw [hat.2 hgo]; exact hX2, hs.to⟩
      | exact ⟨F1, runL_end hX1 hrun (by omega), hs.to⟩
/-- what Scan has at hand while it goes on -/
structure ScS where
  op : Bool
  full : Bool
  n : Nat
  s : Bk
def scStep (now : Int) (x : ScS) (a : Vec 32) : ScS := if x.op = false then x else if a = zid ∨ has a x.s.L = true then x else if x.s.cap ≤ x.s.L.length then { x with op := false, full := true } else { x with n := x.n + 1, s := { x.s with L := x.s.L ++ [⟨a, now, 0⟩] } }
def scGo (x : ScS) (a : Vec 32) : Bool := if x.op = false then false else if a = zid ∨ has a x.s.L = true then true else if x.s.cap ≤ x.s.L.length then false else true
structure ScP (b9 b3 b10 b5 b8 p : Nat) (now : Int) (x : ScS) (F : Hl) : Prop where
  ex : ∃ G, F = row b9 4 [.bool x.op] ++ (row b3 33 [ptr p] ++ (row b10 4 [.bool x.full] ++ (row b5 3 [.int .i64 now] ++ (row b8 3 [.int .i64 (x.n : Nat)] ++ G)))) ∧ BkL p x.s G
  cap : x.s.cap ≤ 4096
  len : x.s.L.length ≤ 100000
  num : x.n ≤ x.s.L.length
variable {b9 b3 b10 b5 b8 : Nat} {now : Int} {x : ScS}
theorem ScP.of {op full inc : Bool} {n : Nat} {c wt : Int} {L : List Ent} {M : OMap} {v m : Value} {G H : Hl} (hr : RowL 86 encE 34 v L G) (hm : MapL ekI Value.bool m M H) (h1 : c ≤ 4096) (h2 : L.length ≤ 100000) (h3 : n ≤ L.length) :
    ScP b9 b3 b10 b5 b8 p now ⟨op, full, n, ⟨c, wt, inc, L, M⟩⟩ (row b9 4 [.bool op] ++ (row b3 33 [ptr p] ++ (row b10 4 [.bool full] ++ (row b5 3 [.int .i64 now] ++ (row b8 3 [.int .i64 (n : Nat)] ++ (row p 79 [.int .i64 c, .int .i64 wt, .bool inc, v, m] ++ (G ++ H))))))) := ⟨⟨_, rfl, BkL.mk' hr hm⟩, h1, h2, h3⟩
theorem scan1_any (a : Vec 32) (hP : ScP b9 b3 b10 b5 b8 p now x F) (hs : Sat K w (F :: Rs)) : Ret Tryz.prog 42 #[idV a.1, ptr b9, ptr b3, ptr b10, ptr b5, ptr b8] w fun r w' => r = .bool (scGo x a) ∧ ∃ F', ScP b9 b3 b10 b5 b8 p now (scStep now x a) F' ∧ Sat K w' (F' :: Rs) := by
  obtain ⟨⟨F0, rfl, hw⟩, hcap, hlen, hnum⟩ := hP
  obtain ⟨v, m, G, H, rfl, hr, hm⟩ := hw.ex
  obtain ⟨op, full, n, ⟨c, wt, inc, L, M⟩⟩ := x
  simp only at hr hm hcap hlen hnum
  obtain ⟨ad, cap, rfl, hc, hcm, had⟩ := hr.val
  have hs : Sat K w (row b9 4 [.bool op] :: row b3 33 [ptr p] :: row b10 4 [.bool full] :: row b5 3 [.int .i64 now] :: row b8 3 [.int .i64 (n : Nat)] :: row p 79 [.int .i64 c, .int .i64 wt, .bool inc, .slice ad L.length cap, m] :: G :: H :: Rs) := hs.perm (by simp [List.append_assoc])
  have hbk : ∀ Hs, [InH p (.cells [.int .i64 c, .int .i64 wt, .bool inc, .slice ad L.length cap, m].toArray 79 (0, 0)) Hs] → [FIn G Hs] → [FIn H Hs] → BkIn p ⟨c, wt, inc, L, M⟩ Hs := fun Hs _ _ _ => BkIn.parts (s := ⟨c, wt, inc, L, M⟩) (G := G) (H := H)
  have e1 := encV_len a
  refine Ret.enter (n := 37) (args := [idV a.1, ptr b9, ptr b3, ptr b10, ptr b5, ptr b8]) Tryz.func42 rfl rfl ?_
  refine C.keep [(0, _), (1, _), (2, _), (3, _), (4, _), (5, _)] ⟨rfl, rfl, rfl, rfl, rfl, rfl, trivial⟩ ?_
  refine C.seq ?_
  refine C.region ?_
  refine R.sboxA hs rfl rfl ?_
  intro b6 w6 hs
  refine R.ev rfl (E.assign rfl) ?_
  refine R.done ?_
  refine X.keep [(1, _), (2, _), (3, _), (4, _), (5, _), (6, _)] ⟨rfl, rfl, rfl, rfl, rfl, rfl, trivial⟩ ?_
  refine X.next ?_
  refine C.seq ?_
  refine C.block ?_
  refine C.seq ?_
  refine C.region ?_
  refine R.ev rfl (E.load1 rfl Tryz.underlying4 rfl (by first | exact hs.ldc | exact hs.ld rfl | exact hs.ld (by assumption) | exact by assumption | exact At.cellC (by assumption) | exact hs.ldK rfl)) ?_
  refine R.ev rfl ((E.not rfl).isB (c := !op) rfl) ?_
  refine R.ev rfl (E.assign rfl) ?_
  refine R.done ?_
  refine X.keep [(1, _), (2, _), (3, _), (4, _), (5, _), (6, _), (8, _)] ⟨rfl, rfl, rfl, rfl, rfl, rfl, rfl, trivial⟩ ?_
  refine X.next ?_
  refine C.cbool rfl (fun h8 => ?_) (fun h8 => ?_)
  · have hop : op = false := by simpa using h8
    refine C.seq ?_
    refine C.region ?_
    refine R.ev rfl (E.assign rfl) ?_
    refine R.done ?_
    refine X.keep [(7, _)] ⟨rfl, trivial⟩ ?_
    refine X.next ?_
    refine C.ret ?_
    refine X.blockRet ?_
    refine X.thenRet ?_
    refine X.ret1 rfl rfl ?_
    exact ⟨by rw [scGo, if_pos hop], _, by rw [scStep, if_pos hop]; exact ⟨⟨_, rfl, BkL.mk' hr hm⟩, hcap, hlen, hnum⟩, hs.to⟩
  · have hop : ¬ op = false := by simpa using h8
    refine C.seq ?_
    refine C.region ?_
    refine R.ev rfl (E.loadRowC rfl Tryz.underlying45 rfl Tryz.sz45 (by first | exact ⟨hs.ldA, by first | rfl | assumption | exact encV_len _ | exact Enc.len _ | exact len_ub (by assumption)⟩ | exact ⟨hs.ldP rfl, by first | rfl | assumption | exact encV_len _ | exact Enc.len _ | exact len_ub (by assumption)⟩ | exact ⟨hs.ldM rfl rfl, by first | rfl | assumption | exact encV_len _ | exact Enc.len _ | exact len_ub (by assumption)⟩ | exact ⟨hs.ldM (by assumption) (by first | rfl | assumption), by first | rfl | assumption | exact encV_len _ | exact Enc.len _ | exact len_ub (by assumption)⟩ | exact ⟨by assumption, by first | rfl | assumption | exact encV_len _ | exact Enc.len _ | exact len_ub (by assumption)⟩ | exact hs.ldp | exact At.partC (by assumption))) ?_
    refine R.ev rfl ((E.buildA rfl Tryz.underlying45 Tryz.zr45 Tryz.sz5 rfl).as (u := .agg (encV zid).toArray) (by rfl)) ?_
    refine R.ev rfl ((E.eqV 10 (b := zid) rfl rfl Tryz.lv45 rfl Tryz.underlying45 rfl Tryz.gd45)) ?_
    refine R.ev rfl (E.move rfl) ?_
    refine R.split 15 rfl (fun h15 => ?_) (fun h15 => ?_)
    · refine R.gskip rfl rfl rfl ?_
      refine R.gskip rfl rfl rfl ?_
      refine R.gskip rfl rfl rfl ?_
      refine R.ev rfl (E.pickT rfl rfl) ?_
      refine R.ev rfl (E.assign rfl) ?_
      refine R.done ?_
      refine X.keep [(1, _), (2, _), (3, _), (4, _), (5, _), (6, _), (11, _)] ⟨rfl, rfl, rfl, rfl, rfl, rfl, rfl, trivial⟩ ?_
      refine X.next ?_
      refine C.ctrue rfl ?_
      refine C.seq ?_
      refine C.region ?_
      have hid : a = zid ∨ has a L = true := by first | exact .inl (of_decide_eq_true h15) | exact .inr h11
      refine R.ev rfl (E.assign rfl) ?_
      refine R.done ?_
      refine X.keep [(7, _)] ⟨rfl, trivial⟩ ?_
      refine X.next ?_
      refine C.ret ?_
      refine X.blockRet ?_
      refine X.thenRet ?_
      refine X.ret1 rfl rfl ?_
      exact ⟨by rw [scGo, if_neg hop, if_pos hid], _, by rw [scStep, if_neg hop, if_pos hid]; exact ⟨⟨_, rfl, BkL.mk' hr hm⟩, hcap, hlen, hnum⟩, hs.to⟩
    · refine R.gyes rfl rfl ?_
      refine R.ev rfl (E.load1 rfl Tryz.underlying33 rfl (by first | exact hs.ldc | exact hs.ld rfl | exact hs.ld (by assumption) | exact by assumption | exact At.cellC (by assumption) | exact hs.ldK rfl)) ?_
      refine R.gyes rfl rfl ?_
      refine R.ev rfl (E.loadRowC rfl Tryz.underlying45 rfl Tryz.sz45 (by first | exact ⟨hs.ldA, by first | rfl | assumption | exact encV_len _ | exact Enc.len _ | exact len_ub (by assumption)⟩ | exact ⟨hs.ldP rfl, by first | rfl | assumption | exact encV_len _ | exact Enc.len _ | exact len_ub (by assumption)⟩ | exact ⟨hs.ldM rfl rfl, by first | rfl | assumption | exact encV_len _ | exact Enc.len _ | exact len_ub (by assumption)⟩ | exact ⟨hs.ldM (by assumption) (by first | rfl | assumption), by first | rfl | assumption | exact encV_len _ | exact Enc.len _ | exact len_ub (by assumption)⟩ | exact ⟨by assumption, by first | rfl | assumption | exact encV_len _ | exact Enc.len _ | exact len_ub (by assumption)⟩ | exact hs.ldp | exact At.partC (by assumption))) ?_
      refine R.gyes rfl rfl ?_
      refine R.call ⟨_, _, Tryz.func31, rfl, by kernel_rfl⟩ rfl rfl (has_any (s := ⟨c, wt, inc, L, M⟩) (hw := hbk _) a hs) ?_
      rintro _ w5 ⟨rfl, hs⟩
      refine R.ev rfl (E.pickF rfl rfl) ?_
      refine R.ev rfl (E.assign rfl) ?_
      refine R.done ?_
      refine X.keep [(1, _), (2, _), (3, _), (4, _), (5, _), (6, _), (11, _)] ⟨rfl, rfl, rfl, rfl, rfl, rfl, rfl, trivial⟩ ?_
      refine X.next ?_
      refine C.cbool rfl (fun h11 => ?_) (fun h11 => ?_)
      · refine C.seq ?_
        refine C.region ?_
        have hid : a = zid ∨ has a L = true := by first | exact .inl (of_decide_eq_true h15) | exact .inr h11
        refine R.ev rfl (E.assign rfl) ?_
        refine R.done ?_
        refine X.keep [(7, _)] ⟨rfl, trivial⟩ ?_
        refine X.next ?_
        refine C.ret ?_
        refine X.blockRet ?_
        refine X.thenRet ?_
        refine X.ret1 rfl rfl ?_
        exact ⟨by rw [scGo, if_neg hop, if_pos hid], _, by rw [scStep, if_neg hop, if_pos hid]; exact ⟨⟨_, rfl, BkL.mk' hr hm⟩, hcap, hlen, hnum⟩, hs.to⟩
      · refine C.seq ?_
        refine C.region ?_
        have hid : ¬ (a = zid ∨ has a L = true) := fun h => h.elim (fun h => of_decide_eq_false h15 h) (fun h => Bool.noConfusion (h.symm.trans h11))
        refine R.ev rfl (E.load1 rfl Tryz.underlying33 rfl (by first | exact hs.ldc | exact hs.ld rfl | exact hs.ld (by assumption) | exact by assumption | exact At.cellC (by assumption) | exact hs.ldK rfl)) ?_
        refine R.call ⟨_, _, Tryz.func32, rfl, by kernel_rfl⟩ rfl rfl (full_any (s := ⟨c, wt, inc, L, M⟩) (hw := hbk _) hs) ?_
        rintro _ w7 ⟨rfl, hs⟩
        refine R.ev rfl (E.assign rfl) ?_
        refine R.done ?_
        refine X.keep [(1, _), (2, _), (3, _), (4, _), (5, _), (6, _), (20, _)] ⟨rfl, rfl, rfl, rfl, rfl, rfl, rfl, trivial⟩ ?_
        refine X.next ?_
        refine C.cdec rfl (fun h20 => ?_) (fun h20 => ?_)
        · refine C.seq ?_
          refine C.region ?_
          refine R.cstore1 hs rfl rfl Tryz.sz4 (by first | decide | simp [*]) (by first | rfl | exact OneC.one | exact KRow.oneC' (by assumption)) ?_
          intro w6_0 hs
          try simp only [List.set_cons_zero, List.set_cons_succ] at hs
          refine R.cstore1 hs rfl rfl Tryz.sz4 (by first | decide | simp [*]) (by first | rfl | exact OneC.one | exact KRow.oneC' (by assumption)) ?_
          intro w6_1 hs
          try simp only [List.set_cons_zero, List.set_cons_succ] at hs
          refine R.done ?_
          refine X.keep [] trivial ?_
          refine X.next ?_
          refine C.seq ?_
          refine C.region ?_
          refine R.ev rfl (E.assign rfl) ?_
          refine R.done ?_
          refine X.keep [(7, _)] ⟨rfl, trivial⟩ ?_
          refine X.next ?_
          refine C.ret ?_
          refine X.blockRet ?_
          refine X.thenRet ?_
          refine X.ret1 rfl rfl ?_
          exact ⟨by rw [scGo, if_neg hop, if_neg hid, if_pos h20], _, by rw [scStep, if_neg hop, if_neg hid, if_pos h20]; exact ⟨⟨_, rfl, BkL.mk' hr hm⟩, hcap, hlen, hnum⟩, hs.to⟩
        · refine C.skip ?_
          refine X.blockNormal ?_
          refine X.next ?_
          refine C.seq ?_
          refine C.drawn (fun w1 => Sat K w1 [row b6 45 (a.1.map ub), row b3 33 [ptr p], row b5 3 [.int .i64 now], row p 79 [.int .i64 c, .int .i64 wt, .bool inc, .slice ad L.length cap, m]]) ([0, 1, 4, 5, 6], [2, 3, 7, 10, 11]) (by kernel_rfl) ?_
          have hs := hs.drew
          refine D.ev 0 rfl (by kernel_rfl) rfl hs.to (fun _ hS => E.load1 rfl Tryz.underlying33 rfl (by first | exact hS.ldc | exact hS.ld rfl | exact hS.ld (by assumption) | exact by assumption | exact At.cellC (by assumption) | exact hS.ldK rfl | exact At.cellC ((by assumption : ∀ w', Sat _ w' _ → At w' _ _ _) _ hS) | exact (by assumption : ∀ w', Sat _ w' _ → World.cell? w' _ = some _) _ hS)) ?_
          refine D.ev 1 rfl (by kernel_rfl) rfl hs.to (fun _ hS => E.load1 rfl Tryz.underlying33 rfl (by first | exact hS.ldc | exact hS.ld rfl | exact hS.ld (by assumption) | exact by assumption | exact At.cellC (by assumption) | exact hS.ldK rfl | exact At.cellC ((by assumption : ∀ w', Sat _ w' _ → At w' _ _ _) _ hS) | exact (by assumption : ∀ w', Sat _ w' _ → World.cell? w' _ = some _) _ hS)) ?_
          refine D.evP 2 rfl (by kernel_rfl) rfl (fun _ => hs.to) (fun _ => E.nilCheck rfl) ?_
          first | refine D.evP 3 rfl (by kernel_rfl) rfl (fun _ => hs.to) (fun _ => E.fieldAddr0 3 rfl Tryz.underlying79 rfl Tryz.sz77 rfl) ?_ | refine D.evP 3 rfl (by kernel_rfl) rfl (fun _ => hs.to) (fun _ => E.fieldAddrN 3 rfl Tryz.underlying79 rfl Tryz.sz77 rfl) ?_
          refine D.ev 4 rfl (by kernel_rfl) rfl hs.to (fun _ hS => E.load1 rfl Tryz.underlying77 rfl (by first | exact hS.ldc | exact hS.ld rfl | exact hS.ld (by assumption) | exact by assumption | exact At.cellC (by assumption) | exact hS.ldK rfl | exact At.cellC ((by assumption : ∀ w', Sat _ w' _ → At w' _ _ _) _ hS) | exact (by assumption : ∀ w', Sat _ w' _ → World.cell? w' _ = some _) _ hS)) ?_
          refine D.ev 5 rfl (by kernel_rfl) rfl hs.to (fun _ hS => E.loadRowC rfl Tryz.underlying45 rfl Tryz.sz45 (by first | exact ⟨hS.ldA, by first | rfl | assumption | exact encV_len _ | exact Enc.len _ | exact len_ub (by assumption)⟩ | exact ⟨hS.ldP rfl, by first | rfl | assumption | exact encV_len _ | exact Enc.len _ | exact len_ub (by assumption)⟩ | exact ⟨hS.ldM rfl rfl, by first | rfl | assumption | exact encV_len _ | exact Enc.len _ | exact len_ub (by assumption)⟩ | exact ⟨hS.ldM (by assumption) (by first | rfl | assumption), by first | rfl | assumption | exact encV_len _ | exact Enc.len _ | exact len_ub (by assumption)⟩ | exact ⟨by assumption, by first | rfl | assumption | exact encV_len _ | exact Enc.len _ | exact len_ub (by assumption)⟩ | exact ⟨(by assumption : ∀ w', Sat _ w' _ → At w' _ _ _) _ hS, by first | rfl | assumption | exact encV_len _ | exact Enc.len _ | exact len_ub (by assumption)⟩ | exact hS.ldp | exact At.partC (by assumption) | exact At.partC ((by assumption : ∀ w', Sat _ w' _ → At w' _ _ _) _ hS))) ?_
          refine D.ev 6 rfl (by kernel_rfl) rfl hs.to (fun _ hS => E.load1 rfl Tryz.underlying3 rfl (by first | exact hS.ldc | exact hS.ld rfl | exact hS.ld (by assumption) | exact by assumption | exact At.cellC (by assumption) | exact hS.ldK rfl | exact At.cellC ((by assumption : ∀ w', Sat _ w' _ → At w' _ _ _) _ hS) | exact (by assumption : ∀ w', Sat _ w' _ → World.cell? w' _ = some _) _ hS)) ?_
          refine D.evP 7 rfl (by kernel_rfl) rfl (fun _ => hs.to) (fun _ => E.buildG (r := encE ⟨a, now, 0⟩) rfl Tryz.underlying86 Tryz.zr86 Tryz.ql86 (by kernel_rfl) (by kernel_rfl) ⟨⟨_, rfl, by first | rfl | exact vsz _ | simp [Value.cells, *]⟩, ⟨_, rfl, by first | rfl | exact vsz _ | simp [Value.cells, *]⟩, trivial⟩ (by first | rfl | simp [setF, fieldsOf, Value.cells])) ?_
          refine D.act 8 rfl (by kernel_rfl) ?_
          refine R.buildSliceA rfl Tryz.underlying77 Tryz.sz86 Tryz.zr86 rfl (by first | rfl | assumption | exact encV_len _ | exact Enc.len _ | simp [*]) (by decide) (by decide) ?_
          intro b31 w31 n31
          have hs := hs.new n31
          refine D.back hs.to ?_
          refine D.act 9 rfl (by kernel_rfl) ?_
          refine R.capp1 (⟨a, now, 0⟩) hs rfl rfl Tryz.underlying77 Tryz.by86 (by rfl) rfl (by first | exact hs.ldA | exact hs.ldP rfl | exact by assumption) (by decide) (by first | omega | (simp only [List.length_append, List.length_cons, List.length_nil] at *; omega)) (by first | omega | (simp only [List.length_append, List.length_cons, List.length_nil] at *; omega)) ?_
          intro v32 w32 F32 r32 hs
          refine D.back hs.to ?_
          refine D.evP 10 rfl (by kernel_rfl) rfl (fun _ => hs.to) (fun _ => E.nilCheck rfl) ?_
          first | refine D.evP 11 rfl (by kernel_rfl) rfl (fun _ => hs.to) (fun _ => E.fieldAddr0 3 rfl Tryz.underlying79 rfl Tryz.sz77 rfl) ?_ | refine D.evP 11 rfl (by kernel_rfl) rfl (fun _ => hs.to) (fun _ => E.fieldAddrN 3 rfl Tryz.underlying79 rfl Tryz.sz77 rfl) ?_
          refine D.act 12 rfl (by kernel_rfl) ?_
          refine R.cstore1 hs rfl rfl Tryz.sz77 (by first | decide | simp [*]) (by first | rfl | exact OneC.one | exact KRow.oneC' (by assumption)) ?_
          intro w8_12 hs
          try simp only [List.set_cons_zero, List.set_cons_succ] at hs
          refine D.backT (by kernel_rfl) ?_
          refine D.done rfl (by kernel_rfl) ?_
          refine X.keep [(5, _)] ⟨rfl, trivial⟩ ?_
          refine X.next ?_
          refine C.seq ?_
          refine C.region ?_
          refine R.ev rfl (E.load1 rfl Tryz.underlying3 rfl (by first | exact hs.ldc | exact hs.ld rfl | exact hs.ld (by assumption) | exact by assumption | exact At.cellC (by assumption) | exact hs.ldK rfl)) ?_
          refine R.ev rfl (E.add rfl rfl (by omega) (by omega)) ?_
          refine R.cstore1 hs rfl rfl Tryz.sz3 (by first | decide | simp [*]) (by first | rfl | exact OneC.one | exact KRow.oneC' (by assumption)) ?_
          intro w9_2 hs
          try simp only [List.set_cons_zero, List.set_cons_succ] at hs
          refine R.done ?_
          refine X.keep [] trivial ?_
          refine X.next ?_
          refine C.seq ?_
          refine C.region ?_
          refine R.ev rfl (E.assign rfl) ?_
          refine R.done ?_
          refine X.keep [(7, _)] ⟨rfl, trivial⟩ ?_
          refine X.next ?_
          refine C.ret ?_
          refine X.ret1 rfl rfl ?_
          have h20' : ¬ c ≤ (L.length : Int) := h20
          have hst : scStep now ⟨op, full, n, ⟨c, wt, inc, L, M⟩⟩ a = ⟨op, full, n + 1, ⟨c, wt, inc, L ++ [⟨a, now, 0⟩], M⟩⟩ := by rw [scStep, if_neg hop, if_neg hid, if_neg h20]
          rw [hst]
          rw [show ((n : Nat) : Int) + 1 = ((n + 1 : Nat) : Int) from rfl] at hs
          exact ⟨by rw [scGo, if_neg hop, if_neg hid, if_neg h20], _, ScP.of r32 hm hcap (by simp; omega) (by simp; omega), hs.to⟩
/-- Scan -/
def scL (s : Bk) (now : Int) (L : List (Vec 32)) : ScS := runL (scStep now) scGo ⟨true, false, 0, s⟩ L
def scanS (s : Bk) (now : Int) (L : List (Vec 32)) : Bk := if isMin now then { (scL s now L).s with inc := (scL s now L).full } else s
def scanN (s : Bk) (now : Int) (L : List (Vec 32)) : Nat := if isMin now then (scL s now L).n else 0
def scanB (s : Bk) (now : Int) (L : List (Vec 32)) : Bool := if isMin now then !(scL s now L).full else false
theorem scan_any {L : List (Vec 32)} {ad : Option Addr} {n c b : Nat} (hs : Sat K w (F :: Rs)) [hw : BkL p s F] [hb : InH b (.cells [Value.slice ad n c].toArray 55 (0, 0)) Rs] [hrd : Rd encV 32 K Rs (.slice ad n c) L] (hn : n ≤ 9223372036854775807) (hcap : s.cap ≤ 4096) (hlen : s.L.length ≤ 100000) :
    Ret Tryz.prog 15 #[ptr p, .func (.func 43) #[] #[ptr b], .int .i64 now] w fun r w' => r = .tuple #[.int .i64 (scanN s now L : Nat), .bool (scanB s now L)] ∧ ∃ F', BkL p (scanS s now L) F' ∧ Sat K w' (F' :: Rs) := by
  refine Ret.enter (n := 32) (args := [ptr p, .func (.func 43) #[] #[ptr b], .int .i64 now]) Tryz.func15 rfl rfl ?_
  refine C.keep [(0, _), (1, _), (2, _)] ⟨rfl, rfl, rfl, trivial⟩ ?_
  refine C.seq ?_
  refine C.region ?_
  refine R.sbox1 hs rfl rfl rfl ?_
  intro b3 w3 hs
  refine R.sbox1 hs rfl rfl rfl ?_
  intro b5 w5 hs
  refine R.ev rfl (E.assign rfl) ?_
  refine R.ev rfl (E.assign rfl) ?_
  refine R.done ?_
  refine X.keep [(1, _), (3, _), (5, _)] ⟨rfl, rfl, rfl, trivial⟩ ?_
  refine X.next ?_
  refine C.seq ?_
  refine C.seq ?_
  refine C.region ?_
  refine R.ev rfl (E.load1 rfl Tryz.underlying33 rfl (by first | exact hs.ldc | exact hs.ld rfl | exact hs.ld (by assumption) | exact by assumption | exact At.cellC (by assumption) | exact hs.ldK rfl)) ?_
  refine R.ev rfl (E.eqlNilF rfl rfl Tryz.underlying33) ?_
  refine R.ev rfl (E.move rfl) ?_
  refine R.gyes rfl rfl ?_
  refine R.ev rfl (E.move rfl) ?_
  refine R.gyes rfl rfl ?_
  refine R.ev rfl (E.nilFuncF rfl rfl Tryz.underlying61) ?_
  refine R.ev rfl (E.pickF rfl rfl) ?_
  refine R.ev rfl (E.move rfl) ?_
  refine R.gyes rfl rfl ?_
  refine R.ev rfl (E.load1 rfl Tryz.underlying3 rfl (by first | exact hs.ldc | exact hs.ld rfl | exact hs.ld (by assumption) | exact by assumption | exact At.cellC (by assumption) | exact hs.ldK rfl)) ?_
  refine R.gyes rfl rfl ?_
  refine R.call ⟨_, _, Tryz.func30, rfl, by kernel_rfl⟩ rfl rfl (isMinute_any now _) ?_
  rintro _ _ ⟨rfl, rfl⟩
  refine R.gyes rfl rfl ?_
  refine R.ev rfl ((E.not rfl).isB (c := !(isMin now)) rfl) ?_
  refine R.ev rfl (E.pickF rfl rfl) ?_
  refine R.done ?_
  refine X.keep [(1, _), (3, _), (5, _), (21, _)] ⟨rfl, rfl, rfl, rfl, trivial⟩ ?_
  refine X.next ?_
  refine C.cbool rfl (fun h21 => ?_) (fun h21 => ?_)
  · have hmin : ¬ isMin now = true := by simpa using h21
    refine C.seq ?_
    refine C.region ?_
    refine R.ev rfl (E.assign rfl) ?_
    refine R.ev rfl (E.assign rfl) ?_
    refine R.done ?_
    refine X.keep [(6, _), (7, _)] ⟨rfl, rfl, trivial⟩ ?_
    refine X.next ?_
    refine C.ret ?_
    refine X.thenRet ?_
    refine X.ret2 rfl rfl rfl ?_
    exact ⟨by rw [scanN, scanB, if_neg hmin, if_neg hmin]; rfl, F, by rw [scanS, if_neg hmin]; exact hw, hs.to⟩
  · have hmin : isMin now = true := by simpa using h21
    refine C.skip ?_
    refine X.next ?_
    refine C.seq ?_
    refine C.region ?_
    refine R.salloc1 hs Tryz.zr3 rfl rfl ?_
    intro b8 w8 hs
    refine R.salloc1 hs Tryz.zr4 rfl rfl ?_
    intro b9 w9 hs
    refine R.salloc1 hs Tryz.zr4 rfl rfl ?_
    intro b10 w10 hs
    refine R.cstore1 hs rfl rfl Tryz.sz3 (by first | decide | simp [*]) (by first | rfl | exact OneC.one | exact KRow.oneC' (by assumption)) ?_
    intro w3_3 hs
    try simp only [List.set_cons_zero, List.set_cons_succ] at hs
    refine R.cstore1 hs rfl rfl Tryz.sz4 (by first | decide | simp [*]) (by first | rfl | exact OneC.one | exact KRow.oneC' (by assumption)) ?_
    intro w3_4 hs
    try simp only [List.set_cons_zero, List.set_cons_succ] at hs
    refine R.cstore1 hs rfl rfl Tryz.sz4 (by first | decide | simp [*]) (by first | rfl | exact OneC.one | exact KRow.oneC' (by assumption)) ?_
    intro w3_5 hs
    try simp only [List.set_cons_zero, List.set_cons_succ] at hs
    refine R.done ?_
    refine X.keep [(1, _), (3, _), (5, _), (8, _), (9, _), (10, _)] ⟨rfl, rfl, rfl, rfl, rfl, rfl, trivial⟩ ?_
    refine X.next ?_
    refine C.seq ?_
    refine C.region ?_
    refine R.ev rfl (E.move rfl) ?_
    refine R.ev rfl (E.makeFunc rfl rfl) ?_
    refine R.callV (first := []) (cap := [ptr b]) ⟨_, _, Tryz.func43, rfl, by kernel_rfl⟩ rfl rfl rfl (values1_any (Rs := Rs) (first := []) (cap := [ptr b9, ptr b3, ptr b10, ptr b5, ptr b8]) (ScP b9 b3 b10 b5 b8 p now) (scStep now) scGo (s0 := ⟨true, false, 0, s⟩) (L := L) ⟨_, _, Tryz.func42, rfl, by kernel_rfl⟩ (fun s1 F1 R1 a w1 hX h1 => scan1_any a hX h1) ⟨⟨F, rfl, hw⟩, hcap, hlen, Nat.zero_le _⟩ hs.to hn) ?_
    rintro _ w24 ⟨F24, hP, hs⟩
    obtain ⟨⟨F0, rfl, hw2⟩, hcap2, hlen2, hnum2⟩ := hP
    have hx : scL s now L = runL (scStep now) scGo ⟨true, false, 0, s⟩ L := rfl
    rw [← hx] at hs hw2 hlen2 hnum2
    have hN : scanN s now L = (scL s now L).n := by rw [scanN, if_pos hmin]
    have hB : scanB s now L = !(scL s now L).full := by rw [scanB, if_pos hmin]
    have hS' : scanS s now L = { (scL s now L).s with inc := (scL s now L).full } := by rw [scanS, if_pos hmin]
    rw [hN, hB, hS']
    generalize scL s now L = x at hs hw2
    obtain ⟨op, full, n1, ⟨c1, wt, inc, L1, M⟩⟩ := x
    obtain ⟨v, m, G, H, rfl, hr, hm⟩ := hw2.ex
    have hs : Sat K w24 (row b9 4 [.bool op] :: row b3 33 [ptr p] :: row b10 4 [.bool full] :: row b5 3 [.int .i64 now] :: row b8 3 [.int .i64 (n1 : Nat)] :: row p 79 [.int .i64 c1, .int .i64 wt, .bool inc, v, m] :: G :: H :: Rs) := hs.perm (by simp [List.append_assoc])
    refine R.done ?_
    refine X.keep [(3, _), (8, _), (9, _), (10, _)] ⟨rfl, rfl, rfl, rfl, trivial⟩ ?_
    refine X.next ?_
    refine C.seq ?_
    refine C.region ?_
    refine R.cstore1 hs rfl rfl Tryz.sz4 (by first | decide | simp [*]) (by first | rfl | exact OneC.one | exact KRow.oneC' (by assumption)) ?_
    intro w5_0 hs
    try simp only [List.set_cons_zero, List.set_cons_succ] at hs
    refine R.done ?_
    refine X.keep [(3, _), (8, _), (10, _)] ⟨rfl, rfl, rfl, trivial⟩ ?_
    refine X.next ?_
    refine C.seq ?_
    refine C.region ?_
    refine R.ev rfl (E.load1 rfl Tryz.underlying33 rfl (by first | exact hs.ldc | exact hs.ld rfl | exact hs.ld (by assumption) | exact by assumption | exact At.cellC (by assumption) | exact hs.ldK rfl)) ?_
    refine R.ev rfl (E.load1 rfl Tryz.underlying4 rfl (by first | exact hs.ldc | exact hs.ld rfl | exact hs.ld (by assumption) | exact by assumption | exact At.cellC (by assumption) | exact hs.ldK rfl)) ?_
    refine R.ev rfl (E.nilCheck rfl) ?_
    first | refine R.ev rfl (E.fieldAddr0 2 rfl Tryz.underlying79 rfl Tryz.sz4 rfl) ?_ | refine R.ev rfl (E.fieldAddrN 2 rfl Tryz.underlying79 rfl Tryz.sz4 rfl) ?_
    refine R.cstore1 hs rfl rfl Tryz.sz4 (by first | decide | simp [*]) (by first | rfl | exact OneC.one | exact KRow.oneC' (by assumption)) ?_
    intro w6_4 hs
    try simp only [List.set_cons_zero, List.set_cons_succ] at hs
    refine R.done ?_
    refine X.keep [(8, _), (10, _)] ⟨rfl, rfl, trivial⟩ ?_
    refine X.next ?_
    refine C.seq ?_
    refine C.drawn (SatS hs) ([0, 1], [2, 3, 4]) (by kernel_rfl) ?_
    have hs := hs.drew
    refine D.ev 0 rfl (by kernel_rfl) rfl hs.to (fun _ hS => E.load1 rfl Tryz.underlying3 rfl (by first | exact hS.ldc | exact hS.ld rfl | exact hS.ld (by assumption) | exact by assumption | exact At.cellC (by assumption) | exact hS.ldK rfl | exact At.cellC ((by assumption : ∀ w', Sat _ w' _ → At w' _ _ _) _ hS) | exact (by assumption : ∀ w', Sat _ w' _ → World.cell? w' _ = some _) _ hS)) ?_
    refine D.evP 3 rfl (by kernel_rfl) rfl (fun _ => hs.to) (fun _ => E.assign rfl) ?_
    refine D.ev 1 rfl (by kernel_rfl) rfl hs.to (fun _ hS => E.load1 rfl Tryz.underlying4 rfl (by first | exact hS.ldc | exact hS.ld rfl | exact hS.ld (by assumption) | exact by assumption | exact At.cellC (by assumption) | exact hS.ldK rfl | exact At.cellC ((by assumption : ∀ w', Sat _ w' _ → At w' _ _ _) _ hS) | exact (by assumption : ∀ w', Sat _ w' _ → World.cell? w' _ = some _) _ hS)) ?_
    refine D.evP 2 rfl (by kernel_rfl) rfl (fun _ => hs.to) (fun _ => E.not rfl) ?_
    refine D.evP 4 rfl (by kernel_rfl) rfl (fun _ => hs.to) (fun _ => E.assign rfl) ?_
    refine D.done rfl (by kernel_rfl) ?_
    refine X.keep [(6, _), (7, _)] ⟨rfl, rfl, trivial⟩ ?_
    refine X.next ?_
    refine C.ret ?_
    refine X.ret2 rfl rfl rfl ?_
    exact ⟨rfl, _, BkL.mk' hr hm, hs.to⟩
theorem values_any (ad : Option Addr) (n c : Nat) (hs : Sat K w Hs) : Ret Tryz.prog 16 #[.slice ad n c] w fun r w' => ∃ b, r = .func (.func 43) #[] #[ptr b] ∧ Sat K w' (row b 55 [.slice ad n c] :: Hs) := by
  refine Ret.enter (n := 4) (args := [.slice ad n c]) Tryz.func16 rfl rfl ?_
  refine C.keep [(0, _)] ⟨rfl, trivial⟩ ?_
  refine C.seq ?_
  refine C.region ?_
  refine R.sbox1 hs rfl rfl rfl ?_
  intro b1 w1 hs
  refine R.ev rfl (E.assign rfl) ?_
  refine R.done ?_
  refine X.keep [(1, _)] ⟨rfl, trivial⟩ ?_
  refine X.next ?_
  refine C.seq ?_
  refine C.region ?_
  refine R.ev rfl (E.makeFunc rfl rfl) ?_
  refine R.ev rfl (E.assign rfl) ?_
  refine R.done ?_
  refine X.keep [(2, _)] ⟨rfl, trivial⟩ ?_
  refine X.next ?_
  refine C.ret ?_
  refine X.ret1 rfl rfl ?_
  exact ⟨b1, rfl, hs⟩
end Go.Proofs.YtifghjeapfijkaaGreatDoor
