/-
  package backlog and the reference: Encode.
-/
import Derived.Test.YtoidpcmcbmioiaaBklV
import Derived.Test.YtoidpcmcbmioiaaByt
namespace Go.Proofs.Ytoidpcmcbmioiaa
open Go.Eng Go.RowKit

variable {K : Kn} {Hs Rs : List Hl} {F G : Hl} {w : World} {p b : Nat} {s : Bk} {v : Value} {L : List UInt8}
theorem num8_len (n : Int) : (num8 n).length = 8 := rfl
theorem num8_get (n : Int) : ∀ k, k < 8 → (num8 n)[k]? = some (byteAt n (56 - 8 * k))
  | 0, _ => rfl
  | 1, _ => rfl
  | 2, _ => rfl
  | 3, _ => rfl
  | 4, _ => rfl
  | 5, _ => rfl
  | 6, _ => rfl
  | 7, _ => rfl
  | k + 8, h => by omega
/-- what a number adds -/
theorem number1_any (n : Int) (hs : Sat K w (row b 57 [v] :: G :: Rs)) [hr : RowL 5 encB 1 v L G] (hL : L.length ≤ 100000000) : Ret Try.prog 63 #[.int .i64 n, ptr b] w fun _ w' => ∃ v' G', RowL 5 encB 1 v' (L ++ num8 n) G' ∧ Sat K w' (row b 57 [v'] :: G' :: Rs) := by
  refine Ret.enter (n := 15) (args := [.int .i64 n, ptr b]) Try.func63 rfl rfl ?_
  refine C.keep [(0, _), (1, _)] ⟨rfl, rfl, trivial⟩ ?_
  refine C.seq ?_
  refine C.region ?_
  refine R.ev rfl (E.assign rfl) ?_
  refine R.done ?_
  refine X.keep [(0, _), (1, _), (3, _)] ⟨rfl, rfl, rfl, trivial⟩ ?_
  refine X.next ?_
  refine C.block ?_
  refine C.loop (T := Nat × Value × Hl) [(0, _), (1, _)] (fun (k, _, _) => [(3, .int .i64 (56 - 8 * (k : Int)))]) (fun (k, v, G) w' => k ≤ 8 ∧ RowL 5 encB 1 v (L ++ (num8 n).take k) G ∧ Sat K w' (row b 57 [v] :: G :: Rs)) (fun (k, _) => 8 - k) ((0, v, G)) ⟨rfl, rfl, rfl, trivial⟩ ⟨by omega, by simpa using hr, hs⟩ ?_
  rintro ⟨k, v1, G1⟩ w1 ⟨hk, r1, hs⟩
  have hlen : (L ++ (num8 n).take k).length = L.length + k := by rw [List.length_append, List.length_take, num8_len]; omega
  have o1 : OneC v1 := ⟨RowL.oneC⟩
  refine C.keep [(0, _), (1, _), (3, _)] ⟨rfl, rfl, rfl, trivial⟩ ?_
  refine C.seq ?_
  refine C.seq ?_
  refine C.region ?_
  refine R.ev rfl (E.move rfl) ?_
  refine R.ev rfl (E.geq rfl rfl) ?_
  refine R.done ?_
  refine X.keep [(0, _), (1, _), (3, _), (5, _)] ⟨rfl, rfl, rfl, rfl, trivial⟩ ?_
  refine X.next ?_
  refine C.cdec rfl (fun h5 => ?_) (fun h5 => ?_)
  · refine C.skip ?_
    refine X.next ?_
    refine C.seq ?_
    refine C.block ?_
    refine C.drawn (SatS hs) ([0], [1, 2, 3, 4]) (by kernel_rfl) ?_
    have hs := hs.drew
    refine D.evP 1 rfl (by kernel_rfl) rfl (fun _ => hs.to) (fun _ => E.move rfl) ?_
    refine D.evP 2 rfl (by kernel_rfl) rfl (fun _ => hs.to) (fun _ => E.move rfl) ?_
    refine D.evP 3 rfl (by kernel_rfl) rfl (fun _ => hs.to) (fun _ => E.shr rfl rfl (by omega)) ?_
    refine D.evP 4 rfl (by kernel_rfl) rfl (fun _ => hs.to) (fun _ => (E.conv rfl Try.underlying3 Try.underlying5).as (u := ub (byteAt n (56 - 8 * k))) (by rw [show (56 - 8 * (k : Int)).toNat = 56 - 8 * k by omega]; exact byteAt_wrap n _ (by omega))) ?_
    refine D.ev 0 rfl (by kernel_rfl) rfl hs.to (fun _ hS => E.load1 rfl Try.underlying57 rfl (by first | exact hS.ldc | exact hS.ld rfl | exact hS.ld (by assumption) | exact by assumption | exact At.cellC (by assumption) | exact At.cellC ((by assumption : ∀ w', Sat _ w' _ → At w' _ _ _) _ hS) | exact (by assumption : ∀ w', Sat _ w' _ → World.cell? w' _ = some _) _ hS)) ?_
    refine D.act 5 rfl (by kernel_rfl) ?_
    refine R.buildSlice1 (parts := [(0, .tmp 12)]) (vs := [_]) rfl rfl rfl Try.underlying57 Try.sz5 Try.zr5 rfl (by simp [Value.oneCell']) (by decide) ?_
    intro b13 w13 n13
    have hs := hs.new n13
    refine D.back hs.to ?_
    refine D.act 6 rfl (by kernel_rfl) ?_
    refine R.capp1 (byteAt n (56 - 8 * k)) hs rfl rfl Try.underlying57 Try.by5 (by rfl) rfl (by first | exact hs.ldA | exact hs.ldP rfl | exact by assumption) (by decide) (by first | omega | (simp only [List.length_append, List.length_cons, List.length_nil] at *; omega)) (by first | omega | (simp only [List.length_append, List.length_cons, List.length_nil] at *; omega)) ?_
    intro v14 w14 F14 r14 hs
    have o14 : OneC v14 := ⟨RowL.oneC⟩
    refine D.backT (by kernel_rfl) ?_
    refine D.act 7 rfl (by kernel_rfl) ?_
    refine R.cstore1 hs rfl rfl Try.sz57 (by first | decide | simp [*]) (by first | rfl | exact OneC.one | exact KRow.oneC' (by assumption)) ?_
    intro w3_7 hs
    try simp only [List.set_cons_zero, List.set_cons_succ] at hs
    refine D.backT (by kernel_rfl) ?_
    refine D.done rfl (by kernel_rfl) ?_
    refine X.keep [(0, _), (1, _), (3, _)] ⟨rfl, rfl, rfl, trivial⟩ ?_
    refine X.blockNormal ?_
    refine X.next ?_
    refine C.region ?_
    refine R.ev rfl (E.move rfl) ?_
    refine R.ev rfl ((E.sub rfl rfl (by omega) (by omega)).isI (c := 56 - 8 * ((k + 1 : Nat) : Int)) (by omega)) ?_
    refine R.ev rfl (E.assign rfl) ?_
    refine R.done ?_
    refine X.keep [(0, _), (1, _), (3, _)] ⟨rfl, rfl, rfl, trivial⟩ ?_
    exact X.again (k + 1, v14, F14) ⟨rfl, rfl, rfl, trivial⟩ ⟨by omega, by rw [take_snoc (num8_get n k (by omega)), ← List.append_assoc]; exact r14, hs.to⟩ (by show _ - _ < _ - _; omega)
  · refine C.exit ?_
    refine X.thenExit ?_
    refine X.loopExit ?_
    refine X.blockExit ?_
    refine X.bodyNormal ?_
    refine X.ret0 rfl ?_
    exact ⟨v1, G1, by rwa [show k = 8 by omega, List.take_of_length_le (by rw [num8_len]; omega)] at r1, hs.to⟩
def encEnt (id : Vec 32) (due tries : Int) : List UInt8 := id.1 ++ num8 due ++ num8 tries
def encHead (c wt : Int) (inc : Bool) (n : Nat) : List UInt8 := num8 c ++ num8 wt ++ [if inc then 1 else 0] ++ num8 n
def entB (e : Ent) : List UInt8 := encEnt e.id e.due e.tries
def bytesB (s : Bk) : List UInt8 := encHead s.cap s.wait s.inc s.L.length ++ s.L.flatMap entB
theorem entB_len (e : Ent) : (entB e).length = 48 := by simp [entB, encEnt, num8_len, e.id.2]
theorem ents_len (l : List Ent) : (l.flatMap entB).length = 48 * l.length := by
  induction l with
  | nil => rfl
  | cons e l ih => rw [List.flatMap_cons, List.length_append, ih, entB_len, List.length_cons]; omega
theorem encHead_len (c wt : Int) (inc : Bool) (n : Nat) : (encHead c wt inc n).length = 25 := rfl
theorem bytesB_len (s : Bk) : (bytesB s).length = 25 + 48 * s.L.length := by rw [bytesB, List.length_append, encHead_len, ents_len]
theorem encode_any (hs : Sat K w Hs) [hw : BkIn p s Hs] (hL : s.L.length ≤ 10000) : Ret Try.prog 32 #[ptr p] w fun r w' => ∃ F', RowL 5 encB 1 r (bytesB s) F' ∧ Sat K w' (F' :: Hs) := by
  obtain ⟨v, m, G, H, hin, hr, hG, hm, hH⟩ := hw.ex
  obtain ⟨ad, cap, rfl, hc, hcm, had⟩ := hr.val
  have r0 : RowL 5 encB 1 (.slice none 0 0) ([] : List UInt8) [] := RowL.nil _ _ _
  refine Ret.enter (n := 62) (args := [ptr p]) Try.func32 rfl rfl ?_
  refine C.keep [(0, _)] ⟨rfl, trivial⟩ ?_
  refine C.seq ?_
  refine C.region ?_
  refine R.ev rfl (E.assign rfl) ?_
  refine R.done ?_
  refine X.keep [(0, _)] ⟨rfl, trivial⟩ ?_
  refine X.next ?_
  refine C.seq ?_
  refine C.seq ?_
  refine C.region ?_
  refine R.ev rfl (E.move rfl) ?_
  refine R.ev rfl (E.eqlNilF rfl rfl Try.underlying25) ?_
  refine R.done ?_
  refine X.keep [(0, _), (8, _)] ⟨rfl, rfl, trivial⟩ ?_
  refine X.next ?_
  refine C.cfalse rfl ?_
  refine C.skip ?_
  refine X.next ?_
  refine C.seq ?_
  refine C.region ?_
  refine R.salloc1 hs Try.zr57 rfl rfl ?_
  intro b3 w3 hs
  refine R.done ?_
  refine X.keep [(0, _), (3, _)] ⟨rfl, rfl, trivial⟩ ?_
  refine X.next ?_
  refine C.seq ?_
  refine C.region ?_
  refine R.ev rfl (E.makeFunc rfl rfl) ?_
  refine R.ev rfl (E.assign rfl) ?_
  refine R.done ?_
  refine X.keep [(0, _), (3, _), (4, _)] ⟨rfl, rfl, rfl, trivial⟩ ?_
  refine X.next ?_
  refine C.seq ?_
  refine C.region ?_
  refine R.ev rfl (E.move rfl) ?_
  refine R.ev rfl (E.move rfl) ?_
  refine R.ev rfl (E.nilCheck rfl) ?_
  first | refine R.ev rfl (E.fieldAddr0 0 rfl Try.underlying84 rfl Try.sz3 rfl) ?_ | refine R.ev rfl (E.fieldAddrN 0 rfl Try.underlying84 rfl Try.sz3 rfl) ?_
  refine R.ev rfl (E.load1 rfl Try.underlying3 rfl (by first | exact hs.ldc | exact hs.ld rfl | exact hs.ld (by assumption) | exact by assumption | exact At.cellC (by assumption))) ?_
  refine R.callV ⟨_, _, Try.func63, rfl, by kernel_rfl⟩ rfl rfl rfl (number1_any (L := []) s.cap (hs.nil.p1 : Sat K _ (row b3 57 [.slice none 0 0] :: [] :: Hs)) (by simp)) ?_
  rintro _ w5 ⟨v5, G5, r5, hs⟩
  refine R.done ?_
  refine X.keep [(0, _), (3, _), (4, _)] ⟨rfl, rfl, rfl, trivial⟩ ?_
  refine X.next ?_
  refine C.seq ?_
  refine C.region ?_
  refine R.ev rfl (E.move rfl) ?_
  refine R.ev rfl (E.move rfl) ?_
  refine R.ev rfl (E.nilCheck rfl) ?_
  first | refine R.ev rfl (E.fieldAddr0 1 rfl Try.underlying84 rfl Try.sz3 rfl) ?_ | refine R.ev rfl (E.fieldAddrN 1 rfl Try.underlying84 rfl Try.sz3 rfl) ?_
  refine R.ev rfl (E.load1 rfl Try.underlying3 rfl (by first | exact hs.ldc | exact hs.ld rfl | exact hs.ld (by assumption) | exact by assumption | exact At.cellC (by assumption))) ?_
  refine R.callV ⟨_, _, Try.func63, rfl, by kernel_rfl⟩ rfl rfl rfl (number1_any s.wait hs (by simp [num8_len])) ?_
  rintro _ w6 ⟨v6, G6, r6, hs⟩
  have o6 : OneC v6 := ⟨RowL.oneC⟩
  have n1 := num8_len s.cap
  have n2 := num8_len s.wait
  refine R.done ?_
  refine X.keep [(0, _), (3, _), (4, _)] ⟨rfl, rfl, rfl, trivial⟩ ?_
  refine X.next ?_
  refine C.seq ?_
  refine C.seq ?_
  refine C.region ?_
  refine R.ev rfl (E.move rfl) ?_
  refine R.ev rfl (E.nilCheck rfl) ?_
  first | refine R.ev rfl (E.fieldAddr0 2 rfl Try.underlying84 rfl Try.sz4 rfl) ?_ | refine R.ev rfl (E.fieldAddrN 2 rfl Try.underlying84 rfl Try.sz4 rfl) ?_
  refine R.ev rfl (E.load1 rfl Try.underlying4 rfl (by first | exact hs.ldc | exact hs.ld rfl | exact hs.ld (by assumption) | exact by assumption | exact At.cellC (by assumption))) ?_
  refine R.done ?_
  refine X.keep [(0, _), (3, _), (4, _), (25, _)] ⟨rfl, rfl, rfl, rfl, trivial⟩ ?_
  refine X.next ?_
  refine C.cut [(0, _), (3, _), (4, _)] (fun (_ : Value × Hl) => []) (fun (v', G') w' => RowL 5 encB 1 v' ([] ++ num8 s.cap ++ num8 s.wait ++ [if s.inc then 1 else 0]) G' ∧ Sat K w' (row b3 57 [v'] :: G' :: Hs)) ⟨rfl, rfl, rfl, trivial⟩ ?_ ?_
  · refine C.cbool rfl (fun h25 => ?_) (fun h25 => ?_)
    · refine C.region ?_
      refine R.ev rfl (E.load1 rfl Try.underlying57 rfl (by first | exact hs.ldc | exact hs.ld rfl | exact hs.ld (by assumption) | exact by assumption | exact At.cellC (by assumption))) ?_
      refine R.buildSlice1 (parts := [(0, _)]) (vs := [_]) rfl rfl rfl Try.underlying57 Try.sz5 Try.zr5 rfl (by simp [Value.oneCell']) (by decide) ?_
      intro b27 w27 n27
      have hs := hs.new n27
      refine R.capp1 ((1 : UInt8)) hs rfl rfl Try.underlying57 Try.by5 (by rfl) rfl (by first | exact hs.ldA | exact hs.ldP rfl | exact by assumption) (by decide) (by first | omega | (simp only [List.length_append, List.length_cons, List.length_nil] at *; omega)) (by first | omega | (simp only [List.length_append, List.length_cons, List.length_nil] at *; omega)) ?_
      intro v28 w28 F28 r28 hs
      have o28 : OneC v28 := ⟨RowL.oneC⟩
      refine R.cstore1 hs rfl rfl Try.sz57 (by first | decide | simp [*]) (by first | rfl | exact OneC.one | exact KRow.oneC' (by assumption)) ?_
      intro w8_3 hs
      try simp only [List.set_cons_zero, List.set_cons_succ] at hs
      refine R.done ?_
      refine X.keep [(0, _), (3, _), (4, _)] ⟨rfl, rfl, rfl, trivial⟩ ?_
      exact X.cut ((v28, F28)) ⟨rfl, rfl, rfl, trivial⟩ ⟨by rw [h25]; exact r28, hs.to⟩
    · refine C.region ?_
      refine R.ev rfl (E.load1 rfl Try.underlying57 rfl (by first | exact hs.ldc | exact hs.ld rfl | exact hs.ld (by assumption) | exact by assumption | exact At.cellC (by assumption))) ?_
      refine R.buildSlice1 (parts := [(0, _)]) (vs := [_]) rfl rfl rfl Try.underlying57 Try.sz5 Try.zr5 rfl (by simp [Value.oneCell']) (by decide) ?_
      intro b30 w30 n30
      have hs := hs.new n30
      refine R.capp1 ((0 : UInt8)) hs rfl rfl Try.underlying57 Try.by5 (by rfl) rfl (by first | exact hs.ldA | exact hs.ldP rfl | exact by assumption) (by decide) (by first | omega | (simp only [List.length_append, List.length_cons, List.length_nil] at *; omega)) (by first | omega | (simp only [List.length_append, List.length_cons, List.length_nil] at *; omega)) ?_
      intro v28 w28 F28 r28 hs
      have o28 : OneC v28 := ⟨RowL.oneC⟩
      refine R.cstore1 hs rfl rfl Try.sz57 (by first | decide | simp [*]) (by first | rfl | exact OneC.one | exact KRow.oneC' (by assumption)) ?_
      intro w9_3 hs
      try simp only [List.set_cons_zero, List.set_cons_succ] at hs
      refine R.done ?_
      refine X.keep [(0, _), (3, _), (4, _)] ⟨rfl, rfl, rfl, trivial⟩ ?_
      exact X.cut ((v28, F28)) ⟨rfl, rfl, rfl, trivial⟩ ⟨by rw [h25]; exact r28, hs.to⟩
  · rintro ⟨v9, G9⟩ w9 ⟨r9, hs⟩
    refine X.keep [(0, _), (3, _), (4, _)] ⟨rfl, rfl, rfl, trivial⟩ ?_
    refine X.next ?_
    refine C.seq ?_
    refine C.region ?_
    refine R.ev rfl (E.move rfl) ?_
    refine R.ev rfl (E.move rfl) ?_
    refine R.ev rfl (E.nilCheck rfl) ?_
    first | refine R.ev rfl (E.fieldAddr0 3 rfl Try.underlying84 rfl Try.sz63 rfl) ?_ | refine R.ev rfl (E.fieldAddrN 3 rfl Try.underlying84 rfl Try.sz63 rfl) ?_
    refine R.ev rfl (E.load1 rfl Try.underlying63 rfl (by first | exact hs.ldc | exact hs.ld rfl | exact hs.ld (by assumption) | exact by assumption | exact At.cellC (by assumption))) ?_
    refine R.ev rfl (E.lenSl rfl Try.underlying63) ?_
    refine R.callV ⟨_, _, Try.func63, rfl, by kernel_rfl⟩ rfl rfl rfl (number1_any s.L.length hs (by simp [num8_len])) ?_
    rintro _ w10 ⟨v10, G10, r10, hs⟩
    refine R.done ?_
    refine X.keep [(0, _), (3, _), (4, _)] ⟨rfl, rfl, rfl, trivial⟩ ?_
    refine X.next ?_
    refine C.seq ?_
    refine C.seq ?_
    refine C.region ?_
    refine R.ev rfl (E.move rfl) ?_
    refine R.ev rfl (E.nilCheck rfl) ?_
    first | refine R.ev rfl (E.fieldAddr0 3 rfl Try.underlying84 rfl Try.sz63 rfl) ?_ | refine R.ev rfl (E.fieldAddrN 3 rfl Try.underlying84 rfl Try.sz63 rfl) ?_
    refine R.ev rfl (E.load1 rfl Try.underlying63 rfl (by first | exact hs.ldc | exact hs.ld rfl | exact hs.ld (by assumption) | exact by assumption | exact At.cellC (by assumption))) ?_
    refine R.ev rfl (E.lenSl rfl Try.underlying63) ?_
    refine R.ev rfl (E.move rfl) ?_
    refine R.done ?_
    refine X.keep [(3, _), (4, _), (42, _), (43, _), (44, _)] ⟨rfl, rfl, rfl, rfl, rfl, trivial⟩ ?_
    refine X.next ?_
    refine C.block ?_
    refine C.loop (T := Nat × Value × Hl) [(3, _), (4, _), (42, _), (43, _)] (fun (k, _, _) => [(44, .int .i64 (k : Nat))]) (fun (k, v', G') w' => k ≤ s.L.length ∧ RowL 5 encB 1 v' (encHead s.cap s.wait s.inc s.L.length ++ (s.L.take k).flatMap entB) G' ∧ Sat K w' (row b3 57 [v'] :: G' :: Hs)) (fun (k, _) => s.L.length - k) ((0, v10, G10)) ⟨rfl, rfl, rfl, rfl, rfl, trivial⟩ ⟨by omega, by simpa [encHead] using r10, hs⟩ ?_
    rintro ⟨k, v1, G1⟩ w1 ⟨hk, r1, hs⟩
    have o1 : OneC v1 := ⟨RowL.oneC⟩
    have hlen : (encHead s.cap s.wait s.inc s.L.length ++ (s.L.take k).flatMap entB).length ≤ 1000000 := by rw [List.length_append, encHead_len, ents_len, List.length_take]; omega
    generalize hP : encHead s.cap s.wait s.inc s.L.length ++ (s.L.take k).flatMap entB = P at r1 hlen
    refine C.keep [(3, _), (4, _), (42, _), (43, _), (44, _)] ⟨rfl, rfl, rfl, rfl, rfl, trivial⟩ ?_
    refine C.seq ?_
    refine C.region ?_
    refine R.ev rfl (E.lss rfl rfl) ?_
    refine R.done ?_
    refine X.keep [(3, _), (4, _), (42, _), (43, _), (44, _), (45, _)] ⟨rfl, rfl, rfl, rfl, rfl, rfl, trivial⟩ ?_
    refine X.next ?_
    refine C.seq ?_
    refine C.cdec rfl (fun h45 => ?_) (fun h45 => ?_)
    · obtain ⟨y, bk_y, of_y, hy, my, ly, rfl, Ay⟩ := hs.el (i := k) (ad := ad) (n := s.L.length) (c := cap) (by omega)
      have ay := Ay _ hs
      refine C.skip ?_
      refine X.next ?_
      refine C.seq ?_
      refine C.block ?_
      refine C.seq ?_
      refine C.region ?_
      refine R.ev rfl (E.indexAddr rfl rfl Try.underlying63 Try.sz67 rfl (by first | omega | decide)) ?_
      refine R.ev rfl (E.loadRowC rfl Try.underlying67 rfl Try.sz67 (by first | exact ⟨hs.ldA, by first | rfl | assumption | exact encV_len _ | exact Enc.len _ | exact len_ub (by assumption)⟩ | exact ⟨hs.ldP rfl, by first | rfl | assumption | exact encV_len _ | exact Enc.len _ | exact len_ub (by assumption)⟩ | exact ⟨hs.ldM rfl rfl, by first | rfl | assumption | exact encV_len _ | exact Enc.len _ | exact len_ub (by assumption)⟩ | exact ⟨hs.ldM (by assumption) (by first | rfl | assumption), by first | rfl | assumption | exact encV_len _ | exact Enc.len _ | exact len_ub (by assumption)⟩ | exact ⟨by assumption, by first | rfl | assumption | exact encV_len _ | exact Enc.len _ | exact len_ub (by assumption)⟩ | exact hs.ldp | exact At.partC (by assumption))) ?_
      refine R.sallocA hs Try.zr67 rfl ?_
      intro b6 w6 hs
      first | refine R.cstoreAll hs rfl rfl Try.sz67 (by first | rfl | assumption | exact encV_len _ | exact Enc.len _ | exact len_ub (by assumption) | simp [*]) (by first | rfl | assumption | exact encV_len _ | exact Enc.len _ | exact len_ub (by assumption) | simp [*]) (by first | assumption | exact OneL.all | exact Enc.one _ | exact ub_all _ | (repeat' (first | refine List.forall_mem_cons.2 ⟨?_, ?_⟩ | exact List.forall_mem_nil _ | rfl | exact OneC.one | exact KRow.oneC' (by assumption)))) ?_ | refine R.cstore hs rfl rfl Try.sz67 (by first | rfl | assumption | exact encV_len _ | exact Enc.len _ | exact len_ub (by assumption) | simp [*]) (by simp [*]) (by first | assumption | exact OneL.all | exact Enc.one _ | exact ub_all _ | (repeat' (first | refine List.forall_mem_cons.2 ⟨?_, ?_⟩ | exact List.forall_mem_nil _ | rfl | exact OneC.one | exact KRow.oneC' (by assumption)))) ?_
      intro w13_3 hs
      try simp only [List.set_cons_zero, List.set_cons_succ] at hs
      refine R.done ?_
      refine X.keep [(3, _), (4, _), (6, _), (42, _), (43, _), (44, _)] ⟨rfl, rfl, rfl, rfl, rfl, rfl, trivial⟩ ?_
      refine X.next ?_
      refine C.seq ?_
      refine C.drawn (SatS hs) ([0], [1, 2]) (by kernel_rfl) ?_
      have hs := hs.drew
      first | refine D.evP 1 rfl (by kernel_rfl) rfl (fun _ => hs.to) (fun _ => E.fieldAddr0 0 rfl Try.underlying67 rfl Try.sz30 rfl) ?_ | refine D.evP 1 rfl (by kernel_rfl) rfl (fun _ => hs.to) (fun _ => E.fieldAddrN 0 rfl Try.underlying67 rfl Try.sz30 rfl) ?_
      refine D.evP 2 rfl (by kernel_rfl) rfl (fun _ => hs.to) (fun _ => (E.sliceA rfl Try.underlying30 Try.sz5).as (u := .slice (some ⟨b6, 0, none⟩) 32 32) rfl) ?_
      refine D.ev 0 rfl (by kernel_rfl) rfl hs.to (fun _ hS => E.load1 rfl Try.underlying57 rfl (by first | exact hS.ldc | exact hS.ld rfl | exact hS.ld (by assumption) | exact by assumption | exact At.cellC (by assumption) | exact At.cellC ((by assumption : ∀ w', Sat _ w' _ → At w' _ _ _) _ hS) | exact (by assumption : ∀ w', Sat _ w' _ → World.cell? w' _ = some _) _ hS)) ?_
      have hrd : Rd encB 1 K (row b6 67 (encE y) :: row b3 57 [v1] :: G1 :: Hs) (.slice (some ⟨b6, 0, none⟩) 32 32) y.id.1 := Rd.bytes (c1 := []) rfl rfl y.id.2 (by omega)
      have hyl := y.id.2
      refine D.act 3 rfl (by kernel_rfl) ?_
      refine R.cappSl hs rfl rfl Try.underlying57 Try.by5 (by rfl) rfl (by decide) (by first | omega | (simp only [List.length_append, List.length_cons, List.length_nil] at *; omega)) (by first | omega | (simp only [List.length_append, List.length_cons, List.length_nil] at *; omega)) ?_
      intro v51 w51 F51 r51 hs
      have o51 : OneC v51 := ⟨RowL.oneC⟩
      refine D.backT (by kernel_rfl) ?_
      refine D.act 4 rfl (by kernel_rfl) ?_
      refine R.cstore1 hs rfl rfl Try.sz57 (by first | decide | simp [*]) (by first | rfl | exact OneC.one | exact KRow.oneC' (by assumption)) ?_
      intro w14_4 hs
      try simp only [List.set_cons_zero, List.set_cons_succ] at hs
      refine D.backT (by kernel_rfl) ?_
      refine D.done rfl (by kernel_rfl) ?_
      refine X.keep [(3, _), (4, _), (6, _), (42, _), (43, _), (44, _)] ⟨rfl, rfl, rfl, rfl, rfl, rfl, trivial⟩ ?_
      refine X.next ?_
      refine C.seq ?_
      refine C.region ?_
      refine R.ev rfl (E.move rfl) ?_
      first | refine R.ev rfl (E.fieldAddr0 32 rfl Try.underlying67 rfl Try.sz3 rfl) ?_ | refine R.ev rfl (E.fieldAddrN 32 rfl Try.underlying67 rfl Try.sz3 rfl) ?_
      refine R.ev rfl (E.load1 rfl Try.underlying3 rfl (by first | exact hs.ldc | exact hs.ld rfl | exact hs.ld (by assumption) | exact by assumption | exact At.cellC (by assumption))) ?_
      refine R.callV ⟨_, _, Try.func63, rfl, by kernel_rfl⟩ rfl rfl rfl (number1_any y.due (hs.to : Sat K _ (row b3 57 [v51] :: F51 :: row b6 67 (encE y) :: Hs)) (by simp; omega)) ?_
      rintro _ w15 ⟨v15, G15, r15, hs⟩
      refine R.done ?_
      refine X.keep [(3, _), (4, _), (6, _), (42, _), (43, _), (44, _)] ⟨rfl, rfl, rfl, rfl, rfl, rfl, trivial⟩ ?_
      refine X.next ?_
      refine C.region ?_
      refine R.ev rfl (E.move rfl) ?_
      first | refine R.ev rfl (E.fieldAddr0 33 rfl Try.underlying67 rfl Try.sz3 rfl) ?_ | refine R.ev rfl (E.fieldAddrN 33 rfl Try.underlying67 rfl Try.sz3 rfl) ?_
      refine R.ev rfl (E.load1 rfl Try.underlying3 rfl (by first | exact hs.ldc | exact hs.ld rfl | exact hs.ld (by assumption) | exact by assumption | exact At.cellC (by assumption))) ?_
      refine R.callV ⟨_, _, Try.func63, rfl, by kernel_rfl⟩ rfl rfl rfl (number1_any y.tries hs (by simp [num8_len]; omega)) ?_
      rintro _ w16 ⟨v16, G16, r16, hs⟩
      refine R.done ?_
      refine X.keep [(3, _), (4, _), (42, _), (43, _), (44, _)] ⟨rfl, rfl, rfl, rfl, rfl, trivial⟩ ?_
      refine X.blockNormal ?_
      refine X.next ?_
      refine C.region ?_
      refine R.ev rfl (E.add rfl rfl (by omega) (by omega)) ?_
      refine R.ev rfl (E.move rfl) ?_
      refine R.done ?_
      refine X.keep [(3, _), (4, _), (42, _), (43, _), (44, _)] ⟨rfl, rfl, rfl, rfl, rfl, trivial⟩ ?_
      exact X.again (k + 1, v16, G16) ⟨rfl, rfl, rfl, rfl, rfl, trivial⟩ ⟨by omega, by rw [take_snoc hy, List.flatMap_append, ← List.append_assoc, hP]; simpa [entB, encEnt, List.append_assoc] using r16, hs.to⟩ (by show _ - _ < _ - _; omega)
    · refine C.exit ?_
      refine X.thenExit ?_
      refine X.loopExit ?_
      refine X.blockExit ?_
      refine X.next ?_
      refine C.seq ?_
      refine C.region ?_
      refine R.ev rfl (E.load1 rfl Try.underlying57 rfl (by first | exact hs.ldc | exact hs.ld rfl | exact hs.ld (by assumption) | exact by assumption | exact At.cellC (by assumption))) ?_
      refine R.ev rfl (E.assign rfl) ?_
      refine R.done ?_
      refine X.keep [(2, _)] ⟨rfl, trivial⟩ ?_
      refine X.next ?_
      refine C.ret ?_
      refine X.ret1 rfl rfl ?_
      rw [show k = s.L.length by omega, List.take_length] at hP
      exact ⟨G1, by rw [bytesB, hP]; exact r1, hs.to⟩
end Go.Proofs.Ytoidpcmcbmioiaa
