/-
  package bulletinref38: number and Encode.
-/
import Derived.Test.YtoidpcmcbmioiaaBkN
namespace Go.Proofs.Ytoidpcmcbmioiaa
open Go.Eng Go.RowKit

variable {K : Kn} {Hs Rs : List Hl} {F G : Hl} {w : World} {s : RB} {v : Value}
theorem rnumber_any (n : Int) (hs : Sat K w Hs) : Ret Try.prog 73 #[.int .i64 n] w fun r w' => ∃ F', RowL 5 encB 1 r (num8 n) F' ∧ Sat K w' (F' :: Hs) := by
  refine Ret.enter (n := 18) (args := [.int .i64 n]) Try.func73 rfl rfl ?_
  refine C.keep [(0, _)] ⟨rfl, trivial⟩ ?_
  refine C.seq ?_
  refine C.region ?_
  refine R.ev rfl (E.assign rfl) ?_
  refine R.done ?_
  refine X.keep [(0, _)] ⟨rfl, trivial⟩ ?_
  refine X.next ?_
  refine C.seq ?_
  refine C.region ?_
  refine R.ev rfl (E.assign rfl) ?_
  refine R.done ?_
  refine X.keep [(0, _), (3, _)] ⟨rfl, rfl, trivial⟩ ?_
  refine X.next ?_
  refine C.seq ?_
  refine C.seq ?_
  refine C.region ?_
  refine R.ev rfl (E.assign rfl) ?_
  refine R.done ?_
  refine X.keep [(0, _), (3, _), (4, _)] ⟨rfl, rfl, rfl, trivial⟩ ?_
  refine X.next ?_
  refine C.block ?_
  refine C.loop (T := Nat × Value × Hl) [(0, _)] (fun (k, v, _) => [(3, v), (4, .int .i64 (7 - (k : Int)))]) (fun (k, v, G) w' => k ≤ 8 ∧ RowL 5 encB 1 v ((num8 n).take k) G ∧ Sat K w' (G :: Hs)) (fun (k, _) => 8 - k) ((0, .slice none 0 0, [])) ⟨rfl, rfl, rfl, trivial⟩ ⟨by omega, RowL.nil _ _ _, hs.nil⟩ ?_
  rintro ⟨k, v1, G1⟩ w1 ⟨hk, r1, hs⟩
  have hlen : ((num8 n).take k).length = k := by rw [List.length_take, num8_len]; omega
  refine C.keep [(0, _), (3, _), (4, _)] ⟨rfl, rfl, rfl, trivial⟩ ?_
  refine C.seq ?_
  refine C.seq ?_
  refine C.region ?_
  refine R.ev rfl (E.move rfl) ?_
  refine R.ev rfl (E.geq rfl rfl) ?_
  refine R.done ?_
  refine X.keep [(0, _), (3, _), (4, _), (6, _)] ⟨rfl, rfl, rfl, rfl, trivial⟩ ?_
  refine X.next ?_
  refine C.cdec rfl (fun h6 => ?_) (fun h6 => ?_)
  · refine C.skip ?_
    refine X.next ?_
    refine C.seq ?_
    refine C.block ?_
    refine C.region ?_
    refine R.ev rfl (E.move rfl) ?_
    refine R.ev rfl (E.move rfl) ?_
    refine R.ev rfl (E.move rfl) ?_
    refine R.ev rfl (E.mul rfl rfl (by omega) (by omega)) ?_
    refine R.ev rfl (E.shr rfl rfl (by omega)) ?_
    refine R.ev rfl ((E.conv rfl Try.underlying3 Try.underlying5).as (u := ub (byteAt n (56 - 8 * k))) (by rw [show (8 * (7 - (k : Int))).toNat = 56 - 8 * k by omega]; exact byteAt_wrap n _ (by omega))) ?_
    refine R.buildSlice1 (parts := [(0, .tmp 14)]) (vs := [_]) rfl rfl rfl Try.underlying57 Try.sz5 Try.zr5 rfl (by simp [Value.oneCell']) (by decide) ?_
    intro b15 w15 n15
    have hs := hs.new n15
    refine R.capp1 (byteAt n (56 - 8 * k)) hs rfl rfl Try.underlying57 Try.by5 (by rfl) rfl (by first | exact hs.ldA | exact hs.ldP rfl | exact by assumption) (by decide) (by first | omega | (simp only [List.length_append, List.length_cons, List.length_nil] at *; omega)) (by first | omega | (simp only [List.length_append, List.length_cons, List.length_nil] at *; omega)) ?_
    intro v16 w16 F16 r16 hs
    refine R.ev rfl (E.assign rfl) ?_
    refine R.done ?_
    refine X.keep [(0, _), (3, _), (4, _)] ⟨rfl, rfl, rfl, trivial⟩ ?_
    refine X.blockNormal ?_
    refine X.next ?_
    refine C.region ?_
    refine R.ev rfl (E.move rfl) ?_
    refine R.ev rfl ((E.sub rfl rfl (by omega) (by omega)).isI (c := 7 - ((k + 1 : Nat) : Int)) (by omega)) ?_
    refine R.ev rfl (E.assign rfl) ?_
    refine R.done ?_
    refine X.keep [(0, _), (3, _), (4, _)] ⟨rfl, rfl, rfl, trivial⟩ ?_
    exact X.again (k + 1, v16, F16) ⟨rfl, rfl, rfl, trivial⟩ ⟨by omega, by rw [take_snoc (num8_get n k (by omega))]; exact r16, hs.to⟩ (by show _ - _ < _ - _; omega)
  · refine C.exit ?_
    refine X.thenExit ?_
    refine X.loopExit ?_
    refine X.blockExit ?_
    refine X.next ?_
    refine C.seq ?_
    refine C.region ?_
    refine R.ev rfl (E.move rfl) ?_
    refine R.ev rfl (E.assign rfl) ?_
    refine R.done ?_
    refine X.keep [(2, _)] ⟨rfl, trivial⟩ ?_
    refine X.next ?_
    refine C.ret ?_
    refine X.ret1 rfl rfl ?_
    exact ⟨G1, by rwa [show k = 8 by omega, List.take_of_length_le (by rw [num8_len]; omega)] at r1, hs.to⟩
def rentB (e : RE) : List UInt8 := encEnt e.id e.due e.tries
def rbytes (s : RB) : List UInt8 := encHead s.cap s.wait s.inc s.L.length ++ s.L.flatMap rentB
theorem rbytes_vw (s : Bk) : rbytes (vw s) = bytesB s := by
  simp only [rbytes, bytesB, vw, List.length_map, List.flatMap_map]
  rfl
theorem rents_len (l : List RE) : (l.flatMap rentB).length = 48 * l.length := by
  induction l with
  | nil => rfl
  | cons e l ih => rw [List.flatMap_cons, List.length_append, ih, List.length_cons]; simp [rentB, encEnt, num8_len, e.id.2]; omega
theorem encRE_id (y : RE) {j : Nat} {c : UInt8} (h : y.id.1[j]? = some c) : (encRE y)[j]? = some (ub c) := by
  rw [encRE, List.getElem?_append_left (by rw [List.length_map]; exact (List.getElem?_eq_some_iff.1 h).1), List.getElem?_map, h]; rfl
theorem rencode_any (hs : Sat K w Hs) [hr : KRow encRE 35 K v s.L] (hL : s.L.length ≤ 10000) : Ret Try.prog 43 #[s.v v] w fun r w' => ∃ F', RowL 5 encB 1 r (rbytes s) F' ∧ Sat K w' (F' :: Hs) := by
  obtain ⟨c, wt, inc, L⟩ := s
  simp only at hr hL ⊢
  obtain ⟨ad, cap, rfl, hsl, hc⟩ := hr.ex
  have n1 := num8_len c
  have n2 := num8_len wt
  have n3 := num8_len L.length
  refine Ret.enter (n := 65) (args := [.agg #[.int .i64 c, .int .i64 wt, .bool inc, .slice ad L.length cap]]) Try.func43 rfl rfl ?_
  refine C.keep [(0, _)] ⟨rfl, trivial⟩ ?_
  refine C.seq ?_
  refine C.region ?_
  refine R.sboxA hs rfl rfl ?_
  intro b1 w1 hs
  refine R.ev rfl (E.assign rfl) ?_
  refine R.done ?_
  refine X.keep [(1, _)] ⟨rfl, trivial⟩ ?_
  refine X.next ?_
  refine C.seq ?_
  refine C.drawn (SatS hs) ([1, 4], [0, 3, 7]) (by kernel_rfl) ?_
  have hs := hs.drew
  first | refine D.evP 0 rfl (by kernel_rfl) rfl (fun _ => hs.to) (fun _ => E.fieldAddr0 0 rfl Try.underlying52 rfl Try.sz3 rfl) ?_ | refine D.evP 0 rfl (by kernel_rfl) rfl (fun _ => hs.to) (fun _ => E.fieldAddrN 0 rfl Try.underlying52 rfl Try.sz3 rfl) ?_
  first | refine D.evP 3 rfl (by kernel_rfl) rfl (fun _ => hs.to) (fun _ => E.fieldAddr0 1 rfl Try.underlying52 rfl Try.sz3 rfl) ?_ | refine D.evP 3 rfl (by kernel_rfl) rfl (fun _ => hs.to) (fun _ => E.fieldAddrN 1 rfl Try.underlying52 rfl Try.sz3 rfl) ?_
  refine D.ev 1 rfl (by kernel_rfl) rfl hs.to (fun _ hS => E.load1 rfl Try.underlying3 rfl (by first | exact hS.ldc | exact hS.ld rfl | exact hS.ld (by assumption) | exact by assumption | exact At.cellC (by assumption) | exact At.cellC ((by assumption : ∀ w', Sat _ w' _ → At w' _ _ _) _ hS) | exact (by assumption : ∀ w', Sat _ w' _ → World.cell? w' _ = some _) _ hS)) ?_
  refine D.ev 4 rfl (by kernel_rfl) rfl hs.to (fun _ hS => E.load1 rfl Try.underlying3 rfl (by first | exact hS.ldc | exact hS.ld rfl | exact hS.ld (by assumption) | exact by assumption | exact At.cellC (by assumption) | exact At.cellC ((by assumption : ∀ w', Sat _ w' _ → At w' _ _ _) _ hS) | exact (by assumption : ∀ w', Sat _ w' _ → World.cell? w' _ = some _) _ hS)) ?_
  refine D.act 2 rfl (by kernel_rfl) ?_
  refine R.call ⟨_, _, Try.func73, rfl, by kernel_rfl⟩ rfl rfl (rnumber_any c hs) ?_
  rintro v9 w9 ⟨F9, r9, hs⟩
  refine D.back hs.to ?_
  refine D.act 5 rfl (by kernel_rfl) ?_
  refine R.call ⟨_, _, Try.func73, rfl, by kernel_rfl⟩ rfl rfl (rnumber_any wt hs) ?_
  rintro v12 w12 ⟨F12, r12, hs⟩
  obtain ⟨ad12, cap12, rfl, _⟩ := r12.val
  refine D.backT (by kernel_rfl) ?_
  refine D.act 6 rfl (by kernel_rfl) ?_
  refine R.cappSl hs rfl rfl Try.underlying57 Try.by5 (by rfl) rfl (by decide) (by first | omega | (simp only [List.length_append, List.length_cons, List.length_nil] at *; omega)) (by first | omega | (simp only [List.length_append, List.length_cons, List.length_nil] at *; omega)) ?_
  intro v13 w13 F13 r13 hs
  refine D.backT (by kernel_rfl) ?_
  refine D.evP 7 rfl (by kernel_rfl) rfl (np (by kernel_rfl)) (fun _ => E.assign rfl) ?_
  refine D.done rfl (by kernel_rfl) ?_
  refine X.keep [(1, _), (3, _)] ⟨rfl, rfl, trivial⟩ ?_
  refine X.next ?_
  refine C.seq ?_
  refine C.region ?_
  refine R.ev rfl (E.assign rfl) ?_
  refine R.done ?_
  refine X.keep [(1, _), (3, _), (4, _)] ⟨rfl, rfl, rfl, trivial⟩ ?_
  refine X.next ?_
  refine C.seq ?_
  refine C.seq ?_
  refine C.region ?_
  first | refine R.ev rfl (E.fieldAddr0 2 rfl Try.underlying52 rfl Try.sz4 rfl) ?_ | refine R.ev rfl (E.fieldAddrN 2 rfl Try.underlying52 rfl Try.sz4 rfl) ?_
  refine R.ev rfl (E.load1 rfl Try.underlying4 rfl (by first | exact hs.ldc | exact hs.ld rfl | exact hs.ld (by assumption) | exact by assumption | exact At.cellC (by assumption))) ?_
  refine R.done ?_
  refine X.keep [(1, _), (3, _), (4, _), (15, _)] ⟨rfl, rfl, rfl, rfl, trivial⟩ ?_
  refine X.next ?_
  refine C.cut [(1, _), (3, _)] (fun (f : UInt8) => [(4, ub f)]) (fun f w' => f = (if inc then 1 else 0) ∧ Sat K w' (F13 :: row b1 52 [.int .i64 c, .int .i64 wt, .bool inc, .slice ad L.length cap] :: Hs)) ⟨rfl, rfl, trivial⟩ ?_ ?_
  · refine C.cbool rfl (fun h15 => ?_) (fun h15 => ?_)
    · refine C.region ?_
      refine R.ev rfl (E.assign rfl) ?_
      refine R.done ?_
      refine X.keep [(1, _), (3, _), (4, _)] ⟨rfl, rfl, rfl, trivial⟩ ?_
      first
        | exact X.cut ((1 : UInt8)) ⟨lkV rfl rfl, rfl, rfl, trivial⟩ ⟨by rw [h15]; rfl, hs.to⟩
        | exact X.cut ((0 : UInt8)) ⟨lkV rfl rfl, rfl, rfl, trivial⟩ ⟨by rw [h15]; rfl, hs.to⟩
    · refine C.skip ?_
      first
        | exact X.cut ((1 : UInt8)) ⟨lkV rfl rfl, rfl, rfl, trivial⟩ ⟨by rw [h15]; rfl, hs.to⟩
        | exact X.cut ((0 : UInt8)) ⟨lkV rfl rfl, rfl, rfl, trivial⟩ ⟨by rw [h15]; rfl, hs.to⟩
  · rintro f w4 ⟨hf, hs⟩
    refine X.keep [(1, _), (3, _), (4, _)] ⟨rfl, rfl, rfl, trivial⟩ ?_
    refine X.next ?_
    refine C.seq ?_
    refine C.drawn (fun w1 => Sat K w1 (row b1 52 [.int .i64 c, .int .i64 wt, .bool inc, .slice ad L.length cap] :: Hs)) ([5], [0, 1, 4, 6, 9]) (by kernel_rfl) ?_
    have hs := hs.drew
    refine D.evP 0 rfl (by kernel_rfl) rfl (fun _ => hs.to) (fun _ => E.move rfl) ?_
    refine D.evP 1 rfl (by kernel_rfl) rfl (fun _ => hs.to) (fun _ => E.move rfl) ?_
    first | refine D.evP 4 rfl (by kernel_rfl) rfl (fun _ => hs.to) (fun _ => E.fieldAddr0 3 rfl Try.underlying52 rfl Try.sz50 rfl) ?_ | refine D.evP 4 rfl (by kernel_rfl) rfl (fun _ => hs.to) (fun _ => E.fieldAddrN 3 rfl Try.underlying52 rfl Try.sz50 rfl) ?_
    refine D.ev 5 rfl (by kernel_rfl) rfl hs.to (fun _ hS => E.load1 rfl Try.underlying50 rfl (by first | exact hS.ldc | exact hS.ld rfl | exact hS.ld (by assumption) | exact by assumption | exact At.cellC (by assumption) | exact At.cellC ((by assumption : ∀ w', Sat _ w' _ → At w' _ _ _) _ hS) | exact (by assumption : ∀ w', Sat _ w' _ → World.cell? w' _ = some _) _ hS)) ?_
    refine D.evP 6 rfl (by kernel_rfl) rfl (fun _ => hs.to) (fun _ => E.lenSl rfl Try.underlying50) ?_
    refine D.act 2 rfl (by kernel_rfl) ?_
    refine R.buildSlice1 (parts := [(0, .tmp 17)]) (vs := [_]) rfl rfl rfl Try.underlying57 Try.sz5 Try.zr5 rfl (by simp [Value.oneCell']) (by decide) ?_
    intro b18 w18 n18
    have hs := hs.new n18
    refine D.back hs.to ?_
    refine D.act 3 rfl (by kernel_rfl) ?_
    refine R.capp1 (f) hs rfl rfl Try.underlying57 Try.by5 (by rfl) rfl (by first | exact hs.ldA | exact hs.ldP rfl | exact by assumption) (by decide) (by first | omega | (simp only [List.length_append, List.length_cons, List.length_nil] at *; omega)) (by first | omega | (simp only [List.length_append, List.length_cons, List.length_nil] at *; omega)) ?_
    intro v19 w19 F19 r19 hs
    refine D.back hs.to ?_
    refine D.act 7 rfl (by kernel_rfl) ?_
    refine R.call ⟨_, _, Try.func73, rfl, by kernel_rfl⟩ rfl rfl (rnumber_any L.length hs) ?_
    rintro v23 w23 ⟨F23, r23, hs⟩
    obtain ⟨ad23, cap23, rfl, _⟩ := r23.val
    refine D.backT (by kernel_rfl) ?_
    refine D.act 8 rfl (by kernel_rfl) ?_
    refine R.cappSl hs rfl rfl Try.underlying57 Try.by5 (by rfl) rfl (by decide) (by first | omega | (simp only [List.length_append, List.length_cons, List.length_nil] at *; omega)) (by first | omega | (simp only [List.length_append, List.length_cons, List.length_nil] at *; omega)) ?_
    intro v24 w24 F24 r24 hs
    rw [hf] at r24
    refine D.backT (by kernel_rfl) ?_
    refine D.evP 9 rfl (by kernel_rfl) rfl (np (by kernel_rfl)) (fun _ => E.assign rfl) ?_
    refine D.done rfl (by kernel_rfl) ?_
    refine X.keep [(1, _), (3, _)] ⟨rfl, rfl, trivial⟩ ?_
    refine X.next ?_
    refine C.seq ?_
    refine C.seq ?_
    refine C.region ?_
    refine R.ev rfl (E.assign rfl) ?_
    refine R.done ?_
    refine X.keep [(1, _), (3, _), (5, _)] ⟨rfl, rfl, rfl, trivial⟩ ?_
    refine X.next ?_
    refine C.block ?_
    refine C.loop (T := Nat × Value × Hl) [(1, _)] (fun (k, v, _) => [(3, v), (5, .int .i64 (k : Nat))]) (fun (k, v', G') w' => k ≤ L.length ∧ RowL 5 encB 1 v' (encHead c wt inc L.length ++ (L.take k).flatMap rentB) G' ∧ Sat K w' (G' :: row b1 52 [.int .i64 c, .int .i64 wt, .bool inc, .slice ad L.length cap] :: Hs)) (fun (k, _) => L.length - k) ((0, v24, F24)) ⟨rfl, rfl, rfl, trivial⟩ ⟨by omega, by simpa [encHead] using r24, hs.to⟩ ?_
    rintro ⟨k, v1, G1⟩ w1 ⟨hk, r1, hs⟩
    have hlen : (encHead c wt inc L.length ++ (L.take k).flatMap rentB).length ≤ 1000000 := by rw [List.length_append, encHead_len, rents_len, List.length_take]; omega
    generalize hP : encHead c wt inc L.length ++ (L.take k).flatMap rentB = P at r1 hlen
    refine C.keep [(1, _), (3, _), (5, _)] ⟨rfl, rfl, rfl, trivial⟩ ?_
    refine C.seq ?_
    refine C.seq ?_
    refine C.region ?_
    refine R.ev rfl (E.move rfl) ?_
    first | refine R.ev rfl (E.fieldAddr0 3 rfl Try.underlying52 rfl Try.sz50 rfl) ?_ | refine R.ev rfl (E.fieldAddrN 3 rfl Try.underlying52 rfl Try.sz50 rfl) ?_
    refine R.ev rfl (E.load1 rfl Try.underlying50 rfl (by first | exact hs.ldc | exact hs.ld rfl | exact hs.ld (by assumption) | exact by assumption | exact At.cellC (by assumption))) ?_
    refine R.ev rfl (E.lenSl rfl Try.underlying50) ?_
    refine R.ev rfl (E.lss rfl rfl) ?_
    refine R.done ?_
    refine X.keep [(1, _), (3, _), (5, _), (29, _)] ⟨rfl, rfl, rfl, rfl, trivial⟩ ?_
    refine X.next ?_
    refine C.cdec rfl (fun h29 => ?_) (fun h29 => ?_)
    · obtain ⟨y, bk_y, of_y, hy, my, ly, rfl, Ay⟩ := hs.el (i := k) (ad := ad) (n := L.length) (c := cap) (by omega)
      have ay := Ay _ hs
      have hyl := y.id.2
      have n4 := num8_len y.due
      have n5 := num8_len y.tries
      refine C.skip ?_
      refine X.next ?_
      refine C.seq ?_
      refine C.block ?_
      refine C.seq ?_
      refine C.seq ?_
      refine C.region ?_
      refine R.ev rfl (E.assign rfl) ?_
      refine R.done ?_
      refine X.keep [(1, _), (3, _), (5, _), (6, _)] ⟨rfl, rfl, rfl, rfl, trivial⟩ ?_
      refine X.next ?_
      refine C.block ?_
      refine C.loop (T := Nat × Value × Hl) [(1, _), (5, _)] (fun (j, v, _) => [(3, v), (6, .int .i64 (j : Nat))]) (fun (j, v', G') w' => j ≤ 32 ∧ RowL 5 encB 1 v' (P ++ y.id.1.take j) G' ∧ Sat K w' (G' :: row b1 52 [.int .i64 c, .int .i64 wt, .bool inc, .slice (some ⟨bk_y, of_y, none⟩) L.length cap] :: Hs)) (fun (j, _) => 32 - j) ((0, v1, G1)) ⟨rfl, rfl, rfl, rfl, trivial⟩ ⟨by omega, by simpa using r1, hs.to⟩ ?_
      rintro ⟨j, v2, G2⟩ w2 ⟨hj, r2, hs⟩
      have hlen2 : (P ++ y.id.1.take j).length ≤ 1000100 := by rw [List.length_append, List.length_take]; omega
      replace Ay := hs.elAt (b := bk_y) (off := of_y) (n := L.length) (cap) hy
      have ay := Ay _ hs
      refine C.keep [(1, _), (3, _), (5, _), (6, _)] ⟨rfl, rfl, rfl, rfl, trivial⟩ ?_
      refine C.seq ?_
      refine C.seq ?_
      refine C.region ?_
      refine R.ev rfl (E.move rfl) ?_
      refine R.ev rfl (E.lss rfl rfl) ?_
      refine R.done ?_
      refine X.keep [(1, _), (3, _), (5, _), (6, _), (33, _)] ⟨rfl, rfl, rfl, rfl, rfl, trivial⟩ ?_
      refine X.next ?_
      refine C.cdec rfl (fun h33 => ?_) (fun h33 => ?_)
      · obtain ⟨x, hx⟩ : ∃ x, y.id.1[j]? = some x := ⟨_, List.getElem?_eq_getElem (by omega)⟩
        have q44 : w2.cell? ⟨bk_y, of_y + k * 35 + 0 + j * 1, none⟩ = some (ub x) := by rw [Nat.mul_one]; exact ay j _ (encRE_id y hx)
        refine C.skip ?_
        refine X.next ?_
        refine C.seq ?_
        refine C.block ?_
        refine C.region ?_
        refine R.ev rfl (E.move rfl) ?_
        first | refine R.ev rfl (E.fieldAddr0 3 rfl Try.underlying52 rfl Try.sz50 rfl) ?_ | refine R.ev rfl (E.fieldAddrN 3 rfl Try.underlying52 rfl Try.sz50 rfl) ?_
        refine R.ev rfl (E.load1 rfl Try.underlying50 rfl (by first | exact hs.ldc | exact hs.ld rfl | exact hs.ld (by assumption) | exact by assumption | exact At.cellC (by assumption))) ?_
        refine R.ev rfl (E.move rfl) ?_
        refine R.ev rfl (E.move rfl) ?_
        refine R.ev rfl (E.indexAddr rfl rfl Try.underlying50 Try.sz90 rfl (by first | omega | decide)) ?_
        first | refine R.ev rfl (E.fieldAddr0 0 rfl Try.underlying90 rfl Try.sz29 rfl) ?_ | refine R.ev rfl (E.fieldAddrN 0 rfl Try.underlying90 rfl Try.sz29 rfl) ?_
        refine R.ev rfl (E.indexAddrA rfl rfl Try.underlying29 Try.sz5 rfl (by first | omega | decide)) ?_
        refine R.ev rfl (E.load1 rfl Try.underlying5 rfl (by first | exact hs.ldc | exact hs.ld rfl | exact hs.ld (by assumption) | exact by assumption | exact At.cellC (by assumption))) ?_
        refine R.buildSlice1 (parts := [(0, .tmp 44)]) (vs := [_]) rfl rfl rfl Try.underlying57 Try.sz5 Try.zr5 rfl (by simp [Value.oneCell']) (by decide) ?_
        intro b45 w45 n45
        have hs := hs.new n45
        refine R.capp1 (x) hs rfl rfl Try.underlying57 Try.by5 (by rfl) rfl (by first | exact hs.ldA | exact hs.ldP rfl | exact by assumption) (by decide) (by first | omega | (simp only [List.length_append, List.length_cons, List.length_nil] at *; omega)) (by first | omega | (simp only [List.length_append, List.length_cons, List.length_nil] at *; omega)) ?_
        intro v46 w46 F46 r46 hs
        refine R.ev rfl (E.assign rfl) ?_
        refine R.done ?_
        refine X.keep [(1, _), (3, _), (5, _), (6, _)] ⟨rfl, rfl, rfl, rfl, trivial⟩ ?_
        refine X.blockNormal ?_
        refine X.next ?_
        refine C.region ?_
        refine R.ev rfl (E.move rfl) ?_
        refine R.ev rfl (E.add rfl rfl (by omega) (by omega)) ?_
        refine R.ev rfl (E.assign rfl) ?_
        refine R.done ?_
        refine X.keep [(1, _), (3, _), (5, _), (6, _)] ⟨rfl, rfl, rfl, rfl, trivial⟩ ?_
        exact X.again (j + 1, v46, F46) ⟨rfl, rfl, rfl, rfl, trivial⟩ ⟨by omega, by rw [take_snoc hx, ← List.append_assoc]; exact r46, hs.to⟩ (by show _ - _ < _ - _; omega)
      · refine C.exit ?_
        refine X.thenExit ?_
        refine X.loopExit ?_
        refine X.blockExit ?_
        refine X.next ?_
        refine C.drawn (fun w1 => Sat K w1 (row b1 52 [.int .i64 c, .int .i64 wt, .bool inc, .slice (some ⟨bk_y, of_y, none⟩) L.length cap] :: Hs)) ([2, 6, 10, 14], [0, 1, 3, 4, 5, 9, 11, 12, 13, 17]) (by kernel_rfl) ?_
        have hs := hs.drew
        have hj32 : j = 32 := by omega
        rw [hj32, List.take_of_length_le (by omega)] at r2 hlen2
        have Ay2 := Sat.elAt (Hs := row b1 52 [.int .i64 c, .int .i64 wt, .bool inc, .slice (some ⟨bk_y, of_y, none⟩) L.length cap] :: Hs) (b := bk_y) (off := of_y) (n := L.length) cap hs.to hy
        refine D.evP 0 rfl (by kernel_rfl) rfl (fun _ => hs.to) (fun _ => E.move rfl) ?_
        first | refine D.evP 1 rfl (by kernel_rfl) rfl (fun _ => hs.to) (fun _ => E.fieldAddr0 3 rfl Try.underlying52 rfl Try.sz50 rfl) ?_ | refine D.evP 1 rfl (by kernel_rfl) rfl (fun _ => hs.to) (fun _ => E.fieldAddrN 3 rfl Try.underlying52 rfl Try.sz50 rfl) ?_
        refine D.evP 3 rfl (by kernel_rfl) rfl (fun _ => hs.to) (fun _ => E.move rfl) ?_
        first | refine D.evP 9 rfl (by kernel_rfl) rfl (fun _ => hs.to) (fun _ => E.fieldAddr0 3 rfl Try.underlying52 rfl Try.sz50 rfl) ?_ | refine D.evP 9 rfl (by kernel_rfl) rfl (fun _ => hs.to) (fun _ => E.fieldAddrN 3 rfl Try.underlying52 rfl Try.sz50 rfl) ?_
        refine D.evP 11 rfl (by kernel_rfl) rfl (fun _ => hs.to) (fun _ => E.move rfl) ?_
        refine D.ev 2 rfl (by kernel_rfl) rfl hs.to (fun _ hS => E.load1 rfl Try.underlying50 rfl (by first | exact hS.ldc | exact hS.ld rfl | exact hS.ld (by assumption) | exact by assumption | exact At.cellC (by assumption) | exact At.cellC ((by assumption : ∀ w', Sat _ w' _ → At w' _ _ _) _ hS) | exact (by assumption : ∀ w', Sat _ w' _ → World.cell? w' _ = some _) _ hS)) ?_
        refine D.evP 4 rfl (by kernel_rfl) rfl (fun _ => hs.to) (fun _ => E.indexAddr rfl rfl Try.underlying50 Try.sz90 rfl (by first | omega | decide)) ?_
        first | refine D.evP 5 rfl (by kernel_rfl) rfl (fun _ => hs.to) (fun _ => E.fieldAddr0 32 rfl Try.underlying90 rfl Try.sz3 rfl) ?_ | refine D.evP 5 rfl (by kernel_rfl) rfl (fun _ => hs.to) (fun _ => E.fieldAddrN 32 rfl Try.underlying90 rfl Try.sz3 rfl) ?_
        refine D.ev 6 rfl (by kernel_rfl) rfl hs.to (fun _ hS => E.load1 rfl Try.underlying3 rfl (by first | exact hS.ldc | exact hS.ld rfl | exact hS.ld (by assumption) | exact by assumption | exact At.cellC (by assumption) | exact At.cellC ((by assumption : ∀ w', Sat _ w' _ → At w' _ _ _) _ hS) | exact (by assumption : ∀ w', Sat _ w' _ → World.cell? w' _ = some _) _ hS)) ?_
        refine D.ev 10 rfl (by kernel_rfl) rfl hs.to (fun _ hS => E.load1 rfl Try.underlying50 rfl (by first | exact hS.ldc | exact hS.ld rfl | exact hS.ld (by assumption) | exact by assumption | exact At.cellC (by assumption) | exact At.cellC ((by assumption : ∀ w', Sat _ w' _ → At w' _ _ _) _ hS) | exact (by assumption : ∀ w', Sat _ w' _ → World.cell? w' _ = some _) _ hS)) ?_
        refine D.evP 12 rfl (by kernel_rfl) rfl (fun _ => hs.to) (fun _ => E.indexAddr rfl rfl Try.underlying50 Try.sz90 rfl (by first | omega | decide)) ?_
        first | refine D.evP 13 rfl (by kernel_rfl) rfl (fun _ => hs.to) (fun _ => E.fieldAddr0 33 rfl Try.underlying90 rfl Try.sz3 rfl) ?_ | refine D.evP 13 rfl (by kernel_rfl) rfl (fun _ => hs.to) (fun _ => E.fieldAddrN 33 rfl Try.underlying90 rfl Try.sz3 rfl) ?_
        refine D.ev 14 rfl (by kernel_rfl) rfl hs.to (fun _ hS => E.load1 rfl Try.underlying3 rfl (by first | exact hS.ldc | exact hS.ld rfl | exact hS.ld (by assumption) | exact by assumption | exact At.cellC (by assumption) | exact At.cellC ((by assumption : ∀ w', Sat _ w' _ → At w' _ _ _) _ hS) | exact (by assumption : ∀ w', Sat _ w' _ → World.cell? w' _ = some _) _ hS)) ?_
        refine D.act 7 rfl (by kernel_rfl) ?_
        refine R.call ⟨_, _, Try.func73, rfl, by kernel_rfl⟩ rfl rfl (rnumber_any y.due hs) ?_
        rintro v54 w54 ⟨F54, r54, hs⟩
        obtain ⟨ad54, cap54, rfl, _⟩ := r54.val
        refine D.back hs.to ?_
        refine D.act 8 rfl (by kernel_rfl) ?_
        refine R.cappSl hs rfl rfl Try.underlying57 Try.by5 (by rfl) rfl (by decide) (by first | omega | (simp only [List.length_append, List.length_cons, List.length_nil] at *; omega)) (by first | omega | (simp only [List.length_append, List.length_cons, List.length_nil] at *; omega)) ?_
        intro v55 w55 F55 r55 hs
        refine D.back hs.to ?_
        refine D.act 15 rfl (by kernel_rfl) ?_
        refine R.call ⟨_, _, Try.func73, rfl, by kernel_rfl⟩ rfl rfl (rnumber_any y.tries hs) ?_
        rintro v62 w62 ⟨F62, r62, hs⟩
        obtain ⟨ad62, cap62, rfl, _⟩ := r62.val
        refine D.backT (by kernel_rfl) ?_
        refine D.act 16 rfl (by kernel_rfl) ?_
        refine R.cappSl hs rfl rfl Try.underlying57 Try.by5 (by rfl) rfl (by decide) (by first | omega | (simp only [List.length_append, List.length_cons, List.length_nil] at *; omega)) (by first | omega | (simp only [List.length_append, List.length_cons, List.length_nil] at *; omega)) ?_
        intro v63 w63 F63 r63 hs
        refine D.backT (by kernel_rfl) ?_
        refine D.evP 17 rfl (by kernel_rfl) rfl (np (by kernel_rfl)) (fun _ => E.assign rfl) ?_
        refine D.done rfl (by kernel_rfl) ?_
        refine X.keep [(1, _), (3, _), (5, _)] ⟨rfl, rfl, rfl, trivial⟩ ?_
        refine X.blockNormal ?_
        refine X.next ?_
        refine C.region ?_
        refine R.ev rfl (E.move rfl) ?_
        refine R.ev rfl (E.add rfl rfl (by omega) (by omega)) ?_
        refine R.ev rfl (E.assign rfl) ?_
        refine R.done ?_
        refine X.keep [(1, _), (3, _), (5, _)] ⟨rfl, rfl, rfl, trivial⟩ ?_
        exact X.again (k + 1, v63, F63) ⟨rfl, rfl, rfl, trivial⟩ ⟨by omega, by rw [take_snoc hy, List.flatMap_append, ← List.append_assoc, hP]; simpa [rentB, encEnt, List.append_assoc] using r63, hs.to⟩ (by show _ - _ < _ - _; omega)
    · refine C.exit ?_
      refine X.thenExit ?_
      refine X.loopExit ?_
      refine X.blockExit ?_
      refine X.next ?_
      refine C.seq ?_
      refine C.region ?_
      refine R.ev rfl (E.move rfl) ?_
      refine R.ev rfl (E.assign rfl) ?_
      refine R.done ?_
      refine X.keep [(2, _)] ⟨rfl, trivial⟩ ?_
      refine X.next ?_
      refine C.ret ?_
      refine X.ret1 rfl rfl ?_
      rw [show k = L.length by omega, List.take_length] at hP
      exact ⟨G1, by rw [rbytes]; simp only; rw [hP]; exact r1, hs.to⟩
end Go.Proofs.Ytoidpcmcbmioiaa
