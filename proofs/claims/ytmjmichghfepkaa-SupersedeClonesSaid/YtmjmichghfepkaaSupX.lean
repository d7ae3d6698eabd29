/-
  Chapter 41: To, rows; the reference's Valid, Outdoes, Find, Check; the program's Check.
-/
import Derived.Test.YtmjmichghfepkaaSupW
namespace Go.Proofs.Ytmjmichghfepkaa
open Go.Eng Go.RowKit Go.Sort
variable {K : Kn} {Hs Rs : List Hl} {F : Hl} {w : World} {v : Value} {L : List RR}
theorem encA_set (x : RR) (gv : Value) {ad : Option Addr} {n c : Nat} (h : gv = .slice ad n c) (y : RA) (hy : y.x = x) : (encA y).set 49 gv = encA ⟨x, ad, n, c⟩ := by
  subst h hy
  simp [encA, y.x.id.2, y.x.au.2, List.set_append]
theorem nm_slice {i : Nat} (hi : i < 8) : (([97, 98, 99, 100, 101, 102, 103, 104] : List UInt8).drop i).take 1 = nmG i := by
  match i, hi with
  | 0, _ => rfl
  | 1, _ => rfl
  | 2, _ => rfl
  | 3, _ => rfl
  | 4, _ => rfl
  | 5, _ => rfl
  | 6, _ => rfl
  | 7, _ => rfl
  | k + 8, h => omega
theorem grpN_le (g : UInt8) : ∀ k, (grpN g k).length ≤ k
  | 0 => by simp [grpN]
  | k + 1 => by have := grpN_le g k; rw [grpN, List.length_append]; split <;> simp <;> omega
theorem to_any (x : RR) (hs : Sat K w Hs) : Ret Try.prog 18 #[.agg (encR x).toArray] w fun v w' => ∃ K' y, v = evA y ∧ y.x = x ∧ KLe K K' ∧ GOk K' y ∧ Sat K' w' Hs := by
  have e1 := encV_len x.id
  have e2 := encV_len x.au
  have e3 := encV_len x.sup
  refine Ret.enter (n := 34) (args := [.agg (encR x).toArray]) Try.func18 rfl rfl ?_
  refine C.keep [(0, _)] ⟨rfl, trivial⟩ ?_
  refine C.seq ?_
  refine C.region ?_
  refine R.sboxA hs rfl rfl ?_
  intro b1 w1 hs
  refine R.sallocA hs Try.zr42 rfl ?_
  intro b2 w2 hs
  refine R.done ?_
  refine X.keep [(1, _), (2, _)] ⟨rfl, rfl, trivial⟩ ?_
  refine X.next ?_
  refine C.seq ?_
  refine C.region ?_
  refine R.ev rfl (E.fieldAddr0 0 rfl Try.underlying26 rfl Try.sz23 rfl) ?_
  refine R.ev rfl (E.loadRowC rfl Try.underlying23 rfl Try.sz23 (by exact ⟨hs.ldP rfl, by assumption⟩)) ?_
  refine R.ev rfl (E.fieldAddr0 32 rfl Try.underlying26 rfl Try.sz24 rfl) ?_
  refine R.ev rfl (E.loadRowC rfl Try.underlying24 rfl Try.sz24 (by exact hs.ldp)) ?_
  refine R.ev rfl (E.fieldAddr0 48 rfl Try.underlying26 rfl Try.sz3 rfl) ?_
  refine R.ev rfl (E.load1 rfl Try.underlying3 rfl (by exact hs.ldc)) ?_
  refine R.ev rfl (E.fieldAddr0 49 rfl Try.underlying26 rfl Try.sz23 rfl) ?_
  refine R.ev rfl (E.loadRowC rfl Try.underlying23 rfl Try.sz23 (by exact hs.ldp)) ?_
  refine R.ev rfl (E.buildG (r := encA ⟨x, none, 0, 0⟩) rfl Try.underlying42 Try.zr42 Try.ql42 (by kernel_rfl) (by kernel_rfl) ⟨⟨_, rfl, by exact vsz _⟩, ⟨_, rfl, by exact vsz _⟩, ⟨_, rfl, by rfl⟩, ⟨_, rfl, by exact vsz _⟩, trivial⟩ (by simp [setF, fieldsOf, Value.cells, encA])) ?_
  refine R.sallocA hs Try.zr42 rfl ?_
  intro b3 w3 hs
  refine R.cstoreAll hs rfl rfl Try.sz42 (by rfl) (by exact Enc.len _) (by exact Enc.one _) ?_
  intro w1_10 hs
  try simp only [List.set_cons_zero, List.set_cons_succ] at hs
  refine R.done ?_
  refine X.keep [(1, _), (2, _), (3, _)] ⟨rfl, rfl, rfl, trivial⟩ ?_
  refine X.next ?_
  refine C.seq ?_
  refine C.seq ?_
  refine C.region ?_
  refine R.ev rfl (E.assign rfl) ?_
  refine R.done ?_
  refine X.keep [(1, _), (2, _), (3, _), (4, _)] ⟨rfl, rfl, rfl, rfl, trivial⟩ ?_
  refine X.next ?_
  refine C.block ?_
  refine C.loop (T := Nat × RA × Hl) [(1, _), (2, _), (3, _)] (fun (k, _, _) => [(4, .int .i64 (k : Nat))]) (fun (k, y, F1) w' => k ≤ 8 ∧ y.x = x ∧ RowL 9 encS 1 y.gv (grpN x.g k) F1 ∧ Sat K w' (row b3 42 (encA y) :: row b2 42 (encA az) :: row b1 26 (encR x) :: F1 :: Hs)) (fun (k, _) => 8 - k) ((0, ⟨x, none, 0, 0⟩, [])) ⟨rfl, rfl, rfl, rfl, trivial⟩ ⟨by omega, rfl, RowL.nil _ _ _, (show Sat K _ ([] :: row b3 42 (encA ⟨x, none, 0, 0⟩) :: row b2 42 (encA az) :: row b1 26 (encR x) :: Hs) from hs.nil).to⟩ ?_
  rintro ⟨k, y, F1⟩ w1 ⟨hk, hyx, r1, hs⟩
  have hgl := grpN_le x.g k
  refine C.keep [(1, _), (2, _), (3, _), (4, _)] ⟨rfl, rfl, rfl, rfl, trivial⟩ ?_
  refine C.seq ?_
  refine C.seq ?_
  refine C.region ?_
  refine R.ev rfl (E.move rfl) ?_
  refine R.ev rfl (E.lss rfl rfl) ?_
  refine R.done ?_
  refine X.keep [(1, _), (2, _), (3, _), (4, _), (15, _)] ⟨rfl, rfl, rfl, rfl, rfl, trivial⟩ ?_
  refine X.next ?_
  refine C.cdec rfl (fun h15 => ?_) (fun h15 => ?_)
  refine C.skip ?_
  refine X.next ?_
  refine C.seq ?_
  refine C.block ?_
  refine C.seq ?_
  refine C.region ?_
  refine R.ev rfl (E.fieldAddr0 81 rfl Try.underlying26 rfl Try.sz5 rfl) ?_
  refine R.ev rfl (E.load1 rfl Try.underlying5 rfl (by exact hs.ldc)) ?_
  refine R.ev rfl (E.move rfl) ?_
  refine R.ev rfl (E.shr rfl rfl (by omega)) ?_
  refine R.ev rfl (E.and rfl rfl) ?_
  refine R.ev rfl ((E.eql rfl rfl).isB (c := bitG x.g k) (bit_op (by omega))) ?_
  refine R.done ?_
  refine X.keep [(1, _), (2, _), (3, _), (4, _), (23, _)] ⟨rfl, rfl, rfl, rfl, rfl, trivial⟩ ?_
  refine X.next ?_
  refine C.cbool rfl (fun h23 => ?_) (fun h23 => ?_)
  refine C.drawn (SatS hs) ([1], [0, 2, 3, 4, 5, 8]) (by kernel_rfl) ?_
  have hs := hs.drew
  refine D.evP 0 rfl (by kernel_rfl) rfl (fun _ => hs.to) (fun _ => E.fieldAddr0 49 rfl Try.underlying42 rfl Try.sz39 rfl) ?_
  refine D.evP 2 rfl (by kernel_rfl) rfl (fun _ => hs.to) (fun _ => E.move rfl) ?_
  refine D.evP 3 rfl (by kernel_rfl) rfl (fun _ => hs.to) (fun _ => E.move rfl) ?_
  refine D.evP 4 rfl (by kernel_rfl) rfl (fun _ => hs.to) (fun _ => E.add rfl rfl (by omega) (by omega)) ?_
  refine D.evP 5 rfl (by kernel_rfl) rfl (fun _ => hs.to) (fun _ => (E.ssliceLH (l := [97, 98, 99, 100, 101, 102, 103, 104]) (a := k) (b := k + 1) rfl rfl rfl Try.underlying9 rfl (by omega) (by omega) (by show k + 1 ≤ 8; omega)).as (u := str (nmG k)) (by rw [show k + 1 - k = 1 by omega, nm_slice (by omega)])) ?_
  refine D.ev 1 rfl (by kernel_rfl) rfl hs.to (fun _ hS => E.load1 rfl Try.underlying39 rfl (by exact hS.ldc)) ?_
  refine D.act 6 rfl (by kernel_rfl) ?_
  refine R.buildSlice1 (parts := [(0, .tmp 29)]) (vs := [_]) rfl rfl rfl Try.underlying39 Try.sz9 Try.zr9 rfl (by simp [Value.oneCell']) (by decide) ?_
  intro b30 w30 n30
  have hs := hs.new n30
  refine D.back hs.to ?_
  refine D.act 7 rfl (by kernel_rfl) ?_
  refine R.capp1 (nmG k) hs rfl rfl Try.underlying39 Try.by9 (by rfl) rfl (by exact hs.ldA) (by decide) (by omega) (by omega) ?_
  intro v31 w31 F31 r31 hs
  obtain ⟨ad31, cap31, he31, _⟩ := r31.val
  have hgn : grpN x.g (k + 1) = grpN x.g k ++ [nmG k] := by rw [grpN, if_pos h23]
  rw [← hgn] at r31
  refine D.backT (by kernel_rfl) ?_
  refine D.evP 8 rfl (by kernel_rfl) rfl (np (by kernel_rfl)) (fun _ => E.fieldAddr0 49 rfl Try.underlying42 rfl Try.sz39 rfl) ?_
  refine D.act 9 rfl (by kernel_rfl) ?_
  refine R.cstore1 hs rfl rfl Try.sz39 (by rw [Enc.len]; decide) (RowL.oneC (h := r31)) ?_
  intro w69 hs
  rw [encA_set x v31 he31 y hyx] at hs
  refine D.backT (by kernel_rfl) ?_
  refine D.done rfl (by kernel_rfl) ?_
  refine X.keep [(1, _), (2, _), (3, _), (4, _)] ⟨rfl, rfl, rfl, rfl, trivial⟩ ?_
  refine X.blockNormal ?_
  refine X.next ?_
  refine C.region ?_
  refine R.ev rfl (E.move rfl) ?_
  refine R.ev rfl (E.add rfl rfl (by omega) (by omega)) ?_
  refine R.ev rfl (E.assign rfl) ?_
  refine R.done ?_
  refine X.keep [(1, _), (2, _), (3, _), (4, _)] ⟨rfl, rfl, rfl, rfl, trivial⟩ ?_
  first
    | exact X.again (k + 1, ⟨x, ad31, _, cap31⟩, F31) ⟨rfl, rfl, rfl, rfl, trivial⟩ ⟨by omega, rfl, by show RowL _ _ _ (.slice _ _ _) _ _; rw [← he31]; exact r31, hs.to⟩ (by show _ - _ < _ - _; omega)
    | exact X.again (k + 1, y, F1) ⟨rfl, rfl, rfl, rfl, trivial⟩ ⟨by omega, hyx, by rw [show grpN x.g (k + 1) = grpN x.g k by rw [grpN, if_neg (by rw [h23]; decide), List.append_nil]]; exact r1, hs.to⟩ (by show _ - _ < _ - _; omega)
  refine C.skip ?_
  refine X.blockNormal ?_
  refine X.next ?_
  refine C.region ?_
  refine R.ev rfl (E.move rfl) ?_
  refine R.ev rfl (E.add rfl rfl (by omega) (by omega)) ?_
  refine R.ev rfl (E.assign rfl) ?_
  refine R.done ?_
  refine X.keep [(1, _), (2, _), (3, _), (4, _)] ⟨rfl, rfl, rfl, rfl, trivial⟩ ?_
  first
    | exact X.again (k + 1, ⟨x, ad31, _, cap31⟩, F31) ⟨rfl, rfl, rfl, rfl, trivial⟩ ⟨by omega, rfl, by show RowL _ _ _ (.slice _ _ _) _ _; rw [← he31]; exact r31, hs.to⟩ (by show _ - _ < _ - _; omega)
    | exact X.again (k + 1, y, F1) ⟨rfl, rfl, rfl, rfl, trivial⟩ ⟨by omega, hyx, by rw [show grpN x.g (k + 1) = grpN x.g k by rw [grpN, if_neg (by rw [h23]; decide), List.append_nil]]; exact r1, hs.to⟩ (by show _ - _ < _ - _; omega)
  refine C.exit ?_
  refine X.thenExit ?_
  refine X.loopExit ?_
  refine X.blockExit ?_
  refine X.next ?_
  refine C.seq ?_
  refine C.region ?_
  refine R.ev rfl (E.loadRowC rfl Try.underlying42 rfl Try.sz42 (by exact ⟨hs.ldA, by exact Enc.len _⟩)) ?_
  refine R.cstoreAll hs rfl rfl Try.sz42 (by rfl) (by exact Enc.len _) (by exact Enc.one _) ?_
  intro w7_1 hs
  try simp only [List.set_cons_zero, List.set_cons_succ] at hs
  refine R.done ?_
  refine X.keep [(2, _)] ⟨rfl, trivial⟩ ?_
  refine X.next ?_
  refine C.ret ?_
  refine X.resC rfl rfl Try.underlying42 rfl Try.sz42 (by exact ⟨hs.ldA, by exact Enc.len _⟩) ?_
  obtain ⟨K', hk', rr, hs⟩ := r1.freezeK (hs.front (F := F1))
  exact ⟨K', y, rfl, hyx, hk', by unfold GOk; rw [hyx, grp, show (8 : Nat) = k by omega]; exact rr, hs.to⟩
def GL (K : Kn) (A : List RA) : Prop := ∀ y ∈ A, GOk K y
theorem GL.mono {K K' : Kn} {A : List RA} (h : GL K A) (k : KLe K K') : GL K' A := fun y hy => (h y hy).mono k
theorem rows_any {ad : Option Addr} {n cap : Nat} (hs : Sat K w Hs) [hr : KRow encR 82 K (.slice ad n cap) L] (hn : n ≤ 9223372036854775807) : Ret Try.prog 13 #[.slice ad n cap] w fun r w' => ∃ K' v F A, r = .tuple #[v, .slice ad (min n 24) cap] ∧ KLe K K' ∧ RowL 42 encA 83 v A F ∧ A.map RA.x = L.take 24 ∧ GL K' A ∧ Sat K' w' (F :: Hs) := by
  obtain ⟨hl, hc, hsl⟩ := hr.parts
  have k1 := hr.first (i := min n 24) (by omega)
  have hlt : L.take (min n 24) = L.take 24 := by
    rcases Nat.le_total n 24 with h | h
    · rw [Nat.min_eq_left h, List.take_of_length_le (by omega), List.take_of_length_le (by omega)]
    · rw [Nat.min_eq_right h]
  rw [hlt] at k1
  have hl24 : (L.take 24).length = min n 24 := by rw [List.length_take]; omega
  generalize L.take 24 = L0 at k1 hl24
  refine Ret.enter (n := 27) (args := [.slice ad n cap]) Try.func13 rfl rfl ?_
  refine C.keep [(0, _)] ⟨rfl, trivial⟩ ?_
  refine C.seq ?_
  refine C.region ?_
  refine R.ev rfl (E.assign rfl) ?_
  refine R.ev rfl (E.assign rfl) ?_
  refine R.done ?_
  refine X.keep [(0, _)] ⟨rfl, trivial⟩ ?_
  refine X.next ?_
  refine C.seq ?_
  refine C.region ?_
  refine R.ev rfl (E.move rfl) ?_
  refine R.ev rfl (E.move rfl) ?_
  refine R.ev rfl (E.lenSl rfl Try.underlying22) ?_
  refine R.ev rfl ((E.min2 rfl rfl).isI (c := ((min n 24 : Nat) : Int)) (by omega)) ?_
  refine R.ev rfl (E.sliceH (b := min n 24) rfl rfl Try.underlying22 Try.sz26 rfl (by omega)) ?_
  refine R.ev rfl (E.assign rfl) ?_
  refine R.done ?_
  refine X.keep [(0, _)] ⟨rfl, trivial⟩ ?_
  refine X.next ?_
  refine C.seq ?_
  refine C.region ?_
  refine R.ev rfl (E.assign rfl) ?_
  refine R.done ?_
  refine X.keep [(0, _), (4, _)] ⟨rfl, rfl, trivial⟩ ?_
  refine X.next ?_
  refine C.seq ?_
  refine C.seq ?_
  refine C.region ?_
  refine R.ev rfl (E.assign rfl) ?_
  refine R.done ?_
  refine X.keep [(0, _), (4, _), (5, _)] ⟨rfl, rfl, rfl, trivial⟩ ?_
  refine X.next ?_
  refine C.block ?_
  refine C.loop (T := Nat × Kn × List RA × Value × Hl) [(0, _)] (fun (k, _, _, v, _) => [(4, v), (5, .int .i64 (k : Nat))]) (fun (k, K1, A, v, F1) w' => k ≤ min n 24 ∧ KLe K K1 ∧ RowL 42 encA 83 v A F1 ∧ A.map RA.x = L0.take k ∧ GL K1 A ∧ Sat K1 w' (F1 :: Hs)) (fun (k, _) => 24 - k) ((0, K, [], .slice none 0 0, [])) ⟨rfl, rfl, rfl, trivial⟩ ⟨by omega, KLe.refl K, RowL.nil _ _ _, by simp, (fun _ h => nomatch h), hs.nil⟩ ?_
  rintro ⟨k, K1, A, v1, F1⟩ w1 ⟨hk, hk1, r1, hA, hG, hs⟩
  have hAl : A.length = k := by have := congrArg List.length hA; rw [List.length_map, List.length_take] at this; omega
  refine C.keep [(0, _), (4, _), (5, _)] ⟨rfl, rfl, rfl, trivial⟩ ?_
  refine C.seq ?_
  refine C.seq ?_
  refine C.region ?_
  refine R.ev rfl (E.move rfl) ?_
  refine R.ev rfl (E.move rfl) ?_
  refine R.ev rfl (E.lenSl rfl Try.underlying22) ?_
  refine R.ev rfl (E.lss rfl rfl) ?_
  refine R.done ?_
  refine X.keep [(0, _), (4, _), (5, _), (14, _)] ⟨rfl, rfl, rfl, rfl, trivial⟩ ?_
  refine X.next ?_
  refine C.cdec rfl (fun h14 => ?_) (fun h14 => ?_)
  obtain ⟨y, bk_y, of_y, hy, my, ly, rfl, Ay⟩ := (hs.to (Hs := [])).el (i := k) (ad := ad) (n := min n 24) (c := cap) (by omega)
  have ay := Ay _ hs.to
  refine C.skip ?_
  refine X.next ?_
  refine C.seq ?_
  refine C.block ?_
  refine C.region ?_
  refine R.ev rfl (E.move rfl) ?_
  refine R.ev rfl (E.move rfl) ?_
  refine R.ev rfl (E.move rfl) ?_
  refine R.ev rfl (E.indexAddr rfl rfl Try.underlying22 Try.sz26 rfl (by omega)) ?_
  refine R.ev rfl (E.loadRowC rfl Try.underlying26 rfl Try.sz26 (by exact ⟨by assumption, by assumption⟩)) ?_
  refine R.call ⟨_, _, Try.func18, rfl, by kernel_rfl⟩ rfl rfl (to_any y hs) ?_
  rintro _ w6 ⟨K2, z, rfl, hzx, hk2, hgz, hs⟩
  refine R.buildSliceA rfl Try.underlying27 Try.sz42 Try.zr42 rfl (by exact Enc.len _) (by decide) (by decide) ?_
  intro b23 w23 n23
  have hs := hs.new n23
  refine R.capp1 (z) hs rfl rfl Try.underlying27 Try.by42 (by rfl) rfl (by exact hs.ldA) (by decide) (by omega) (by omega) ?_
  intro v24 w24 F24 r24 hs
  refine R.ev rfl (E.assign rfl) ?_
  refine R.done ?_
  refine X.keep [(0, _), (4, _), (5, _)] ⟨rfl, rfl, rfl, trivial⟩ ?_
  refine X.blockNormal ?_
  refine X.next ?_
  refine C.region ?_
  refine R.ev rfl (E.move rfl) ?_
  refine R.ev rfl (E.add rfl rfl (by omega) (by omega)) ?_
  refine R.ev rfl (E.assign rfl) ?_
  refine R.done ?_
  refine X.keep [(0, _), (4, _), (5, _)] ⟨rfl, rfl, rfl, trivial⟩ ?_
  exact X.again (k + 1, K2, A ++ [z], v24, F24) ⟨rfl, rfl, rfl, trivial⟩ ⟨by omega, hk1.trans hk2, r24, by rw [List.map_append, hA, take_snoc hy, ← hzx]; rfl, fun u hu => by rcases List.mem_append.1 hu with hu | hu; exact (hG u hu).mono hk2; simp at hu; subst hu; exact hgz, hs.to⟩ (by show _ - _ < _ - _; omega)
  refine C.exit ?_
  refine X.thenExit ?_
  refine X.loopExit ?_
  refine X.blockExit ?_
  refine X.next ?_
  refine C.seq ?_
  refine C.region ?_
  refine R.ev rfl (E.move rfl) ?_
  refine R.ev rfl (E.move rfl) ?_
  refine R.ev rfl (E.assign rfl) ?_
  refine R.ev rfl (E.assign rfl) ?_
  refine R.done ?_
  refine X.keep [(2, _), (3, _)] ⟨rfl, rfl, trivial⟩ ?_
  refine X.next ?_
  refine C.ret ?_
  refine X.ret2 rfl rfl rfl ?_
  exact ⟨K1, v1, F1, A, rfl, hk1, r1, by rw [hA, List.take_of_length_le (by omega)], hG, hs⟩
/-! the reference -/
theorem bytesLess_cmp : ∀ (a b : List UInt8), Op.bytesLess a b = decide (cmpL a b < 0)
  | [], [] => by simp [Op.bytesLess, cmpL]
  | [], _ :: _ => by simp [Op.bytesLess, cmpL]
  | _ :: _, [] => by simp [Op.bytesLess, cmpL]
  | x :: a, y :: b => by
    unfold Op.bytesLess cmpL
    rw [bytesLess_cmp a b]
    by_cases h1 : x < y
    · simp [h1]
    · by_cases h2 : y < x
      · have : x ≠ y := fun e => by subst e; exact UInt8.lt_irrefl _ h2
        simp [h1, h2, this]
      · have : x = y := by
          rw [UInt8.lt_iff_toNat_lt] at h1 h2
          exact UInt8.toNat_inj.1 (by omega)
        subst this
        simp [h1]
theorem before_any (a b : Vec 32) (hs : Sat K w Hs) : Ret Try.prog 46 #[idV a.1, idV b.1] w fun r w' => r = .bool (ltV a b) ∧ Sat K w' Hs := by
  have e1 := encV_len a
  have e2 := encV_len b
  refine Ret.enter (n := 10) (args := [idV a.1, idV b.1]) Try.func46 rfl rfl ?_
  refine C.keep [(0, _), (1, _)] ⟨rfl, rfl, trivial⟩ ?_
  refine C.seq ?_
  refine C.region ?_
  refine R.sboxA hs rfl rfl ?_
  intro b2 w2 hs
  refine R.sboxA hs rfl rfl ?_
  intro b3 w3 hs
  refine R.ev rfl (E.assign rfl) ?_
  refine R.done ?_
  refine X.keep [(2, _), (3, _)] ⟨rfl, rfl, trivial⟩ ?_
  refine X.next ?_
  refine C.seq ?_
  refine C.drawn (SatS hs) ([1, 3], [0, 2, 4, 5]) (by kernel_rfl) ?_
  have hs := hs.drew
  refine D.evP 0 rfl (by kernel_rfl) rfl (fun _ => hs.to) (fun _ => E.sliceA rfl Try.underlying23 Try.sz5) ?_
  refine D.evP 2 rfl (by kernel_rfl) rfl (fun _ => hs.to) (fun _ => E.sliceA rfl Try.underlying23 Try.sz5) ?_
  refine D.ev 1 rfl (by kernel_rfl) rfl hs.to (fun _ hS => E.bytesStr (l := a.1) rfl Try.underlying105 Try.underlying5 Try.underlying9 a.2 (hS.ldA)) ?_
  refine D.ev 3 rfl (by kernel_rfl) rfl hs.to (fun _ hS => E.bytesStr (l := b.1) rfl Try.underlying105 Try.underlying5 Try.underlying9 b.2 (hS.ldA)) ?_
  refine D.evP 4 rfl (by kernel_rfl) rfl (fun _ => hs.to) (fun _ => (E.slss rfl rfl).isB (c := ltV a b) (bytesLess_cmp _ _)) ?_
  refine D.evP 5 rfl (by kernel_rfl) rfl (fun _ => hs.to) (fun _ => E.assign rfl) ?_
  refine D.done rfl (by kernel_rfl) ?_
  refine X.keep [(4, _)] ⟨rfl, trivial⟩ ?_
  refine X.next ?_
  refine C.ret ?_
  refine X.ret1 rfl rfl ?_
  exact ⟨rfl, hs.to⟩
theorem and_op {p x : UInt8} : decide (IntKind.u8.wrap ((BitVec.ofInt IntKind.u8.bits (p.toNat : Int) &&& BitVec.ofInt IntKind.u8.bits (x.toNat : Int)).toNat : Int) = (p.toNat : Int)) = subG p x := by
  have hp := p.toNat_lt
  have hx := x.toNat_lt
  have hle : p.toNat &&& x.toNat ≤ p.toNat := Nat.and_le_left
  rw [BitVec.ofInt_natCast, BitVec.ofInt_natCast, show IntKind.u8.bits = 8 from rfl, BitVec.toNat_and, BitVec.toNat_ofNat, BitVec.toNat_ofNat, Nat.mod_eq_of_lt (by omega), Nat.mod_eq_of_lt (by omega), IntKind.wrap_u8, subG, decide_eq_decide, ← UInt8.toNat_inj, UInt8.toNat_and]
  omega
theorem rvalid_any (t s : RR) (hs : Sat K w Hs) : Ret Try.prog 19 #[.agg (encR t).toArray, .agg (encR s).toArray] w fun v w' => v = .bool (valid t s) ∧ Sat K w' Hs := by
  refine Ret.enter (n := 47) (args := [.agg (encR t).toArray, .agg (encR s).toArray]) Try.func19 rfl rfl ?_
  refine C.keep [(0, _), (1, _)] ⟨rfl, rfl, trivial⟩ ?_
  refine C.seq ?_
  refine C.region ?_
  refine R.sboxA hs rfl rfl ?_
  intro b2 w2 hs
  refine R.sboxA hs rfl rfl ?_
  intro b3 w3 hs
  refine R.ev rfl (E.assign rfl) ?_
  refine R.done ?_
  refine X.keep [(2, _), (3, _)] ⟨rfl, rfl, trivial⟩ ?_
  refine X.next ?_
  refine C.seq ?_
  refine C.region ?_
  refine R.ev rfl (E.fieldAddr0 49 rfl Try.underlying26 rfl Try.sz23 rfl) ?_
  refine R.ev rfl (E.loadRowC rfl Try.underlying23 rfl Try.sz23 (by exact hs.ldp)) ?_
  refine R.ev rfl ((E.buildA rfl Try.underlying23 Try.zr23 Try.sz5 rfl).as (u := .agg (encV vz).toArray) (by rfl)) ?_
  refine R.ev rfl (E.neV 10 rfl rfl Try.lv23 rfl Try.underlying23 rfl Try.gd23) ?_
  refine R.ev rfl (E.move rfl) ?_
  refine R.split 9 rfl (fun h9 => ?_) (fun h9 => ?_)
  refine R.gyes rfl rfl ?_
  refine R.ev rfl (E.fieldAddr0 49 rfl Try.underlying26 rfl Try.sz23 rfl) ?_
  refine R.gyes rfl rfl ?_
  refine R.ev rfl (E.loadRowC rfl Try.underlying23 rfl Try.sz23 (by exact hs.ldp)) ?_
  refine R.gyes rfl rfl ?_
  refine R.ev rfl (E.fieldAddr0 0 rfl Try.underlying26 rfl Try.sz23 rfl) ?_
  refine R.gyes rfl rfl ?_
  refine R.ev rfl (E.loadRowC rfl Try.underlying23 rfl Try.sz23 (by exact ⟨hs.ldP rfl, by exact encV_len _⟩)) ?_
  refine R.gyes rfl rfl ?_
  refine R.ev rfl (E.eqV 10 rfl rfl Try.lv23 rfl Try.underlying23 rfl Try.gd23) ?_
  refine R.ev rfl (E.pickT rfl rfl) ?_
  refine R.ev rfl (E.move rfl) ?_
  refine R.split 16 rfl (fun h16 => ?_) (fun h16 => ?_)
  refine R.gyes rfl rfl ?_
  refine R.ev rfl (E.fieldAddr0 0 rfl Try.underlying26 rfl Try.sz23 rfl) ?_
  refine R.gyes rfl rfl ?_
  refine R.ev rfl (E.loadRowC rfl Try.underlying23 rfl Try.sz23 (by exact ⟨hs.ldP rfl, by exact encV_len _⟩)) ?_
  refine R.gyes rfl rfl ?_
  refine R.ev rfl (E.fieldAddr0 0 rfl Try.underlying26 rfl Try.sz23 rfl) ?_
  refine R.gyes rfl rfl ?_
  refine R.ev rfl (E.loadRowC rfl Try.underlying23 rfl Try.sz23 (by exact ⟨hs.ldP rfl, by exact encV_len _⟩)) ?_
  refine R.gyes rfl rfl ?_
  refine R.ev rfl (E.neV 10 rfl rfl Try.lv23 rfl Try.underlying23 rfl Try.gd23) ?_
  refine R.ev rfl (E.pickT rfl rfl) ?_
  refine R.ev rfl (E.move rfl) ?_
  refine R.split 23 rfl (fun h23 => ?_) (fun h23 => ?_)
  refine R.gyes rfl rfl ?_
  refine R.ev rfl (E.fieldAddr0 32 rfl Try.underlying26 rfl Try.sz24 rfl) ?_
  refine R.gyes rfl rfl ?_
  refine R.ev rfl (E.loadRowC rfl Try.underlying24 rfl Try.sz24 (by exact hs.ldp)) ?_
  refine R.gyes rfl rfl ?_
  refine R.ev rfl (E.fieldAddr0 32 rfl Try.underlying26 rfl Try.sz24 rfl) ?_
  refine R.gyes rfl rfl ?_
  refine R.ev rfl (E.loadRowC rfl Try.underlying24 rfl Try.sz24 (by exact hs.ldp)) ?_
  refine R.gyes rfl rfl ?_
  refine R.ev rfl (E.eqV 10 rfl rfl Try.lv24 rfl Try.underlying24 rfl Try.gd24) ?_
  refine R.ev rfl (E.pickT rfl rfl) ?_
  refine R.ev rfl (E.move rfl) ?_
  refine R.split 30 rfl (fun h30 => ?_) (fun h30 => ?_)
  refine R.gyes rfl rfl ?_
  refine R.ev rfl (E.fieldAddr0 48 rfl Try.underlying26 rfl Try.sz3 rfl) ?_
  refine R.gyes rfl rfl ?_
  refine R.ev rfl (E.load1 rfl Try.underlying3 rfl (by exact hs.ldc)) ?_
  refine R.gyes rfl rfl ?_
  refine R.ev rfl (E.fieldAddr0 48 rfl Try.underlying26 rfl Try.sz3 rfl) ?_
  refine R.gyes rfl rfl ?_
  refine R.ev rfl (E.load1 rfl Try.underlying3 rfl (by exact hs.ldc)) ?_
  refine R.gyes rfl rfl ?_
  refine R.ev rfl (E.geq rfl rfl) ?_
  refine R.ev rfl (E.pickT rfl rfl) ?_
  refine R.ev rfl (E.move rfl) ?_
  refine R.split 37 rfl (fun h37 => ?_) (fun h37 => ?_)
  refine R.gyes rfl rfl ?_
  refine R.ev rfl (E.fieldAddr0 81 rfl Try.underlying26 rfl Try.sz5 rfl) ?_
  refine R.gyes rfl rfl ?_
  refine R.ev rfl (E.load1 rfl Try.underlying5 rfl (by exact hs.ldc)) ?_
  refine R.gyes rfl rfl ?_
  refine R.ev rfl (E.fieldAddr0 81 rfl Try.underlying26 rfl Try.sz5 rfl) ?_
  refine R.gyes rfl rfl ?_
  refine R.ev rfl (E.load1 rfl Try.underlying5 rfl (by exact hs.ldc)) ?_
  refine R.gyes rfl rfl ?_
  refine R.ev rfl (E.and rfl rfl) ?_
  refine R.gyes rfl rfl ?_
  refine R.ev rfl (E.fieldAddr0 81 rfl Try.underlying26 rfl Try.sz5 rfl) ?_
  refine R.gyes rfl rfl ?_
  refine R.ev rfl (E.load1 rfl Try.underlying5 rfl (by exact hs.ldc)) ?_
  refine R.gyes rfl rfl ?_
  refine R.ev rfl ((E.eql rfl rfl).isB (c := subG t.g s.g) and_op) ?_
  refine R.ev rfl (E.pickT rfl rfl) ?_
  refine R.ev rfl (E.assign rfl) ?_
  refine R.done ?_
  refine X.keep [(4, _)] ⟨rfl, trivial⟩ ?_
  refine X.next ?_
  refine C.ret ?_
  refine X.ret1 rfl rfl ?_
  exact ⟨by simp only [valid, *, Bool.true_and, Bool.false_and, Bool.and_true, Bool.and_false], hs.to⟩
  refine R.gskip rfl rfl rfl ?_
  refine R.gskip rfl rfl rfl ?_
  refine R.gskip rfl rfl rfl ?_
  refine R.gskip rfl rfl rfl ?_
  refine R.gskip rfl rfl rfl ?_
  refine R.gskip rfl rfl rfl ?_
  refine R.gskip rfl rfl rfl ?_
  refine R.gskip rfl rfl rfl ?_
  refine R.ev rfl (E.pickF rfl rfl) ?_
  refine R.ev rfl (E.assign rfl) ?_
  refine R.done ?_
  refine X.keep [(4, _)] ⟨rfl, trivial⟩ ?_
  refine X.next ?_
  refine C.ret ?_
  refine X.ret1 rfl rfl ?_
  exact ⟨by simp only [valid, *, Bool.true_and, Bool.false_and, Bool.and_true, Bool.and_false], hs.to⟩
  refine R.gskip rfl rfl rfl ?_
  refine R.gskip rfl rfl rfl ?_
  refine R.gskip rfl rfl rfl ?_
  refine R.gskip rfl rfl rfl ?_
  refine R.gskip rfl rfl rfl ?_
  refine R.ev rfl (E.pickF rfl rfl) ?_
  refine R.ev rfl (E.move rfl) ?_
  refine R.gskip rfl rfl rfl ?_
  refine R.gskip rfl rfl rfl ?_
  refine R.gskip rfl rfl rfl ?_
  refine R.gskip rfl rfl rfl ?_
  refine R.gskip rfl rfl rfl ?_
  refine R.gskip rfl rfl rfl ?_
  refine R.gskip rfl rfl rfl ?_
  refine R.gskip rfl rfl rfl ?_
  refine R.ev rfl (E.pickF rfl rfl) ?_
  refine R.ev rfl (E.assign rfl) ?_
  refine R.done ?_
  refine X.keep [(4, _)] ⟨rfl, trivial⟩ ?_
  refine X.next ?_
  refine C.ret ?_
  refine X.ret1 rfl rfl ?_
  exact ⟨by simp only [valid, *, Bool.true_and, Bool.false_and, Bool.and_true, Bool.and_false], hs.to⟩
  refine R.gskip rfl rfl rfl ?_
  refine R.gskip rfl rfl rfl ?_
  refine R.gskip rfl rfl rfl ?_
  refine R.gskip rfl rfl rfl ?_
  refine R.gskip rfl rfl rfl ?_
  refine R.ev rfl (E.pickF rfl rfl) ?_
  refine R.ev rfl (E.move rfl) ?_
  refine R.gskip rfl rfl rfl ?_
  refine R.gskip rfl rfl rfl ?_
  refine R.gskip rfl rfl rfl ?_
  refine R.gskip rfl rfl rfl ?_
  refine R.gskip rfl rfl rfl ?_
  refine R.ev rfl (E.pickF rfl rfl) ?_
  refine R.ev rfl (E.move rfl) ?_
  refine R.gskip rfl rfl rfl ?_
  refine R.gskip rfl rfl rfl ?_
  refine R.gskip rfl rfl rfl ?_
  refine R.gskip rfl rfl rfl ?_
  refine R.gskip rfl rfl rfl ?_
  refine R.gskip rfl rfl rfl ?_
  refine R.gskip rfl rfl rfl ?_
  refine R.gskip rfl rfl rfl ?_
  refine R.ev rfl (E.pickF rfl rfl) ?_
  refine R.ev rfl (E.assign rfl) ?_
  refine R.done ?_
  refine X.keep [(4, _)] ⟨rfl, trivial⟩ ?_
  refine X.next ?_
  refine C.ret ?_
  refine X.ret1 rfl rfl ?_
  exact ⟨by simp only [valid, *, Bool.true_and, Bool.false_and, Bool.and_true, Bool.and_false], hs.to⟩
  refine R.gskip rfl rfl rfl ?_
  refine R.gskip rfl rfl rfl ?_
  refine R.gskip rfl rfl rfl ?_
  refine R.gskip rfl rfl rfl ?_
  refine R.gskip rfl rfl rfl ?_
  refine R.ev rfl (E.pickF rfl rfl) ?_
  refine R.ev rfl (E.move rfl) ?_
  refine R.gskip rfl rfl rfl ?_
  refine R.gskip rfl rfl rfl ?_
  refine R.gskip rfl rfl rfl ?_
  refine R.gskip rfl rfl rfl ?_
  refine R.gskip rfl rfl rfl ?_
  refine R.ev rfl (E.pickF rfl rfl) ?_
  refine R.ev rfl (E.move rfl) ?_
  refine R.gskip rfl rfl rfl ?_
  refine R.gskip rfl rfl rfl ?_
  refine R.gskip rfl rfl rfl ?_
  refine R.gskip rfl rfl rfl ?_
  refine R.gskip rfl rfl rfl ?_
  refine R.ev rfl (E.pickF rfl rfl) ?_
  refine R.ev rfl (E.move rfl) ?_
  refine R.gskip rfl rfl rfl ?_
  refine R.gskip rfl rfl rfl ?_
  refine R.gskip rfl rfl rfl ?_
  refine R.gskip rfl rfl rfl ?_
  refine R.gskip rfl rfl rfl ?_
  refine R.gskip rfl rfl rfl ?_
  refine R.gskip rfl rfl rfl ?_
  refine R.gskip rfl rfl rfl ?_
  refine R.ev rfl (E.pickF rfl rfl) ?_
  refine R.ev rfl (E.assign rfl) ?_
  refine R.done ?_
  refine X.keep [(4, _)] ⟨rfl, trivial⟩ ?_
  refine X.next ?_
  refine C.ret ?_
  refine X.ret1 rfl rfl ?_
  exact ⟨by simp only [valid, *, Bool.true_and, Bool.false_and, Bool.and_true, Bool.and_false], hs.to⟩
  refine R.gskip rfl rfl rfl ?_
  refine R.gskip rfl rfl rfl ?_
  refine R.gskip rfl rfl rfl ?_
  refine R.gskip rfl rfl rfl ?_
  refine R.gskip rfl rfl rfl ?_
  refine R.ev rfl (E.pickF rfl rfl) ?_
  refine R.ev rfl (E.move rfl) ?_
  refine R.gskip rfl rfl rfl ?_
  refine R.gskip rfl rfl rfl ?_
  refine R.gskip rfl rfl rfl ?_
  refine R.gskip rfl rfl rfl ?_
  refine R.gskip rfl rfl rfl ?_
  refine R.ev rfl (E.pickF rfl rfl) ?_
  refine R.ev rfl (E.move rfl) ?_
  refine R.gskip rfl rfl rfl ?_
  refine R.gskip rfl rfl rfl ?_
  refine R.gskip rfl rfl rfl ?_
  refine R.gskip rfl rfl rfl ?_
  refine R.gskip rfl rfl rfl ?_
  refine R.ev rfl (E.pickF rfl rfl) ?_
  refine R.ev rfl (E.move rfl) ?_
  refine R.gskip rfl rfl rfl ?_
  refine R.gskip rfl rfl rfl ?_
  refine R.gskip rfl rfl rfl ?_
  refine R.gskip rfl rfl rfl ?_
  refine R.gskip rfl rfl rfl ?_
  refine R.ev rfl (E.pickF rfl rfl) ?_
  refine R.ev rfl (E.move rfl) ?_
  refine R.gskip rfl rfl rfl ?_
  refine R.gskip rfl rfl rfl ?_
  refine R.gskip rfl rfl rfl ?_
  refine R.gskip rfl rfl rfl ?_
  refine R.gskip rfl rfl rfl ?_
  refine R.gskip rfl rfl rfl ?_
  refine R.gskip rfl rfl rfl ?_
  refine R.gskip rfl rfl rfl ?_
  refine R.ev rfl (E.pickF rfl rfl) ?_
  refine R.ev rfl (E.assign rfl) ?_
  refine R.done ?_
  refine X.keep [(4, _)] ⟨rfl, trivial⟩ ?_
  refine X.next ?_
  refine C.ret ?_
  refine X.ret1 rfl rfl ?_
  exact ⟨by simp only [valid, *, Bool.true_and, Bool.false_and, Bool.and_true, Bool.and_false], hs.to⟩
theorem ltB_T {x y : RR} (h : decide (y.date < x.date) = true) : ltB x y = true := ltB_iff.2 (.inl (of_decide_eq_true h))
theorem ltB_F {x y : RR} (h : decide (y.date < x.date) = false) (h2 : decide (x.date = y.date) = false) : ltB x y = false := ltB_false.2 (by have := of_decide_eq_false h; have := of_decide_eq_false h2; omega)
theorem ltB_E {x y : RR} (h2 : decide (x.date = y.date) = true) : ltB x y = ltV x.id y.id := by
  have h2 := of_decide_eq_true h2
  rw [Bool.eq_iff_iff, ltB_iff]
  constructor
  · rintro (h | ⟨_, h⟩)
    · omega
    · exact h
  · exact fun h => .inr ⟨h2, h⟩
theorem routd_any (x y : RR) (hs : Sat K w Hs) : Ret Try.prog 21 #[.agg (encR x).toArray, .agg (encR y).toArray] w fun v w' => v = .bool (outd x y) ∧ Sat K w' Hs := by
  refine Ret.enter (n := 68) (args := [.agg (encR x).toArray, .agg (encR y).toArray]) Try.func21 rfl rfl ?_
  refine C.keep [(0, _), (1, _)] ⟨rfl, rfl, trivial⟩ ?_
  refine C.seq ?_
  refine C.region ?_
  refine R.sboxA hs rfl rfl ?_
  intro b2 w2 hs
  refine R.sboxA hs rfl rfl ?_
  intro b3 w3 hs
  refine R.ev rfl (E.assign rfl) ?_
  refine R.done ?_
  refine X.keep [(2, _), (3, _)] ⟨rfl, rfl, trivial⟩ ?_
  refine X.next ?_
  refine C.seq ?_
  refine C.region ?_
  refine R.ev rfl (E.fieldAddr0 0 rfl Try.underlying26 rfl Try.sz23 rfl) ?_
  refine R.ev rfl (E.loadRowC rfl Try.underlying23 rfl Try.sz23 (by exact ⟨hs.ldP rfl, by exact encV_len _⟩)) ?_
  refine R.ev rfl (E.fieldAddr0 0 rfl Try.underlying26 rfl Try.sz23 rfl) ?_
  refine R.ev rfl (E.loadRowC rfl Try.underlying23 rfl Try.sz23 (by exact ⟨hs.ldP rfl, by exact encV_len _⟩)) ?_
  refine R.ev rfl (E.neV 10 rfl rfl Try.lv23 rfl Try.underlying23 rfl Try.gd23) ?_
  refine R.ev rfl (E.move rfl) ?_
  refine R.split 10 rfl (fun h10 => ?_) (fun h10 => ?_)
  refine R.gyes rfl rfl ?_
  refine R.ev rfl (E.fieldAddr0 49 rfl Try.underlying26 rfl Try.sz23 rfl) ?_
  refine R.gyes rfl rfl ?_
  refine R.ev rfl (E.loadRowC rfl Try.underlying23 rfl Try.sz23 (by exact hs.ldp)) ?_
  refine R.gyes rfl rfl ?_
  refine R.ev rfl ((E.buildA rfl Try.underlying23 Try.zr23 Try.sz5 rfl).as (u := .agg (encV vz).toArray) (by rfl)) ?_
  refine R.gyes rfl rfl ?_
  refine R.ev rfl (E.neV 10 rfl rfl Try.lv23 rfl Try.underlying23 rfl Try.gd23) ?_
  refine R.ev rfl (E.pickT rfl rfl) ?_
  refine R.ev rfl (E.move rfl) ?_
  refine R.split 16 rfl (fun h16 => ?_) (fun h16 => ?_)
  refine R.gyes rfl rfl ?_
  refine R.ev rfl (E.fieldAddr0 49 rfl Try.underlying26 rfl Try.sz23 rfl) ?_
  refine R.gyes rfl rfl ?_
  refine R.ev rfl (E.loadRowC rfl Try.underlying23 rfl Try.sz23 (by exact hs.ldp)) ?_
  refine R.gyes rfl rfl ?_
  refine R.ev rfl (E.fieldAddr0 0 rfl Try.underlying26 rfl Try.sz23 rfl) ?_
  refine R.gyes rfl rfl ?_
  refine R.ev rfl (E.loadRowC rfl Try.underlying23 rfl Try.sz23 (by exact ⟨hs.ldP rfl, by exact encV_len _⟩)) ?_
  refine R.gyes rfl rfl ?_
  refine R.ev rfl (E.neV 10 rfl rfl Try.lv23 rfl Try.underlying23 rfl Try.gd23) ?_
  refine R.ev rfl (E.pickT rfl rfl) ?_
  refine R.ev rfl (E.move rfl) ?_
  refine R.split 23 rfl (fun h23 => ?_) (fun h23 => ?_)
  refine R.gyes rfl rfl ?_
  refine R.ev rfl (E.fieldAddr0 49 rfl Try.underlying26 rfl Try.sz23 rfl) ?_
  refine R.gyes rfl rfl ?_
  refine R.ev rfl (E.loadRowC rfl Try.underlying23 rfl Try.sz23 (by exact hs.ldp)) ?_
  refine R.gyes rfl rfl ?_
  refine R.ev rfl (E.fieldAddr0 49 rfl Try.underlying26 rfl Try.sz23 rfl) ?_
  refine R.gyes rfl rfl ?_
  refine R.ev rfl (E.loadRowC rfl Try.underlying23 rfl Try.sz23 (by exact hs.ldp)) ?_
  refine R.gyes rfl rfl ?_
  refine R.ev rfl (E.eqV 10 rfl rfl Try.lv23 rfl Try.underlying23 rfl Try.gd23) ?_
  refine R.ev rfl (E.pickT rfl rfl) ?_
  refine R.ev rfl (E.move rfl) ?_
  refine R.split 30 rfl (fun h30 => ?_) (fun h30 => ?_)
  refine R.gyes rfl rfl ?_
  refine R.ev rfl (E.fieldAddr0 32 rfl Try.underlying26 rfl Try.sz24 rfl) ?_
  refine R.gyes rfl rfl ?_
  refine R.ev rfl (E.loadRowC rfl Try.underlying24 rfl Try.sz24 (by exact hs.ldp)) ?_
  refine R.gyes rfl rfl ?_
  refine R.ev rfl (E.fieldAddr0 32 rfl Try.underlying26 rfl Try.sz24 rfl) ?_
  refine R.gyes rfl rfl ?_
  refine R.ev rfl (E.loadRowC rfl Try.underlying24 rfl Try.sz24 (by exact hs.ldp)) ?_
  refine R.gyes rfl rfl ?_
  refine R.ev rfl (E.eqV 10 rfl rfl Try.lv24 rfl Try.underlying24 rfl Try.gd24) ?_
  refine R.ev rfl (E.pickT rfl rfl) ?_
  refine R.ev rfl (E.move rfl) ?_
  refine R.split 37 rfl (fun h37 => ?_) (fun h37 => ?_)
  refine R.gyes rfl rfl ?_
  refine R.ev rfl (E.fieldAddr0 81 rfl Try.underlying26 rfl Try.sz5 rfl) ?_
  refine R.gyes rfl rfl ?_
  refine R.ev rfl (E.load1 rfl Try.underlying5 rfl (by exact hs.ldc)) ?_
  refine R.gyes rfl rfl ?_
  refine R.ev rfl (E.fieldAddr0 81 rfl Try.underlying26 rfl Try.sz5 rfl) ?_
  refine R.gyes rfl rfl ?_
  refine R.ev rfl (E.load1 rfl Try.underlying5 rfl (by exact hs.ldc)) ?_
  refine R.gyes rfl rfl ?_
  refine R.ev rfl (E.and rfl rfl) ?_
  refine R.gyes rfl rfl ?_
  refine R.ev rfl (E.fieldAddr0 81 rfl Try.underlying26 rfl Try.sz5 rfl) ?_
  refine R.gyes rfl rfl ?_
  refine R.ev rfl (E.load1 rfl Try.underlying5 rfl (by exact hs.ldc)) ?_
  refine R.gyes rfl rfl ?_
  refine R.ev rfl ((E.eql rfl rfl).isB (c := subG y.g x.g) and_op) ?_
  refine R.ev rfl (E.pickT rfl rfl) ?_
  refine R.ev rfl (E.move rfl) ?_
  refine R.split 47 rfl (fun h47 => ?_) (fun h47 => ?_)
  refine R.gyes rfl rfl ?_
  refine R.ev rfl (E.fieldAddr0 48 rfl Try.underlying26 rfl Try.sz3 rfl) ?_
  refine R.gyes rfl rfl ?_
  refine R.ev rfl (E.load1 rfl Try.underlying3 rfl (by exact hs.ldc)) ?_
  refine R.gyes rfl rfl ?_
  refine R.ev rfl (E.fieldAddr0 48 rfl Try.underlying26 rfl Try.sz3 rfl) ?_
  refine R.gyes rfl rfl ?_
  refine R.ev rfl (E.load1 rfl Try.underlying3 rfl (by exact hs.ldc)) ?_
  refine R.gyes rfl rfl ?_
  refine R.ev rfl (E.gtr rfl rfl) ?_
  refine R.gyes rfl rfl ?_
  refine R.ev rfl (E.move rfl) ?_
  refine R.split 53 rfl (fun h53 => ?_) (fun h53 => ?_)
  refine R.gskip rfl rfl rfl ?_
  refine R.gskip rfl rfl rfl ?_
  refine R.gskip rfl rfl rfl ?_
  refine R.gskip rfl rfl rfl ?_
  refine R.gskip rfl rfl rfl ?_
  refine R.gskip rfl rfl rfl ?_
  refine R.gundef rfl rfl ?_
  refine R.gundef rfl rfl ?_
  refine R.gundef rfl rfl ?_
  refine R.gundef rfl rfl ?_
  refine R.gundef rfl rfl ?_
  refine R.gskip rfl rfl rfl ?_
  refine R.gyes rfl rfl ?_
  refine R.ev rfl (E.pickT rfl rfl) ?_
  refine R.ev rfl (E.pickT rfl rfl) ?_
  refine R.ev rfl (E.assign rfl) ?_
  refine R.done ?_
  refine X.keep [(4, _)] ⟨rfl, trivial⟩ ?_
  refine X.next ?_
  refine C.ret ?_
  refine X.ret1 rfl rfl ?_
  first
    | exact ⟨by rw [outd, ltB_E h59]; simp only [*, Bool.true_and, Bool.false_and, Bool.and_true, Bool.and_false], hs.to⟩
    | exact ⟨by rw [outd, ltB_F h53 h59]; simp only [*, Bool.true_and, Bool.false_and, Bool.and_true, Bool.and_false], hs.to⟩
    | exact ⟨by rw [outd, ltB_T h53]; simp only [*, Bool.true_and, Bool.false_and, Bool.and_true, Bool.and_false], hs.to⟩
    | exact ⟨by rw [outd]; simp only [*, Bool.true_and, Bool.false_and, Bool.and_true, Bool.and_false], hs.to⟩
  refine R.gyes rfl rfl ?_
  refine R.ev rfl (E.fieldAddr0 48 rfl Try.underlying26 rfl Try.sz3 rfl) ?_
  refine R.gyes rfl rfl ?_
  refine R.ev rfl (E.load1 rfl Try.underlying3 rfl (by exact hs.ldc)) ?_
  refine R.gyes rfl rfl ?_
  refine R.ev rfl (E.fieldAddr0 48 rfl Try.underlying26 rfl Try.sz3 rfl) ?_
  refine R.gyes rfl rfl ?_
  refine R.ev rfl (E.load1 rfl Try.underlying3 rfl (by exact hs.ldc)) ?_
  refine R.gyes rfl rfl ?_
  refine R.ev rfl (E.eql rfl rfl) ?_
  refine R.gyes rfl rfl ?_
  refine R.ev rfl (E.move rfl) ?_
  refine R.split 59 rfl (fun h59 => ?_) (fun h59 => ?_)
  refine R.gyes rfl rfl ?_
  refine R.ev rfl (E.fieldAddr0 0 rfl Try.underlying26 rfl Try.sz23 rfl) ?_
  refine R.gyes rfl rfl ?_
  refine R.ev rfl (E.loadRowC rfl Try.underlying23 rfl Try.sz23 (by exact ⟨hs.ldP rfl, by exact encV_len _⟩)) ?_
  refine R.gyes rfl rfl ?_
  refine R.ev rfl (E.fieldAddr0 0 rfl Try.underlying26 rfl Try.sz23 rfl) ?_
  refine R.gyes rfl rfl ?_
  refine R.ev rfl (E.loadRowC rfl Try.underlying23 rfl Try.sz23 (by exact ⟨hs.ldP rfl, by exact encV_len _⟩)) ?_
  refine R.gyes rfl rfl ?_
  refine R.call ⟨_, _, Try.func46, rfl, by kernel_rfl⟩ rfl rfl (before_any x.id y.id hs) ?_
  rintro _ w59 ⟨rfl, hs⟩
  refine R.gyes rfl rfl ?_
  refine R.ev rfl (E.pickT rfl rfl) ?_
  refine R.gyes rfl rfl ?_
  refine R.ev rfl (E.pickF rfl rfl) ?_
  refine R.ev rfl (E.pickT rfl rfl) ?_
  refine R.ev rfl (E.assign rfl) ?_
  refine R.done ?_
  refine X.keep [(4, _)] ⟨rfl, trivial⟩ ?_
  refine X.next ?_
  refine C.ret ?_
  refine X.ret1 rfl rfl ?_
  first
    | exact ⟨by rw [outd, ltB_E h59]; simp only [*, Bool.true_and, Bool.false_and, Bool.and_true, Bool.and_false], hs.to⟩
    | exact ⟨by rw [outd, ltB_F h53 h59]; simp only [*, Bool.true_and, Bool.false_and, Bool.and_true, Bool.and_false], hs.to⟩
    | exact ⟨by rw [outd, ltB_T h53]; simp only [*, Bool.true_and, Bool.false_and, Bool.and_true, Bool.and_false], hs.to⟩
    | exact ⟨by rw [outd]; simp only [*, Bool.true_and, Bool.false_and, Bool.and_true, Bool.and_false], hs.to⟩
  refine R.gskip rfl rfl rfl ?_
  refine R.gskip rfl rfl rfl ?_
  refine R.gskip rfl rfl rfl ?_
  refine R.gskip rfl rfl rfl ?_
  refine R.gskip rfl rfl rfl ?_
  refine R.gyes rfl rfl ?_
  refine R.ev rfl (E.pickF rfl rfl) ?_
  refine R.gyes rfl rfl ?_
  refine R.ev rfl (E.pickF rfl rfl) ?_
  refine R.ev rfl (E.pickT rfl rfl) ?_
  refine R.ev rfl (E.assign rfl) ?_
  refine R.done ?_
  refine X.keep [(4, _)] ⟨rfl, trivial⟩ ?_
  refine X.next ?_
  refine C.ret ?_
  refine X.ret1 rfl rfl ?_
  first
    | exact ⟨by rw [outd, ltB_E h59]; simp only [*, Bool.true_and, Bool.false_and, Bool.and_true, Bool.and_false], hs.to⟩
    | exact ⟨by rw [outd, ltB_F h53 h59]; simp only [*, Bool.true_and, Bool.false_and, Bool.and_true, Bool.and_false], hs.to⟩
    | exact ⟨by rw [outd, ltB_T h53]; simp only [*, Bool.true_and, Bool.false_and, Bool.and_true, Bool.and_false], hs.to⟩
    | exact ⟨by rw [outd]; simp only [*, Bool.true_and, Bool.false_and, Bool.and_true, Bool.and_false], hs.to⟩
  refine R.gskip rfl rfl rfl ?_
  refine R.gskip rfl rfl rfl ?_
  refine R.gskip rfl rfl rfl ?_
  refine R.gskip rfl rfl rfl ?_
  refine R.gskip rfl rfl rfl ?_
  refine R.gskip rfl rfl rfl ?_
  refine R.gundef rfl rfl ?_
  refine R.gundef rfl rfl ?_
  refine R.gundef rfl rfl ?_
  refine R.gundef rfl rfl ?_
  refine R.gundef rfl rfl ?_
  refine R.gundef rfl rfl ?_
  refine R.gundef rfl rfl ?_
  refine R.gundef rfl rfl ?_
  refine R.gundef rfl rfl ?_
  refine R.gundef rfl rfl ?_
  refine R.gundef rfl rfl ?_
  refine R.gundef rfl rfl ?_
  refine R.gskip rfl rfl rfl ?_
  refine R.ev rfl (E.pickF rfl rfl) ?_
  refine R.ev rfl (E.assign rfl) ?_
  refine R.done ?_
  refine X.keep [(4, _)] ⟨rfl, trivial⟩ ?_
  refine X.next ?_
  refine C.ret ?_
  refine X.ret1 rfl rfl ?_
  first
    | exact ⟨by rw [outd, ltB_E h59]; simp only [*, Bool.true_and, Bool.false_and, Bool.and_true, Bool.and_false], hs.to⟩
    | exact ⟨by rw [outd, ltB_F h53 h59]; simp only [*, Bool.true_and, Bool.false_and, Bool.and_true, Bool.and_false], hs.to⟩
    | exact ⟨by rw [outd, ltB_T h53]; simp only [*, Bool.true_and, Bool.false_and, Bool.and_true, Bool.and_false], hs.to⟩
    | exact ⟨by rw [outd]; simp only [*, Bool.true_and, Bool.false_and, Bool.and_true, Bool.and_false], hs.to⟩
  refine R.gskip rfl rfl rfl ?_
  refine R.gskip rfl rfl rfl ?_
  refine R.gskip rfl rfl rfl ?_
  refine R.gskip rfl rfl rfl ?_
  refine R.gskip rfl rfl rfl ?_
  refine R.gskip rfl rfl rfl ?_
  refine R.gskip rfl rfl rfl ?_
  refine R.gskip rfl rfl rfl ?_
  refine R.ev rfl (E.pickF rfl rfl) ?_
  refine R.ev rfl (E.move rfl) ?_
  refine R.gskip rfl rfl rfl ?_
  refine R.gskip rfl rfl rfl ?_
  refine R.gskip rfl rfl rfl ?_
  refine R.gskip rfl rfl rfl ?_
  refine R.gskip rfl rfl rfl ?_
  refine R.gskip rfl rfl rfl ?_
  refine R.gundef rfl rfl ?_
  refine R.gundef rfl rfl ?_
  refine R.gundef rfl rfl ?_
  refine R.gundef rfl rfl ?_
  refine R.gundef rfl rfl ?_
  refine R.gundef rfl rfl ?_
  refine R.gundef rfl rfl ?_
  refine R.gundef rfl rfl ?_
  refine R.gundef rfl rfl ?_
  refine R.gundef rfl rfl ?_
  refine R.gundef rfl rfl ?_
  refine R.gundef rfl rfl ?_
  refine R.gskip rfl rfl rfl ?_
  refine R.ev rfl (E.pickF rfl rfl) ?_
  refine R.ev rfl (E.assign rfl) ?_
  refine R.done ?_
  refine X.keep [(4, _)] ⟨rfl, trivial⟩ ?_
  refine X.next ?_
  refine C.ret ?_
  refine X.ret1 rfl rfl ?_
  first
    | exact ⟨by rw [outd, ltB_E h59]; simp only [*, Bool.true_and, Bool.false_and, Bool.and_true, Bool.and_false], hs.to⟩
    | exact ⟨by rw [outd, ltB_F h53 h59]; simp only [*, Bool.true_and, Bool.false_and, Bool.and_true, Bool.and_false], hs.to⟩
    | exact ⟨by rw [outd, ltB_T h53]; simp only [*, Bool.true_and, Bool.false_and, Bool.and_true, Bool.and_false], hs.to⟩
    | exact ⟨by rw [outd]; simp only [*, Bool.true_and, Bool.false_and, Bool.and_true, Bool.and_false], hs.to⟩
  refine R.gskip rfl rfl rfl ?_
  refine R.gskip rfl rfl rfl ?_
  refine R.gskip rfl rfl rfl ?_
  refine R.gskip rfl rfl rfl ?_
  refine R.gskip rfl rfl rfl ?_
  refine R.ev rfl (E.pickF rfl rfl) ?_
  refine R.ev rfl (E.move rfl) ?_
  refine R.gskip rfl rfl rfl ?_
  refine R.gskip rfl rfl rfl ?_
  refine R.gskip rfl rfl rfl ?_
  refine R.gskip rfl rfl rfl ?_
  refine R.gskip rfl rfl rfl ?_
  refine R.gskip rfl rfl rfl ?_
  refine R.gskip rfl rfl rfl ?_
  refine R.gskip rfl rfl rfl ?_
  refine R.ev rfl (E.pickF rfl rfl) ?_
  refine R.ev rfl (E.move rfl) ?_
  refine R.gskip rfl rfl rfl ?_
  refine R.gskip rfl rfl rfl ?_
  refine R.gskip rfl rfl rfl ?_
  refine R.gskip rfl rfl rfl ?_
  refine R.gskip rfl rfl rfl ?_
  refine R.gskip rfl rfl rfl ?_
  refine R.gundef rfl rfl ?_
  refine R.gundef rfl rfl ?_
  refine R.gundef rfl rfl ?_
  refine R.gundef rfl rfl ?_
  refine R.gundef rfl rfl ?_
  refine R.gundef rfl rfl ?_
  refine R.gundef rfl rfl ?_
  refine R.gundef rfl rfl ?_
  refine R.gundef rfl rfl ?_
  refine R.gundef rfl rfl ?_
  refine R.gundef rfl rfl ?_
  refine R.gundef rfl rfl ?_
  refine R.gskip rfl rfl rfl ?_
  refine R.ev rfl (E.pickF rfl rfl) ?_
  refine R.ev rfl (E.assign rfl) ?_
  refine R.done ?_
  refine X.keep [(4, _)] ⟨rfl, trivial⟩ ?_
  refine X.next ?_
  refine C.ret ?_
  refine X.ret1 rfl rfl ?_
  first
    | exact ⟨by rw [outd, ltB_E h59]; simp only [*, Bool.true_and, Bool.false_and, Bool.and_true, Bool.and_false], hs.to⟩
    | exact ⟨by rw [outd, ltB_F h53 h59]; simp only [*, Bool.true_and, Bool.false_and, Bool.and_true, Bool.and_false], hs.to⟩
    | exact ⟨by rw [outd, ltB_T h53]; simp only [*, Bool.true_and, Bool.false_and, Bool.and_true, Bool.and_false], hs.to⟩
    | exact ⟨by rw [outd]; simp only [*, Bool.true_and, Bool.false_and, Bool.and_true, Bool.and_false], hs.to⟩
  refine R.gskip rfl rfl rfl ?_
  refine R.gskip rfl rfl rfl ?_
  refine R.gskip rfl rfl rfl ?_
  refine R.gskip rfl rfl rfl ?_
  refine R.gskip rfl rfl rfl ?_
  refine R.ev rfl (E.pickF rfl rfl) ?_
  refine R.ev rfl (E.move rfl) ?_
  refine R.gskip rfl rfl rfl ?_
  refine R.gskip rfl rfl rfl ?_
  refine R.gskip rfl rfl rfl ?_
  refine R.gskip rfl rfl rfl ?_
  refine R.gskip rfl rfl rfl ?_
  refine R.ev rfl (E.pickF rfl rfl) ?_
  refine R.ev rfl (E.move rfl) ?_
  refine R.gskip rfl rfl rfl ?_
  refine R.gskip rfl rfl rfl ?_
  refine R.gskip rfl rfl rfl ?_
  refine R.gskip rfl rfl rfl ?_
  refine R.gskip rfl rfl rfl ?_
  refine R.gskip rfl rfl rfl ?_
  refine R.gskip rfl rfl rfl ?_
  refine R.gskip rfl rfl rfl ?_
  refine R.ev rfl (E.pickF rfl rfl) ?_
  refine R.ev rfl (E.move rfl) ?_
  refine R.gskip rfl rfl rfl ?_
  refine R.gskip rfl rfl rfl ?_
  refine R.gskip rfl rfl rfl ?_
  refine R.gskip rfl rfl rfl ?_
  refine R.gskip rfl rfl rfl ?_
  refine R.gskip rfl rfl rfl ?_
  refine R.gundef rfl rfl ?_
  refine R.gundef rfl rfl ?_
  refine R.gundef rfl rfl ?_
  refine R.gundef rfl rfl ?_
  refine R.gundef rfl rfl ?_
  refine R.gundef rfl rfl ?_
  refine R.gundef rfl rfl ?_
  refine R.gundef rfl rfl ?_
  refine R.gundef rfl rfl ?_
  refine R.gundef rfl rfl ?_
  refine R.gundef rfl rfl ?_
  refine R.gundef rfl rfl ?_
  refine R.gskip rfl rfl rfl ?_
  refine R.ev rfl (E.pickF rfl rfl) ?_
  refine R.ev rfl (E.assign rfl) ?_
  refine R.done ?_
  refine X.keep [(4, _)] ⟨rfl, trivial⟩ ?_
  refine X.next ?_
  refine C.ret ?_
  refine X.ret1 rfl rfl ?_
  first
    | exact ⟨by rw [outd, ltB_E h59]; simp only [*, Bool.true_and, Bool.false_and, Bool.and_true, Bool.and_false], hs.to⟩
    | exact ⟨by rw [outd, ltB_F h53 h59]; simp only [*, Bool.true_and, Bool.false_and, Bool.and_true, Bool.and_false], hs.to⟩
    | exact ⟨by rw [outd, ltB_T h53]; simp only [*, Bool.true_and, Bool.false_and, Bool.and_true, Bool.and_false], hs.to⟩
    | exact ⟨by rw [outd]; simp only [*, Bool.true_and, Bool.false_and, Bool.and_true, Bool.and_false], hs.to⟩
  refine R.gskip rfl rfl rfl ?_
  refine R.gskip rfl rfl rfl ?_
  refine R.gskip rfl rfl rfl ?_
  refine R.gskip rfl rfl rfl ?_
  refine R.gskip rfl rfl rfl ?_
  refine R.ev rfl (E.pickF rfl rfl) ?_
  refine R.ev rfl (E.move rfl) ?_
  refine R.gskip rfl rfl rfl ?_
  refine R.gskip rfl rfl rfl ?_
  refine R.gskip rfl rfl rfl ?_
  refine R.gskip rfl rfl rfl ?_
  refine R.gskip rfl rfl rfl ?_
  refine R.ev rfl (E.pickF rfl rfl) ?_
  refine R.ev rfl (E.move rfl) ?_
  refine R.gskip rfl rfl rfl ?_
  refine R.gskip rfl rfl rfl ?_
  refine R.gskip rfl rfl rfl ?_
  refine R.gskip rfl rfl rfl ?_
  refine R.gskip rfl rfl rfl ?_
  refine R.ev rfl (E.pickF rfl rfl) ?_
  refine R.ev rfl (E.move rfl) ?_
  refine R.gskip rfl rfl rfl ?_
  refine R.gskip rfl rfl rfl ?_
  refine R.gskip rfl rfl rfl ?_
  refine R.gskip rfl rfl rfl ?_
  refine R.gskip rfl rfl rfl ?_
  refine R.gskip rfl rfl rfl ?_
  refine R.gskip rfl rfl rfl ?_
  refine R.gskip rfl rfl rfl ?_
  refine R.ev rfl (E.pickF rfl rfl) ?_
  refine R.ev rfl (E.move rfl) ?_
  refine R.gskip rfl rfl rfl ?_
  refine R.gskip rfl rfl rfl ?_
  refine R.gskip rfl rfl rfl ?_
  refine R.gskip rfl rfl rfl ?_
  refine R.gskip rfl rfl rfl ?_
  refine R.gskip rfl rfl rfl ?_
  refine R.gundef rfl rfl ?_
  refine R.gundef rfl rfl ?_
  refine R.gundef rfl rfl ?_
  refine R.gundef rfl rfl ?_
  refine R.gundef rfl rfl ?_
  refine R.gundef rfl rfl ?_
  refine R.gundef rfl rfl ?_
  refine R.gundef rfl rfl ?_
  refine R.gundef rfl rfl ?_
  refine R.gundef rfl rfl ?_
  refine R.gundef rfl rfl ?_
  refine R.gundef rfl rfl ?_
  refine R.gskip rfl rfl rfl ?_
  refine R.ev rfl (E.pickF rfl rfl) ?_
  refine R.ev rfl (E.assign rfl) ?_
  refine R.done ?_
  refine X.keep [(4, _)] ⟨rfl, trivial⟩ ?_
  refine X.next ?_
  refine C.ret ?_
  refine X.ret1 rfl rfl ?_
  first
    | exact ⟨by rw [outd, ltB_E h59]; simp only [*, Bool.true_and, Bool.false_and, Bool.and_true, Bool.and_false], hs.to⟩
    | exact ⟨by rw [outd, ltB_F h53 h59]; simp only [*, Bool.true_and, Bool.false_and, Bool.and_true, Bool.and_false], hs.to⟩
    | exact ⟨by rw [outd, ltB_T h53]; simp only [*, Bool.true_and, Bool.false_and, Bool.and_true, Bool.and_false], hs.to⟩
    | exact ⟨by rw [outd]; simp only [*, Bool.true_and, Bool.false_and, Bool.and_true, Bool.and_false], hs.to⟩
  refine R.gskip rfl rfl rfl ?_
  refine R.gskip rfl rfl rfl ?_
  refine R.gskip rfl rfl rfl ?_
  refine R.gskip rfl rfl rfl ?_
  refine R.ev rfl (E.pickF rfl rfl) ?_
  refine R.ev rfl (E.move rfl) ?_
  refine R.gskip rfl rfl rfl ?_
  refine R.gskip rfl rfl rfl ?_
  refine R.gskip rfl rfl rfl ?_
  refine R.gskip rfl rfl rfl ?_
  refine R.gskip rfl rfl rfl ?_
  refine R.ev rfl (E.pickF rfl rfl) ?_
  refine R.ev rfl (E.move rfl) ?_
  refine R.gskip rfl rfl rfl ?_
  refine R.gskip rfl rfl rfl ?_
  refine R.gskip rfl rfl rfl ?_
  refine R.gskip rfl rfl rfl ?_
  refine R.gskip rfl rfl rfl ?_
  refine R.ev rfl (E.pickF rfl rfl) ?_
  refine R.ev rfl (E.move rfl) ?_
  refine R.gskip rfl rfl rfl ?_
  refine R.gskip rfl rfl rfl ?_
  refine R.gskip rfl rfl rfl ?_
  refine R.gskip rfl rfl rfl ?_
  refine R.gskip rfl rfl rfl ?_
  refine R.ev rfl (E.pickF rfl rfl) ?_
  refine R.ev rfl (E.move rfl) ?_
  refine R.gskip rfl rfl rfl ?_
  refine R.gskip rfl rfl rfl ?_
  refine R.gskip rfl rfl rfl ?_
  refine R.gskip rfl rfl rfl ?_
  refine R.gskip rfl rfl rfl ?_
  refine R.gskip rfl rfl rfl ?_
  refine R.gskip rfl rfl rfl ?_
  refine R.gskip rfl rfl rfl ?_
  refine R.ev rfl (E.pickF rfl rfl) ?_
  refine R.ev rfl (E.move rfl) ?_
  refine R.gskip rfl rfl rfl ?_
  refine R.gskip rfl rfl rfl ?_
  refine R.gskip rfl rfl rfl ?_
  refine R.gskip rfl rfl rfl ?_
  refine R.gskip rfl rfl rfl ?_
  refine R.gskip rfl rfl rfl ?_
  refine R.gundef rfl rfl ?_
  refine R.gundef rfl rfl ?_
  refine R.gundef rfl rfl ?_
  refine R.gundef rfl rfl ?_
  refine R.gundef rfl rfl ?_
  refine R.gundef rfl rfl ?_
  refine R.gundef rfl rfl ?_
  refine R.gundef rfl rfl ?_
  refine R.gundef rfl rfl ?_
  refine R.gundef rfl rfl ?_
  refine R.gundef rfl rfl ?_
  refine R.gundef rfl rfl ?_
  refine R.gskip rfl rfl rfl ?_
  refine R.ev rfl (E.pickF rfl rfl) ?_
  refine R.ev rfl (E.assign rfl) ?_
  refine R.done ?_
  refine X.keep [(4, _)] ⟨rfl, trivial⟩ ?_
  refine X.next ?_
  refine C.ret ?_
  refine X.ret1 rfl rfl ?_
  first
    | exact ⟨by rw [outd, ltB_E h59]; simp only [*, Bool.true_and, Bool.false_and, Bool.and_true, Bool.and_false], hs.to⟩
    | exact ⟨by rw [outd, ltB_F h53 h59]; simp only [*, Bool.true_and, Bool.false_and, Bool.and_true, Bool.and_false], hs.to⟩
    | exact ⟨by rw [outd, ltB_T h53]; simp only [*, Bool.true_and, Bool.false_and, Bool.and_true, Bool.and_false], hs.to⟩
    | exact ⟨by rw [outd]; simp only [*, Bool.true_and, Bool.false_and, Bool.and_true, Bool.and_false], hs.to⟩
def rIs (a : Vec 32) : RR → Bool := fun o => decide (o.id = a)
theorem rIdx_ge {a : Vec 32} : decide (0 ≤ idxP (rIs a) L) = hasId a L := by
  rw [Bool.eq_iff_iff, decide_eq_true_eq, idxP_nonneg_iff, hasId, List.any_eq_true]; rfl
theorem rIdx_lt {a : Vec 32} : decide (idxP (rIs a) L < 0) = !hasId a L := by
  rw [← rIdx_ge, Bool.eq_iff_iff]; simp
theorem rfind_any (a : Vec 32) (hs : Sat K w Hs) [hr : KRow encR 82 K v L] (hL : L.length ≤ 1000000) : Ret Try.prog 37 #[v, idV a.1] w fun r w' => r = .int .i64 (idxP (rIs a) L) ∧ Sat K w' Hs := by
  obtain ⟨ad, cap, rfl, hsl, hc⟩ := hr.ex
  have e1 := encV_len a
  refine Ret.enter (n := 20) (args := [.slice ad L.length cap, idV a.1]) Try.func37 rfl rfl ?_
  refine C.keep [(0, _), (1, _)] ⟨rfl, rfl, trivial⟩ ?_
  refine C.seq ?_
  refine C.region ?_
  refine R.sboxA hs rfl rfl ?_
  intro b3 w3 hs
  refine R.ev rfl (E.assign rfl) ?_
  refine R.done ?_
  refine X.keep [(0, _), (3, _)] ⟨rfl, rfl, trivial⟩ ?_
  refine X.next ?_
  refine C.seq ?_
  refine C.seq ?_
  refine C.region ?_
  refine R.ev rfl (E.assign rfl) ?_
  refine R.done ?_
  refine X.keep [(0, _), (3, _), (5, _)] ⟨rfl, rfl, rfl, trivial⟩ ?_
  refine X.next ?_
  refine C.block ?_
  refine C.loop  [(0, _), (3, _)] (fun k => [(5, .int .i64 (k : Nat))]) (fun k w' => k ≤ L.length ∧ Sat K w' (row b3 23 (a.1.map ub) :: Hs) ∧ ∀ j, j < k → ∀ y, L[j]? = some y → rIs a y = false) (fun k => L.length - k) (0) ⟨rfl, rfl, rfl, trivial⟩ ⟨Nat.zero_le _, hs, fun j h => by omega⟩ ?_
  rintro k w1 ⟨hk, hs, hno⟩
  refine C.keep [(0, _), (3, _), (5, _)] ⟨rfl, rfl, rfl, trivial⟩ ?_
  refine C.seq ?_
  refine C.seq ?_
  refine C.region ?_
  refine R.ev rfl (E.move rfl) ?_
  refine R.ev rfl (E.move rfl) ?_
  refine R.ev rfl (E.lenSl rfl Try.underlying22) ?_
  refine R.ev rfl (E.lss rfl rfl) ?_
  refine R.done ?_
  refine X.keep [(0, _), (3, _), (5, _), (9, _)] ⟨rfl, rfl, rfl, rfl, trivial⟩ ?_
  refine X.next ?_
  refine C.cdec rfl (fun h9 => ?_) (fun h9 => ?_)
  obtain ⟨y, bk_y, of_y, hy, my, ly, rfl, Ay⟩ := hs.el (i := k) (ad := ad) (n := L.length) (c := cap) (by omega)
  have ay := Ay _ hs
  have e2 := encV_len y.id
  refine C.skip ?_
  refine X.next ?_
  refine C.seq ?_
  refine C.block ?_
  refine C.seq ?_
  refine C.drawn (SatS hs) ([4, 5], [0, 1, 2, 3, 6]) (by kernel_rfl) ?_
  have hs := hs.drew
  refine D.evP 0 rfl (by kernel_rfl) rfl (fun _ => hs.to) (fun _ => E.move rfl) ?_
  refine D.evP 1 rfl (by kernel_rfl) rfl (fun _ => hs.to) (fun _ => E.move rfl) ?_
  refine D.evP 2 rfl (by kernel_rfl) rfl (fun _ => hs.to) (fun _ => E.indexAddr rfl rfl Try.underlying22 Try.sz26 rfl (by omega)) ?_
  refine D.evP 3 rfl (by kernel_rfl) rfl (fun _ => hs.to) (fun _ => E.fieldAddrN 0 rfl Try.underlying26 rfl Try.sz23 rfl) ?_
  refine D.ev 4 rfl (by kernel_rfl) rfl hs.to (fun _ hS => E.loadRow (cs := y.id.1.map ub) rfl Try.underlying23 rfl Try.sz23 (Ay _ hS).app.1 e2) ?_
  refine D.ev 5 rfl (by kernel_rfl) rfl hs.to (fun _ hS => E.loadRowC rfl Try.underlying23 rfl Try.sz23 (by exact ⟨hS.ldA, by assumption⟩)) ?_
  refine D.evP 6 rfl (by kernel_rfl) rfl (fun _ => hs.to) (fun _ => (E.eqV 10 (a := y.id) (b := a) rfl rfl Try.lv23 rfl Try.underlying23 rfl Try.gd23)) ?_
  refine D.done rfl (by kernel_rfl) ?_
  refine X.keep [(0, _), (3, _), (5, _), (18, _)] ⟨rfl, rfl, rfl, rfl, trivial⟩ ?_
  refine X.next ?_
  refine C.cbool rfl (fun h18 => ?_) (fun h18 => ?_)
  refine C.seq ?_
  refine C.region ?_
  refine R.ev rfl (E.move rfl) ?_
  refine R.ev rfl (E.assign rfl) ?_
  refine R.done ?_
  refine X.keep [(4, _)] ⟨rfl, trivial⟩ ?_
  refine X.next ?_
  refine C.ret ?_
  refine X.blockRet ?_
  refine X.thenRet ?_
  refine X.loopRet ?_
  refine X.blockRet ?_
  refine X.thenRet ?_
  refine X.ret1 rfl rfl ?_
  exact ⟨by rw [idxP_some (p := rIs a) hy h18 hno], hs.to⟩
  refine C.skip ?_
  refine X.blockNormal ?_
  refine X.next ?_
  refine C.region ?_
  refine R.ev rfl (E.move rfl) ?_
  refine R.ev rfl (E.add rfl rfl (by omega) (by omega)) ?_
  refine R.ev rfl (E.assign rfl) ?_
  refine R.done ?_
  refine X.keep [(0, _), (3, _), (5, _)] ⟨rfl, rfl, rfl, trivial⟩ ?_
  exact X.again (k + 1) ⟨rfl, rfl, rfl, trivial⟩ ⟨by omega, hs.to, idxP_step (p := rIs a) hy h18 hno⟩ (by omega)
  refine C.exit ?_
  refine X.thenExit ?_
  refine X.loopExit ?_
  refine X.blockExit ?_
  refine X.next ?_
  refine C.seq ?_
  refine C.region ?_
  refine R.ev rfl (E.assign rfl) ?_
  refine R.done ?_
  refine X.keep [(4, _)] ⟨rfl, trivial⟩ ?_
  refine X.next ?_
  refine C.ret ?_
  refine X.ret1 rfl rfl ?_
  exact ⟨by rw [idxP_none (p := rIs a) hno (by omega)], hs.to⟩
theorem min_T1 {d : Int} (h : decide (d < 0) = true) : isMin d = false := by have := of_decide_eq_true h; simp [isMin]; omega
theorem min_T2 {d : Int} (h : decide (105190559 < d) = true) : isMin d = false := by have := of_decide_eq_true h; simp [isMin]; omega
theorem min_F {d : Int} (h : decide (d < 0) = false) (h2 : decide (105190559 < d) = false) : isMin d = true := by have := of_decide_eq_false h; have := of_decide_eq_false h2; simp [isMin]; omega
theorem rcheck_any (hs : Sat K w Hs) [hr : KRow encR 82 K v L] (hL : L.length ≤ 4096) : Ret Try.prog 15 #[v] w fun r w' => r = .tuple #[.int .i64 ((chk L).1 : Nat), .int .i64 (chk L).2] ∧ Sat K w' Hs := by
  obtain ⟨ad, cap, rfl, hsl, hc⟩ := hr.ex
  refine Ret.enter (n := 40) (args := [.slice ad L.length cap]) Try.func15 rfl rfl ?_
  refine C.keep [(0, _)] ⟨rfl, trivial⟩ ?_
  refine C.seq ?_
  refine C.region ?_
  refine R.ev rfl (E.assign rfl) ?_
  refine R.ev rfl (E.assign rfl) ?_
  refine R.done ?_
  refine X.keep [(0, _)] ⟨rfl, trivial⟩ ?_
  refine X.next ?_
  refine C.seq ?_
  refine C.seq ?_
  refine C.region ?_
  refine R.ev rfl (E.move rfl) ?_
  refine R.ev rfl (E.lenSl rfl Try.underlying22) ?_
  refine R.ev rfl ((E.gtr rfl rfl).isF (by omega)) ?_
  refine R.done ?_
  refine X.keep [(0, _), (7, _)] ⟨rfl, rfl, trivial⟩ ?_
  refine X.next ?_
  refine C.cfalse rfl ?_
  refine C.skip ?_
  refine X.next ?_
  refine C.seq ?_
  refine C.seq ?_
  refine C.region ?_
  refine R.ev rfl (E.assign rfl) ?_
  refine R.done ?_
  refine X.keep [(0, _), (4, _)] ⟨rfl, rfl, trivial⟩ ?_
  refine X.next ?_
  refine C.block ?_
  refine C.loop  [(0, _)] (fun k => [(4, .int .i64 (k : Nat))]) (fun k w' => k ≤ L.length ∧ Sat K w' Hs ∧ chk L = chkF (L.take k) (L.drop k)) (fun k => L.length - k) (0) ⟨rfl, rfl, trivial⟩ ⟨Nat.zero_le _, hs, rfl⟩ ?_
  rintro k w1 ⟨hk, hs, hck⟩
  have htl : (L.take k).length = k := by rw [List.length_take]; omega
  refine C.keep [(0, _), (4, _)] ⟨rfl, rfl, trivial⟩ ?_
  refine C.seq ?_
  refine C.seq ?_
  refine C.region ?_
  refine R.ev rfl (E.move rfl) ?_
  refine R.ev rfl (E.move rfl) ?_
  refine R.ev rfl (E.lenSl rfl Try.underlying22) ?_
  refine R.ev rfl (E.lss rfl rfl) ?_
  refine R.done ?_
  refine X.keep [(0, _), (4, _), (11, _)] ⟨rfl, rfl, rfl, trivial⟩ ?_
  refine X.next ?_
  refine C.cdec rfl (fun h11 => ?_) (fun h11 => ?_)
  obtain ⟨y, bk_y, of_y, hy, my, ly, rfl, Ay⟩ := hs.el (i := k) (ad := ad) (n := L.length) (c := cap) (by omega)
  have ay := Ay _ hs
  rw [chk_at hy] at hck
  refine C.skip ?_
  refine X.next ?_
  refine C.seq ?_
  refine C.block ?_
  refine C.seq ?_
  refine C.seq ?_
  refine C.region ?_
  refine R.ev rfl (E.move rfl) ?_
  refine R.ev rfl (E.move rfl) ?_
  refine R.ev rfl (E.indexAddr rfl rfl Try.underlying22 Try.sz26 rfl (by omega)) ?_
  refine R.ev rfl (E.fieldAddrN 48 rfl Try.underlying26 rfl Try.sz3 rfl) ?_
  refine R.ev rfl (E.load1 rfl Try.underlying3 rfl (by exact At.cellC (by assumption))) ?_
  refine R.ev rfl (E.lss rfl rfl) ?_
  refine R.ev rfl (E.move rfl) ?_
  refine R.split 20 rfl (fun h20 => ?_) (fun h20 => ?_)
  refine R.gskip rfl rfl rfl ?_
  refine R.gskip rfl rfl rfl ?_
  refine R.gskip rfl rfl rfl ?_
  refine R.gskip rfl rfl rfl ?_
  refine R.gskip rfl rfl rfl ?_
  refine R.gskip rfl rfl rfl ?_
  refine R.ev rfl (E.pickT rfl rfl) ?_
  refine R.done ?_
  refine X.keep [(0, _), (4, _), (27, _)] ⟨rfl, rfl, rfl, trivial⟩ ?_
  refine X.next ?_
  refine C.ctrue rfl ?_
  refine C.seq ?_
  refine C.region ?_
  refine R.ev rfl (E.move rfl) ?_
  refine R.ev rfl (E.assign rfl) ?_
  refine R.ev rfl (E.assign rfl) ?_
  refine R.done ?_
  refine X.keep [(2, _), (3, _)] ⟨rfl, rfl, trivial⟩ ?_
  refine X.next ?_
  refine C.ret ?_
  refine X.thenRet ?_
  refine X.blockRet ?_
  refine X.thenRet ?_
  refine X.loopRet ?_
  refine X.blockRet ?_
  refine X.thenRet ?_
  refine X.ret2 rfl rfl rfl ?_
  have hbad : isMin y.date = false := by
    first
      | exact min_T2 h27
      | exact min_T1 h20
  rw [chkF, if_pos hbad] at hck
  exact ⟨by rw [hck, htl], hs⟩
  refine R.gyes rfl rfl ?_
  refine R.ev rfl (E.move rfl) ?_
  refine R.gyes rfl rfl ?_
  refine R.ev rfl (E.move rfl) ?_
  refine R.gyes rfl rfl ?_
  refine R.ev rfl (E.indexAddr (i := k) rfl rfl Try.underlying22 Try.sz26 rfl (by omega)) ?_
  refine R.gyes rfl rfl ?_
  refine R.ev rfl (E.fieldAddrN 48 rfl Try.underlying26 rfl Try.sz3 rfl) ?_
  refine R.gyes rfl rfl ?_
  refine R.ev rfl (E.load1 rfl Try.underlying3 rfl (by exact At.cellC (by assumption))) ?_
  refine R.gyes rfl rfl ?_
  refine R.ev rfl (E.gtr rfl rfl) ?_
  refine R.ev rfl (E.pickF rfl rfl) ?_
  refine R.done ?_
  refine X.keep [(0, _), (4, _), (27, _)] ⟨rfl, rfl, rfl, trivial⟩ ?_
  refine X.next ?_
  refine C.cbool rfl (fun h27 => ?_) (fun h27 => ?_)
  refine C.seq ?_
  refine C.region ?_
  refine R.ev rfl (E.move rfl) ?_
  refine R.ev rfl (E.assign rfl) ?_
  refine R.ev rfl (E.assign rfl) ?_
  refine R.done ?_
  refine X.keep [(2, _), (3, _)] ⟨rfl, rfl, trivial⟩ ?_
  refine X.next ?_
  refine C.ret ?_
  refine X.thenRet ?_
  refine X.blockRet ?_
  refine X.thenRet ?_
  refine X.loopRet ?_
  refine X.blockRet ?_
  refine X.thenRet ?_
  refine X.ret2 rfl rfl rfl ?_
  have hbad : isMin y.date = false := by
    first
      | exact min_T2 h27
      | exact min_T1 h20
  rw [chkF, if_pos hbad] at hck
  exact ⟨by rw [hck, htl], hs⟩
  refine C.skip ?_
  refine X.next ?_
  refine C.seq ?_
  refine C.drawn (SatS hs) ([7], [0, 1, 2, 3, 4, 5, 6, 9]) (by kernel_rfl) ?_
  have hs := hs.drew
  have hgood : isMin y.date = true := min_F h20 h27
  have k1 := hr.first (i := k) hk
  refine D.evP 0 rfl (by kernel_rfl) rfl (fun _ => hs.to) (fun _ => E.move rfl) ?_
  refine D.evP 1 rfl (by kernel_rfl) rfl (fun _ => hs.to) (fun _ => E.move rfl) ?_
  refine D.evP 2 rfl (by kernel_rfl) rfl (fun _ => hs.to) (fun _ => E.sliceH (b := k) rfl rfl Try.underlying22 Try.sz26 rfl (by omega)) ?_
  refine D.evP 3 rfl (by kernel_rfl) rfl (fun _ => hs.to) (fun _ => E.move rfl) ?_
  refine D.evP 4 rfl (by kernel_rfl) rfl (fun _ => hs.to) (fun _ => E.move rfl) ?_
  refine D.evP 5 rfl (by kernel_rfl) rfl (fun _ => hs.to) (fun _ => E.indexAddr rfl rfl Try.underlying22 Try.sz26 rfl (by omega)) ?_
  refine D.evP 6 rfl (by kernel_rfl) rfl (fun _ => hs.to) (fun _ => E.fieldAddrN 0 rfl Try.underlying26 rfl Try.sz23 rfl) ?_
  refine D.ev 7 rfl (by kernel_rfl) rfl hs.to (fun _ hS => E.loadRow (cs := y.id.1.map ub) rfl Try.underlying23 rfl Try.sz23 (Ay _ hS).app.1 (encV_len y.id)) ?_
  refine D.act 8 rfl (by kernel_rfl) ?_
  refine R.call ⟨_, _, Try.func37, rfl, by kernel_rfl⟩ rfl rfl (rfind_any (L := L.take k) y.id hs (by omega)) ?_
  rintro _ w8 ⟨rfl, hs⟩
  refine D.backT (by kernel_rfl) ?_
  refine D.evP 9 rfl (by kernel_rfl) rfl (np (by kernel_rfl)) (fun _ => (E.geq rfl rfl).isB (c := hasId y.id (L.take k)) rIdx_ge) ?_
  refine D.done rfl (by kernel_rfl) ?_
  refine X.keep [(0, _), (4, _), (38, _)] ⟨rfl, rfl, rfl, trivial⟩ ?_
  refine X.next ?_
  refine C.cbool rfl (fun h38 => ?_) (fun h38 => ?_)
  refine C.seq ?_
  refine C.region ?_
  refine R.ev rfl (E.move rfl) ?_
  refine R.ev rfl (E.assign rfl) ?_
  refine R.ev rfl (E.assign rfl) ?_
  refine R.done ?_
  refine X.keep [(2, _), (3, _)] ⟨rfl, rfl, trivial⟩ ?_
  refine X.next ?_
  refine C.ret ?_
  refine X.blockRet ?_
  refine X.thenRet ?_
  refine X.loopRet ?_
  refine X.blockRet ?_
  refine X.thenRet ?_
  refine X.ret2 rfl rfl rfl ?_
  rw [chkF, if_neg (by rw [hgood]; decide), if_pos h38] at hck
  exact ⟨by rw [hck, htl], hs⟩
  refine C.skip ?_
  refine X.blockNormal ?_
  refine X.next ?_
  refine C.region ?_
  refine R.ev rfl (E.move rfl) ?_
  refine R.ev rfl (E.add rfl rfl (by omega) (by omega)) ?_
  refine R.ev rfl (E.assign rfl) ?_
  refine R.done ?_
  refine X.keep [(0, _), (4, _)] ⟨rfl, rfl, trivial⟩ ?_
  exact X.again (k + 1) ⟨rfl, rfl, trivial⟩ ⟨by omega, hs, by rw [hck, chkF_step hgood h38, take_snoc hy]⟩ (by omega)
  refine C.exit ?_
  refine X.thenExit ?_
  refine X.loopExit ?_
  refine X.blockExit ?_
  refine X.next ?_
  refine C.seq ?_
  refine C.region ?_
  refine R.ev rfl (E.assign rfl) ?_
  refine R.ev rfl (E.assign rfl) ?_
  refine R.done ?_
  refine X.keep [(2, _), (3, _)] ⟨rfl, rfl, trivial⟩ ?_
  refine X.next ?_
  refine C.ret ?_
  refine X.ret2 rfl rfl rfl ?_
  rw [List.drop_eq_nil_of_le (by omega)] at hck
  exact ⟨by rw [hck]; rfl, hs⟩
/-! Check of the program -/
instance : ZeroEnc Try.prog 4 Value.bool false := ⟨Try.zr4⟩
theorem check_any {A : List RA} (hs : Sat K w Hs) [hr : Rd encA 83 K Hs v A] (hL : A.length ≤ 4096) : Ret Try.prog 14 #[v] w fun r w' => r = .tuple #[.int .i64 ((chk (A.map RA.x)).1 : Nat), .int .i64 (chk (A.map RA.x)).2] ∧ Sat K w' Hs := by
  obtain ⟨ad, cap, rfl, hcap, _⟩ := hr.ex
  generalize hLx : A.map RA.x = L
  have hlen : L.length = A.length := by rw [← hLx, List.length_map]
  refine Ret.enter (n := 31) (args := [.slice ad A.length cap]) Try.func14 rfl rfl ?_
  refine C.keep [(0, _)] ⟨rfl, trivial⟩ ?_
  refine C.seq ?_
  refine C.region ?_
  refine R.ev rfl (E.assign rfl) ?_
  refine R.ev rfl (E.assign rfl) ?_
  refine R.done ?_
  refine X.keep [(0, _)] ⟨rfl, trivial⟩ ?_
  refine X.next ?_
  refine C.seq ?_
  refine C.seq ?_
  refine C.region ?_
  refine R.ev rfl (E.move rfl) ?_
  refine R.ev rfl (E.lenSl rfl Try.underlying27) ?_
  refine R.ev rfl ((E.gtr rfl rfl).isF (by omega)) ?_
  refine R.done ?_
  refine X.keep [(0, _), (9, _)] ⟨rfl, rfl, trivial⟩ ?_
  refine X.next ?_
  refine C.cfalse rfl ?_
  refine C.skip ?_
  refine X.next ?_
  refine C.seq ?_
  refine C.region ?_
  refine R.cmake hs Try.underlying77 (Value.bool) rfl ?_
  intro v10 w10 F10 m10 hs
  refine R.ev rfl (E.assign rfl) ?_
  refine R.done ?_
  refine X.keep [(0, _), (4, _)] ⟨rfl, rfl, trivial⟩ ?_
  refine X.next ?_
  refine C.seq ?_
  refine C.seq ?_
  refine C.region ?_
  refine R.ev rfl (E.move rfl) ?_
  refine R.ev rfl (E.lenSl rfl Try.underlying27) ?_
  refine R.ev rfl (E.move rfl) ?_
  refine R.done ?_
  refine X.keep [(4, _), (11, _), (12, _), (13, _)] ⟨rfl, rfl, rfl, rfl, trivial⟩ ?_
  refine X.next ?_
  refine C.block ?_
  refine C.loop (T := Nat × List (Vec 32 × Bool) × Hl) [(4, _), (11, _), (12, _)] (fun (k, _, _) => [(13, .int .i64 (k : Nat))]) (fun (k, M, G) w' => k ≤ A.length ∧ MapL ekI Value.bool v10 M G ∧ (∀ a, (lkM M a).getD false = hasId a (L.take k)) ∧ chk L = chkF (L.take k) (L.drop k) ∧ Sat K w' (G :: Hs)) (fun (k, _) => A.length - k) ((0, [], F10)) ⟨rfl, rfl, rfl, rfl, trivial⟩ ⟨Nat.zero_le _, m10, fun a => rfl, rfl, hs⟩ ?_
  rintro ⟨k, M, G⟩ w1 ⟨hk, hm1, hfm, hck, hs⟩
  have htl : (L.take k).length = k := by rw [List.length_take]; omega
  refine C.keep [(4, _), (11, _), (12, _), (13, _)] ⟨rfl, rfl, rfl, rfl, trivial⟩ ?_
  refine C.seq ?_
  refine C.region ?_
  refine R.ev rfl (E.lss rfl rfl) ?_
  refine R.done ?_
  refine X.keep [(4, _), (11, _), (12, _), (13, _), (14, _)] ⟨rfl, rfl, rfl, rfl, rfl, trivial⟩ ?_
  refine X.next ?_
  refine C.seq ?_
  refine C.cdec rfl (fun h14 => ?_) (fun h14 => ?_)
  obtain ⟨y, bk_y, of_y, hy, my, ly, rfl, Ay⟩ := hs.el (i := k) (ad := ad) (n := A.length) (c := cap) (by omega)
  have ay := Ay _ hs
  have hyL : L[k]? = some y.x := by rw [← hLx, List.getElem?_map, hy]; rfl
  rw [chk_at hyL] at hck
  refine C.skip ?_
  refine X.next ?_
  refine C.seq ?_
  refine C.block ?_
  refine C.seq ?_
  refine C.region ?_
  refine R.ev rfl (E.move rfl) ?_
  refine R.ev rfl (E.indexAddr rfl rfl Try.underlying27 Try.sz42 rfl (by omega)) ?_
  refine R.ev rfl (E.loadRowC rfl Try.underlying42 rfl Try.sz42 (by exact ⟨by assumption, by assumption⟩)) ?_
  refine R.sallocA hs Try.zr42 rfl ?_
  intro b6 w6 hs
  refine R.ev rfl (E.assign rfl) ?_
  refine R.cstoreAll hs rfl rfl Try.sz42 (by rfl) (by assumption) (by exact Enc.one _) ?_
  intro w6_5 hs
  try simp only [List.set_cons_zero, List.set_cons_succ] at hs
  refine R.done ?_
  refine X.keep [(4, _), (5, _), (6, _), (11, _), (12, _), (13, _)] ⟨rfl, rfl, rfl, rfl, rfl, rfl, trivial⟩ ?_
  refine X.next ?_
  refine C.seq ?_
  refine C.seq ?_
  refine C.region ?_
  refine R.ev rfl (E.loadRowC rfl Try.underlying42 rfl Try.sz42 (by exact ⟨hs.ldA, by assumption⟩)) ?_
  refine R.call ⟨_, _, Try.func43, rfl, by kernel_rfl⟩ rfl rfl (isDate_any y hs) ?_
  rintro _ w7 ⟨rfl, hs⟩
  refine R.ev rfl ((E.not rfl).isB (c := !(isMin y.x.date)) rfl) ?_
  refine R.done ?_
  refine X.keep [(4, _), (5, _), (6, _), (11, _), (12, _), (13, _), (20, _)] ⟨rfl, rfl, rfl, rfl, rfl, rfl, rfl, trivial⟩ ?_
  refine X.next ?_
  refine C.cbool rfl (fun h20 => ?_) (fun h20 => ?_)
  refine C.seq ?_
  refine C.region ?_
  refine R.ev rfl (E.move rfl) ?_
  refine R.ev rfl (E.assign rfl) ?_
  refine R.ev rfl (E.assign rfl) ?_
  refine R.done ?_
  refine X.keep [(2, _), (3, _)] ⟨rfl, rfl, trivial⟩ ?_
  refine X.next ?_
  refine C.ret ?_
  refine X.thenRet ?_
  refine X.blockRet ?_
  refine X.thenRet ?_
  refine X.loopRet ?_
  refine X.blockRet ?_
  refine X.thenRet ?_
  refine X.ret2 rfl rfl rfl ?_
  rw [chkF, if_pos (by simpa using h20)] at hck
  exact ⟨by rw [hck, htl], hs.to⟩
  refine C.skip ?_
  refine X.next ?_
  refine C.seq ?_
  refine C.seq ?_
  refine C.region ?_
  have hgood : isMin y.x.date = true := by simpa using h20
  refine R.ev rfl (E.move rfl) ?_
  refine R.ev rfl (E.fieldAddr0 0 rfl Try.underlying42 rfl Try.sz37 rfl) ?_
  refine R.ev rfl (E.loadRowC rfl Try.underlying37 rfl Try.sz37 (by exact ⟨hs.ldP rfl, by exact encV_len _⟩)) ?_
  refine R.ev rfl ((E.lookupD hs rfl rfl Try.underlying77 y.x.id (by rfl)).as (u := .bool (hasId y.x.id (L.take k))) (by rw [hfm])) ?_
  refine R.done ?_
  refine X.keep [(4, _), (5, _), (6, _), (11, _), (12, _), (13, _), (25, _)] ⟨rfl, rfl, rfl, rfl, rfl, rfl, rfl, trivial⟩ ?_
  refine X.next ?_
  refine C.cbool rfl (fun h25 => ?_) (fun h25 => ?_)
  refine C.seq ?_
  refine C.region ?_
  refine R.ev rfl (E.move rfl) ?_
  refine R.ev rfl (E.assign rfl) ?_
  refine R.ev rfl (E.assign rfl) ?_
  refine R.done ?_
  refine X.keep [(2, _), (3, _)] ⟨rfl, rfl, trivial⟩ ?_
  refine X.next ?_
  refine C.ret ?_
  refine X.thenRet ?_
  refine X.blockRet ?_
  refine X.thenRet ?_
  refine X.loopRet ?_
  refine X.blockRet ?_
  refine X.thenRet ?_
  refine X.ret2 rfl rfl rfl ?_
  rw [chkF, if_neg (by rw [hgood]; decide), if_pos h25] at hck
  exact ⟨by rw [hck, htl], hs.to⟩
  refine C.skip ?_
  refine X.next ?_
  refine C.region ?_
  refine R.ev rfl (E.move rfl) ?_
  refine R.ev rfl (E.fieldAddr0 0 rfl Try.underlying42 rfl Try.sz37 rfl) ?_
  refine R.ev rfl (E.loadRowC rfl Try.underlying37 rfl Try.sz37 (by exact ⟨hs.ldP rfl, by exact encV_len _⟩)) ?_
  refine R.cput (y.x.id) (true) hs rfl rfl rfl Try.underlying77 (by rfl) (by rfl) ?_
  intro w11_3 F11_3 m11_3 hs
  refine R.done ?_
  refine X.keep [(4, _), (11, _), (12, _), (13, _)] ⟨rfl, rfl, rfl, rfl, trivial⟩ ?_
  refine X.blockNormal ?_
  refine X.next ?_
  refine C.region ?_
  refine R.ev rfl (E.add rfl rfl (by omega) (by omega)) ?_
  refine R.ev rfl (E.move rfl) ?_
  refine R.done ?_
  refine X.keep [(4, _), (11, _), (12, _), (13, _)] ⟨rfl, rfl, rfl, rfl, trivial⟩ ?_
  exact X.again (k + 1, putM y.x.id true M, F11_3) ⟨rfl, rfl, rfl, rfl, trivial⟩ ⟨by omega, m11_3, fun a => by
  rw [lkM_put, take_snoc hyL]
  have h1 := hfm a
  by_cases ha : a = y.x.id
  · rw [if_pos ha, ha]; simp [hasId]
  · rw [if_neg ha, h1]; simp [hasId, Ne.symm ha], by rw [hck, chkF_step hgood h25, take_snoc hyL], hs.to⟩ (by show _ - _ < _ - _; omega)
  refine C.exit ?_
  refine X.thenExit ?_
  refine X.loopExit ?_
  refine X.blockExit ?_
  refine X.next ?_
  refine C.seq ?_
  refine C.region ?_
  refine R.ev rfl (E.assign rfl) ?_
  refine R.ev rfl (E.assign rfl) ?_
  refine R.done ?_
  refine X.keep [(2, _), (3, _)] ⟨rfl, rfl, trivial⟩ ?_
  refine X.next ?_
  refine C.ret ?_
  refine X.ret2 rfl rfl rfl ?_
  rw [List.drop_eq_nil_of_le (by omega)] at hck
  exact ⟨by rw [hck]; rfl, hs.to⟩
end Go.Proofs.Ytmjmichghfepkaa
