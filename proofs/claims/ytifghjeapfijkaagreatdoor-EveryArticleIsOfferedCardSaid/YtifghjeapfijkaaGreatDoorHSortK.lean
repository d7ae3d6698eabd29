/-
  slices.SortFunc over entries.
-/
import Derived.Test.YtifghjeapfijkaaGreatDoorHSortJ
namespace Go.Proofs.YtifghjeapfijkaaGreatDoor.Hist
open Go.Eng Go.RowKit

section
variable {K : Kn} {Rs : List Hl} {F : Hl} {w : World} {b m c0 : Nat} {d : Array HEnt} {lt : HEnt → HEnt → Bool} {fid : FuncId} {fst cps : List Value}
open Go.Sort
theorem hebrk_any (a b0 : Nat) (cv : Value) (hs : Sat K w (F :: Rs)) (hr : heA b m c0 d F) (hab : a + 12 < b0) (hb : b0 ≤ m) (hm : m ≤ 1000000000) :
    Ret Tryz.prog 89 #[.slice (some ⟨b, 0, none⟩) m c0, .int .i64 (a : Nat), .int .i64 (b0 : Nat), cv] w fun _ w' => ∃ F', heA b m c0 (breakPatterns d a b0) F' ∧ Sat K w' (F' :: Rs) := by
  rw [break_bst (by omega)]
  obtain ⟨l, hl⟩ : ∃ l, l = b0 - a := ⟨_, rfl⟩
  rw [← hl]
  have hl2 : l ≤ 1000000000 ∧ 12 < l ∧ a + l = b0 := by omega
  have hp1 : 2 ^ bitsLen l ≤ 2 * l := two_pow_bitsLen_le (by omega)
  have hp0 : 0 < 2 ^ bitsLen l := Nat.two_pow_pos _
  refine Ret.enter (n := 67) (args := [.slice (some ⟨b, 0, none⟩) m c0, .int .i64 (a : Nat), .int .i64 (b0 : Nat), cv]) Tryz.func89 rfl rfl ?_
  refine C.keep [(0, _), (1, _), (2, _)] ⟨rfl, rfl, rfl, trivial⟩ ?_
  refine C.seq ?_
  refine C.region ?_
  refine R.ev rfl (E.move rfl) ?_
  refine R.ev rfl (E.move rfl) ?_
  refine R.ev rfl ((E.sub rfl rfl (by omega) (by omega)).isI (c := ((l : Nat) : Int)) (by omega)) ?_
  refine R.ev rfl (E.assign rfl) ?_
  refine R.done ?_
  refine X.keep [(0, _), (1, _), (8, _)] ⟨rfl, rfl, rfl, trivial⟩ ?_
  refine X.next ?_
  refine C.seq ?_
  refine C.region ?_
  refine R.ev rfl (E.move rfl) ?_
  refine R.ev rfl ((E.geq rfl rfl).isT (by omega)) ?_
  refine R.done ?_
  refine X.keep [(0, _), (1, _), (8, _), (17, _)] ⟨rfl, rfl, rfl, rfl, trivial⟩ ?_
  refine X.next ?_
  refine C.ctrue rfl ?_
  refine C.seq ?_
  refine C.region ?_
  refine R.ev rfl (E.move rfl) ?_
  refine R.ev rfl ((E.conv rfl Tryz.underlying3 Tryz.underlying160).isI (c := (((UInt64.ofNat l).toNat : Nat) : Int)) (by rw [IntKind.wrap_u64, UInt64.toNat_ofNat']; omega)) ?_
  refine R.salloc1 hs Tryz.zr160 rfl rfl ?_
  intro b9 w9 hs
  refine R.cstore1 hs rfl rfl Tryz.sz160 (by first | decide | simp [*]) (by first | rfl | exact OneC.one | exact KRow.oneC' (by assumption)) ?_
  intro w2_3 hs
  try simp only [List.set_cons_zero, List.set_cons_succ] at hs
  refine R.done ?_
  refine X.keep [(0, _), (1, _), (8, _), (9, _)] ⟨rfl, rfl, rfl, rfl, trivial⟩ ?_
  refine X.next ?_
  refine C.seq ?_
  refine C.region ?_
  refine R.ev rfl (E.move rfl) ?_
  refine R.call ⟨_, _, Tryz.func104, rfl, by kernel_rfl⟩ rfl rfl (pow2_any l (by omega) hs) ?_
  rintro _ w3 ⟨rfl, hs⟩
  refine R.ev rfl (E.assign rfl) ?_
  refine R.done ?_
  refine X.keep [(0, _), (1, _), (8, _), (9, _), (10, _)] ⟨rfl, rfl, rfl, rfl, rfl, trivial⟩ ?_
  refine X.next ?_
  refine C.seq ?_
  refine C.region ?_
  refine R.ev rfl (E.move rfl) ?_
  refine R.ev rfl (E.move rfl) ?_
  refine R.ev rfl ((E.quo rfl rfl (by omega) (by omega) (by omega)).isI (c := ((l / 4 : Nat) : Int)) (by omega)) ?_
  refine R.ev rfl ((E.mul rfl rfl (by omega) (by omega)).isI (c := ((l / 4 * 2 : Nat) : Int)) (by omega)) ?_
  refine R.ev rfl ((E.add rfl rfl (by omega) (by omega)).isI (c := ((a + l / 4 * 2 : Nat) : Int)) (by omega)) ?_
  refine R.ev rfl ((E.sub rfl rfl (by omega) (by omega)).isI (c := ((a + l / 4 * 2 - 1 + 0 : Nat) : Int)) (by omega)) ?_
  refine R.ev rfl (E.assign rfl) ?_
  refine R.done ?_
  refine X.keep [(0, _), (1, _), (8, _), (9, _), (10, _), (11, _)] ⟨rfl, rfl, rfl, rfl, rfl, rfl, trivial⟩ ?_
  refine X.next ?_
  refine C.block ?_
  refine C.loop (T := Nat × UInt64 × Array HEnt × Hl) [(0, _), (1, _), (8, _), (9, _), (10, _)] (fun (k, _, _, _) => [(11, .int .i64 ((a + l / 4 * 2 - 1 + k : Nat) : Int))]) (fun (k, r, d1, F1) w' => bst a l d k = (r, d1) ∧ k ≤ 3 ∧ heA b m c0 d1 F1 ∧ Sat K w' (row b9 160 [.int .u64 (r.toNat : Nat)] :: F1 :: Rs)) (fun (k, _) => 3 - k) ((0, UInt64.ofNat l, d, F)) ⟨rfl, rfl, rfl, rfl, rfl, rfl, trivial⟩ ⟨rfl, by omega, hr, hs⟩ ?_
  rintro ⟨k, r, d1, F1⟩ w4 ⟨he, hk, r1, hs⟩
  refine C.keep [(0, _), (1, _), (8, _), (9, _), (10, _), (11, _)] ⟨rfl, rfl, rfl, rfl, rfl, rfl, trivial⟩ ?_
  refine C.seq ?_
  refine C.seq ?_
  refine C.region ?_
  refine R.ev rfl (E.move rfl) ?_
  refine R.ev rfl (E.move rfl) ?_
  refine R.ev rfl (E.move rfl) ?_
  refine R.ev rfl ((E.quo rfl rfl (by omega) (by omega) (by omega)).isI (c := ((l / 4 : Nat) : Int)) (by omega)) ?_
  refine R.ev rfl ((E.mul rfl rfl (by omega) (by omega)).isI (c := ((l / 4 * 2 : Nat) : Int)) (by omega)) ?_
  refine R.ev rfl ((E.add rfl rfl (by omega) (by omega)).isI (c := ((a + l / 4 * 2 : Nat) : Int)) (by omega)) ?_
  refine R.ev rfl ((E.add rfl rfl (by omega) (by omega)).isI (c := ((a + l / 4 * 2 + 1 : Nat) : Int)) (by omega)) ?_
  refine R.ev rfl (E.leq rfl rfl) ?_
  refine R.done ?_
  refine X.keep [(0, _), (1, _), (8, _), (9, _), (10, _), (11, _), (35, _)] ⟨rfl, rfl, rfl, rfl, rfl, rfl, rfl, trivial⟩ ?_
  refine X.next ?_
  refine C.cdec rfl (fun h35 => ?_) (fun h35 => ?_)
  · have hrl := r.toNat_lt
    have hol := other_lt (r := xorNext r) (length := l) (by omega)
    have hxl := (xorNext r).toNat_lt
    have hand := and_lt' (x := (xorNext r).toNat) hp0
    refine C.skip ?_
    refine X.next ?_
    refine C.seq ?_
    refine C.block ?_
    refine C.seq ?_
    refine C.region ?_
    refine R.call ⟨_, _, Tryz.func105, rfl, by kernel_rfl⟩ rfl rfl (next_any' r.toNat (by omega) hs) ?_
    rintro _ w7 ⟨rfl, hs⟩
    rw [← xorNext_toNat] at hs ⊢
    refine R.ev rfl (E.move rfl) ?_
    refine R.ev rfl ((E.subW rfl rfl).isI (c := ((2 ^ bitsLen l - 1 : Nat) : Int)) (by rw [IntKind.wrap_u64]; generalize (2 ^ bitsLen l : Nat) = q at hp0 hp1 ⊢; omega)) ?_
    refine R.ev rfl ((E.and rfl rfl).isI (c := (((xorNext r).toNat &&& (2 ^ bitsLen l - 1) : Nat) : Int)) (and64 (by omega) (by generalize (2 ^ bitsLen l : Nat) = q at hp0 hp1 ⊢; omega))) ?_
    refine R.ev rfl ((E.conv rfl Tryz.underlying139 Tryz.underlying3).isI (c := (((xorNext r).toNat &&& (2 ^ bitsLen l - 1) : Nat) : Int)) (wrap_i64 (by omega) (by generalize ((xorNext r).toNat &&& (2 ^ bitsLen l - 1)) = z at hand ⊢; generalize (2 ^ bitsLen l : Nat) = q at *; omega))) ?_
    refine R.ev rfl (E.assign rfl) ?_
    refine R.done ?_
    refine X.keep [(0, _), (1, _), (8, _), (9, _), (10, _), (11, _), (12, _)] ⟨rfl, rfl, rfl, rfl, rfl, rfl, rfl, trivial⟩ ?_
    refine X.next ?_
    refine C.seq ?_
    refine C.seq ?_
    refine C.region ?_
    refine R.ev rfl (E.move rfl) ?_
    refine R.ev rfl (E.move rfl) ?_
    refine R.ev rfl (E.geq rfl rfl) ?_
    refine R.done ?_
    refine X.keep [(0, _), (1, _), (8, _), (9, _), (10, _), (11, _), (12, _), (45, _)] ⟨rfl, rfl, rfl, rfl, rfl, rfl, rfl, rfl, trivial⟩ ?_
    refine X.next ?_
    refine C.cut [(0, _), (1, _), (8, _), (9, _), (10, _), (11, _)] (fun (_ : Unit) => [(12, .int .i64 ((other l (xorNext r) : Nat) : Int))]) (fun _ w' => Sat K w' (row b9 160 [.int .u64 ((xorNext r).toNat : Nat)] :: F1 :: Rs)) ⟨rfl, rfl, rfl, rfl, rfl, rfl, trivial⟩ ?_ ?_
    · refine C.cdec rfl (fun h45 => ?_) (fun h45 => ?_)
      · refine C.region ?_
        refine R.ev rfl (E.move rfl) ?_
        refine R.ev rfl (E.move rfl) ?_
        refine R.ev rfl ((E.sub rfl rfl (by omega) (by generalize ((xorNext r).toNat &&& (2 ^ bitsLen l - 1)) = z at hand ⊢; generalize (2 ^ bitsLen l : Nat) = q at *; omega)).isI (c := ((other l (xorNext r) : Nat) : Int)) (by rw [other, if_pos (by omega)]; omega)) ?_
        refine R.ev rfl (E.assign rfl) ?_
        refine R.done ?_
        refine X.keep [(0, _), (1, _), (8, _), (9, _), (10, _), (11, _), (12, _)] ⟨rfl, rfl, rfl, rfl, rfl, rfl, rfl, trivial⟩ ?_
        refine X.cut (()) ⟨lkV rfl ?_, rfl, rfl, rfl, rfl, rfl, rfl, trivial⟩ ?_
        · first
            | rfl
            | rw [other, if_neg (by omega)]
        exact hs
      · refine C.skip ?_
        refine X.cut (()) ⟨lkV rfl ?_, rfl, rfl, rfl, rfl, rfl, rfl, trivial⟩ ?_
        · first
            | rfl
            | rw [other, if_neg (by omega)]
        exact hs
    · rintro _ w8 hs
      refine X.keep [(0, _), (1, _), (8, _), (9, _), (10, _), (11, _), (12, _)] ⟨rfl, rfl, rfl, rfl, rfl, rfl, rfl, trivial⟩ ?_
      refine X.next ?_
      refine C.drawn (SatS hs) ([11, 15], [0, 1, 2, 3, 4, 5, 6, 7, 8, 9, 10, 12, 13, 14, 16, 18]) (by kernel_rfl) ?_
      have hs := hs.drew
      have hnext := bst_succ he
      generalize other l (xorNext r) = ot at hol hnext
      have A1 := r1.el (K := K) (Hs := row b9 160 [.int .u64 ((xorNext r).toNat : Nat)] :: F1 :: Rs) (i := a + l / 4 * 2 - 1 + k) (by omega)
      have A2 := r1.el (K := K) (Hs := row b9 160 [.int .u64 ((xorNext r).toNat : Nat)] :: F1 :: Rs) (i := a + ot) (by omega)
      refine D.evP 0 rfl (by kernel_rfl) rfl (fun _ => hs.to) (fun _ => E.move rfl) ?_
      refine D.evP 1 rfl (by kernel_rfl) rfl (fun _ => hs.to) (fun _ => E.move rfl) ?_
      refine D.evP 2 rfl (by kernel_rfl) rfl (fun _ => hs.to) (fun _ => E.move rfl) ?_
      refine D.evP 3 rfl (by kernel_rfl) rfl (fun _ => hs.to) (fun _ => E.move rfl) ?_
      refine D.evP 4 rfl (by kernel_rfl) rfl (fun _ => hs.to) (fun _ => E.move rfl) ?_
      refine D.evP 5 rfl (by kernel_rfl) rfl (fun _ => hs.to) (fun _ => (E.add rfl rfl (by omega) (by omega)).isI (c := ((a + ot : Nat) : Int)) (by omega)) ?_
      refine D.evP 6 rfl (by kernel_rfl) rfl (fun _ => hs.to) (fun _ => E.move rfl) ?_
      refine D.evP 7 rfl (by kernel_rfl) rfl (fun _ => hs.to) (fun _ => E.move rfl) ?_
      refine D.evP 8 rfl (by kernel_rfl) rfl (fun _ => hs.to) (fun _ => E.move rfl) ?_
      refine D.evP 9 rfl (by kernel_rfl) rfl (fun _ => hs.to) (fun _ => (E.add rfl rfl (by omega) (by omega)).isI (c := ((a + ot : Nat) : Int)) (by omega)) ?_
      refine D.evP 10 rfl (by kernel_rfl) rfl (fun _ => hs.to) (fun _ => E.indexAddr rfl rfl Tryz.underlying88 Tryz.sz50 rfl (by first | omega | decide)) ?_
      refine D.evP 12 rfl (by kernel_rfl) rfl (fun _ => hs.to) (fun _ => E.move rfl) ?_
      refine D.evP 13 rfl (by kernel_rfl) rfl (fun _ => hs.to) (fun _ => E.move rfl) ?_
      refine D.evP 14 rfl (by kernel_rfl) rfl (fun _ => hs.to) (fun _ => E.indexAddr rfl rfl Tryz.underlying88 Tryz.sz50 rfl (by first | omega | decide)) ?_
      refine D.ev 11 rfl (by kernel_rfl) rfl hs.to (fun _ hS => E.loadRowC rfl Tryz.underlying50 rfl Tryz.sz50 ⟨A2 _ hS, Enc.len _⟩) ?_
      refine D.ev 15 rfl (by kernel_rfl) rfl hs.to (fun _ hS => E.loadRowC rfl Tryz.underlying50 rfl Tryz.sz50 ⟨A1 _ hS, Enc.len _⟩) ?_
      refine D.evP 16 rfl (by kernel_rfl) rfl (fun _ => hs.to) (fun _ => E.indexAddr rfl rfl Tryz.underlying88 Tryz.sz50 rfl (by first | omega | decide)) ?_
      refine D.act 17 rfl (by kernel_rfl) ?_
      refine R.dset (a + l / 4 * 2 - 1 + k) hs (r1) rfl rfl Tryz.sz50 (by omega) ?_
      intro w10a F10a r10a hs
      refine D.backT (by kernel_rfl) ?_
      refine D.evP 18 rfl (by kernel_rfl) rfl (np (by kernel_rfl)) (fun _ => E.indexAddr rfl rfl Tryz.underlying88 Tryz.sz50 rfl (by first | omega | decide)) ?_
      refine D.act 19 rfl (by kernel_rfl) ?_
      refine R.dset (a + ot) hs r10a rfl rfl Tryz.sz50 (by omega) ?_
      intro w10 F10 r10 hs
      refine D.backT (by kernel_rfl) ?_
      refine D.done rfl (by kernel_rfl) ?_
      refine X.keep [(0, _), (1, _), (8, _), (9, _), (10, _), (11, _)] ⟨rfl, rfl, rfl, rfl, rfl, rfl, trivial⟩ ?_
      refine X.blockNormal ?_
      refine X.next ?_
      refine C.region ?_
      refine R.ev rfl (E.move rfl) ?_
      refine R.ev rfl ((E.add rfl rfl (by omega) (by omega)).isI (c := ((a + l / 4 * 2 - 1 + (k + 1) : Nat) : Int)) (by omega)) ?_
      refine R.ev rfl (E.assign rfl) ?_
      refine R.done ?_
      refine X.keep [(0, _), (1, _), (8, _), (9, _), (10, _), (11, _)] ⟨rfl, rfl, rfl, rfl, rfl, rfl, trivial⟩ ?_
      exact X.again (k + 1, xorNext r, _, F10) ⟨rfl, rfl, rfl, rfl, rfl, rfl, trivial⟩ ⟨hnext, by omega, r10, hs⟩ (by show _ - _ < _ - _; omega)
  · refine C.exit ?_
    refine X.thenExit ?_
    refine X.loopExit ?_
    refine X.blockExit ?_
    refine X.bodyNormal ?_
    refine X.ret0 rfl ?_
    rw [show k = 3 by omega] at he
    exact ⟨F1, by rw [he]; exact r1, hs.to⟩
theorem hepdq_any (hf : heCmp K Rs fid fst cps lt) (hm : m ≤ 1000000000) : ∀ (n a b0 lim : Nat) (d : Array HEnt) (F : Hl) (w : World), b0 - a = n → Sat K w (F :: Rs) → heA b m c0 d F → a ≤ b0 → b0 ≤ m → lim ≤ 1000 →
    Ret Tryz.prog 78 #[.slice (some ⟨b, 0, none⟩) m c0, .int .i64 (a : Nat), .int .i64 (b0 : Nat), .int .i64 (lim : Nat), .func (.func fid) fst.toArray cps.toArray] w fun _ w' => ∃ F', heA b m c0 (pdq lt d a b0 lim true true) F' ∧ Sat K w' (F' :: Rs) := by
  intro n
  induction n using Nat.strongRecOn with
  | ind n ih =>
  intro a b0 lim d F w hn hs hr hab hb hlim
  refine Ret.enter (n := 148) (args := [.slice (some ⟨b, 0, none⟩) m c0, .int .i64 (a : Nat), .int .i64 (b0 : Nat), .int .i64 (lim : Nat), .func (.func fid) fst.toArray cps.toArray]) Tryz.func78 rfl rfl ?_
  refine C.keep [(0, _), (1, _), (2, _), (3, _), (4, _)] ⟨rfl, rfl, rfl, rfl, rfl, trivial⟩ ?_
  refine C.seq ?_
  refine C.region ?_
  refine R.ev rfl (E.assign rfl) ?_
  refine R.done ?_
  refine X.keep [(0, _), (1, _), (2, _), (3, _), (4, _), (10, _)] ⟨rfl, rfl, rfl, rfl, rfl, rfl, trivial⟩ ?_
  refine X.next ?_
  refine C.seq ?_
  refine C.region ?_
  refine R.ev rfl (E.assign rfl) ?_
  refine R.done ?_
  refine X.keep [(0, _), (1, _), (2, _), (3, _), (4, _), (10, _), (11, _)] ⟨rfl, rfl, rfl, rfl, rfl, rfl, rfl, trivial⟩ ?_
  refine X.next ?_
  refine C.block ?_
  refine C.loop (T := Nat × Nat × Nat × Bool × Bool × Array HEnt × Hl) [(0, _), (4, _)] (fun (a1, b1, l1, wb, wp, _, _) => [(1, .int .i64 (a1 : Nat)), (2, .int .i64 (b1 : Nat)), (3, .int .i64 (l1 : Nat)), (10, .bool wb), (11, .bool wp)]) (fun (a1, b1, l1, wb, wp, d1, F1) w' => pdq lt d1 a1 b1 l1 wb wp = pdq lt d a b0 lim true true ∧ a1 ≤ b1 ∧ b1 ≤ m ∧ b1 - a1 ≤ b0 - a ∧ l1 ≤ 1000 ∧ heA b m c0 d1 F1 ∧ Sat K w' (F1 :: Rs)) (fun (a1, b1, _) => b1 - a1) ((a, b0, lim, true, true, d, F)) ⟨rfl, rfl, rfl, rfl, rfl, rfl, rfl, trivial⟩ ⟨rfl, hab, hb, by omega, hlim, hr, hs⟩ ?_
  rintro ⟨a1, b1, l1, wb, wp, d1, F1⟩ w1 ⟨he, hab1, hb1, hsm, hl1, r1, hs⟩
  obtain ⟨rr, hR⟩ : ∃ rr, rd lt d1 a1 b1 l1 wb wp = rr := ⟨_, rfl⟩
  have e1 : rr.d1 = if !wb then breakPatterns d1 a1 b1 else d1 := by rw [← hR]; rfl
  have e2 : rr.lim = if !wb then l1 - 1 else l1 := by rw [← hR]; rfl
  have e3 : rr.c = choosePivot lt rr.d1 a1 b1 := by rw [← hR]; rfl
  have e4 : rr.d2 = if rr.c.2 = .decreasing then reverseRange rr.d1 a1 b1 else rr.d1 := by rw [← hR]; rfl
  have e5 : rr.pivot = if rr.c.2 = .decreasing then (b1 - 1) - (rr.c.1 - a1) else rr.c.1 := by rw [← hR]; rfl
  have e6 : rr.hint = if rr.c.2 = .decreasing then Hint.increasing else rr.c.2 := by rw [← hR]; rfl
  have e7 : rr.pi = if wb && wp && rr.hint = .increasing then partialInsertionSort lt rr.d2 a1 b1 else (rr.d2, false) := by rw [← hR]; rfl
  refine C.keep [(0, _), (1, _), (2, _), (3, _), (4, _), (10, _), (11, _)] ⟨rfl, rfl, rfl, rfl, rfl, rfl, rfl, trivial⟩ ?_
  refine C.block ?_
  refine C.seq ?_
  refine C.region ?_
  refine R.ev rfl (E.move rfl) ?_
  refine R.ev rfl (E.move rfl) ?_
  refine R.ev rfl ((E.sub rfl rfl (by omega) (by omega)).isI (c := ((b1 - a1 : Nat) : Int)) (by omega)) ?_
  refine R.ev rfl (E.assign rfl) ?_
  refine R.done ?_
  refine X.keep [(0, _), (1, _), (2, _), (3, _), (4, _), (10, _), (11, _), (12, _)] ⟨rfl, rfl, rfl, rfl, rfl, rfl, rfl, rfl, trivial⟩ ?_
  refine X.next ?_
  refine C.seq ?_
  refine C.seq ?_
  refine C.region ?_
  refine R.ev rfl (E.move rfl) ?_
  refine R.ev rfl (E.leq rfl rfl) ?_
  refine R.done ?_
  refine X.keep [(0, _), (1, _), (2, _), (3, _), (4, _), (10, _), (11, _), (12, _), (25, _)] ⟨rfl, rfl, rfl, rfl, rfl, rfl, rfl, rfl, rfl, trivial⟩ ?_
  refine X.next ?_
  refine C.cdec rfl (fun h25 => ?_) (fun h25 => ?_)
  · refine C.seq ?_
    refine C.region ?_
    refine R.ev rfl (E.move rfl) ?_
    refine R.ev rfl (E.move rfl) ?_
    refine R.ev rfl (E.move rfl) ?_
    refine R.ev rfl (E.move rfl) ?_
    refine R.call ⟨_, _, Tryz.func87, rfl, by kernel_rfl⟩ rfl rfl (heins_any hf a1 b1 hs r1 (by omega) (by omega) hm) ?_
    rintro _ w4 ⟨F4, r4, hs⟩
    refine R.done ?_
    refine X.keep [] trivial ?_
    refine X.next ?_
    refine C.ret ?_
    refine X.thenRet ?_
    refine X.blockRet ?_
    refine X.loopRet ?_
    refine X.blockRet ?_
    refine X.ret0 rfl ?_
    exact ⟨F4, by rw [← he, pdq_small (by omega)]; exact r4, hs⟩
  · have h12 : ¬ b1 - a1 ≤ 12 := by omega
    refine C.skip ?_
    refine X.next ?_
    refine C.seq ?_
    refine C.seq ?_
    refine C.region ?_
    refine R.ev rfl (E.move rfl) ?_
    refine R.ev rfl (E.eql rfl rfl) ?_
    refine R.done ?_
    refine X.keep [(0, _), (1, _), (2, _), (3, _), (4, _), (10, _), (11, _), (12, _), (32, _)] ⟨rfl, rfl, rfl, rfl, rfl, rfl, rfl, rfl, rfl, trivial⟩ ?_
    refine X.next ?_
    refine C.cdec rfl (fun h32 => ?_) (fun h32 => ?_)
    · refine C.seq ?_
      refine C.region ?_
      refine R.ev rfl (E.move rfl) ?_
      refine R.ev rfl (E.move rfl) ?_
      refine R.ev rfl (E.move rfl) ?_
      refine R.ev rfl (E.move rfl) ?_
      refine R.call ⟨_, _, Tryz.func88, rfl, by kernel_rfl⟩ rfl rfl (heheap_any hf a1 b1 hs r1 (by omega) (by omega) hm) ?_
      rintro _ w6 ⟨F6, r6, hs⟩
      refine R.done ?_
      refine X.keep [] trivial ?_
      refine X.next ?_
      refine C.ret ?_
      refine X.thenRet ?_
      refine X.blockRet ?_
      refine X.loopRet ?_
      refine X.blockRet ?_
      refine X.ret0 rfl ?_
      exact ⟨F6, by rw [← he, pdq_heap h12 (by omega)]; exact r6, hs⟩
    · have hl0 : ¬ l1 = 0 := by omega
      refine C.skip ?_
      refine X.next ?_
      refine C.seq ?_
      refine C.seq ?_
      refine C.region ?_
      have hdone := pdq_done (lt := lt) (d := d1) (a := a1) (b := b1) (limit := l1) (wb := wb) (wp := wp) h12 hl0
      have heq := pdq_eq (lt := lt) (d := d1) (a := a1) (b := b1) (limit := l1) (wb := wb) (wp := wp) h12 hl0
      have hleft := pdq_left (lt := lt) (d := d1) (a := a1) (b := b1) (limit := l1) (wb := wb) (wp := wp) h12 hl0
      have hright := pdq_right (lt := lt) (d := d1) (a := a1) (b := b1) (limit := l1) (wb := wb) (wp := wp) h12 hl0
      rw [hR, he] at hdone heq hleft hright
      refine R.ev rfl (E.move rfl) ?_
      refine R.ev rfl ((E.not rfl).isB (c := !wb) rfl) ?_
      refine R.done ?_
      refine X.keep [(0, _), (1, _), (2, _), (3, _), (4, _), (10, _), (11, _), (12, _), (39, _)] ⟨rfl, rfl, rfl, rfl, rfl, rfl, rfl, rfl, rfl, trivial⟩ ?_
      refine X.next ?_
      refine C.cut [(0, _), (1, _), (2, _), (4, _), (10, _), (11, _), (12, _)] (fun (_ : Hl) => [(3, .int .i64 (rr.lim : Nat))]) (fun F2 w' => heA b m c0 rr.d1 F2 ∧ Sat K w' (F2 :: Rs)) ⟨rfl, rfl, rfl, rfl, rfl, rfl, rfl, trivial⟩ ?_ ?_
      · refine C.cbool rfl (fun h39 => ?_) (fun h39 => ?_)
        · refine C.seq ?_
          refine C.region ?_
          refine R.ev rfl (E.move rfl) ?_
          refine R.ev rfl (E.move rfl) ?_
          refine R.ev rfl (E.move rfl) ?_
          refine R.ev rfl (E.move rfl) ?_
          refine R.call ⟨_, _, Tryz.func89, rfl, by kernel_rfl⟩ rfl rfl (hebrk_any a1 b1 _ hs r1 (by omega) (by omega) hm) ?_
          rintro _ w8 ⟨F8, r8, hs⟩
          refine R.done ?_
          refine X.keep [(0, _), (1, _), (2, _), (3, _), (4, _), (10, _), (11, _), (12, _)] ⟨rfl, rfl, rfl, rfl, rfl, rfl, rfl, rfl, trivial⟩ ?_
          refine X.next ?_
          refine C.region ?_
          refine R.ev rfl (E.move rfl) ?_
          refine R.ev rfl ((E.sub rfl rfl (by omega) (by omega)).isI (c := ((l1 - 1 : Nat) : Int)) (by omega)) ?_
          refine R.ev rfl (E.assign rfl) ?_
          refine R.done ?_
          refine X.keep [(0, _), (1, _), (2, _), (3, _), (4, _), (10, _), (11, _), (12, _)] ⟨rfl, rfl, rfl, rfl, rfl, rfl, rfl, rfl, trivial⟩ ?_
          first
            | (rw [h39, if_pos rfl] at e1 e2; rw [e2]; exact X.cut (F8) ⟨lkV rfl rfl, rfl, rfl, rfl, rfl, rfl, rfl, rfl, trivial⟩ ⟨by rw [e1]; exact r8, hs⟩)
            | (rw [h39, if_neg Bool.false_ne_true] at e1 e2; rw [e2]; exact X.cut (F1) ⟨lkV rfl rfl, rfl, rfl, rfl, rfl, rfl, rfl, rfl, trivial⟩ ⟨by rw [e1]; exact r1, hs⟩)
        · refine C.skip ?_
          first
            | (rw [h39, if_pos rfl] at e1 e2; rw [e2]; exact X.cut (F8) ⟨lkV rfl rfl, rfl, rfl, rfl, rfl, rfl, rfl, rfl, trivial⟩ ⟨by rw [e1]; exact r8, hs⟩)
            | (rw [h39, if_neg Bool.false_ne_true] at e1 e2; rw [e2]; exact X.cut (F1) ⟨lkV rfl rfl, rfl, rfl, rfl, rfl, rfl, rfl, rfl, trivial⟩ ⟨by rw [e1]; exact r1, hs⟩)
      · rintro F2 w8 ⟨r2, hs⟩
        refine X.keep [(0, _), (1, _), (2, _), (3, _), (4, _), (10, _), (11, _), (12, _)] ⟨rfl, rfl, rfl, rfl, rfl, rfl, rfl, rfl, trivial⟩ ?_
        refine X.next ?_
        refine C.seq ?_
        refine C.region ?_
        have hlim2 : rr.lim ≤ 1000 := by rw [e2]; split <;> omega
        have hpv := choosePivot_holds lt rr.d1 a1 b1 (by omega)
        refine R.ev rfl (E.move rfl) ?_
        refine R.ev rfl (E.move rfl) ?_
        refine R.ev rfl (E.move rfl) ?_
        refine R.ev rfl (E.move rfl) ?_
        refine R.call ⟨_, _, Tryz.func90, rfl, by kernel_rfl⟩ rfl rfl (hepiv_any hf a1 b1 hs r2 (by omega) (by omega) hm) ?_
        rintro _ w10 ⟨rfl, hs⟩
        rw [← e3] at hpv ⊢
        have hpr : a1 ≤ rr.pivot ∧ rr.pivot < b1 := by rw [e5]; split <;> omega
        refine R.ev rfl (E.move rfl) ?_
        refine R.ev rfl (E.extract rfl rfl) ?_
        refine R.ev rfl (E.extract rfl rfl) ?_
        refine R.ev rfl (E.assign rfl) ?_
        refine R.ev rfl (E.assign rfl) ?_
        refine R.done ?_
        refine X.keep [(0, _), (1, _), (2, _), (3, _), (4, _), (10, _), (11, _), (12, _), (13, _), (14, _)] ⟨rfl, rfl, rfl, rfl, rfl, rfl, rfl, rfl, rfl, rfl, trivial⟩ ?_
        refine X.next ?_
        refine C.seq ?_
        refine C.seq ?_
        refine C.region ?_
        refine R.ev rfl (E.move rfl) ?_
        refine R.ev rfl ((E.eql rfl rfl).isB (c := decide (rr.c.2 = Hint.decreasing)) (by cases rr.c.2 <;> rfl)) ?_
        refine R.done ?_
        refine X.keep [(0, _), (1, _), (2, _), (3, _), (4, _), (10, _), (11, _), (12, _), (13, _), (14, _), (56, _)] ⟨rfl, rfl, rfl, rfl, rfl, rfl, rfl, rfl, rfl, rfl, rfl, trivial⟩ ?_
        refine X.next ?_
        refine C.cut [(0, _), (1, _), (2, _), (3, _), (4, _), (10, _), (11, _), (12, _)] (fun (_ : Hl) => [(13, .int .i64 (rr.pivot : Nat)), (14, .int .i64 (hintCode rr.hint))]) (fun F3 w' => heA b m c0 rr.d2 F3 ∧ Sat K w' (F3 :: Rs)) ⟨rfl, rfl, rfl, rfl, rfl, rfl, rfl, rfl, trivial⟩ ?_ ?_
        · refine C.cdec rfl (fun h56 => ?_) (fun h56 => ?_)
          · refine C.seq ?_
            refine C.region ?_
            refine R.ev rfl (E.move rfl) ?_
            refine R.ev rfl (E.move rfl) ?_
            refine R.ev rfl (E.move rfl) ?_
            refine R.ev rfl (E.move rfl) ?_
            refine R.call ⟨_, _, Tryz.func91, rfl, by kernel_rfl⟩ rfl rfl (herev_any a1 b1 _ hs r2 (by omega) (by omega) hm) ?_
            rintro _ w12 ⟨F12, r12, hs⟩
            refine R.done ?_
            refine X.keep [(0, _), (1, _), (2, _), (3, _), (4, _), (10, _), (11, _), (12, _), (13, _)] ⟨rfl, rfl, rfl, rfl, rfl, rfl, rfl, rfl, rfl, trivial⟩ ?_
            refine X.next ?_
            refine C.seq ?_
            refine C.region ?_
            refine R.ev rfl (E.move rfl) ?_
            refine R.ev rfl ((E.sub rfl rfl (by omega) (by omega)).isI (c := ((b1 - 1 : Nat) : Int)) (by omega)) ?_
            refine R.ev rfl (E.move rfl) ?_
            refine R.ev rfl (E.move rfl) ?_
            refine R.ev rfl ((E.sub rfl rfl (by omega) (by omega)).isI (c := ((rr.c.1 - a1 : Nat) : Int)) (by omega)) ?_
            refine R.ev rfl ((E.sub rfl rfl (by omega) (by omega)).isI (c := ((b1 - 1 - (rr.c.1 - a1) : Nat) : Int)) (by omega)) ?_
            refine R.ev rfl (E.assign rfl) ?_
            refine R.done ?_
            refine X.keep [(0, _), (1, _), (2, _), (3, _), (4, _), (10, _), (11, _), (12, _), (13, _)] ⟨rfl, rfl, rfl, rfl, rfl, rfl, rfl, rfl, rfl, trivial⟩ ?_
            refine X.next ?_
            refine C.region ?_
            refine R.ev rfl (E.assign rfl) ?_
            refine R.done ?_
            refine X.keep [(0, _), (1, _), (2, _), (3, _), (4, _), (10, _), (11, _), (12, _), (13, _), (14, _)] ⟨rfl, rfl, rfl, rfl, rfl, rfl, rfl, rfl, rfl, rfl, trivial⟩ ?_
            first
              | (rw [if_pos h56] at e4 e5 e6; rw [e5, e6]; exact X.cut (F12) ⟨lkV rfl rfl, lkV rfl rfl, rfl, rfl, rfl, rfl, rfl, rfl, rfl, rfl, trivial⟩ ⟨by rw [e4]; exact r12, hs⟩)
              | (rw [if_neg h56] at e4 e5 e6; rw [e5, e6]; exact X.cut (F2) ⟨lkV rfl rfl, lkV rfl rfl, rfl, rfl, rfl, rfl, rfl, rfl, rfl, rfl, trivial⟩ ⟨by rw [e4]; exact r2, hs⟩)
          · refine C.skip ?_
            first
              | (rw [if_pos h56] at e4 e5 e6; rw [e5, e6]; exact X.cut (F12) ⟨lkV rfl rfl, lkV rfl rfl, rfl, rfl, rfl, rfl, rfl, rfl, rfl, rfl, trivial⟩ ⟨by rw [e4]; exact r12, hs⟩)
              | (rw [if_neg h56] at e4 e5 e6; rw [e5, e6]; exact X.cut (F2) ⟨lkV rfl rfl, lkV rfl rfl, rfl, rfl, rfl, rfl, rfl, rfl, rfl, rfl, trivial⟩ ⟨by rw [e4]; exact r2, hs⟩)
        · rintro F3 w14 ⟨r3, hs⟩
          refine X.keep [(0, _), (1, _), (2, _), (3, _), (4, _), (10, _), (11, _), (12, _), (13, _), (14, _)] ⟨rfl, rfl, rfl, rfl, rfl, rfl, rfl, rfl, rfl, rfl, trivial⟩ ?_
          refine X.next ?_
          refine C.seq ?_
          refine C.seq ?_
          refine C.cut [(0, _), (1, _), (2, _), (3, _), (4, _), (10, _), (11, _), (12, _), (13, _)] (fun (_ : Unit) => [(75, .bool (wb && wp && decide (rr.hint = Hint.increasing)))]) (fun _ w' => Sat K w' (F3 :: Rs)) ⟨rfl, rfl, rfl, rfl, rfl, rfl, rfl, rfl, rfl, trivial⟩ ?_ ?_
          · refine C.region ?_
            refine R.ev rfl (E.move rfl) ?_
            refine R.ev rfl (E.move rfl) ?_
            refine R.split 69 rfl (fun h69 => ?_) (fun h69 => ?_)
            · refine R.gyes rfl rfl ?_
              refine R.ev rfl (E.move rfl) ?_
              refine R.ev rfl (E.pickT rfl rfl) ?_
              refine R.ev rfl (E.move rfl) ?_
              refine R.split 72 rfl (fun h72 => ?_) (fun h72 => ?_)
              · refine R.gyes rfl rfl ?_
                refine R.ev rfl (E.move rfl) ?_
                refine R.gyes rfl rfl ?_
                refine R.ev rfl ((E.eql rfl rfl).isB (c := decide (rr.hint = Hint.increasing)) (by cases rr.hint <;> rfl)) ?_
                refine R.ev rfl (E.pickT rfl rfl) ?_
                refine R.done ?_
                refine X.keep [(0, _), (1, _), (2, _), (3, _), (4, _), (10, _), (11, _), (12, _), (13, _), (75, _)] ⟨rfl, rfl, rfl, rfl, rfl, rfl, rfl, rfl, rfl, rfl, trivial⟩ ?_
                refine X.cut (()) ⟨lkV rfl ?_, rfl, rfl, rfl, rfl, rfl, rfl, rfl, rfl, rfl, trivial⟩ ?_
                · first
                    | (rw [h69, h72]; rfl)
                    | (rw [h69]; rfl)
                exact hs
              · refine R.gskip rfl rfl rfl ?_
                refine R.gskip rfl rfl rfl ?_
                refine R.ev rfl (E.pickF rfl rfl) ?_
                refine R.done ?_
                refine X.keep [(0, _), (1, _), (2, _), (3, _), (4, _), (10, _), (11, _), (12, _), (13, _), (75, _)] ⟨rfl, rfl, rfl, rfl, rfl, rfl, rfl, rfl, rfl, rfl, trivial⟩ ?_
                refine X.cut (()) ⟨lkV rfl ?_, rfl, rfl, rfl, rfl, rfl, rfl, rfl, rfl, rfl, trivial⟩ ?_
                · first
                    | (rw [h69, h72]; rfl)
                    | (rw [h69]; rfl)
                exact hs
            · refine R.gskip rfl rfl rfl ?_
              refine R.ev rfl (E.pickF rfl rfl) ?_
              refine R.ev rfl (E.move rfl) ?_
              refine R.gskip rfl rfl rfl ?_
              refine R.gskip rfl rfl rfl ?_
              refine R.ev rfl (E.pickF rfl rfl) ?_
              refine R.done ?_
              refine X.keep [(0, _), (1, _), (2, _), (3, _), (4, _), (10, _), (11, _), (12, _), (13, _), (75, _)] ⟨rfl, rfl, rfl, rfl, rfl, rfl, rfl, rfl, rfl, rfl, trivial⟩ ?_
              refine X.cut (()) ⟨lkV rfl ?_, rfl, rfl, rfl, rfl, rfl, rfl, rfl, rfl, rfl, trivial⟩ ?_
              · first
                  | (rw [h69, h72]; rfl)
                  | (rw [h69]; rfl)
              exact hs
          · rintro _ w15 hs
            refine X.keep [(0, _), (1, _), (2, _), (3, _), (4, _), (10, _), (11, _), (12, _), (13, _), (75, _)] ⟨rfl, rfl, rfl, rfl, rfl, rfl, rfl, rfl, rfl, rfl, trivial⟩ ?_
            refine X.next ?_
            refine C.cut [(0, _), (1, _), (2, _), (3, _), (4, _), (10, _), (11, _), (12, _), (13, _)] (fun (_ : Hl) => []) (fun F4 w' => rr.pi.2 = false ∧ heA b m c0 rr.pi.1 F4 ∧ Sat K w' (F4 :: Rs)) ⟨rfl, rfl, rfl, rfl, rfl, rfl, rfl, rfl, rfl, trivial⟩ ?_ ?_
            · refine C.cbool rfl (fun h75 => ?_) (fun h75 => ?_)
              · rw [if_pos h75] at e7
                refine C.seq ?_
                refine C.region ?_
                refine R.ev rfl (E.move rfl) ?_
                refine R.ev rfl (E.move rfl) ?_
                refine R.ev rfl (E.move rfl) ?_
                refine R.ev rfl (E.move rfl) ?_
                refine R.call ⟨_, _, Tryz.func92, rfl, by kernel_rfl⟩ rfl rfl (hepins_any hf a1 b1 hs r3 (by omega) (by omega) hm) ?_
                rintro _ w16 ⟨rfl, F16, r16, hs⟩
                rw [← e7] at r16 ⊢
                refine R.done ?_
                refine X.keep [(0, _), (1, _), (2, _), (3, _), (4, _), (10, _), (11, _), (12, _), (13, _), (80, _)] ⟨rfl, rfl, rfl, rfl, rfl, rfl, rfl, rfl, rfl, rfl, trivial⟩ ?_
                refine X.next ?_
                refine C.cbool rfl (fun h80 => ?_) (fun h80 => ?_)
                · refine C.ret ?_
                  refine X.cutRet ?_
                  refine X.thenRet ?_
                  refine X.blockRet ?_
                  refine X.loopRet ?_
                  refine X.blockRet ?_
                  refine X.ret0 rfl ?_
                  exact ⟨F16, by rw [hdone h80]; exact r16, hs⟩
                · refine C.skip ?_
                  first
                    | exact X.cut (F16) ⟨rfl, rfl, rfl, rfl, rfl, rfl, rfl, rfl, rfl, trivial⟩ ⟨h80, r16, hs⟩
                    | exact X.cut (F3) ⟨rfl, rfl, rfl, rfl, rfl, rfl, rfl, rfl, rfl, trivial⟩ ⟨by rw [e7], by rw [e7]; exact r3, hs⟩
              · rw [if_neg (by rw [h75]; exact Bool.false_ne_true)] at e7
                refine C.skip ?_
                first
                  | exact X.cut (F16) ⟨rfl, rfl, rfl, rfl, rfl, rfl, rfl, rfl, rfl, trivial⟩ ⟨h80, r16, hs⟩
                  | exact X.cut (F3) ⟨rfl, rfl, rfl, rfl, rfl, rfl, rfl, rfl, rfl, trivial⟩ ⟨by rw [e7], by rw [e7]; exact r3, hs⟩
            · rintro F4 w16 ⟨hp2, r4, hs⟩
              refine X.keep [(0, _), (1, _), (2, _), (3, _), (4, _), (10, _), (11, _), (12, _), (13, _)] ⟨rfl, rfl, rfl, rfl, rfl, rfl, rfl, rfl, rfl, trivial⟩ ?_
              refine X.next ?_
              refine C.seq ?_
              refine C.seq ?_
              refine C.cut [(0, _), (1, _), (2, _), (3, _), (4, _), (10, _), (11, _), (12, _), (13, _)] (fun (_ : Unit) => [(97, .bool (decide ((0 : Int) < ((a1 : Nat) : Int)) && !lt rr.pi.1[a1 - 1]! rr.pi.1[rr.pivot]!))]) (fun _ w' => Sat K w' (F4 :: Rs)) ⟨rfl, rfl, rfl, rfl, rfl, rfl, rfl, rfl, rfl, trivial⟩ ?_ ?_
              · refine C.drawn (SatS hs) ([8, 12], [0, 1, 2, 3, 4, 5, 6, 7, 9, 10, 11, 14, 15, 16]) (by kernel_rfl) ?_
                have hs := hs.drew
                refine D.evP 0 rfl (by kernel_rfl) rfl (fun _ => hs.to) (fun _ => E.move rfl) ?_
                refine D.evP 1 rfl (by kernel_rfl) rfl (fun _ => hs.to) (fun _ => E.gtr rfl rfl) ?_
                refine D.evP 2 rfl (by kernel_rfl) rfl (fun _ => hs.to) (fun _ => E.move rfl) ?_
                refine D.split 83 rfl (fun h83 => ?_) (fun h83 => ?_)
                · have h83' := of_decide_eq_true h83
                  have A1 := r4.el (K := K) (Hs := F4 :: Rs) (i := a1 - 1) (by omega)
                  have A2 := r4.el (K := K) (Hs := F4 :: Rs) (i := rr.pivot) (by omega)
                  refine D.evPG 3 rfl (by kernel_rfl) rfl rfl rfl (fun _ => hs.to) (fun _ => E.move rfl) ?_
                  refine D.evPG 4 rfl (by kernel_rfl) rfl rfl rfl (fun _ => hs.to) (fun _ => E.move rfl) ?_
                  refine D.evPG 5 rfl (by kernel_rfl) rfl rfl rfl (fun _ => hs.to) (fun _ => E.move rfl) ?_
                  refine D.evPG 6 rfl (by kernel_rfl) rfl rfl rfl (fun _ => hs.to) (fun _ => (E.sub rfl rfl (by omega) (by omega)).isI (c := ((a1 - 1 : Nat) : Int)) (by omega)) ?_
                  refine D.evPG 7 rfl (by kernel_rfl) rfl rfl rfl (fun _ => hs.to) (fun _ => E.indexAddr rfl rfl Tryz.underlying88 Tryz.sz50 rfl (by first | omega | decide)) ?_
                  refine D.evPG 9 rfl (by kernel_rfl) rfl rfl rfl (fun _ => hs.to) (fun _ => E.move rfl) ?_
                  refine D.evPG 10 rfl (by kernel_rfl) rfl rfl rfl (fun _ => hs.to) (fun _ => E.move rfl) ?_
                  refine D.evPG 11 rfl (by kernel_rfl) rfl rfl rfl (fun _ => hs.to) (fun _ => E.indexAddr rfl rfl Tryz.underlying88 Tryz.sz50 rfl (by first | omega | decide)) ?_
                  refine D.evG 8 rfl (by kernel_rfl) rfl rfl rfl hs.to (fun _ hS => E.loadRowC rfl Tryz.underlying50 rfl Tryz.sz50 ⟨A1 _ hS, Enc.len _⟩) ?_
                  refine D.evG 12 rfl (by kernel_rfl) rfl rfl rfl hs.to (fun _ hS => E.loadRowC rfl Tryz.underlying50 rfl Tryz.sz50 ⟨A2 _ hS, Enc.len _⟩) ?_
                  refine D.act 13 rfl (by kernel_rfl) ?_
                  refine R.gyes rfl rfl ?_
                  refine R.callV hf.1 rfl rfl rfl (hf.2 _ _ _ _ inferInstance hs) ?_
                  rintro _ w17 ⟨cc17, rfl, hcc17, hs⟩
                  refine D.backT (by kernel_rfl) ?_
                  refine D.evPG 14 rfl (by kernel_rfl) rfl rfl rfl (np (by kernel_rfl)) (fun _ => (E.lss rfl rfl).isB (c := lt rr.pi.1[a1 - 1]! rr.pi.1[rr.pivot]!) hcc17) ?_
                  refine D.evPG 15 rfl (by kernel_rfl) rfl rfl rfl (np (by kernel_rfl)) (fun _ => (E.not rfl).isB (c := !(lt rr.pi.1[a1 - 1]! rr.pi.1[rr.pivot]!)) rfl) ?_
                  refine D.evP 16 rfl (by kernel_rfl) rfl (np (by kernel_rfl)) (fun _ => E.pickT rfl rfl) ?_
                  refine D.done rfl (by kernel_rfl) ?_
                  refine X.keep [(0, _), (1, _), (2, _), (3, _), (4, _), (10, _), (11, _), (12, _), (13, _), (97, _)] ⟨rfl, rfl, rfl, rfl, rfl, rfl, rfl, rfl, rfl, rfl, trivial⟩ ?_
                  refine X.cut (()) ⟨lkV rfl ?_, rfl, rfl, rfl, rfl, rfl, rfl, rfl, rfl, rfl, trivial⟩ ?_
                  · first | exact gT h83 | exact gF h83
                  exact hs
                · refine D.skipP 3 rfl (by kernel_rfl) rfl rfl rfl (fun _ => hs.to) ?_
                  refine D.skipP 4 rfl (by kernel_rfl) rfl rfl rfl (fun _ => hs.to) ?_
                  refine D.skipP 5 rfl (by kernel_rfl) rfl rfl rfl (fun _ => hs.to) ?_
                  refine D.skipP 6 rfl (by kernel_rfl) rfl rfl rfl (fun _ => hs.to) ?_
                  refine D.skipP 7 rfl (by kernel_rfl) rfl rfl rfl (fun _ => hs.to) ?_
                  refine D.skipP 9 rfl (by kernel_rfl) rfl rfl rfl (fun _ => hs.to) ?_
                  refine D.skipP 10 rfl (by kernel_rfl) rfl rfl rfl (fun _ => hs.to) ?_
                  refine D.skipP 11 rfl (by kernel_rfl) rfl rfl rfl (fun _ => hs.to) ?_
                  refine D.skip 8 rfl (by kernel_rfl) rfl rfl rfl hs.to ?_
                  refine D.skip 12 rfl (by kernel_rfl) rfl rfl rfl hs.to ?_
                  refine D.act 13 rfl (by kernel_rfl) ?_
                  refine R.gskip rfl rfl rfl ?_
                  refine D.backT (by kernel_rfl) ?_
                  refine D.skipP 14 rfl (by kernel_rfl) rfl rfl rfl (np (by kernel_rfl)) ?_
                  refine D.skipP 15 rfl (by kernel_rfl) rfl rfl rfl (np (by kernel_rfl)) ?_
                  refine D.evP 16 rfl (by kernel_rfl) rfl (np (by kernel_rfl)) (fun _ => E.pickF rfl rfl) ?_
                  refine D.done rfl (by kernel_rfl) ?_
                  refine X.keep [(0, _), (1, _), (2, _), (3, _), (4, _), (10, _), (11, _), (12, _), (13, _), (97, _)] ⟨rfl, rfl, rfl, rfl, rfl, rfl, rfl, rfl, rfl, rfl, trivial⟩ ?_
                  refine X.cut (()) ⟨lkV rfl ?_, rfl, rfl, rfl, rfl, rfl, rfl, rfl, rfl, rfl, trivial⟩ ?_
                  · first | exact gT h83 | exact gF h83
                  exact hs
              · rintro _ w17 hs
                refine X.keep [(0, _), (1, _), (2, _), (3, _), (4, _), (10, _), (11, _), (12, _), (13, _), (97, _)] ⟨rfl, rfl, rfl, rfl, rfl, rfl, rfl, rfl, rfl, rfl, trivial⟩ ?_
                refine X.next ?_
                refine C.cbool rfl (fun h97 => ?_) (fun h97 => ?_)
                · refine C.seq ?_
                  refine C.region ?_
                  have hsz := r4.len
                  have hh97 : (decide (a1 > 0) && !lt rr.pi.1[a1 - 1]! rr.pi.1[rr.pivot]!) = true := by rw [← h97]; congr 1; rw [decide_eq_decide]; omega
                  have hrg := partEq_range (lt := lt) (d := rr.pi.1) hpr.1 hpr.2 (by omega)
                  have hgo := heq hp2 hh97 hrg
                  refine R.ev rfl (E.move rfl) ?_
                  refine R.ev rfl (E.move rfl) ?_
                  refine R.ev rfl (E.move rfl) ?_
                  refine R.ev rfl (E.move rfl) ?_
                  refine R.ev rfl (E.move rfl) ?_
                  refine R.call ⟨_, _, Tryz.func93, rfl, by kernel_rfl⟩ rfl rfl (hepartEq_any hf a1 b1 rr.pivot hs r4 hpr.1 hpr.2 (by omega) hm) ?_
                  rintro _ w18 ⟨rfl, F18, r18, hs⟩
                  refine R.ev rfl (E.assign rfl) ?_
                  refine R.done ?_
                  refine X.keep [(0, _), (2, _), (3, _), (4, _), (10, _), (11, _), (15, _)] ⟨rfl, rfl, rfl, rfl, rfl, rfl, rfl, trivial⟩ ?_
                  refine X.next ?_
                  refine C.seq ?_
                  refine C.region ?_
                  refine R.ev rfl (E.move rfl) ?_
                  refine R.ev rfl (E.assign rfl) ?_
                  refine R.done ?_
                  refine X.keep [(0, _), (1, _), (2, _), (3, _), (4, _), (10, _), (11, _)] ⟨rfl, rfl, rfl, rfl, rfl, rfl, rfl, trivial⟩ ?_
                  refine X.next ?_
                  refine C.exit ?_
                  refine X.thenExit ?_
                  refine X.blockExit ?_
                  first
                    | exact X.again (mid + 1, b1, rr.lim, _, ap, _, F26) ⟨rfl, rfl, rfl, rfl, rfl, rfl, rfl, trivial⟩ ⟨(hgoL (by omega)).symm, by omega, by omega, by omega, hlim2, r26, hs⟩ (by show _ - _ < _ - _; omega)
                    | exact X.again (a1, mid, rr.lim, _, ap, _, F29) ⟨rfl, rfl, rfl, rfl, rfl, rfl, rfl, trivial⟩ ⟨(hgoR (by omega)).symm, by omega, by omega, by omega, hlim2, r29, hs⟩ (by show _ - _ < _ - _; omega)
                    | exact X.again (_, b1, rr.lim, wb, wp, _, F18) ⟨rfl, rfl, rfl, rfl, rfl, rfl, rfl, trivial⟩ ⟨hgo.symm, by omega, by omega, by omega, hlim2, r18, hs⟩ (by show _ - _ < _ - _; omega)
                · refine C.skip ?_
                  refine X.next ?_
                  refine C.seq ?_
                  refine C.region ?_
                  have hsz := r4.len
                  have hh97 : (decide (a1 > 0) && !lt rr.pi.1[a1 - 1]! rr.pi.1[rr.pivot]!) = false := by rw [← h97]; congr 1; rw [decide_eq_decide]; omega
                  have hrg := part_range (lt := lt) (d := rr.pi.1) hpr.1 hpr.2 (by omega)
                  have hgoL := hleft hp2 hh97 hrg
                  have hgoR := hright hp2 hh97 hrg
                  refine R.ev rfl (E.move rfl) ?_
                  refine R.ev rfl (E.move rfl) ?_
                  refine R.ev rfl (E.move rfl) ?_
                  refine R.ev rfl (E.move rfl) ?_
                  refine R.ev rfl (E.move rfl) ?_
                  refine R.call ⟨_, _, Tryz.func94, rfl, by kernel_rfl⟩ rfl rfl (hepart_any hf a1 b1 rr.pivot hs r4 hpr.1 hpr.2 (by omega) hm) ?_
                  rintro _ w20 ⟨rfl, F20, r20, hs⟩
                  generalize hmid : (partition lt rr.pi.1 a1 b1 rr.pivot).1 = mid at hrg hgoL hgoR
                  generalize hap : (partition lt rr.pi.1 a1 b1 rr.pivot).2.1 = ap at hgoL hgoR
                  generalize hd4 : (partition lt rr.pi.1 a1 b1 rr.pivot).2.2 = d4 at hgoL hgoR r20
                  refine R.ev rfl (E.move rfl) ?_
                  refine R.ev rfl (E.extract rfl rfl) ?_
                  refine R.ev rfl (E.extract rfl rfl) ?_
                  refine R.ev rfl (E.assign rfl) ?_
                  refine R.ev rfl (E.assign rfl) ?_
                  refine R.done ?_
                  refine X.keep [(0, _), (1, _), (2, _), (3, _), (4, _), (12, _), (16, _), (17, _)] ⟨rfl, rfl, rfl, rfl, rfl, rfl, rfl, rfl, trivial⟩ ?_
                  refine X.next ?_
                  refine C.seq ?_
                  refine C.region ?_
                  refine R.ev rfl (E.move rfl) ?_
                  refine R.ev rfl (E.assign rfl) ?_
                  refine R.done ?_
                  refine X.keep [(0, _), (1, _), (2, _), (3, _), (4, _), (11, _), (12, _), (16, _)] ⟨rfl, rfl, rfl, rfl, rfl, rfl, rfl, rfl, trivial⟩ ?_
                  refine X.next ?_
                  refine C.seq ?_
                  refine C.region ?_
                  refine R.ev rfl (E.move rfl) ?_
                  refine R.ev rfl (E.move rfl) ?_
                  refine R.ev rfl ((E.sub rfl rfl (by omega) (by omega)).isI (c := ((mid - a1 : Nat) : Int)) (by omega)) ?_
                  refine R.ev rfl (E.move rfl) ?_
                  refine R.ev rfl (E.move rfl) ?_
                  refine R.ev rfl ((E.sub rfl rfl (by omega) (by omega)).isI (c := ((b1 - mid : Nat) : Int)) (by omega)) ?_
                  refine R.ev rfl (E.assign rfl) ?_
                  refine R.ev rfl (E.assign rfl) ?_
                  refine R.done ?_
                  refine X.keep [(0, _), (1, _), (2, _), (3, _), (4, _), (11, _), (12, _), (16, _), (18, _), (19, _)] ⟨rfl, rfl, rfl, rfl, rfl, rfl, rfl, rfl, rfl, rfl, trivial⟩ ?_
                  refine X.next ?_
                  refine C.seq ?_
                  refine C.region ?_
                  refine R.ev rfl (E.move rfl) ?_
                  refine R.ev rfl ((E.quo rfl rfl (by omega) (by omega) (by omega)).isI (c := (((b1 - a1) / 8 : Nat) : Int)) (by omega)) ?_
                  refine R.ev rfl (E.assign rfl) ?_
                  refine R.done ?_
                  refine X.keep [(0, _), (1, _), (2, _), (3, _), (4, _), (11, _), (16, _), (18, _), (19, _), (20, _)] ⟨rfl, rfl, rfl, rfl, rfl, rfl, rfl, rfl, rfl, rfl, trivial⟩ ?_
                  refine X.next ?_
                  refine C.seq ?_
                  refine C.region ?_
                  refine R.ev rfl (E.move rfl) ?_
                  refine R.ev rfl (E.move rfl) ?_
                  refine R.ev rfl (E.lss rfl rfl) ?_
                  refine R.done ?_
                  refine X.keep [(0, _), (1, _), (2, _), (3, _), (4, _), (11, _), (16, _), (18, _), (19, _), (20, _), (125, _)] ⟨rfl, rfl, rfl, rfl, rfl, rfl, rfl, rfl, rfl, rfl, rfl, trivial⟩ ?_
                  refine X.next ?_
                  refine C.cdec rfl (fun h125 => ?_) (fun h125 => ?_)
                  · refine C.seq ?_
                    refine C.region ?_
                    refine R.ev rfl (E.move rfl) ?_
                    refine R.ev rfl (E.move rfl) ?_
                    refine R.ev rfl ((E.geq rfl rfl).isB (c := decide (mid - a1 ≥ (b1 - a1) / 8)) (by rw [decide_eq_decide]; omega)) ?_
                    refine R.ev rfl (E.assign rfl) ?_
                    refine R.done ?_
                    refine X.keep [(0, _), (1, _), (2, _), (3, _), (4, _), (10, _), (11, _), (16, _)] ⟨rfl, rfl, rfl, rfl, rfl, rfl, rfl, rfl, trivial⟩ ?_
                    refine X.next ?_
                    refine C.seq ?_
                    refine C.region ?_
                    refine R.ev rfl (E.move rfl) ?_
                    refine R.ev rfl (E.move rfl) ?_
                    refine R.ev rfl (E.move rfl) ?_
                    refine R.ev rfl (E.move rfl) ?_
                    refine R.ev rfl (E.move rfl) ?_
                    refine R.call ⟨_, _, Tryz.func78, rfl, by kernel_rfl⟩ rfl rfl (ih (mid - a1) (by omega) a1 mid rr.lim d4 F20 _ rfl hs r20 (by omega) (by omega) hlim2) ?_
                    rintro _ w26 ⟨F26, r26, hs⟩
                    refine R.done ?_
                    refine X.keep [(0, _), (2, _), (3, _), (4, _), (10, _), (11, _), (16, _)] ⟨rfl, rfl, rfl, rfl, rfl, rfl, rfl, trivial⟩ ?_
                    refine X.next ?_
                    refine C.region ?_
                    refine R.ev rfl (E.move rfl) ?_
                    refine R.ev rfl ((E.add rfl rfl (by omega) (by omega)).isI (c := ((mid + 1 : Nat) : Int)) (by omega)) ?_
                    refine R.ev rfl (E.assign rfl) ?_
                    refine R.done ?_
                    refine X.keep [(0, _), (1, _), (2, _), (3, _), (4, _), (10, _), (11, _)] ⟨rfl, rfl, rfl, rfl, rfl, rfl, rfl, trivial⟩ ?_
                    refine X.blockNormal ?_
                    first
                      | exact X.again (mid + 1, b1, rr.lim, _, ap, _, F26) ⟨rfl, rfl, rfl, rfl, rfl, rfl, rfl, trivial⟩ ⟨(hgoL (by omega)).symm, by omega, by omega, by omega, hlim2, r26, hs⟩ (by show _ - _ < _ - _; omega)
                      | exact X.again (a1, mid, rr.lim, _, ap, _, F29) ⟨rfl, rfl, rfl, rfl, rfl, rfl, rfl, trivial⟩ ⟨(hgoR (by omega)).symm, by omega, by omega, by omega, hlim2, r29, hs⟩ (by show _ - _ < _ - _; omega)
                      | exact X.again (_, b1, rr.lim, wb, wp, _, F18) ⟨rfl, rfl, rfl, rfl, rfl, rfl, rfl, trivial⟩ ⟨hgo.symm, by omega, by omega, by omega, hlim2, r18, hs⟩ (by show _ - _ < _ - _; omega)
                  · refine C.seq ?_
                    refine C.region ?_
                    refine R.ev rfl (E.move rfl) ?_
                    refine R.ev rfl (E.move rfl) ?_
                    refine R.ev rfl ((E.geq rfl rfl).isB (c := decide (b1 - mid ≥ (b1 - a1) / 8)) (by rw [decide_eq_decide]; omega)) ?_
                    refine R.ev rfl (E.assign rfl) ?_
                    refine R.done ?_
                    refine X.keep [(0, _), (1, _), (2, _), (3, _), (4, _), (10, _), (11, _), (16, _)] ⟨rfl, rfl, rfl, rfl, rfl, rfl, rfl, rfl, trivial⟩ ?_
                    refine X.next ?_
                    refine C.seq ?_
                    refine C.region ?_
                    refine R.ev rfl (E.move rfl) ?_
                    refine R.ev rfl (E.move rfl) ?_
                    refine R.ev rfl ((E.add rfl rfl (by omega) (by omega)).isI (c := ((mid + 1 : Nat) : Int)) (by omega)) ?_
                    refine R.ev rfl (E.move rfl) ?_
                    refine R.ev rfl (E.move rfl) ?_
                    refine R.ev rfl (E.move rfl) ?_
                    refine R.call ⟨_, _, Tryz.func78, rfl, by kernel_rfl⟩ rfl rfl (ih (b1 - (mid + 1)) (by omega) (mid + 1) b1 rr.lim d4 F20 _ rfl hs r20 (by omega) (by omega) hlim2) ?_
                    rintro _ w29 ⟨F29, r29, hs⟩
                    refine R.done ?_
                    refine X.keep [(0, _), (1, _), (3, _), (4, _), (10, _), (11, _), (16, _)] ⟨rfl, rfl, rfl, rfl, rfl, rfl, rfl, trivial⟩ ?_
                    refine X.next ?_
                    refine C.region ?_
                    refine R.ev rfl (E.move rfl) ?_
                    refine R.ev rfl (E.assign rfl) ?_
                    refine R.done ?_
                    refine X.keep [(0, _), (1, _), (2, _), (3, _), (4, _), (10, _), (11, _)] ⟨rfl, rfl, rfl, rfl, rfl, rfl, rfl, trivial⟩ ?_
                    refine X.blockNormal ?_
                    first
                      | exact X.again (mid + 1, b1, rr.lim, _, ap, _, F26) ⟨rfl, rfl, rfl, rfl, rfl, rfl, rfl, trivial⟩ ⟨(hgoL (by omega)).symm, by omega, by omega, by omega, hlim2, r26, hs⟩ (by show _ - _ < _ - _; omega)
                      | exact X.again (a1, mid, rr.lim, _, ap, _, F29) ⟨rfl, rfl, rfl, rfl, rfl, rfl, rfl, trivial⟩ ⟨(hgoR (by omega)).symm, by omega, by omega, by omega, hlim2, r29, hs⟩ (by show _ - _ < _ - _; omega)
                      | exact X.again (_, b1, rr.lim, wb, wp, _, F18) ⟨rfl, rfl, rfl, rfl, rfl, rfl, rfl, trivial⟩ ⟨hgo.symm, by omega, by omega, by omega, hlim2, r18, hs⟩ (by show _ - _ < _ - _; omega)
theorem heins0_any {ad : Option Addr} {c : Nat} (cv : Value) (hs : Sat K w Rs) : Ret Tryz.prog 87 #[.slice ad 0 c, .int .i64 0, .int .i64 0, cv] w fun _ w' => Sat K w' Rs := by
  refine Ret.enter (n := 53) (args := [.slice ad 0 c, .int .i64 0, .int .i64 0, cv]) Tryz.func87 rfl rfl ?_
  refine C.keep [(0, _), (1, _), (2, _), (3, _)] ⟨rfl, rfl, rfl, rfl, trivial⟩ ?_
  refine C.seq ?_
  refine C.region ?_
  refine R.ev rfl (E.move rfl) ?_
  refine R.ev rfl ((E.add rfl rfl (by omega) (by omega)).isI (c := 1) (by omega)) ?_
  refine R.ev rfl (E.assign rfl) ?_
  refine R.done ?_
  refine X.keep [(0, _), (1, _), (2, _), (3, _), (8, _)] ⟨rfl, rfl, rfl, rfl, rfl, trivial⟩ ?_
  refine X.next ?_
  refine C.block ?_
  refine C.loop (T := Unit) [(0, _), (1, _), (2, _), (3, _)] (fun _ => [(8, .int .i64 1)]) (fun _ w' => Sat K w' Rs) (fun _ => 0) (()) ⟨rfl, rfl, rfl, rfl, rfl, trivial⟩ hs ?_
  rintro _ w1 hs
  refine C.keep [(0, _), (1, _), (2, _), (3, _), (8, _)] ⟨rfl, rfl, rfl, rfl, rfl, trivial⟩ ?_
  refine C.seq ?_
  refine C.seq ?_
  refine C.region ?_
  refine R.ev rfl (E.move rfl) ?_
  refine R.ev rfl (E.move rfl) ?_
  refine R.ev rfl ((E.lss rfl rfl).isF (by omega)) ?_
  refine R.done ?_
  refine X.keep [(0, _), (1, _), (2, _), (3, _), (8, _), (14, _)] ⟨rfl, rfl, rfl, rfl, rfl, rfl, trivial⟩ ?_
  refine X.next ?_
  refine C.cfalse rfl ?_
  refine C.exit ?_
  refine X.thenExit ?_
  refine X.loopExit ?_
  refine X.blockExit ?_
  refine X.bodyNormal ?_
  refine X.ret0 rfl ?_
  exact hs
theorem hepdq0_any {ad : Option Addr} {c : Nat} {l : Int} (cv : Value) (hs : Sat K w Rs) : Ret Tryz.prog 78 #[.slice ad 0 c, .int .i64 0, .int .i64 0, .int .i64 l, cv] w fun _ w' => Sat K w' Rs := by
  refine Ret.enter (n := 148) (args := [.slice ad 0 c, .int .i64 0, .int .i64 0, .int .i64 l, cv]) Tryz.func78 rfl rfl ?_
  refine C.keep [(0, _), (1, _), (2, _), (3, _), (4, _)] ⟨rfl, rfl, rfl, rfl, rfl, trivial⟩ ?_
  refine C.seq ?_
  refine C.region ?_
  refine R.ev rfl (E.assign rfl) ?_
  refine R.done ?_
  refine X.keep [(0, _), (1, _), (2, _), (3, _), (4, _), (10, _)] ⟨rfl, rfl, rfl, rfl, rfl, rfl, trivial⟩ ?_
  refine X.next ?_
  refine C.seq ?_
  refine C.region ?_
  refine R.ev rfl (E.assign rfl) ?_
  refine R.done ?_
  refine X.keep [(0, _), (1, _), (2, _), (3, _), (4, _), (10, _), (11, _)] ⟨rfl, rfl, rfl, rfl, rfl, rfl, rfl, trivial⟩ ?_
  refine X.next ?_
  refine C.block ?_
  refine C.loop (T := Unit) [(0, _), (4, _)] (fun _ => [(1, .int .i64 0), (2, .int .i64 0), (3, .int .i64 l), (10, .bool true), (11, .bool true)]) (fun _ w' => Sat K w' Rs) (fun _ => 0) (()) ⟨rfl, rfl, rfl, rfl, rfl, rfl, rfl, trivial⟩ hs ?_
  rintro _ w1 hs
  refine C.keep [(0, _), (1, _), (2, _), (3, _), (4, _), (10, _), (11, _)] ⟨rfl, rfl, rfl, rfl, rfl, rfl, rfl, trivial⟩ ?_
  refine C.block ?_
  refine C.seq ?_
  refine C.region ?_
  refine R.ev rfl (E.move rfl) ?_
  refine R.ev rfl (E.move rfl) ?_
  refine R.ev rfl (E.sub rfl rfl (by omega) (by omega)) ?_
  refine R.ev rfl (E.assign rfl) ?_
  refine R.done ?_
  refine X.keep [(0, _), (1, _), (2, _), (3, _), (4, _), (10, _), (11, _), (12, _)] ⟨rfl, rfl, rfl, rfl, rfl, rfl, rfl, rfl, trivial⟩ ?_
  refine X.next ?_
  refine C.seq ?_
  refine C.seq ?_
  refine C.region ?_
  refine R.ev rfl (E.move rfl) ?_
  refine R.ev rfl ((E.leq rfl rfl).isT (by omega)) ?_
  refine R.done ?_
  refine X.keep [(0, _), (1, _), (2, _), (3, _), (4, _), (10, _), (11, _), (12, _), (25, _)] ⟨rfl, rfl, rfl, rfl, rfl, rfl, rfl, rfl, rfl, trivial⟩ ?_
  refine X.next ?_
  refine C.ctrue rfl ?_
  refine C.seq ?_
  refine C.region ?_
  refine R.ev rfl (E.move rfl) ?_
  refine R.ev rfl (E.move rfl) ?_
  refine R.ev rfl (E.move rfl) ?_
  refine R.ev rfl (E.move rfl) ?_
  refine R.call ⟨_, _, Tryz.func87, rfl, by kernel_rfl⟩ rfl rfl (heins0_any _ hs) ?_
  rintro _ w4 hs
  refine R.done ?_
  refine X.keep [] trivial ?_
  refine X.next ?_
  refine C.ret ?_
  refine X.thenRet ?_
  refine X.blockRet ?_
  refine X.loopRet ?_
  refine X.blockRet ?_
  refine X.ret0 rfl ?_
  exact hs
/-- sorted, in a row -/
theorem sorted_of {d : Array HEnt} (h : SortedIn lt 0 d.size d) : d.toList.Pairwise (fun x y => lt y x = false) := by
  rw [List.pairwise_iff_getElem]
  intro i j hi hj hij
  have hi' : i < d.size := by simpa using hi
  have hj' : j < d.size := by simpa using hj
  have := h i j (by omega) hij hj'
  rw [getElem!_pos d i hi', getElem!_pos d j hj'] at this
  simpa using this
theorem perm_of {d d' : Array HEnt} (h : PermIn 0 d.size d d') : d'.toList.Perm d.toList := by
  have h2 := h.2.2
  have h1 := h.1
  rw [Array.extract_eq_self_of_le (by omega), Array.extract_eq_self_of_le (by omega)] at h2
  exact h2
theorem hesort_any {v : Value} {L : List HEnt} (hf : heCmp K Rs fid fst cps lt) (hw : SWO lt) (hs : Sat K w (F :: Rs)) [hr : RowL 50 encH 36 v L F] (hm : L.length ≤ 1000000000) :
    Ret Tryz.prog 58 #[v, .func (.func fid) fst.toArray cps.toArray] w fun _ w' => ∃ L' F', RowL 50 encH 36 v L' F' ∧ L'.Perm L ∧ L'.Pairwise (fun x y => lt y x = false) ∧ Sat K w' (F' :: Rs) := by
  obtain ⟨ad, cap, rfl, hc, hcm, had⟩ := hr.val
  cases hL : L with
  | nil =>
    subst hL
    refine Ret.enter (n := 14) (args := [.slice ad 0 cap, .func (.func fid) fst.toArray cps.toArray]) Tryz.func58 rfl rfl ?_
    refine C.keep [(0, _), (1, _)] ⟨rfl, rfl, trivial⟩ ?_
    refine C.seq ?_
    refine C.region ?_
    refine R.ev rfl (E.move rfl) ?_
    refine R.ev rfl (E.lenSl rfl Tryz.underlying88) ?_
    refine R.ev rfl (E.assign rfl) ?_
    refine R.done ?_
    refine X.keep [(0, _), (1, _), (4, _)] ⟨rfl, rfl, rfl, trivial⟩ ?_
    refine X.next ?_
    refine C.region ?_
    refine R.ev rfl (E.move rfl) ?_
    refine R.ev rfl (E.move rfl) ?_
    refine R.ev rfl (E.move rfl) ?_
    refine R.ev rfl ((E.conv rfl Tryz.underlying3 Tryz.underlying139).isI (c := ((0 : Nat) : Int)) (by rw [IntKind.wrap_u64]; rfl)) ?_
    refine R.call ⟨_, _, Tryz.func79, rfl, by kernel_rfl⟩ rfl rfl (len_bits_any 0 (by omega) hs) ?_
    rintro _ w1 ⟨rfl, hs⟩
    refine R.ev rfl (E.move rfl) ?_
    refine R.call ⟨_, _, Tryz.func78, rfl, by kernel_rfl⟩ rfl rfl (hepdq0_any _ hs) ?_
    rintro _ w2 hs
    refine R.done ?_
    refine X.keep [] trivial ?_
    refine X.bodyNormal ?_
    refine X.ret0 rfl ?_
    exact ⟨[], F, hr, List.Perm.refl _, List.Pairwise.nil, hs⟩
  | cons x L0 =>
    rw [← hL]
    obtain ⟨b, rfl⟩ := had (by rw [hL]; exact List.cons_ne_nil _ _)
    obtain ⟨d, hd⟩ : ∃ d : Array HEnt, d.toList = L := ⟨L.toArray, by simp⟩
    have hdl : L.length = d.size := by rw [← hd]; simp
    rw [hdl] at hm hr hc ⊢
    have hr : heA b d.size cap d F := by rw [← hd] at hr; exact hr
    have hlaw := sort_holds (pdq_holds insertionSort_holds heapSort_holds partialInsertionSort_holds (partition_holds lt) (partitionEqual_holds lt) reverseRange_holds) hw d
    refine Ret.enter (n := 14) (args := [.slice (some ⟨b, 0, none⟩) d.size cap, .func (.func fid) fst.toArray cps.toArray]) Tryz.func58 rfl rfl ?_
    refine C.keep [(0, _), (1, _)] ⟨rfl, rfl, trivial⟩ ?_
    refine C.seq ?_
    refine C.region ?_
    refine R.ev rfl (E.move rfl) ?_
    refine R.ev rfl (E.lenSl rfl Tryz.underlying88) ?_
    refine R.ev rfl (E.assign rfl) ?_
    refine R.done ?_
    refine X.keep [(0, _), (1, _), (4, _)] ⟨rfl, rfl, rfl, trivial⟩ ?_
    refine X.next ?_
    refine C.region ?_
    refine R.ev rfl (E.move rfl) ?_
    refine R.ev rfl (E.move rfl) ?_
    refine R.ev rfl (E.move rfl) ?_
    refine R.ev rfl ((E.conv rfl Tryz.underlying3 Tryz.underlying139).isI (c := ((d.size : Nat) : Int)) (by rw [IntKind.wrap_u64]; omega)) ?_
    refine R.call ⟨_, _, Tryz.func79, rfl, by kernel_rfl⟩ rfl rfl (len_bits_any d.size (by omega) hs) ?_
    rintro _ w1 ⟨rfl, hs⟩
    refine R.ev rfl (E.move rfl) ?_
    refine R.call ⟨_, _, Tryz.func78, rfl, by kernel_rfl⟩ rfl rfl (hepdq_any hf hm _ 0 d.size (bitsLen d.size) d F _ rfl hs hr (by omega) (by omega) (by have := (bitsLen_le_iff d.size 32).2 (by omega); omega)) ?_
    rintro _ w2 ⟨F2, r2, hs⟩
    refine R.done ?_
    refine X.keep [] trivial ?_
    refine X.bodyNormal ?_
    refine X.ret0 rfl ?_
    exact ⟨_, F2, r2, by rw [← hd]; exact perm_of hlaw.1, sorted_of (by have h1 := hlaw.1.1; rw [sort] at h1 hlaw; rw [h1]; exact hlaw.2), hs⟩
end
end Go.Proofs.YtifghjeapfijkaaGreatDoor.Hist
