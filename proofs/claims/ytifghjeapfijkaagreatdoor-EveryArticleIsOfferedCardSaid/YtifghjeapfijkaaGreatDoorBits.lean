/-
  math/bits.Len, slices.nextPowerOfTwo, the random numbers of the sort.
-/
import Derived.Test.YtifghjeapfijkaaGreatDoorSortE
import Derived.Test.YtifghjeapfijkaaGreatDoorTypes
namespace Go.Proofs.YtifghjeapfijkaaGreatDoor
open Go.Eng Go.RowKit Go.Sort

theorem bitsLen_shift {x : Nat} (k : Nat) (h : 2 ^ k ≤ x) : bitsLen x = bitsLen (x / 2 ^ k) + k := by
  have hp : 0 < 2 ^ k := Nat.two_pow_pos k
  apply Nat.le_antisymm
  · rw [bitsLen_le_iff, Nat.pow_add]
    have := lt_two_pow_bitsLen (x / 2 ^ k)
    exact (Nat.div_lt_iff_lt_mul hp).1 this
  · have h1 := lt_two_pow_bitsLen x
    have h2 : k < bitsLen x := by
      rcases Nat.lt_or_ge k (bitsLen x) with h' | h'
      · exact h'
      · have := Nat.pow_le_pow_right (n := 2) (by decide) h'; omega
    have h3 : bitsLen (x / 2 ^ k) ≤ bitsLen x - k := by
      rw [bitsLen_le_iff, Nat.div_lt_iff_lt_mul hp, ← Nat.pow_add, show bitsLen x - k + k = bitsLen x by omega]; exact h1
    omega
def len8 : List UInt8 := (List.range 256).map fun i => UInt8.ofNat (bitsLen i)
theorem len8_get {x : Nat} (h : x < 256) : (len8.getD x 0).toNat = bitsLen x := by
  have hb : bitsLen x ≤ 8 := (bitsLen_le_iff x 8).2 h
  rw [len8, List.getD_eq_getElem?_getD, List.getElem?_map, List.getElem?_range h]
  simp; omega
variable {K : Kn} {Hs Rs : List Hl} {w : World}
set_option maxRecDepth 100000 in
theorem len64_any (n : Nat) (hn : n < 4294967296) (hs : Sat K w Hs) : Ret Tryz.prog 96 #[.int .u64 (n : Nat)] w fun r w' => r = .int .i64 (bitsLen n : Nat) ∧ Sat K w' Hs := by
  refine Ret.enter (n := 25) (args := [.int .u64 (n : Nat)]) Tryz.func96 rfl rfl ?_
  refine C.keep [(0, _)] ⟨rfl, trivial⟩ ?_
  refine C.seq ?_
  refine C.region ?_
  refine R.ev rfl (E.assign rfl) ?_
  refine R.done ?_
  refine X.keep [(0, _), (2, _)] ⟨rfl, rfl, trivial⟩ ?_
  refine X.next ?_
  refine C.seq ?_
  refine C.seq ?_
  refine C.region ?_
  refine R.ev rfl (E.move rfl) ?_
  refine R.ev rfl ((E.geq rfl rfl).isF (by omega)) ?_
  refine R.done ?_
  refine X.keep [(0, _), (2, _), (4, _)] ⟨rfl, rfl, rfl, trivial⟩ ?_
  refine X.next ?_
  refine C.cfalse rfl ?_
  refine C.skip ?_
  refine X.next ?_
  refine C.seq ?_
  refine C.seq ?_
  refine C.region ?_
  refine R.ev rfl (E.move rfl) ?_
  refine R.ev rfl (E.geq rfl rfl) ?_
  refine R.done ?_
  refine X.keep [(0, _), (2, _), (8, _)] ⟨rfl, rfl, rfl, trivial⟩ ?_
  refine X.next ?_
  refine C.cut [] (fun ((y, s) : Nat × Nat) => [(0, .int .u64 (y : Nat)), (2, .int .i64 (s : Nat))]) (fun (y, s) w' => bitsLen n = bitsLen y + s ∧ y < 65536 ∧ s ≤ 16 ∧ Sat K w' Hs) trivial ?_ ?_
  · refine C.cdec rfl (fun h8 => ?_) (fun h8 => ?_)
    · refine C.seq ?_
      refine C.region ?_
      refine R.ev rfl (E.move rfl) ?_
      refine R.ev rfl ((E.shr rfl rfl (by decide)).isI (c := ((n / 65536 : Nat) : Int)) (by rw [show min (16 : Int).toNat IntKind.u64.bits = 16 from rfl, Int.fdiv_eq_ediv_of_nonneg _ (by decide)]; omega)) ?_
      refine R.ev rfl (E.assign rfl) ?_
      refine R.done ?_
      refine X.keep [(0, _), (2, _)] ⟨rfl, rfl, trivial⟩ ?_
      refine X.next ?_
      refine C.region ?_
      refine R.ev rfl (E.move rfl) ?_
      refine R.ev rfl ((E.add rfl rfl (by omega) (by omega)).isI (c := ((16 : Nat) : Int)) (by omega)) ?_
      refine R.ev rfl (E.assign rfl) ?_
      refine R.done ?_
      refine X.keep [(0, _), (2, _)] ⟨rfl, rfl, trivial⟩ ?_
      first
        | exact X.cut ((n / 65536, 16)) ⟨lkV rfl rfl, lkV rfl rfl, trivial⟩ ⟨bitsLen_shift 16 (by omega), by omega, by omega, hs⟩
        | exact X.cut ((n, 0)) ⟨lkV rfl rfl, lkV rfl rfl, trivial⟩ ⟨rfl, by omega, by omega, hs⟩
    · refine C.skip ?_
      first
        | exact X.cut ((n / 65536, 16)) ⟨lkV rfl rfl, lkV rfl rfl, trivial⟩ ⟨bitsLen_shift 16 (by omega), by omega, by omega, hs⟩
        | exact X.cut ((n, 0)) ⟨lkV rfl rfl, lkV rfl rfl, trivial⟩ ⟨rfl, by omega, by omega, hs⟩
  · rintro ⟨y, s⟩ w8 ⟨hy, hy2, hs2, hs⟩
    refine X.keep [(0, _), (2, _)] ⟨rfl, rfl, trivial⟩ ?_
    refine X.next ?_
    refine C.seq ?_
    refine C.seq ?_
    refine C.region ?_
    refine R.ev rfl (E.move rfl) ?_
    refine R.ev rfl (E.geq rfl rfl) ?_
    refine R.done ?_
    refine X.keep [(0, _), (2, _), (14, _)] ⟨rfl, rfl, rfl, trivial⟩ ?_
    refine X.next ?_
    refine C.cut [] (fun ((z, q) : Nat × Nat) => [(0, .int .u64 (z : Nat)), (2, .int .i64 (q : Nat))]) (fun (z, q) w' => bitsLen n = bitsLen z + q ∧ z < 256 ∧ q ≤ 24 ∧ Sat K w' Hs) trivial ?_ ?_
    · refine C.cdec rfl (fun h14 => ?_) (fun h14 => ?_)
      · have hsh : bitsLen y = bitsLen (y / 256) + 8 := bitsLen_shift 8 (by omega)
        refine C.seq ?_
        refine C.region ?_
        refine R.ev rfl (E.move rfl) ?_
        refine R.ev rfl ((E.shr rfl rfl (by decide)).isI (c := ((y / 256 : Nat) : Int)) (by rw [show min (8 : Int).toNat IntKind.u64.bits = 8 from rfl, Int.fdiv_eq_ediv_of_nonneg _ (by decide)]; omega)) ?_
        refine R.ev rfl (E.assign rfl) ?_
        refine R.done ?_
        refine X.keep [(0, _), (2, _)] ⟨rfl, rfl, trivial⟩ ?_
        refine X.next ?_
        refine C.region ?_
        refine R.ev rfl (E.move rfl) ?_
        refine R.ev rfl ((E.add rfl rfl (by omega) (by omega)).isI (c := ((s + 8 : Nat) : Int)) (by omega)) ?_
        refine R.ev rfl (E.assign rfl) ?_
        refine R.done ?_
        refine X.keep [(0, _), (2, _)] ⟨rfl, rfl, trivial⟩ ?_
        first
          | exact X.cut ((y / 256, s + 8)) ⟨lkV rfl rfl, lkV rfl rfl, trivial⟩ ⟨by rw [hy, hsh]; omega, by omega, by omega, hs⟩
          | exact X.cut ((y, s)) ⟨lkV rfl rfl, lkV rfl rfl, trivial⟩ ⟨hy, by omega, by omega, hs⟩
      · refine C.skip ?_
        first
          | exact X.cut ((y / 256, s + 8)) ⟨lkV rfl rfl, lkV rfl rfl, trivial⟩ ⟨by rw [hy, hsh]; omega, by omega, by omega, hs⟩
          | exact X.cut ((y, s)) ⟨lkV rfl rfl, lkV rfl rfl, trivial⟩ ⟨hy, by omega, by omega, hs⟩
    · rintro ⟨z, q⟩ w14 ⟨hz, hz2, hq2, hs⟩
      refine X.keep [(0, _), (2, _)] ⟨rfl, rfl, trivial⟩ ?_
      refine X.next ?_
      refine C.seq ?_
      refine C.region ?_
      refine R.ev rfl (E.move rfl) ?_
      refine R.ev rfl (E.move rfl) ?_
      refine R.ev rfl ((E.conv rfl Tryz.underlying24 Tryz.underlying5).isI (c := ((z : Nat) : Int)) (by rw [IntKind.wrap_u8]; omega)) ?_
      refine R.ev rfl ((E.sindex (l := len8) (by kernel_rfl) rfl Tryz.underlying9 rfl hz2)) ?_
      refine R.ev rfl ((E.conv rfl Tryz.underlying5 Tryz.underlying3).isI (c := ((bitsLen z : Nat) : Int)) (by rw [len8_get hz2]; exact wrap_i64 (by omega) (by have := (bitsLen_le_iff z 8).2 hz2; omega))) ?_
      refine R.ev rfl ((E.add rfl rfl (by omega) (by have := (bitsLen_le_iff z 8).2 hz2; omega)).isI (c := ((bitsLen n : Nat) : Int)) (by omega)) ?_
      refine R.ev rfl (E.assign rfl) ?_
      refine R.done ?_
      refine X.keep [(2, _)] ⟨rfl, trivial⟩ ?_
      refine X.next ?_
      refine C.ret ?_
      refine X.ret1 rfl rfl ?_
      exact ⟨rfl, hs⟩
theorem len_bits_any (n : Nat) (hn : n < 4294967296) (hs : Sat K w Hs) : Ret Tryz.prog 79 #[.int .u64 (n : Nat)] w fun r w' => r = .int .i64 (bitsLen n : Nat) ∧ Sat K w' Hs := by
  refine Ret.enter (n := 8) (args := [.int .u64 (n : Nat)]) Tryz.func79 rfl rfl ?_
  refine C.keep [(0, _)] ⟨rfl, trivial⟩ ?_
  refine C.seq ?_
  refine C.region ?_
  refine R.ev rfl (E.assign rfl) ?_
  refine R.done ?_
  refine X.keep [(0, _)] ⟨rfl, trivial⟩ ?_
  refine X.next ?_
  refine C.seq ?_
  refine C.cfalse rfl ?_
  refine C.skip ?_
  refine X.next ?_
  refine C.seq ?_
  refine C.region ?_
  refine R.ev rfl (E.move rfl) ?_
  refine R.call ⟨_, _, Tryz.func96, rfl, by kernel_rfl⟩ rfl rfl (len64_any n hn hs) ?_
  rintro _ w2 ⟨rfl, hs⟩
  refine R.ev rfl (E.assign rfl) ?_
  refine R.done ?_
  refine X.keep [(2, _)] ⟨rfl, trivial⟩ ?_
  refine X.next ?_
  refine C.ret ?_
  refine X.ret1 rfl rfl ?_
  exact ⟨rfl, hs⟩
theorem pow2_any (n : Nat) (hn : n < 4294967296) (hs : Sat K w Hs) : Ret Tryz.prog 104 #[.int .i64 (n : Nat)] w fun r w' => r = .int .u64 ((2 ^ bitsLen n : Nat) : Int) ∧ Sat K w' Hs := by
  have hb : bitsLen n ≤ 32 := (bitsLen_le_iff n 32).2 hn
  have hp : 2 ^ bitsLen n ≤ 2 ^ 32 := Nat.pow_le_pow_right (by decide) hb
  have hpi : ((2 ^ bitsLen n : Nat) : Int) = 2 ^ bitsLen n := by simp
  refine Ret.enter (n := 7) (args := [.int .i64 (n : Nat)]) Tryz.func104 rfl rfl ?_
  refine C.keep [(0, _)] ⟨rfl, trivial⟩ ?_
  refine C.seq ?_
  refine C.region ?_
  refine R.ev rfl (E.assign rfl) ?_
  refine R.done ?_
  refine X.keep [(0, _)] ⟨rfl, trivial⟩ ?_
  refine X.next ?_
  refine C.seq ?_
  refine C.region ?_
  refine R.ev rfl (E.move rfl) ?_
  refine R.ev rfl ((E.conv rfl Tryz.underlying3 Tryz.underlying139).isI (c := ((n : Nat) : Int)) (by rw [IntKind.wrap_u64]; omega)) ?_
  refine R.call ⟨_, _, Tryz.func79, rfl, by kernel_rfl⟩ rfl rfl (len_bits_any n hn hs) ?_
  rintro _ w2 ⟨rfl, hs⟩
  refine R.ev rfl ((E.shl rfl rfl (by omega)).isI (c := ((2 ^ bitsLen n : Nat) : Int)) (by rw [Int.toNat_natCast, show min (bitsLen n) IntKind.u64.bits = bitsLen n from Nat.min_eq_left (by show _ ≤ 64; omega), IntKind.wrap_u64, Int.one_mul, ← hpi]; clear hpi; generalize (2 ^ bitsLen n : Nat) = q at hp ⊢; omega)) ?_
  refine R.ev rfl (E.assign rfl) ?_
  refine R.done ?_
  refine X.keep [(2, _)] ⟨rfl, trivial⟩ ?_
  refine X.next ?_
  refine C.ret ?_
  refine X.ret1 rfl rfl ?_
  exact ⟨rfl, hs⟩
theorem ofNat64 {x : Nat} (h : x < 18446744073709551616) : (BitVec.ofInt IntKind.u64.bits (x : Int)).toNat = x := by
  rw [BitVec.ofInt_natCast, BitVec.toNat_ofNat]; exact Nat.mod_eq_of_lt h
theorem xor64 {x y : Nat} (hx : x < 18446744073709551616) (hy : y < 18446744073709551616) : IntKind.u64.wrap ((BitVec.ofInt IntKind.u64.bits (x : Int) ^^^ BitVec.ofInt IntKind.u64.bits (y : Int)).toNat : Int) = ((x ^^^ y : Nat) : Int) := by
  have : x ^^^ y < 2 ^ 64 := Nat.xor_lt_two_pow (by omega) (by omega)
  rw [BitVec.toNat_xor, ofNat64 hx, ofNat64 hy, IntKind.wrap_u64]; omega
theorem and64 {x y : Nat} (hx : x < 18446744073709551616) (hy : y < 18446744073709551616) : IntKind.u64.wrap ((BitVec.ofInt IntKind.u64.bits (x : Int) &&& BitVec.ofInt IntKind.u64.bits (y : Int)).toNat : Int) = ((x &&& y : Nat) : Int) := by
  have : x &&& y ≤ x := Nat.and_le_left
  rw [BitVec.toNat_and, ofNat64 hx, ofNat64 hy, IntKind.wrap_u64]; omega
theorem next_any' {b9 : Nat} {t : TypeId} (x : Nat) (hx : x < 18446744073709551616) (hs : Sat K w (row b9 t [.int .u64 (x : Nat)] :: Rs)) : Ret Tryz.prog 105 #[.pointer (some ⟨b9, 0, none⟩)] w fun r w' => r = .int .u64 (xorNextN x : Nat) ∧ Sat K w' (row b9 t [.int .u64 (xorNextN x : Nat)] :: Rs) := by
  obtain ⟨a, ha, ha2⟩ : ∃ a, a = x ^^^ (x * 8192 % 18446744073709551616) ∧ a < 18446744073709551616 := ⟨_, rfl, Nat.xor_lt_two_pow (n := 64) (by omega) (by omega)⟩
  obtain ⟨c, hc, hc2⟩ : ∃ c, c = a ^^^ (a / 128) ∧ c < 18446744073709551616 := ⟨_, rfl, Nat.xor_lt_two_pow (n := 64) (by omega) (by omega)⟩
  obtain ⟨e, he, he2⟩ : ∃ e, e = c ^^^ (c * 131072 % 18446744073709551616) ∧ e < 18446744073709551616 := ⟨_, rfl, Nat.xor_lt_two_pow (n := 64) (by omega) (by omega)⟩
  have hE : xorNextN x = e := by rw [he, hc, ha]; rfl
  rw [hE]
  refine Ret.enter (n := 33) (args := [.pointer (some ⟨b9, 0, none⟩)]) Tryz.func105 rfl rfl ?_
  refine C.keep [(0, _)] ⟨rfl, trivial⟩ ?_
  refine C.seq ?_
  refine C.region ?_
  refine R.ev rfl (E.assign rfl) ?_
  refine R.done ?_
  refine X.keep [(0, _)] ⟨rfl, trivial⟩ ?_
  refine X.next ?_
  refine C.seq ?_
  refine C.drawn (SatS hs) ([2, 5], [0, 1, 3, 4, 6, 7, 8]) (by kernel_rfl) ?_
  have hs := hs.drew
  refine D.evP 0 rfl (by kernel_rfl) rfl (fun _ => hs.to) (fun _ => E.move rfl) ?_
  refine D.evP 1 rfl (by kernel_rfl) rfl (fun _ => hs.to) (fun _ => E.nilCheck rfl) ?_
  refine D.evP 3 rfl (by kernel_rfl) rfl (fun _ => hs.to) (fun _ => E.move rfl) ?_
  refine D.evP 4 rfl (by kernel_rfl) rfl (fun _ => hs.to) (fun _ => E.nilCheck rfl) ?_
  refine D.ev 2 rfl (by kernel_rfl) rfl hs.to (fun _ hS => E.load1 rfl Tryz.underlying160 rfl (by first | exact hS.ldc | exact hS.ld rfl | exact hS.ld (by assumption) | exact by assumption | exact At.cellC (by assumption) | exact At.cellC ((by assumption : ∀ w', Sat _ w' _ → At w' _ _ _) _ hS) | exact (by assumption : ∀ w', Sat _ w' _ → World.cell? w' _ = some _) _ hS)) ?_
  refine D.ev 5 rfl (by kernel_rfl) rfl hs.to (fun _ hS => E.load1 rfl Tryz.underlying160 rfl (by first | exact hS.ldc | exact hS.ld rfl | exact hS.ld (by assumption) | exact by assumption | exact At.cellC (by assumption) | exact At.cellC ((by assumption : ∀ w', Sat _ w' _ → At w' _ _ _) _ hS) | exact (by assumption : ∀ w', Sat _ w' _ → World.cell? w' _ = some _) _ hS)) ?_
  refine D.evP 6 rfl (by kernel_rfl) rfl (fun _ => hs.to) (fun _ => (E.shl rfl rfl (by decide)).isI (c := ((x * 8192 % 18446744073709551616 : Nat) : Int)) (by rw [show min (13 : Int).toNat IntKind.u64.bits = 13 from rfl, IntKind.wrap_u64]; omega)) ?_
  refine D.evP 7 rfl (by kernel_rfl) rfl (fun _ => hs.to) (fun _ => (E.xor rfl rfl).isI (c := ((a : Nat) : Int)) (by rw [xor64 hx (by omega), ← ha])) ?_
  refine D.evP 8 rfl (by kernel_rfl) rfl (fun _ => hs.to) (fun _ => E.nilCheck rfl) ?_
  refine D.act 9 rfl (by kernel_rfl) ?_
  refine R.cstore1 hs rfl rfl Tryz.sz160 (by first | decide | simp [*]) (by first | rfl | exact OneC.one | exact KRow.oneC' (by assumption)) ?_
  intro w1_9 hs
  try simp only [List.set_cons_zero, List.set_cons_succ] at hs
  refine D.backT (by kernel_rfl) ?_
  refine D.done rfl (by kernel_rfl) ?_
  refine X.keep [(0, _)] ⟨rfl, trivial⟩ ?_
  refine X.next ?_
  refine C.seq ?_
  refine C.drawn (SatS hs) ([2, 5], [0, 1, 3, 4, 6, 7, 8]) (by kernel_rfl) ?_
  have hs := hs.drew
  refine D.evP 0 rfl (by kernel_rfl) rfl (fun _ => hs.to) (fun _ => E.move rfl) ?_
  refine D.evP 1 rfl (by kernel_rfl) rfl (fun _ => hs.to) (fun _ => E.nilCheck rfl) ?_
  refine D.evP 3 rfl (by kernel_rfl) rfl (fun _ => hs.to) (fun _ => E.move rfl) ?_
  refine D.evP 4 rfl (by kernel_rfl) rfl (fun _ => hs.to) (fun _ => E.nilCheck rfl) ?_
  refine D.ev 2 rfl (by kernel_rfl) rfl hs.to (fun _ hS => E.load1 rfl Tryz.underlying160 rfl (by first | exact hS.ldc | exact hS.ld rfl | exact hS.ld (by assumption) | exact by assumption | exact At.cellC (by assumption) | exact At.cellC ((by assumption : ∀ w', Sat _ w' _ → At w' _ _ _) _ hS) | exact (by assumption : ∀ w', Sat _ w' _ → World.cell? w' _ = some _) _ hS)) ?_
  refine D.ev 5 rfl (by kernel_rfl) rfl hs.to (fun _ hS => E.load1 rfl Tryz.underlying160 rfl (by first | exact hS.ldc | exact hS.ld rfl | exact hS.ld (by assumption) | exact by assumption | exact At.cellC (by assumption) | exact At.cellC ((by assumption : ∀ w', Sat _ w' _ → At w' _ _ _) _ hS) | exact (by assumption : ∀ w', Sat _ w' _ → World.cell? w' _ = some _) _ hS)) ?_
  refine D.evP 6 rfl (by kernel_rfl) rfl (fun _ => hs.to) (fun _ => (E.shr rfl rfl (by decide)).isI (c := ((a / 128 : Nat) : Int)) (by rw [show min (7 : Int).toNat IntKind.u64.bits = 7 from rfl, Int.fdiv_eq_ediv_of_nonneg _ (by decide)]; omega)) ?_
  refine D.evP 7 rfl (by kernel_rfl) rfl (fun _ => hs.to) (fun _ => (E.xor rfl rfl).isI (c := ((c : Nat) : Int)) (by rw [xor64 ha2 (by omega), ← hc])) ?_
  refine D.evP 8 rfl (by kernel_rfl) rfl (fun _ => hs.to) (fun _ => E.nilCheck rfl) ?_
  refine D.act 9 rfl (by kernel_rfl) ?_
  refine R.cstore1 hs rfl rfl Tryz.sz160 (by first | decide | simp [*]) (by first | rfl | exact OneC.one | exact KRow.oneC' (by assumption)) ?_
  intro w2_9 hs
  try simp only [List.set_cons_zero, List.set_cons_succ] at hs
  refine D.backT (by kernel_rfl) ?_
  refine D.done rfl (by kernel_rfl) ?_
  refine X.keep [(0, _)] ⟨rfl, trivial⟩ ?_
  refine X.next ?_
  refine C.seq ?_
  refine C.drawn (SatS hs) ([2, 5], [0, 1, 3, 4, 6, 7, 8]) (by kernel_rfl) ?_
  have hs := hs.drew
  refine D.evP 0 rfl (by kernel_rfl) rfl (fun _ => hs.to) (fun _ => E.move rfl) ?_
  refine D.evP 1 rfl (by kernel_rfl) rfl (fun _ => hs.to) (fun _ => E.nilCheck rfl) ?_
  refine D.evP 3 rfl (by kernel_rfl) rfl (fun _ => hs.to) (fun _ => E.move rfl) ?_
  refine D.evP 4 rfl (by kernel_rfl) rfl (fun _ => hs.to) (fun _ => E.nilCheck rfl) ?_
  refine D.ev 2 rfl (by kernel_rfl) rfl hs.to (fun _ hS => E.load1 rfl Tryz.underlying160 rfl (by first | exact hS.ldc | exact hS.ld rfl | exact hS.ld (by assumption) | exact by assumption | exact At.cellC (by assumption) | exact At.cellC ((by assumption : ∀ w', Sat _ w' _ → At w' _ _ _) _ hS) | exact (by assumption : ∀ w', Sat _ w' _ → World.cell? w' _ = some _) _ hS)) ?_
  refine D.ev 5 rfl (by kernel_rfl) rfl hs.to (fun _ hS => E.load1 rfl Tryz.underlying160 rfl (by first | exact hS.ldc | exact hS.ld rfl | exact hS.ld (by assumption) | exact by assumption | exact At.cellC (by assumption) | exact At.cellC ((by assumption : ∀ w', Sat _ w' _ → At w' _ _ _) _ hS) | exact (by assumption : ∀ w', Sat _ w' _ → World.cell? w' _ = some _) _ hS)) ?_
  refine D.evP 6 rfl (by kernel_rfl) rfl (fun _ => hs.to) (fun _ => (E.shl rfl rfl (by decide)).isI (c := ((c * 131072 % 18446744073709551616 : Nat) : Int)) (by rw [show min (17 : Int).toNat IntKind.u64.bits = 17 from rfl, IntKind.wrap_u64]; omega)) ?_
  refine D.evP 7 rfl (by kernel_rfl) rfl (fun _ => hs.to) (fun _ => (E.xor rfl rfl).isI (c := ((e : Nat) : Int)) (by rw [xor64 hc2 (by omega), ← he])) ?_
  refine D.evP 8 rfl (by kernel_rfl) rfl (fun _ => hs.to) (fun _ => E.nilCheck rfl) ?_
  refine D.act 9 rfl (by kernel_rfl) ?_
  refine R.cstore1 hs rfl rfl Tryz.sz160 (by first | decide | simp [*]) (by first | rfl | exact OneC.one | exact KRow.oneC' (by assumption)) ?_
  intro w3_9 hs
  try simp only [List.set_cons_zero, List.set_cons_succ] at hs
  refine D.backT (by kernel_rfl) ?_
  refine D.done rfl (by kernel_rfl) ?_
  refine X.keep [(0, _)] ⟨rfl, trivial⟩ ?_
  refine X.next ?_
  refine C.seq ?_
  refine C.region ?_
  refine R.ev rfl (E.move rfl) ?_
  refine R.ev rfl (E.nilCheck rfl) ?_
  refine R.ev rfl (E.load1 rfl Tryz.underlying160 rfl (by first | exact hs.ldc | exact hs.ld rfl | exact hs.ld (by assumption) | exact by assumption | exact At.cellC (by assumption))) ?_
  refine R.ev rfl (E.assign rfl) ?_
  refine R.done ?_
  refine X.keep [(2, _)] ⟨rfl, trivial⟩ ?_
  refine X.next ?_
  refine C.ret ?_
  refine X.ret1 rfl rfl ?_
  exact ⟨rfl, hs⟩
end Go.Proofs.YtifghjeapfijkaaGreatDoor
