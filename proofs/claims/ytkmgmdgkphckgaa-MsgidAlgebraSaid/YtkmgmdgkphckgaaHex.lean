/-
  ascii.Hex, ascii.Unhex; msgid.digits, Print, Compare, IsZero.
-/
import Derived.Test.YtkmgmdgkphckgaaAscii
namespace Go.Proofs.Ytkmgmdgkphckgaa
open Go.Eng Go.RowKit

def hexc (n : Nat) : UInt8 := if n < 10 then UInt8.ofNat (48 + n) else UInt8.ofNat (87 + n)
def hexL : List UInt8 → List UInt8
  | [] => []
  | b :: l => hexc (b.toNat / 16) :: hexc (b.toNat % 16) :: hexL l
theorem hexL_app (a b : List UInt8) : hexL (a ++ b) = hexL a ++ hexL b := by
  induction a with
  | nil => rfl
  | cons x a ih => simp [hexL, ih]
theorem hexL_len (a : List UInt8) : (hexL a).length = 2 * a.length := by
  induction a with
  | nil => rfl
  | cons x a ih => simp [hexL, ih]; omega
theorem hexL_snoc {l : List UInt8} {k : Nat} (h : k < l.length) : hexL (l.take (k + 1)) = hexL (l.take k) ++ [hexc (l[k].toNat / 16), hexc (l[k].toNat % 16)] := by
  rw [List.take_succ_eq_append_getElem h, hexL_app]; rfl
theorem hexdig : ∀ n : Nat, (h : n < 16) → ([48, 49, 50, 51, 52, 53, 54, 55, 56, 57, 97, 98, 99, 100, 101, 102] : List UInt8).getD n 0 = hexc n := by decide
theorem shr4 (b : UInt8) : (b.toNat : Int).fdiv (2 ^ (min (4 : Int).toNat (IntKind.u8).bits)) = ((b.toNat / 16 : Nat) : Int) := by
  have : min (4 : Int).toNat (IntKind.u8).bits = 4 := by decide
  rw [this]
  rw [Int.fdiv_eq_ediv_of_nonneg _ (by decide)]
  omega
theorem and15 (b : UInt8) : (IntKind.u8).wrap (BitVec.ofInt (IntKind.u8).bits (b.toNat : Int) &&& BitVec.ofInt (IntKind.u8).bits 15).toNat = ((b.toNat % 16 : Nat) : Int) := by
  have key : ∀ m : Fin 256, (IntKind.u8).wrap (BitVec.ofInt (IntKind.u8).bits ((m.val : Nat) : Int) &&& BitVec.ofInt (IntKind.u8).bits 15).toNat = ((m.val % 16 : Nat) : Int) := by decide +kernel
  exact key ⟨b.toNat, b.toNat_lt⟩

theorem hex_any (b off cap n : Nat) (l : List UInt8) (w : World) (hn : l.length = n) (hl : n ≤ 1000000) (hc : At w b off (l.map ub)) :
    Ret Try.prog 57 #[.slice (some ⟨b, off, none⟩) n cap] w fun v w' => v = str (hexL l) ∧ Mod [] w w' := by
  subst hn
  refine Ret.enter (n := 28) (args := [.slice (some ⟨b, off, none⟩) l.length cap]) Try.func57 rfl rfl ?_
  refine C.keep [(0, _)] ⟨rfl, trivial⟩ ?_
  refine C.seq ?_
  refine C.region ?_
  refine R.ev rfl (E.assign rfl) ?_
  refine R.done ?_
  refine X.keep [(0, _)] ⟨rfl, trivial⟩ ?_
  refine X.next ?_
  refine C.seq ?_
  refine C.region ?_
  refine R.ev rfl (E.move rfl) ?_
  refine R.ev rfl (E.lenSl rfl Try.underlying35) ?_
  refine R.ev rfl (E.mul rfl rfl (by omega) (by omega)) ?_
  refine R.make0 (m := 2 * l.length) rfl rfl Try.underlying35 Try.by5 rfl rfl (by simp) (by omega) (by omega) ?_
  intro nb w1 ho1 hm1 hnb
  refine R.ev rfl (E.assign rfl) ?_
  refine R.done ?_
  refine X.keep [(0, _), (3, _)] ⟨rfl, rfl, trivial⟩ ?_
  refine X.next ?_
  refine C.seq ?_
  refine C.seq ?_
  refine C.region ?_
  refine R.ev rfl (E.move rfl) ?_
  refine R.ev rfl (E.lenSl rfl Try.underlying35) ?_
  refine R.ev rfl (E.move rfl) ?_
  refine R.done ?_
  refine X.keep [(3, _), (10, _), (11, _), (12, _)] ⟨rfl, rfl, rfl, rfl, trivial⟩ ?_
  refine X.next ?_
  refine C.block ?_
  refine C.loop (T := Nat × Value) [(10, _), (11, _)] (fun (k, sv) => [(3, sv), (12, .int .i64 (k : Nat))]) (fun (k, sv) w' => k ≤ l.length ∧ w'.ownsRow w.heap.size 5 1 sv (2 * k) ((hexL (l.take k)).map ub) ∧ Mod [] w w' ∧ sv ≠ .slice none 0 0) (fun (k, _) => l.length - k) ((0, _)) ⟨rfl, rfl, rfl, rfl, trivial⟩ ⟨by simp, ho1, hm1, by simp⟩ ?_
  rintro ⟨k, sv⟩ w2 ⟨hk, ho, hm, hne⟩
  have hc2 := hc.keep hm (by simp)
  refine C.keep [(3, _), (10, _), (11, _), (12, _)] ⟨rfl, rfl, rfl, rfl, trivial⟩ ?_
  refine C.seq ?_
  refine C.region ?_
  refine R.ev rfl (E.lss rfl rfl) ?_
  refine R.done ?_
  refine X.keep [(3, _), (10, _), (11, _), (12, _), (13, _)] ⟨rfl, rfl, rfl, rfl, rfl, trivial⟩ ?_
  refine X.next ?_
  refine C.seq ?_
  refine C.cdec rfl (fun h13 => ?_) (fun h13 => ?_)
  · have hlt : k < l.length := by omega
    have hcell := hc2 k (ub l[k]) (by simp [hlt])
    have hcell1 : w2.cell? ⟨b, off + k * 1, none⟩ = some (ub l[k]) := by rw [Nat.mul_one]; exact hcell
    refine C.skip ?_
    refine X.next ?_
    refine C.seq ?_
    refine C.block ?_
    refine C.seq ?_
    refine C.region ?_
    refine R.ev rfl (E.indexAddr rfl rfl Try.underlying35 Try.sz5 rfl (by first | omega | decide)) ?_
    refine R.ev rfl (E.load1 rfl Try.underlying5 rfl (by assumption)) ?_
    refine R.ev rfl (E.assign rfl) ?_
    refine R.done ?_
    refine X.keep [(3, _), (5, _), (10, _), (11, _), (12, _)] ⟨rfl, rfl, rfl, rfl, rfl, trivial⟩ ?_
    refine X.next ?_
    refine C.drawn (fun _ => True) ([], [0, 1, 2, 3, 4, 5, 6, 9]) (by kernel_rfl) ?_
    refine D.evP 0 rfl (by kernel_rfl) rfl (np (by kernel_rfl)) (fun _ => E.move rfl) ?_
    refine D.evP 1 rfl (by kernel_rfl) rfl (np (by kernel_rfl)) (fun _ => E.move rfl) ?_
    refine D.evP 2 rfl (by kernel_rfl) rfl (np (by kernel_rfl)) (fun _ => (E.shr rfl rfl (by omega)).as (congrArg (Value.int .u8) (shr4 l[k]))) ?_
    refine D.evP 3 rfl (by kernel_rfl) rfl (np (by kernel_rfl)) (fun _ => (E.sindex (l := [48, 49, 50, 51, 52, 53, 54, 55, 56, 57, 97, 98, 99, 100, 101, 102]) rfl rfl Try.underlying9 rfl (by have := l[k].toNat_lt; simp; omega)).as (congrArg ub (hexdig _ (by have := l[k].toNat_lt; omega)))) ?_
    refine D.evP 4 rfl (by kernel_rfl) rfl (np (by kernel_rfl)) (fun _ => E.move rfl) ?_
    refine D.evP 5 rfl (by kernel_rfl) rfl (np (by kernel_rfl)) (fun _ => (E.and rfl rfl).as (congrArg (Value.int .u8) (and15 l[k]))) ?_
    refine D.evP 6 rfl (by kernel_rfl) rfl (np (by kernel_rfl)) (fun _ => (E.sindex (l := [48, 49, 50, 51, 52, 53, 54, 55, 56, 57, 97, 98, 99, 100, 101, 102]) rfl rfl Try.underlying9 rfl (by have := l[k].toNat_lt; simp; omega)).as (congrArg ub (hexdig _ (by have := l[k].toNat_lt; omega)))) ?_
    refine D.act 7 rfl (by kernel_rfl) ?_
    refine R.buildSlice1 (parts := [(0, .tmp 19), (1, .tmp 22)]) (vs := [_, _]) rfl rfl rfl Try.underlying35 Try.sz5 Try.zr5 rfl (by simp [Value.oneCell']) (by decide) ?_
    intro b23 w23 n23
    refine D.back trivial ?_
    refine D.act 8 rfl (by kernel_rfl) ?_
    refine R.append rfl rfl Try.underlying35 Try.by5 (by rfl) rfl ((n23.mod.own ho (by simp))) (n23.blk.at) (by simp [*]) (by simp [*, Value.oneCell']) (by omega) (by omega) (by omega) (by have := n23.mod.size; have := hm.size; have : w2.drew.heap.size = w2.heap.size := rfl; omega) ?_
    intro sv' w4 ho4 hm4 hat4 hnil4
    refine D.back trivial ?_
    refine D.evP 9 rfl (by kernel_rfl) rfl (np (by kernel_rfl)) (fun _ => E.assign rfl) ?_
    refine D.done rfl (by kernel_rfl) ?_
    refine X.keep [(3, _), (10, _), (11, _), (12, _)] ⟨rfl, rfl, rfl, rfl, trivial⟩ ?_
    refine X.blockNormal ?_
    refine X.next ?_
    refine C.region ?_
    refine R.ev rfl (E.add rfl rfl (by omega) (by omega)) ?_
    refine R.ev rfl (E.move rfl) ?_
    refine R.done ?_
    refine X.keep [(3, _), (10, _), (11, _), (12, _)] ⟨rfl, rfl, rfl, rfl, trivial⟩ ?_
    have hm5 : Mod [] w w4 := ((hm.tr (Mod.drew _ _)).tr n23.mod).tr' hm4 (fun x hx => (ho.lt x (by simpa using hx)).1)
    refine X.again (k + 1, sv') ⟨rfl, rfl, rfl, rfl, trivial⟩ ⟨by omega, ?_, hm5, by rw [ne_eq, hnil4]; simp⟩ (by show _ - _ < _ - _; omega)
    rw [hexL_snoc hlt, List.map_append]; exact ho4
  · refine C.exit ?_
    refine X.thenExit ?_
    refine X.loopExit ?_
    refine X.blockExit ?_
    refine X.next ?_
    refine C.seq ?_
    refine C.region ?_
    refine R.ev rfl (E.move rfl) ?_
    refine R.ev rfl (E.bytesOwn rfl Try.underlying35 Try.underlying5 Try.underlying9 ho) ?_
    refine R.ev rfl (E.assign rfl) ?_
    refine R.done ?_
    refine X.keep [(2, _)] ⟨rfl, trivial⟩ ?_
    refine X.next ?_
    refine C.ret ?_
    refine X.ret1 rfl rfl ?_
    exact ⟨by rw [show k = l.length by omega, List.take_length], hm⟩

/-- identities: arrays of 32 bytes -/
def zid : List UInt8 := List.replicate 32 0

theorem digits_any (a : List UInt8) (w : World) (ha : a.length = 32) :
    Ret Try.prog 37 #[idV a] w fun v w' => v = idV (hexL a) ∧ Mod [] w w' := by
  have hla := hexL_len a
  refine Ret.enter (n := 8) (args := [idV a]) Try.func37 rfl rfl ?_
  refine C.keep [(0, _)] ⟨rfl, trivial⟩ ?_
  have h32 : (a.map ub).length = 32 := by simp [ha]
  refine C.seq ?_
  refine C.region ?_
  refine R.boxA rfl rfl ?_
  intro b1 w1 n1
  refine R.allocA Try.zr67 rfl ?_
  intro b2 w2 n2
  refine R.done ?_
  refine X.keep [(1, _), (2, _)] ⟨rfl, rfl, trivial⟩ ?_
  refine X.next ?_
  refine C.seq ?_
  refine C.region ?_
  refine R.ev rfl (E.sliceA rfl Try.underlying23 Try.sz5) ?_
  refine R.call ⟨_, _, Try.func57, rfl, by kernel_rfl⟩ rfl rfl (hex_any b1 0 _ _ a _ (by omega) (by omega) (At.keep n1.blk.at n2.mod (by simp))) ?_
  rintro _ w3 ⟨rfl, m3⟩
  refine R.strBytes rfl Try.underlying9 Try.underlying35 Try.underlying5 rfl ?_
  intro b4 cap4 zs4 fr4 w4 hb4 hf4 hge4 hcap4 m4
  have hat4 : At w4 b4 0 ((hexL a).map ub) := at_of_row hb4
  have hk2 := (n2.blk.keep m3 (by simp)).keep m4 (by simp)
  refine R.ev rfl (E.arrPtr rfl Try.underlying67 (by omega)) ?_
  refine R.ev rfl (E.loadRow rfl Try.underlying67 rfl Try.sz67 (by assumption) (by first | rfl | exact len_ub (by assumption) | simp [*])) ?_
  refine R.storeAll rfl rfl Try.sz67 (hk2) (by first | rfl | exact len_ub (by assumption) | simp [*]) (by first | rfl | exact len_ub (by assumption) | simp [*]) (by first | exact ub_all _ | simp [Value.oneCell']) ?_
  intro w5 k5 m5 s5
  refine R.done ?_
  refine X.keep [(2, _)] ⟨rfl, trivial⟩ ?_
  refine X.next ?_
  refine C.ret ?_
  refine X.retC rfl rfl Try.underlying67 rfl Try.sz67 (k5.at) (by first | rfl | exact len_ub (by assumption) | simp [*]) ?_
  exact ⟨rfl, ((((n1.mod.tr n2.mod).tr m3).tr m4).tr' m5 (by intro x hx; simp at hx; subst hx; have := n1.mod.size; have := n2.ge; omega))⟩

def prefixL : List UInt8 := [60]
def tailL : List UInt8 := [64, 104, 97, 115, 104, 62]
def printL (a : List UInt8) : List UInt8 := prefixL ++ hexL a ++ tailL

theorem print_any (a : List UInt8) (w : World) (ha : a.length = 32) :
    Ret Try.prog 13 #[idV a] w fun v w' => v = str (printL a) ∧ Mod [] w w' := by
  have hla := hexL_len a
  refine Ret.enter (n := 10) (args := [idV a]) Try.func13 rfl rfl ?_
  refine C.keep [(0, _)] ⟨rfl, trivial⟩ ?_
  have h32 : (a.map ub).length = 32 := by simp [ha]
  refine C.seq ?_
  refine C.region ?_
  refine R.boxA rfl rfl ?_
  intro b1 w1 n1
  refine R.ev rfl (E.assign rfl) ?_
  refine R.done ?_
  refine X.keep [(1, _)] ⟨rfl, trivial⟩ ?_
  refine X.next ?_
  refine C.seq ?_
  refine C.region ?_
  refine R.ev rfl (E.loadRow rfl Try.underlying23 rfl Try.sz23 n1.blk.at h32) ?_
  refine R.call ⟨_, _, Try.func37, rfl, by kernel_rfl⟩ rfl rfl (digits_any a _ ha) ?_
  rintro _ w5 ⟨rfl, m5⟩
  refine R.allocA Try.zr67 rfl ?_
  intro b3 w3 n3
  refine R.storeAll rfl rfl Try.sz67 (n3.blk) (by first | rfl | exact len_ub (by assumption) | simp [*]) (by first | rfl | exact len_ub (by assumption) | simp [*]) (by first | exact ub_all _ | simp [Value.oneCell']) ?_
  intro w6 k6 m6 s6
  refine R.done ?_
  refine X.keep [(3, _)] ⟨rfl, trivial⟩ ?_
  refine X.next ?_
  refine C.seq ?_
  refine C.region ?_
  refine R.ev rfl (E.sliceA rfl Try.underlying67 Try.sz5) ?_
  refine R.ev rfl (E.bytesStr (l := hexL a) rfl Try.underlying35 Try.underlying5 Try.underlying9 (by omega) k6.at) ?_
  refine R.ev rfl (E.concat rfl rfl (by simp; omega)) ?_
  refine R.ev rfl (E.concat rfl rfl (by simp; omega)) ?_
  refine R.ev rfl (E.assign rfl) ?_
  refine R.done ?_
  refine X.keep [(2, _)] ⟨rfl, trivial⟩ ?_
  refine X.next ?_
  refine C.ret ?_
  refine X.ret1 rfl rfl ?_
  have hge := n3.ge
  have := m5.size
  have := n1.mod.size
  exact ⟨by simp [printL, prefixL, tailL], ((n1.mod.tr m5).tr n3.mod).tr' m6 (by intro x hx; simp at hx; subst hx; omega)⟩

theorem isZero_any (a : List UInt8) (w : World) (ha : a.length = 32) :
    Ret Try.prog 18 #[idV a] w fun v w' => v = .bool (decide (a = zid)) ∧ Mod [] w w' := by
  have hz : (List.replicate 32 (0 : UInt8)).length = 32 := rfl
  refine Ret.enter (n := 6) (args := [idV a]) Try.func18 rfl rfl ?_
  refine C.keep [(0, _)] ⟨rfl, trivial⟩ ?_
  refine C.seq ?_
  refine C.region ?_
  refine R.boxA rfl rfl ?_
  intro b1 w1 n1
  refine R.ev rfl (E.assign rfl) ?_
  refine R.done ?_
  refine X.keep [(1, _)] ⟨rfl, trivial⟩ ?_
  refine X.next ?_
  refine C.seq ?_
  refine C.region ?_
  refine R.ev rfl (E.loadRow rfl Try.underlying23 rfl Try.sz23 n1.blk.at (by simp [ha])) ?_
  refine R.ev rfl (E.buildA rfl Try.underlying23 Try.zr23 Try.sz5 rfl) ?_
  refine R.ev rfl (E.eqId 10 32 rfl rfl Try.lv23 rfl Try.underlying23 rfl Try.gd23 (by assumption) (by assumption)) ?_
  refine R.ev rfl (E.assign rfl) ?_
  refine R.done ?_
  refine X.keep [(2, _)] ⟨rfl, trivial⟩ ?_
  refine X.next ?_
  refine C.ret ?_
  refine X.ret1 rfl rfl ?_
  exact ⟨rfl, n1.mod⟩

theorem bytesCompare_any (b off cap n b' off' cap' n' : Nat) (l m : List UInt8) (w : World) (hn : l.length = n) (hn' : m.length = n') (h : At w b off (l.map ub)) (h' : At w b' off' (m.map ub)) :
    Ret Try.prog 42 #[.slice (some ⟨b, off, none⟩) n cap, .slice (some ⟨b', off', none⟩) n' cap'] w fun v w' => v = .int .i64 (cmpL l m) ∧ w = w' := by
  subst hn hn'
  refine Ret.enter (n := 8) (args := [.slice (some ⟨b, off, none⟩) l.length cap, .slice (some ⟨b', off', none⟩) m.length cap']) Try.func42 rfl rfl ?_
  refine C.keep [(0, _), (1, _)] ⟨rfl, rfl, trivial⟩ ?_
  refine C.seq ?_
  refine C.region ?_
  refine R.ev rfl (E.assign rfl) ?_
  refine R.done ?_
  refine X.keep [(0, _), (1, _)] ⟨rfl, rfl, trivial⟩ ?_
  refine X.next ?_
  refine C.seq ?_
  refine C.region ?_
  refine R.ev rfl (E.move rfl) ?_
  refine R.ev rfl (E.move rfl) ?_
  refine R.ev rfl (E.ext ⟨_, Try.func62, by kernel_rfl, by kernel_rfl, by kernel_rfl, (by kernel_rfl : Extern.find _ = some Extern.BytealgCompare.compare)⟩ rfl (run_compare h h')) ?_
  refine R.ev rfl (E.assign rfl) ?_
  refine R.done ?_
  refine X.keep [(4, _)] ⟨rfl, trivial⟩ ?_
  refine X.next ?_
  refine C.ret ?_
  refine X.ret1 rfl rfl ?_
  exact ⟨rfl, rfl⟩

theorem compare_any (a c : List UInt8) (w : World) (ha : a.length = 32) (hc : c.length = 32) :
    Ret Try.prog 19 #[idV a, idV c] w fun v w' => v = .int .i64 (cmpL a c) ∧ Mod [] w w' := by
  refine Ret.enter (n := 8) (args := [idV a, idV c]) Try.func19 rfl rfl ?_
  refine C.keep [(0, _), (1, _)] ⟨rfl, rfl, trivial⟩ ?_
  refine C.seq ?_
  refine C.region ?_
  refine R.boxA rfl rfl ?_
  intro b2 w2 n2
  refine R.boxA rfl rfl ?_
  intro b3 w3 n3
  refine R.ev rfl (E.assign rfl) ?_
  refine R.done ?_
  refine X.keep [(2, _), (3, _)] ⟨rfl, rfl, trivial⟩ ?_
  refine X.next ?_
  refine C.seq ?_
  refine C.drawn (fun _ => True) ([], [0, 1, 3]) (by kernel_rfl) ?_
  refine D.evP 0 rfl (by kernel_rfl) rfl (np (by kernel_rfl)) (fun _ => E.sliceA rfl Try.underlying23 Try.sz5) ?_
  refine D.evP 1 rfl (by kernel_rfl) rfl (np (by kernel_rfl)) (fun _ => E.sliceA rfl Try.underlying23 Try.sz5) ?_
  refine D.act 2 rfl (by kernel_rfl) ?_
  refine R.call ⟨_, _, Try.func42, rfl, by kernel_rfl⟩ rfl rfl (bytesCompare_any b2 0 _ _ b3 0 _ _ a c _ ha hc (n2.blk.at.keep (n3.mod.tr (Mod.drew _ _)) (by simp)) (n3.blk.at.keep (Mod.drew [] _) (by simp))) ?_
  rintro _ _ ⟨rfl, rfl⟩
  refine D.back trivial ?_
  refine D.evP 3 rfl (by kernel_rfl) rfl (np (by kernel_rfl)) (fun _ => E.assign rfl) ?_
  refine D.done rfl (by kernel_rfl) ?_
  refine X.keep [(4, _)] ⟨rfl, trivial⟩ ?_
  refine X.next ?_
  refine C.ret ?_
  refine X.ret1 rfl rfl ?_
  exact ⟨rfl, (n2.mod.tr n3.mod).tr (Mod.drew _ _)⟩

theorem idxLite_any (l : List UInt8) (c : UInt8) (w : World) :
    Ret Try.prog 69 #[str l, ub c] w fun v w' => v = .int .i64 (idxL c l 0) ∧ w = w' := by
  refine Ret.enter (n := 8) (args := [str l, ub c]) Try.func69 rfl rfl ?_
  refine C.keep [(0, _), (1, _)] ⟨rfl, rfl, trivial⟩ ?_
  refine C.seq ?_
  refine C.region ?_
  refine R.ev rfl (E.assign rfl) ?_
  refine R.done ?_
  refine X.keep [(0, _), (1, _)] ⟨rfl, rfl, trivial⟩ ?_
  refine X.next ?_
  refine C.seq ?_
  refine C.region ?_
  refine R.ev rfl (E.move rfl) ?_
  refine R.ev rfl (E.move rfl) ?_
  refine R.ev rfl (E.ext ⟨_, Try.func80, by kernel_rfl, by kernel_rfl, by kernel_rfl, (by kernel_rfl : Extern.find _ = some Extern.BytealgIndexByte.indexByte)⟩ rfl (run_indexStr _ _)) ?_
  refine R.ev rfl (E.assign rfl) ?_
  refine R.done ?_
  refine X.keep [(4, _)] ⟨rfl, trivial⟩ ?_
  refine X.next ?_
  refine C.ret ?_
  refine X.ret1 rfl rfl ?_
  exact ⟨rfl, rfl⟩
theorem idxStr_any (l : List UInt8) (c : UInt8) (w : World) :
    Ret Try.prog 59 #[str l, ub c] w fun v w' => v = .int .i64 (idxL c l 0) ∧ w = w' := by
  refine Ret.enter (n := 8) (args := [str l, ub c]) Try.func59 rfl rfl ?_
  refine C.keep [(0, _), (1, _)] ⟨rfl, rfl, trivial⟩ ?_
  refine C.seq ?_
  refine C.region ?_
  refine R.ev rfl (E.assign rfl) ?_
  refine R.done ?_
  refine X.keep [(0, _), (1, _)] ⟨rfl, rfl, trivial⟩ ?_
  refine X.next ?_
  refine C.seq ?_
  refine C.region ?_
  refine R.ev rfl (E.move rfl) ?_
  refine R.ev rfl (E.move rfl) ?_
  refine R.call ⟨_, _, Try.func69, rfl, by kernel_rfl⟩ rfl rfl (idxLite_any _ _ _) ?_
  rintro _ _ ⟨rfl, rfl⟩
  refine R.ev rfl (E.assign rfl) ?_
  refine R.done ?_
  refine X.keep [(4, _)] ⟨rfl, trivial⟩ ?_
  refine X.next ?_
  refine C.ret ?_
  refine X.ret1 rfl rfl ?_
  exact ⟨rfl, rfl⟩
end Go.Proofs.Ytkmgmdgkphckgaa
