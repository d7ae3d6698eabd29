/-
  BacklogEvery returns true for every input. No condition.
-/
import Derived.Test.YtoidpcmcbmioiaaRows
import Derived.Test.YtoidpcmcbmioiaaEvP
import Derived.Test.YtoidpcmcbmioiaaByt
namespace Go.Proofs.Ytoidpcmcbmioiaa
open Go.Eng Go.RowKit

def encK (k : Nat) : List Value := [.int .i64 (k : Nat)]
instance : Enc encK 1 := ⟨fun _ => rfl, fun o u hu => by simp [encK] at hu; subst hu; rfl⟩
instance {o : Nat} : CellOf (encK o) 0 (.int .i64 (o : Nat)) := ⟨rfl⟩
theorem wrap_ub (n : Nat) : Value.int .u8 (IntKind.u8.wrap ((n : Nat) : Int)) = ub (UInt8.ofNat n) := by
  show _ = Value.int .u8 _
  rw [IntKind.wrap_u8, UInt8.toNat_ofNat']; rfl
theorem and1 {x : Nat} (hx : x < 18446744073709551616) : IntKind.u64.wrap ((BitVec.ofInt IntKind.u64.bits (x : Int) &&& BitVec.ofInt IntKind.u64.bits 1).toNat : Int) = ((x % 2 : Nat) : Int) := by
  have h1 : (BitVec.ofInt IntKind.u64.bits (x : Int)).toNat = x := by
    rw [BitVec.ofInt_natCast, BitVec.toNat_ofNat]; exact Nat.mod_eq_of_lt hx
  have h2 : (BitVec.ofInt IntKind.u64.bits 1).toNat = 1 := rfl
  rw [BitVec.toNat_and, h1, h2, Nat.and_one_is_mod, IntKind.wrap_u64]; omega
/-- the bit of an article -/
def lbit (x k : Nat) : Nat := x / 2 ^ k % 2
theorem lbit_le (x k : Nat) : lbit x k ≤ 1 := by unfold lbit; omega
theorem shr_nat {x k : Nat} (hk : k < 40) : (x : Int).fdiv (2 ^ (min ((k : Nat) : Int).toNat IntKind.u64.bits)) = ((x / 2 ^ k : Nat) : Int) := by
  rw [Int.toNat_natCast, show min k IntKind.u64.bits = k from Nat.min_eq_left (by show _ ≤ 64; omega), Int.fdiv_eq_ediv_of_nonneg _ (Int.le_of_lt (Int.pow_pos (by decide)))]
  push_cast; rfl
theorem shr_lt {x k : Nat} (hx : x < 18446744073709551616) : x / 2 ^ k < 18446744073709551616 := Nat.lt_of_le_of_lt (Nat.div_le_self _ _) hx
def idsL (k : Nat) : List (Vec 32) := (List.range k).map idn
theorem idsL_len (k : Nat) : (idsL k).length = k := by simp [idsL]
theorem idsL_snoc (k : Nat) : idsL (k + 1) = idsL k ++ [idn k] := by simp [idsL, List.range_succ]
theorem idsL_get {k i : Nat} (h : i < k) : (idsL k)[i]? = some (idn i) := by simp [idsL, h]
theorem fn_idn {k : Nat} (hk : k < 40) : (UInt8.ofNat (k + 1)).toNat = k + 1 := by rw [UInt8.toNat_ofNat']; omega
theorem nxtL_sub {s : Bk} (now most : Int) (L : List Ent) : (nxtL s now most L).Sublist (L.map Ent.id) := (List.take_sublist _ _).trans (List.filter_sublist.map _)
theorem EvI.lat' {n : Nat} {c : Int} {f : Nat → Nat} {now top : Int} {s : Bk} {fs : List Nat} (h : EvI n c f now top s fs) (hn : n ≤ 39) {k x : Nat} (hk : k < n) (ha : idn k ∈ s.L.map Ent.id) (hx : fs[k]? = some x) (h0 : x = 0) (hd : f k = 1) (ht : now + 4 ≤ top) (hm1 : isMin now = true) (hm2 : isMin (now + 4) = true) :
    latE { s with M := [(idn k, true)] } (idn k) now = 0 ∧ EvI n c f now top (latS { s with M := [(idn k, true)] } (idn k) now) (fs.set k (x + 1)) ∧ latS { s with M := [(idn k, true)] } (idn k) now = { s with L := remL (idn k) s.L ++ [⟨idn k, now + 4, 1⟩] } := by
  subst h0
  exact h.lat hn hk ha hx hd ht hm1 hm2
theorem EvI.top3 {n : Nat} {c : Int} {f : Nat → Nat} {s : Bk} {fs : List Nat} (hev : EvI n c f 0 0 s fs) : EvI n c f ((0 : Nat) : Int) ((0 : Nat) + 3) s fs := ⟨hev.b, hev.m, hev.cap, hev.wt, hev.len, fun e he => by
  obtain ⟨j, h1, h2, h3⟩ := hev.ent e he
  exact ⟨j, h1, h2, h3.elim .inl fun h => .inr ⟨h.1, h.2.1, by have := h.2.2.1; omega, h.2.2.2⟩⟩, hev.out⟩
theorem every_walk (w : World) (v0 : Value) (a0 : ArgV Try.prog w 5 v0) (v1 : Value) (a1 : ArgV Try.prog w 5 v1) (v2 : Value) (a2 : ArgV Try.prog w 42 v2) : Ret Try.prog 5 #[v0, v1, v2] w fun r w' => r = .bool true ∧ Mod [] w w' := by
  obtain ⟨c0, rfl, hc0⟩ := argv_int a0 Try.underlying5
  obtain ⟨n0, rfl, hn0⟩ := argv_int a1 Try.underlying5
  obtain ⟨x0, rfl, hx0⟩ := argv_int a2 Try.underlying42
  have hc0 : 0 ≤ c0 ∧ c0 ≤ 255 := by simp [Lit.wf] at hc0; exact ⟨hc0.1, hc0.2⟩
  have hn0 : 0 ≤ n0 ∧ n0 ≤ 255 := by simp [Lit.wf] at hn0; exact ⟨hn0.1, hn0.2⟩
  have hx0 : 0 ≤ x0 ∧ x0 < 18446744073709551616 := by simp [Lit.wf] at hx0; exact ⟨hx0.1, Int.lt_of_le_of_lt hx0.2 (by decide)⟩
  obtain ⟨x, rfl⟩ := Int.eq_ofNat_of_zero_le hx0.1
  have hx0 : x < 18446744073709551616 := by omega
  obtain ⟨n, hnn⟩ := Int.eq_ofNat_of_zero_le (show 0 ≤ n0 % 40 by omega)
  have hnn39 : n ≤ 39 := by omega
  have hnew : newOk (1 + c0 % 8) 4 = true := by simp [newOk, isCap, isWt]; omega
  have hs := Sat.start w
  refine Ret.enter (n := 165) (args := [.int .u8 c0, .int .u8 n0, .int .u64 (x : Int)]) Try.func5 rfl rfl ?_
  refine C.keep [(0, _), (1, _), (2, _)] ⟨rfl, rfl, rfl, trivial⟩ ?_
  refine C.seq ?_
  refine C.region ?_
  refine R.ev rfl (E.assign rfl) ?_
  refine R.done ?_
  refine X.keep [(0, _), (1, _), (2, _)] ⟨rfl, rfl, rfl, trivial⟩ ?_
  refine X.next ?_
  refine C.seq ?_
  refine C.seq ?_
  refine C.region ?_
  refine R.call ⟨_, _, Try.func12, rfl, by kernel_rfl⟩ rfl rfl (known_any hs) ?_
  rintro _ w1 ⟨rfl, hs⟩
  refine R.ev rfl (E.notT rfl) ?_
  refine R.done ?_
  refine X.keep [(0, _), (1, _), (2, _), (21, _)] ⟨rfl, rfl, rfl, rfl, trivial⟩ ?_
  refine X.next ?_
  refine C.cfalse rfl ?_
  refine C.skip ?_
  refine X.next ?_
  refine C.seq ?_
  refine C.region ?_
  refine R.ev rfl (E.move rfl) ?_
  refine R.ev rfl ((E.rem rfl rfl (by decide) (by omega)).isI (c := c0 % 8) rfl) ?_
  refine R.ev rfl ((E.conv rfl Try.underlying5 Try.underlying3).isI (c := c0 % 8) (wrap_i64 (by omega) (by omega))) ?_
  refine R.ev rfl (E.add rfl rfl (by omega) (by omega)) ?_
  refine R.call ⟨_, _, Try.func14, rfl, by kernel_rfl⟩ rfl rfl (new_any (1 + c0 % 8) 4 hs) ?_
  rintro _ w2 (⟨h, _⟩ | ⟨_, p, F0, rfl, hw0, hs⟩)
  · exact absurd (h.symm.trans hnew) (by decide)
  refine R.ev rfl (E.move rfl) ?_
  refine R.ev rfl (E.extract rfl rfl) ?_
  refine R.ev rfl (E.extract rfl rfl) ?_
  refine R.ev rfl (E.assign rfl) ?_
  refine R.ev rfl (E.assign rfl) ?_
  refine R.done ?_
  refine X.keep [(1, _), (2, _), (7, _), (8, _)] ⟨rfl, rfl, rfl, rfl, trivial⟩ ?_
  refine X.next ?_
  refine C.seq ?_
  refine C.seq ?_
  refine C.region ?_
  refine R.ev rfl (E.move rfl) ?_
  refine R.ev rfl ((E.neq rfl rfl).isF (by decide)) ?_
  refine R.done ?_
  refine X.keep [(1, _), (2, _), (7, _), (31, _)] ⟨rfl, rfl, rfl, rfl, trivial⟩ ?_
  refine X.next ?_
  refine C.cfalse rfl ?_
  refine C.skip ?_
  refine X.next ?_
  refine C.seq ?_
  refine C.region ?_
  refine R.ev rfl (E.assign rfl) ?_
  refine R.done ?_
  refine X.keep [(1, _), (2, _), (7, _), (9, _)] ⟨rfl, rfl, rfl, rfl, trivial⟩ ?_
  refine X.next ?_
  refine C.seq ?_
  refine C.seq ?_
  refine C.region ?_
  refine R.ev rfl (E.assign rfl) ?_
  refine R.done ?_
  refine X.keep [(1, _), (2, _), (7, _), (9, _), (10, _)] ⟨rfl, rfl, rfl, rfl, rfl, trivial⟩ ?_
  refine X.next ?_
  refine C.block ?_
  refine C.loop (T := Nat × Value × Hl × Bk × Hl) [(1, _), (2, _), (7, _)] (fun (k, v, _) => [(9, v), (10, .int .i64 (k : Nat))]) (fun (k, v, F1, s, F2) w' => k ≤ n ∧ EvI k (1 + c0 % 8) (lbit x) 0 0 s (List.replicate k 0) ∧ RowL 30 encV 32 v (idsL k) F1 ∧ BkL p s F2 ∧ Sat (Kn.of w) w' (F1 :: F2 :: [])) (fun (k, _) => n - k) ((0, .slice none 0 0, [], ⟨1 + c0 % 8, 4, false, [], []⟩, F0)) ⟨rfl, rfl, rfl, rfl, rfl, trivial⟩ ⟨by omega, EvI.start hnew, RowL.nilI, hw0, hs.nil⟩ ?_
  rintro ⟨k, v, F1, s, F2⟩ w3 ⟨hk, hev, r1, hw1, hs⟩
  have hil := idsL_len k
  have hsl : s.L.length ≤ 8 := by have := hev.b.le; rw [hev.cap] at this; omega
  refine C.keep [(1, _), (2, _), (7, _), (9, _), (10, _)] ⟨rfl, rfl, rfl, rfl, rfl, trivial⟩ ?_
  refine C.seq ?_
  refine C.seq ?_
  refine C.region ?_
  refine R.ev rfl (E.move rfl) ?_
  refine R.ev rfl (E.move rfl) ?_
  refine R.ev rfl ((E.rem rfl rfl (by decide) (by omega)).isI (c := (n : Int)) hnn) ?_
  refine R.ev rfl ((E.conv rfl Try.underlying5 Try.underlying3).isI (c := (n : Int)) (wrap_i64 (by omega) (by omega))) ?_
  refine R.ev rfl (E.lss rfl rfl) ?_
  refine R.done ?_
  refine X.keep [(1, _), (2, _), (7, _), (9, _), (10, _), (36, _)] ⟨rfl, rfl, rfl, rfl, rfl, rfl, trivial⟩ ?_
  refine X.next ?_
  refine C.cdec rfl (fun h36 => ?_) (fun h36 => ?_)
  · refine C.skip ?_
    refine X.next ?_
    refine C.seq ?_
    refine C.block ?_
    refine C.seq ?_
    refine C.region ?_
    refine R.ev rfl (E.move rfl) ?_
    refine R.ev rfl (E.move rfl) ?_
    refine R.ev rfl ((E.add rfl rfl (by omega) (by omega)).isI (c := ((k + 1 : Nat) : Int)) (by omega)) ?_
    refine R.ev rfl ((E.conv rfl Try.underlying3 Try.underlying5).as (u := ub (UInt8.ofNat (k + 1))) (wrap_ub _)) ?_
    refine R.ev rfl ((E.buildA rfl Try.underlying30 Try.zr30 Try.sz5 rfl).as (u := .agg (encV (idn k)).toArray) (by rfl)) ?_
    refine R.buildSliceA rfl Try.underlying40 Try.sz30 Try.zr30 rfl (by first | rfl | assumption | exact encV_len _ | exact Enc.len _ | simp [*]) (by decide) (by decide) ?_
    intro b44 w44 n44
    have hs := hs.new n44
    refine R.capp1 ((idn k)) hs rfl rfl Try.underlying40 Try.by30 (by rfl) rfl (by first | exact hs.ldA | exact hs.ldP rfl | exact by assumption) (by decide) (by first | omega | (simp only [List.length_append, List.length_cons, List.length_nil] at *; omega)) (by first | omega | (simp only [List.length_append, List.length_cons, List.length_nil] at *; omega)) ?_
    intro v45 w45 F45 r45 hs
    refine R.ev rfl (E.assign rfl) ?_
    refine R.done ?_
    refine X.keep [(1, _), (2, _), (7, _), (9, _), (10, _)] ⟨rfl, rfl, rfl, rfl, rfl, trivial⟩ ?_
    refine X.next ?_
    refine C.region ?_
    rw [← idsL_snoc] at r45
    obtain ⟨ad45, cap45, rfl, _⟩ := r45.val
    obtain ⟨y, bk_y, of_y, hy, my, ly, rfl, Ay⟩ := hs.el (i := k) (ad := ad45) (n := (idsL (k + 1)).length) (c := cap45) (by rw [idsL_len]; omega)
    rw [idsL_get (by omega)] at hy
    obtain rfl : idn k = y := by simpa using hy
    have ay := Ay _ hs
    refine R.ev rfl (E.move rfl) ?_
    refine R.ev rfl (E.move rfl) ?_
    refine R.ev rfl (E.move rfl) ?_
    refine R.ev rfl (E.indexAddr (i := k) rfl rfl Try.underlying40 Try.sz30 rfl (by rw [idsL_len]; omega)) ?_
    refine R.ev rfl (E.loadRowC rfl Try.underlying30 rfl Try.sz30 (by first | exact ⟨hs.ldA, by first | rfl | assumption | exact encV_len _ | exact Enc.len _ | exact len_ub (by assumption)⟩ | exact ⟨hs.ldP rfl, by first | rfl | assumption | exact encV_len _ | exact Enc.len _ | exact len_ub (by assumption)⟩ | exact ⟨hs.ldM rfl rfl, by first | rfl | assumption | exact encV_len _ | exact Enc.len _ | exact len_ub (by assumption)⟩ | exact ⟨hs.ldM (by assumption) (by first | rfl | assumption), by first | rfl | assumption | exact encV_len _ | exact Enc.len _ | exact len_ub (by assumption)⟩ | exact ⟨by assumption, by first | rfl | assumption | exact encV_len _ | exact Enc.len _ | exact len_ub (by assumption)⟩ | exact hs.ldp | exact At.partC (by assumption))) ?_
    refine R.call ⟨_, _, Try.func15, rfl, by kernel_rfl⟩ rfl rfl (add_any (idn k) 0 (hs.front (F := F2)) (by omega)) ?_
    rintro _ w4 ⟨rfl, F4, hw4, hs1⟩
    have hs := hs.back (F := F2) hs1
    refine R.done ?_
    refine X.keep [(1, _), (2, _), (7, _), (9, _), (10, _)] ⟨rfl, rfl, rfl, rfl, rfl, trivial⟩ ?_
    refine X.blockNormal ?_
    refine X.next ?_
    refine C.region ?_
    refine R.ev rfl (E.move rfl) ?_
    refine R.ev rfl (E.add rfl rfl (by omega) (by omega)) ?_
    refine R.ev rfl (E.assign rfl) ?_
    refine R.done ?_
    refine X.keep [(1, _), (2, _), (7, _), (9, _), (10, _)] ⟨rfl, rfl, rfl, rfl, rfl, trivial⟩ ?_
    exact X.again (k + 1, _, _, addS s (idn k) 0, F4) ⟨rfl, rfl, rfl, rfl, rfl, trivial⟩ ⟨by omega, hev.add (by omega), r45, hw4, hs.to⟩ (by show _ - _ < _ - _; omega)
  · refine C.exit ?_
    refine X.thenExit ?_
    refine X.loopExit ?_
    refine X.blockExit ?_
    refine X.next ?_
    refine C.seq ?_
    refine C.region ?_
    obtain rfl : n = k := by omega
    have hps := psi_start hev hnn39 (lbit_le x)
    obtain ⟨ad1, cap1, rfl, _⟩ := r1.val
    refine R.ev rfl (E.move rfl) ?_
    refine R.ev rfl (E.lenSl rfl Try.underlying40) ?_
    refine R.cmakeZ (enc := encK) (0 : Nat) (m := n) hs rfl rfl Try.underlying43 Try.by3 rfl rfl (by rw [hil]) (by rw [hil]) (by omega) (by omega) (by decide) ?_
    intro b54 w54 r54 hs
    refine R.ev rfl (E.assign rfl) ?_
    refine R.done ?_
    refine X.keep [(2, _), (7, _), (9, _), (11, _)] ⟨rfl, rfl, rfl, rfl, trivial⟩ ?_
    refine X.next ?_
    refine C.seq ?_
    refine C.seq ?_
    refine C.region ?_
    refine R.ev rfl (E.assign rfl) ?_
    refine R.done ?_
    refine X.keep [(2, _), (7, _), (9, _), (11, _), (12, _)] ⟨rfl, rfl, rfl, rfl, rfl, trivial⟩ ?_
    refine X.next ?_
    refine C.block ?_
    refine C.loop (T := Nat × Bk × Hl × List Nat × Hl) [(2, _), (7, _), (9, _), (11, _)] (fun (k, _) => [(12, .int .i64 (k : Nat))]) (fun (k, s, F2, fs, F3) w' => k ≤ 500 ∧ EvI n (1 + c0 % 8) (lbit x) k (k + 3) s fs ∧ psi (lbit x) k s fs ≤ 313 - k ∧ BkL p s F2 ∧ RowL 3 encK 1 (.slice (some ⟨b54, 0, none⟩) n n) fs F3 ∧ Sat (Kn.of w) w' (F3 :: F2 :: F1 :: [])) (fun (k, _) => 500 - k) ((0, s, F2, List.replicate n 0, _)) ⟨rfl, rfl, rfl, rfl, rfl, trivial⟩ ⟨by omega, hev.top3, hps, hw1, r54, hs.to⟩ ?_
    clear hs hev hw1 hps r54 hsl
    rintro ⟨k, s, F2, fs, F3⟩ w3 ⟨hk, hev, hps, hw1, r3, hs⟩
    have hsl : s.L.length ≤ 8 := by have := hev.b.le; rw [hev.cap] at this; omega
    have hfl := hev.len
    refine C.keep [(2, _), (7, _), (9, _), (11, _), (12, _)] ⟨rfl, rfl, rfl, rfl, rfl, trivial⟩ ?_
    refine C.seq ?_
    refine C.seq ?_
    refine C.region ?_
    refine R.ev rfl (E.move rfl) ?_
    refine R.ev rfl (E.lss rfl rfl) ?_
    refine R.done ?_
    refine X.keep [(2, _), (7, _), (9, _), (11, _), (12, _), (56, _)] ⟨rfl, rfl, rfl, rfl, rfl, rfl, trivial⟩ ?_
    refine X.next ?_
    refine C.cdec rfl (fun h56 => ?_) (fun h56 => ?_)
    · have hm1 : isMin (k : Int) = true := by simp [isMin]; omega
      have hm2 : isMin ((k : Int) + 4) = true := by simp [isMin]; omega
      refine C.skip ?_
      refine X.next ?_
      refine C.seq ?_
      refine C.block ?_
      refine C.seq ?_
      refine C.seq ?_
      refine C.region ?_
      refine R.ev rfl (E.move rfl) ?_
      refine R.call ⟨_, _, Try.func17, rfl, by kernel_rfl⟩ rfl rfl (missed_any hs) ?_
      rintro _ w16 ⟨rfl, hs⟩
      refine R.done ?_
      refine X.keep [(2, _), (7, _), (9, _), (11, _), (12, _), (60, _)] ⟨rfl, rfl, rfl, rfl, rfl, rfl, trivial⟩ ?_
      refine X.next ?_
      refine C.cut [(2, _), (7, _), (9, _), (11, _), (12, _)] (fun (_ : Bk × Hl) => []) (fun (s1, F') w' => EvI n (1 + c0 % 8) (lbit x) k (k + 3) s1 fs ∧ (∃ A, s1.L = s.L ++ A ∧ ∀ e ∈ A, e.due = k) ∧ (s1.inc = true → 1 + c0 % 8 ≤ s1.L.length) ∧ (s1.inc = true → s.inc = true) ∧ BkL p s1 F' ∧ Sat (Kn.of w) w' (F3 :: F' :: F1 :: [])) ⟨rfl, rfl, rfl, rfl, rfl, trivial⟩ ?_ ?_
      · refine C.cbool rfl (fun h60 => ?_) (fun h60 => ?_)
        · refine C.seq ?_
          refine C.region ?_
          refine R.ev rfl (E.assign rfl) ?_
          refine R.done ?_
          refine X.keep [(2, _), (7, _), (9, _), (11, _), (12, _), (13, _)] ⟨rfl, rfl, rfl, rfl, rfl, rfl, trivial⟩ ?_
          refine X.next ?_
          refine C.seq ?_
          refine C.seq ?_
          refine C.region ?_
          refine R.ev rfl (E.assign rfl) ?_
          refine R.done ?_
          refine X.keep [(2, _), (7, _), (9, _), (11, _), (12, _), (13, _), (14, _)] ⟨rfl, rfl, rfl, rfl, rfl, rfl, rfl, trivial⟩ ?_
          refine X.next ?_
          refine C.block ?_
          refine C.loop (T := Nat × Value × Hl) [(2, _), (7, _), (9, _), (11, _), (12, _)] (fun (i, v, _) => [(13, v), (14, .int .i64 (i : Nat))]) (fun (i, v, F') w' => i ≤ n ∧ RowL 30 encV 32 v (restL fs i) F' ∧ Sat (Kn.of w) w' (F' :: F3 :: F2 :: F1 :: [])) (fun (i, _) => n - i) ((0, .slice none 0 0, [])) ⟨rfl, rfl, rfl, rfl, rfl, rfl, rfl, trivial⟩ ⟨by omega, by simp [restL]; exact RowL.nil _ _ _, hs.nil⟩ ?_
          rintro ⟨i, v, F5⟩ w6 ⟨hi, r5, hs⟩
          have hrl := restL_le (fs := fs) i
          refine C.keep [(2, _), (7, _), (9, _), (11, _), (12, _), (13, _), (14, _)] ⟨rfl, rfl, rfl, rfl, rfl, rfl, rfl, trivial⟩ ?_
          refine C.seq ?_
          refine C.seq ?_
          refine C.region ?_
          refine R.ev rfl (E.move rfl) ?_
          refine R.ev rfl (E.move rfl) ?_
          refine R.ev rfl (E.lenSl rfl Try.underlying40) ?_
          refine R.ev rfl (E.lss rfl rfl) ?_
          refine R.done ?_
          refine X.keep [(2, _), (7, _), (9, _), (11, _), (12, _), (13, _), (14, _), (64, _)] ⟨rfl, rfl, rfl, rfl, rfl, rfl, rfl, rfl, trivial⟩ ?_
          refine X.next ?_
          refine C.cdec rfl (fun h64 => ?_) (fun h64 => ?_)
          · have hin : i < n := by rw [hil] at h64; omega
            obtain ⟨u, bk_u, of_u, hu, mu, lu, eu, Au⟩ := hs.el (i := i) (ad := some ⟨b54, 0, none⟩) (n := n) (c := n) (by omega)
            simp only [Option.some.injEq, Addr.mk.injEq, and_true] at eu
            obtain ⟨rfl, rfl⟩ := eu
            have au := Au _ hs
            obtain ⟨y, bk_y, of_y, hy, my, ly, rfl, Ay⟩ := hs.el (i := i) (ad := ad1) (n := (idsL n).length) (c := cap1) (by omega)
            rw [idsL_get hin] at hy
            obtain rfl : idn i = y := by simpa using hy
            have ay := Ay _ hs
            refine C.skip ?_
            refine X.next ?_
            refine C.seq ?_
            refine C.block ?_
            refine C.seq ?_
            refine C.region ?_
            refine R.ev rfl (E.move rfl) ?_
            refine R.ev rfl (E.move rfl) ?_
            refine R.ev rfl (E.indexAddr rfl rfl Try.underlying43 Try.sz3 rfl (by first | omega | decide)) ?_
            refine R.ev rfl (E.load1 rfl Try.underlying3 rfl (au 0 _ rfl)) ?_
            refine R.ev rfl (E.eql rfl rfl) ?_
            refine R.done ?_
            refine X.keep [(2, _), (7, _), (9, _), (11, _), (12, _), (13, _), (14, _), (71, _)] ⟨rfl, rfl, rfl, rfl, rfl, rfl, rfl, rfl, trivial⟩ ?_
            refine X.next ?_
            refine C.cdec rfl (fun h71 => ?_) (fun h71 => ?_)
            · refine C.region ?_
              refine R.ev rfl (E.move rfl) ?_
              refine R.ev rfl (E.move rfl) ?_
              refine R.ev rfl (E.move rfl) ?_
              refine R.ev rfl (E.indexAddr rfl rfl Try.underlying40 Try.sz30 rfl (by first | omega | decide)) ?_
              refine R.ev rfl (E.loadRowC rfl Try.underlying30 rfl Try.sz30 (by first | exact ⟨hs.ldA, by first | rfl | assumption | exact encV_len _ | exact Enc.len _ | exact len_ub (by assumption)⟩ | exact ⟨hs.ldP rfl, by first | rfl | assumption | exact encV_len _ | exact Enc.len _ | exact len_ub (by assumption)⟩ | exact ⟨hs.ldM rfl rfl, by first | rfl | assumption | exact encV_len _ | exact Enc.len _ | exact len_ub (by assumption)⟩ | exact ⟨hs.ldM (by assumption) (by first | rfl | assumption), by first | rfl | assumption | exact encV_len _ | exact Enc.len _ | exact len_ub (by assumption)⟩ | exact ⟨by assumption, by first | rfl | assumption | exact encV_len _ | exact Enc.len _ | exact len_ub (by assumption)⟩ | exact hs.ldp | exact At.partC (by assumption))) ?_
              refine R.buildSliceA rfl Try.underlying40 Try.sz30 Try.zr30 rfl (by first | rfl | assumption | exact encV_len _ | exact Enc.len _ | simp [*]) (by decide) (by decide) ?_
              intro b77 w77 n77
              have hs := hs.new n77
              refine R.capp1 ((idn i)) hs rfl rfl Try.underlying40 Try.by30 (by rfl) rfl (by first | exact hs.ldA | exact hs.ldP rfl | exact by assumption) (by decide) (by first | omega | (simp only [List.length_append, List.length_cons, List.length_nil] at *; omega)) (by first | omega | (simp only [List.length_append, List.length_cons, List.length_nil] at *; omega)) ?_
              intro v78 w78 F78 r78 hs
              refine R.ev rfl (E.assign rfl) ?_
              refine R.done ?_
              refine X.keep [(2, _), (7, _), (9, _), (11, _), (12, _), (13, _), (14, _)] ⟨rfl, rfl, rfl, rfl, rfl, rfl, rfl, trivial⟩ ?_
              refine X.blockNormal ?_
              refine X.next ?_
              refine C.region ?_
              refine R.ev rfl (E.move rfl) ?_
              refine R.ev rfl (E.add rfl rfl (by omega) (by omega)) ?_
              refine R.ev rfl (E.assign rfl) ?_
              refine R.done ?_
              refine X.keep [(2, _), (7, _), (9, _), (11, _), (12, _), (13, _), (14, _)] ⟨rfl, rfl, rfl, rfl, rfl, rfl, rfl, trivial⟩ ?_
              first
                | exact X.again (i + 1, v78, F78) ⟨rfl, rfl, rfl, rfl, rfl, rfl, rfl, trivial⟩ ⟨by omega, by rw [restL_snoc, hu, if_pos (by rw [show u = 0 by omega])]; exact r78, hs.to⟩ (by show _ - _ < _ - _; omega)
                | exact X.again (i + 1, v, F5) ⟨rfl, rfl, rfl, rfl, rfl, rfl, rfl, trivial⟩ ⟨by omega, by rw [restL_snoc, hu, if_neg (by simpa using fun e => h71 (by rw [e]; rfl))]; simpa using r5, hs.to⟩ (by show _ - _ < _ - _; omega)
            · refine C.skip ?_
              refine X.blockNormal ?_
              refine X.next ?_
              refine C.region ?_
              refine R.ev rfl (E.move rfl) ?_
              refine R.ev rfl (E.add rfl rfl (by omega) (by omega)) ?_
              refine R.ev rfl (E.assign rfl) ?_
              refine R.done ?_
              refine X.keep [(2, _), (7, _), (9, _), (11, _), (12, _), (13, _), (14, _)] ⟨rfl, rfl, rfl, rfl, rfl, rfl, rfl, trivial⟩ ?_
              first
                | exact X.again (i + 1, v78, F78) ⟨rfl, rfl, rfl, rfl, rfl, rfl, rfl, trivial⟩ ⟨by omega, by rw [restL_snoc, hu, if_pos (by rw [show u = 0 by omega])]; exact r78, hs.to⟩ (by show _ - _ < _ - _; omega)
                | exact X.again (i + 1, v, F5) ⟨rfl, rfl, rfl, rfl, rfl, rfl, rfl, trivial⟩ ⟨by omega, by rw [restL_snoc, hu, if_neg (by simpa using fun e => h71 (by rw [e]; rfl))]; simpa using r5, hs.to⟩ (by show _ - _ < _ - _; omega)
          · refine C.exit ?_
            refine X.thenExit ?_
            refine X.loopExit ?_
            refine X.blockExit ?_
            refine X.next ?_
            refine C.region ?_
            have hie : i = n := by rw [hil] at h64; omega
            subst hie
            obtain ⟨ad5, cap5, rfl, _⟩ := r5.val
            refine R.ev rfl (E.move rfl) ?_
            refine R.ev rfl (E.move rfl) ?_
            refine R.call ⟨_, _, Try.func26, rfl, by kernel_rfl⟩ rfl rfl (values_any ad5 (restL fs i).length cap5 hs) ?_
            rintro _ w81 ⟨b81, rfl, hs⟩
            refine R.ev rfl (E.move rfl) ?_
            refine R.call ⟨_, _, Try.func25, rfl, by kernel_rfl⟩ rfl rfl (scan_any (L := restL fs i) (now := k) (hs.front (F := F2)) (by omega) (by rw [hev.cap]; omega) (by omega)) ?_
            rintro _ w83 ⟨rfl, F83, hw83, hs1⟩
            have hs := hs.back (F := F2) hs1
            have hsc := hev.scan hnn39 hm1
            refine R.done ?_
            refine X.keep [(2, _), (7, _), (9, _), (11, _), (12, _)] ⟨rfl, rfl, rfl, rfl, rfl, trivial⟩ ?_
            first
              | exact X.cut ((_, F83)) ⟨rfl, rfl, rfl, rfl, rfl, trivial⟩ ⟨hsc.1, hsc.2.2, hsc.2.1, fun _ => h60, hw83, hs.to⟩
              | exact X.cut ((s, F2)) ⟨rfl, rfl, rfl, rfl, rfl, trivial⟩ ⟨hev, ⟨[], by simp, by simp⟩, fun h => absurd (h.symm.trans h60) (by decide), id, hw1, hs.to⟩
        · refine C.skip ?_
          first
            | exact X.cut ((_, F83)) ⟨rfl, rfl, rfl, rfl, rfl, trivial⟩ ⟨hsc.1, hsc.2.2, hsc.2.1, fun _ => h60, hw83, hs.to⟩
            | exact X.cut ((s, F2)) ⟨rfl, rfl, rfl, rfl, rfl, trivial⟩ ⟨hev, ⟨[], by simp, by simp⟩, fun h => absurd (h.symm.trans h60) (by decide), id, hw1, hs.to⟩
      · rintro ⟨s1, F4⟩ w5 ⟨hev1, ⟨A, hLA, hA⟩, hfu, hin, hw2, hs⟩
        refine X.keep [(2, _), (7, _), (9, _), (11, _), (12, _)] ⟨rfl, rfl, rfl, rfl, rfl, trivial⟩ ?_
        refine X.next ?_
        refine C.seq ?_
        refine C.region ?_
        refine R.ev rfl (E.move rfl) ?_
        refine R.ev rfl (E.move rfl) ?_
        refine R.call ⟨_, _, Try.func24, rfl, by kernel_rfl⟩ rfl rfl (next_any k 3 hs (by have := hev1.b.le; rw [hev1.cap] at this; omega)) ?_
        rintro v86 w86 ⟨F86, r86, hs⟩
        have hnd : (nxtL s1 k 3 s1.L).Nodup := hev1.b.nd.sublist (nxtL_sub _ _ _)
        have hsub : ∀ a ∈ nxtL s1 k 3 s1.L, a ∈ s1.L.map Ent.id := fun a ha => (nxtL_sub _ _ _).subset ha
        have hno : (nxtL s1 k 3 s1.L).length = 0 → ∀ e ∈ s1.L, (k : Int) < e.due := fun h0 e he => by
          have h1 : (s1.L.filter (nxt s1 k)).length = 0 := by
            rw [nxtL, List.length_take, List.length_map] at h0
            have : (3 : Int).toNat = 3 := rfl
            omega
          rw [List.length_eq_zero_iff, List.filter_eq_nil_iff] at h1
          have h2 := h1 e he
          have h3 : s1.out e.id = false := by rw [Bk.out, hev1.m]; simp [lkM, findM]
          simp [nxt, h3] at h2
          exact h2
        have hll := nxtL_le (s := s1) k 3 s1.L
        have hl1 : s1.L.length ≤ 8 := by have := hev1.b.le; rw [hev1.cap] at this; omega
        generalize nxtL s1 k 3 s1.L = l at r86 hnd hsub hno hll
        obtain ⟨ad86, cap86, rfl, _⟩ := r86.val
        refine R.ev rfl (E.assign rfl) ?_
        refine R.done ?_
        refine X.keep [(2, _), (7, _), (9, _), (11, _), (12, _), (15, _)] ⟨rfl, rfl, rfl, rfl, rfl, rfl, trivial⟩ ?_
        refine X.next ?_
        refine C.seq ?_
        refine C.region ?_
        refine R.ev rfl (E.assign rfl) ?_
        refine R.done ?_
        refine X.keep [(2, _), (7, _), (9, _), (11, _), (12, _), (15, _), (16, _)] ⟨rfl, rfl, rfl, rfl, rfl, rfl, rfl, trivial⟩ ?_
        refine X.next ?_
        refine C.block ?_
        refine C.loop (T := Nat × Bk × Hl × List Nat × Hl) [(2, _), (7, _), (9, _), (11, _), (12, _), (15, _)] (fun (i, _) => [(16, .int .i64 (i : Nat))]) (fun (i, s2, F5, fs2, F6) w' => i ≤ l.length ∧ EvI n (1 + c0 % 8) (lbit x) k (k + 4) s2 fs2 ∧ (∀ a ∈ l.drop i, a ∈ s2.L.map Ent.id) ∧ owed (lbit x) 0 fs2 + i = owed (lbit x) 0 fs ∧ s2.inc = s1.inc ∧ (i = 0 → s2 = s1 ∧ fs2 = fs) ∧ BkL p s2 F5 ∧ RowL 3 encK 1 (.slice (some ⟨b54, 0, none⟩) n n) fs2 F6 ∧ Sat (Kn.of w) w' (F6 :: F5 :: F86 :: F1 :: [])) (fun (i, _) => l.length - i) ((0, s1, F4, fs, F3)) ⟨rfl, rfl, rfl, rfl, rfl, rfl, rfl, trivial⟩ ⟨by omega, hev1.wide, by simpa using hsub, rfl, rfl, fun _ => ⟨rfl, rfl⟩, hw2, r3, hs.to⟩ ?_
        clear hs
        rintro ⟨i, s2, F5, fs2, F6⟩ w7 ⟨hi, hev2, hin2, how, hinc, hi0, hw5, r6, hs⟩
        have hl2 : s2.L.length ≤ 8 := by have := hev2.b.le; rw [hev2.cap] at this; omega
        refine C.keep [(2, _), (7, _), (9, _), (11, _), (12, _), (15, _), (16, _)] ⟨rfl, rfl, rfl, rfl, rfl, rfl, rfl, trivial⟩ ?_
        refine C.seq ?_
        refine C.seq ?_
        refine C.region ?_
        refine R.ev rfl (E.move rfl) ?_
        refine R.ev rfl (E.move rfl) ?_
        refine R.ev rfl (E.lenSl rfl Try.underlying40) ?_
        refine R.ev rfl (E.lss rfl rfl) ?_
        refine R.done ?_
        refine X.keep [(2, _), (7, _), (9, _), (11, _), (12, _), (15, _), (16, _), (90, _)] ⟨rfl, rfl, rfl, rfl, rfl, rfl, rfl, rfl, trivial⟩ ?_
        refine X.next ?_
        refine C.cdec rfl (fun h90 => ?_) (fun h90 => ?_)
        · obtain ⟨y, bk_y, of_y, hy, my, ly, rfl, Ay⟩ := hs.el (i := i) (ad := ad86) (n := l.length) (c := cap86) (by omega)
          have hdr := List.drop_eq_getElem_cons (l := l) (i := i) (by omega)
          rw [(List.getElem?_eq_some_iff.1 hy).2] at hdr
          have hym : y ∈ s2.L.map Ent.id := hin2 y (by rw [hdr]; simp)
          obtain ⟨j, z, hj, rfl, hz, hzf, hzc⟩ := hev2.find hym
          have hj8 := fn_idn (k := j) (by omega)
          have ay := Ay _ hs
          obtain ⟨u, bk_u, of_u, hu, mu, lu, eu, Au⟩ := hs.el (i := j) (ad := some ⟨b54, 0, none⟩) (n := n) (c := n) (by omega)
          simp only [Option.some.injEq, Addr.mk.injEq, and_true] at eu
          obtain ⟨rfl, rfl⟩ := eu
          obtain rfl : u = z := by rw [hu] at hz; simpa using hz
          have au := Au _ hs
          have how1 := owed_set (o := 0) (f := lbit x) hu (by simpa using hzf)
          have hof := hev2.off hym
          have hot : ∀ a ∈ l.drop (i + 1), a ∈ s2.L.map Ent.id ∧ a ≠ idn j := fun a ha => ⟨hin2 a (by rw [hdr]; exact List.mem_cons_of_mem _ ha), fun e => by
            have := hnd.sublist (List.drop_sublist i l)
            rw [hdr, List.nodup_cons] at this
            rw [e] at ha; exact this.1 ha⟩
          refine C.skip ?_
          refine X.next ?_
          refine C.seq ?_
          refine C.block ?_
          refine C.seq ?_
          refine C.region ?_
          refine R.ev rfl (E.move rfl) ?_
          refine R.ev rfl (E.move rfl) ?_
          refine R.ev rfl (E.indexAddr rfl rfl Try.underlying40 Try.sz30 rfl (by first | omega | decide)) ?_
          refine R.ev rfl (E.indexAddrA (i := 0) rfl rfl Try.underlying30 Try.sz5 rfl (by decide)) ?_
          refine R.ev rfl (E.load1 rfl Try.underlying5 rfl (ay 0 _ rfl)) ?_
          refine R.ev rfl ((E.conv rfl Try.underlying5 Try.underlying3).isI (c := ((j + 1 : Nat) : Int)) (by show IntKind.i64.wrap (((UInt8.ofNat (j + 1)).toNat : Nat) : Int) = _; rw [hj8]; exact wrap_i64 (by omega) (by omega))) ?_
          refine R.ev rfl ((E.sub rfl rfl (by omega) (by omega)).isI (c := ((j : Nat) : Int)) (by omega)) ?_
          refine R.ev rfl (E.assign rfl) ?_
          refine R.done ?_
          refine X.keep [(2, _), (7, _), (9, _), (11, _), (12, _), (15, _), (16, _), (17, _)] ⟨rfl, rfl, rfl, rfl, rfl, rfl, rfl, rfl, trivial⟩ ?_
          refine X.next ?_
          refine C.seq ?_
          refine C.region ?_
          refine R.ev rfl (E.move rfl) ?_
          refine R.ev rfl (E.move rfl) ?_
          refine R.ev rfl (E.indexAddr rfl rfl Try.underlying43 Try.sz3 rfl (by first | omega | decide)) ?_
          refine R.ev rfl (E.load1 rfl Try.underlying3 rfl (au 0 _ rfl)) ?_
          refine R.ev rfl ((E.add rfl rfl (by omega) (by omega)).isI (c := ((u + 1 : Nat) : Int)) (by omega)) ?_
          refine R.ev rfl (E.indexAddr rfl rfl Try.underlying43 Try.sz3 rfl (by first | omega | decide)) ?_
          refine R.ssetF (el' := u + 1) j (hs.front (F := F6)) r6 rfl rfl Try.sz3 hu ?_ (off := 0) (by omega) (by decide) rfl ?_
          · simp [encK]
          intro w29 F7 r7 hs1
          have hs := hs.back (F := F6) hs1
          have Ay := hs.elAt (b := bk_y) (off := of_y) (n := l.length) (cap86) hy
          have ay := Ay _ hs
          have e2 := encV_len (idn j)
          refine R.done ?_
          refine X.keep [(2, _), (7, _), (9, _), (11, _), (12, _), (15, _), (16, _), (17, _)] ⟨rfl, rfl, rfl, rfl, rfl, rfl, rfl, rfl, trivial⟩ ?_
          refine X.next ?_
          refine C.seq ?_
          refine C.seq ?_
          refine C.region ?_
          refine R.ev rfl (E.move rfl) ?_
          refine R.ev rfl (E.move rfl) ?_
          refine R.ev rfl (E.move rfl) ?_
          refine R.ev rfl (E.indexAddr rfl rfl Try.underlying40 Try.sz30 rfl (by first | omega | decide)) ?_
          refine R.ev rfl (E.loadRowC rfl Try.underlying30 rfl Try.sz30 (by first | exact ⟨hs.ldA, by first | rfl | assumption | exact encV_len _ | exact Enc.len _ | exact len_ub (by assumption)⟩ | exact ⟨hs.ldP rfl, by first | rfl | assumption | exact encV_len _ | exact Enc.len _ | exact len_ub (by assumption)⟩ | exact ⟨hs.ldM rfl rfl, by first | rfl | assumption | exact encV_len _ | exact Enc.len _ | exact len_ub (by assumption)⟩ | exact ⟨hs.ldM (by assumption) (by first | rfl | assumption), by first | rfl | assumption | exact encV_len _ | exact Enc.len _ | exact len_ub (by assumption)⟩ | exact ⟨by assumption, by first | rfl | assumption | exact encV_len _ | exact Enc.len _ | exact len_ub (by assumption)⟩ | exact hs.ldp | exact At.partC (by assumption))) ?_
          refine R.call ⟨_, _, Try.func20, rfl, by kernel_rfl⟩ rfl rfl (offered_any (idn j) (hs.front (F := F5))) ?_
          rintro _ w30 ⟨rfl, F8, hw8, hs1⟩
          have hs := hs.back (F := F5) hs1
          rw [hof.1]
          rw [hof.2] at hw8
          have hu' : (fs2.set j (u + 1))[j]? = some (u + 1) := List.getElem?_set_self (List.getElem?_eq_some_iff.1 hu).1
          have Au := Sat.elAt (b := b54) (off := 0) (n := n) n hs hu'
          have au := Au _ hs
          have Ay := hs.elAt (b := bk_y) (off := of_y) (n := l.length) (cap86) hy
          have ay := Ay _ hs
          refine R.ev rfl ((E.neq rfl rfl).isF (by decide)) ?_
          refine R.done ?_
          refine X.keep [(2, _), (7, _), (9, _), (11, _), (12, _), (15, _), (16, _), (17, _), (112, _)] ⟨rfl, rfl, rfl, rfl, rfl, rfl, rfl, rfl, rfl, trivial⟩ ?_
          refine X.next ?_
          refine C.cfalse rfl ?_
          refine C.skip ?_
          refine X.next ?_
          refine C.seq ?_
          refine C.region ?_
          refine R.ev rfl (E.assign rfl) ?_
          refine R.done ?_
          refine X.keep [(2, _), (7, _), (9, _), (11, _), (12, _), (15, _), (16, _), (17, _)] ⟨rfl, rfl, rfl, rfl, rfl, rfl, rfl, rfl, trivial⟩ ?_
          refine X.next ?_
          refine C.seq ?_
          refine C.seq ?_
          refine C.region ?_
          refine R.ev rfl (E.move rfl) ?_
          refine R.ev rfl (E.move rfl) ?_
          refine R.ev rfl ((E.shr rfl rfl (by omega)).isI (c := ((x / 2 ^ j : Nat) : Int)) (shr_nat (by omega))) ?_
          refine R.ev rfl ((E.and rfl rfl).isI (c := ((lbit x j : Nat) : Int)) (and1 (shr_lt hx0))) ?_
          refine R.ev rfl (E.eql rfl rfl) ?_
          refine R.ev rfl (E.move rfl) ?_
          refine R.split 118 rfl (fun h118 => ?_) (fun h118 => ?_)
          · refine R.gyes rfl rfl ?_
            refine R.ev rfl (E.move rfl) ?_
            refine R.gyes rfl rfl ?_
            refine R.ev rfl (E.move rfl) ?_
            refine R.gyes rfl rfl ?_
            refine R.ev rfl (E.indexAddr rfl rfl Try.underlying43 Try.sz3 rfl (by first | omega | decide)) ?_
            refine R.gyes rfl rfl ?_
            refine R.ev rfl (E.load1 rfl Try.underlying3 rfl (au 0 _ rfl)) ?_
            refine R.gyes rfl rfl ?_
            refine R.ev rfl (E.eql rfl rfl) ?_
            refine R.ev rfl (E.pickT rfl rfl) ?_
            refine R.done ?_
            refine X.keep [(2, _), (7, _), (9, _), (11, _), (12, _), (15, _), (16, _), (124, _)] ⟨rfl, rfl, rfl, rfl, rfl, rfl, rfl, rfl, trivial⟩ ?_
            refine X.next ?_
            refine C.cbool rfl (fun h124 => ?_) (fun h124 => ?_)
            · refine C.region ?_
              refine R.ev rfl (E.move rfl) ?_
              refine R.ev rfl (E.move rfl) ?_
              refine R.ev rfl (E.move rfl) ?_
              refine R.ev rfl (E.indexAddr rfl rfl Try.underlying40 Try.sz30 rfl (by first | omega | decide)) ?_
              refine R.ev rfl (E.loadRowC rfl Try.underlying30 rfl Try.sz30 (by first | exact ⟨hs.ldA, by first | rfl | assumption | exact encV_len _ | exact Enc.len _ | exact len_ub (by assumption)⟩ | exact ⟨hs.ldP rfl, by first | rfl | assumption | exact encV_len _ | exact Enc.len _ | exact len_ub (by assumption)⟩ | exact ⟨hs.ldM rfl rfl, by first | rfl | assumption | exact encV_len _ | exact Enc.len _ | exact len_ub (by assumption)⟩ | exact ⟨hs.ldM (by assumption) (by first | rfl | assumption), by first | rfl | assumption | exact encV_len _ | exact Enc.len _ | exact len_ub (by assumption)⟩ | exact ⟨by assumption, by first | rfl | assumption | exact encV_len _ | exact Enc.len _ | exact len_ub (by assumption)⟩ | exact hs.ldp | exact At.partC (by assumption))) ?_
              refine R.ev rfl (E.move rfl) ?_
              refine R.call ⟨_, _, Try.func22, rfl, by kernel_rfl⟩ rfl rfl (later_any (idn j) k (hs.front (F := F8)) (by show s2.L.length ≤ _; omega) (by show isWt s2.wait = true; rw [hev2.wt]; rfl) (fun e he => by obtain ⟨_, _, _, h⟩ := hev2.ent e he; rcases h with h | h; (rw [h.2.2]; decide); (rw [h.2.2.2]; decide))) ?_
              rintro _ w34 ⟨rfl, F9, hw9, hs1⟩
              have hs := hs.back (F := F8) hs1
              have hfj : lbit x j = 1 := by have := of_decide_eq_true h118; omega
              have hu0 : u = 0 := by have := of_decide_eq_true h124; omega
              have hla := hev2.lat' hnn39 hj hym hu hu0 hfj (Int.le_refl _) hm1 hm2
              rw [hla.1]
              refine R.ev rfl (E.assign rfl) ?_
              refine R.done ?_
              refine X.keep [(2, _), (7, _), (9, _), (11, _), (12, _), (15, _), (16, _), (18, _)] ⟨rfl, rfl, rfl, rfl, rfl, rfl, rfl, rfl, trivial⟩ ?_
              refine X.next ?_
              refine C.seq ?_
              refine C.region ?_
              refine R.ev rfl (E.move rfl) ?_
              refine R.ev rfl ((E.neq rfl rfl).isF (by decide)) ?_
              refine R.done ?_
              refine X.keep [(2, _), (7, _), (9, _), (11, _), (12, _), (15, _), (16, _), (139, _)] ⟨rfl, rfl, rfl, rfl, rfl, rfl, rfl, rfl, trivial⟩ ?_
              refine X.next ?_
              refine C.cfalse rfl ?_
              refine C.skip ?_
              refine X.blockNormal ?_
              refine X.next ?_
              refine C.region ?_
              refine R.ev rfl (E.move rfl) ?_
              refine R.ev rfl (E.add rfl rfl (by omega) (by omega)) ?_
              refine R.ev rfl (E.assign rfl) ?_
              refine R.done ?_
              refine X.keep [(2, _), (7, _), (9, _), (11, _), (12, _), (15, _), (16, _)] ⟨rfl, rfl, rfl, rfl, rfl, rfl, rfl, trivial⟩ ?_
              first
                | exact X.again (i + 1, _, F9, fs2.set j (u + 1), F7) ⟨rfl, rfl, rfl, rfl, rfl, rfl, rfl, trivial⟩ ⟨by omega, hla.2.1, fun a ha => by rw [hla.2.2]; simp only [List.map_append, List.mem_append]; exact .inl ((remL_other (hot a ha).2 _).2 (hot a ha).1), by omega, by rw [hla.2.2]; exact hinc, by omega, hw9, r7, hs.to⟩ (by show _ - _ < _ - _; omega)
                | exact X.again (i + 1, _, F9, fs2.set j (u + 1), F7) ⟨rfl, rfl, rfl, rfl, rfl, rfl, rfl, trivial⟩ ⟨by omega, hla.2.1, fun a ha => by rw [hla.2.2]; exact (remL_other (hot a ha).2 _).2 (hot a ha).1, by omega, by rw [hla.2.2]; exact hinc, by omega, hw9, r7, hs.to⟩ (by show _ - _ < _ - _; omega)
            · refine C.region ?_
              refine R.ev rfl (E.move rfl) ?_
              refine R.ev rfl (E.move rfl) ?_
              refine R.ev rfl (E.move rfl) ?_
              refine R.ev rfl (E.indexAddr rfl rfl Try.underlying40 Try.sz30 rfl (by first | omega | decide)) ?_
              refine R.ev rfl (E.loadRowC rfl Try.underlying30 rfl Try.sz30 (by first | exact ⟨hs.ldA, by first | rfl | assumption | exact encV_len _ | exact Enc.len _ | exact len_ub (by assumption)⟩ | exact ⟨hs.ldP rfl, by first | rfl | assumption | exact encV_len _ | exact Enc.len _ | exact len_ub (by assumption)⟩ | exact ⟨hs.ldM rfl rfl, by first | rfl | assumption | exact encV_len _ | exact Enc.len _ | exact len_ub (by assumption)⟩ | exact ⟨hs.ldM (by assumption) (by first | rfl | assumption), by first | rfl | assumption | exact encV_len _ | exact Enc.len _ | exact len_ub (by assumption)⟩ | exact ⟨by assumption, by first | rfl | assumption | exact encV_len _ | exact Enc.len _ | exact len_ub (by assumption)⟩ | exact hs.ldp | exact At.partC (by assumption))) ?_
              refine R.call ⟨_, _, Try.func27, rfl, by kernel_rfl⟩ rfl rfl (answered_any (idn j) (hs.front (F := F8)) (by show s2.L.length ≤ _; omega)) ?_
              rintro _ w35 ⟨rfl, F9, hw9, hs1⟩
              have hs := hs.back (F := F8) hs1
              have hfu : u + 1 = 1 + lbit x j := by
                have := lbit_le x j
                first
                  | (have := of_decide_eq_false h124; omega)
                  | (have := of_decide_eq_false h118; omega)
              have hla := hev2.ans hnn39 hj hym hu hfu
              rw [hla.1]
              refine R.ev rfl (E.assign rfl) ?_
              refine R.done ?_
              refine X.keep [(2, _), (7, _), (9, _), (11, _), (12, _), (15, _), (16, _), (18, _)] ⟨rfl, rfl, rfl, rfl, rfl, rfl, rfl, rfl, trivial⟩ ?_
              refine X.next ?_
              refine C.seq ?_
              refine C.region ?_
              refine R.ev rfl (E.move rfl) ?_
              refine R.ev rfl ((E.neq rfl rfl).isF (by decide)) ?_
              refine R.done ?_
              refine X.keep [(2, _), (7, _), (9, _), (11, _), (12, _), (15, _), (16, _), (139, _)] ⟨rfl, rfl, rfl, rfl, rfl, rfl, rfl, rfl, trivial⟩ ?_
              refine X.next ?_
              refine C.cfalse rfl ?_
              refine C.skip ?_
              refine X.blockNormal ?_
              refine X.next ?_
              refine C.region ?_
              refine R.ev rfl (E.move rfl) ?_
              refine R.ev rfl (E.add rfl rfl (by omega) (by omega)) ?_
              refine R.ev rfl (E.assign rfl) ?_
              refine R.done ?_
              refine X.keep [(2, _), (7, _), (9, _), (11, _), (12, _), (15, _), (16, _)] ⟨rfl, rfl, rfl, rfl, rfl, rfl, rfl, trivial⟩ ?_
              first
                | exact X.again (i + 1, _, F9, fs2.set j (u + 1), F7) ⟨rfl, rfl, rfl, rfl, rfl, rfl, rfl, trivial⟩ ⟨by omega, hla.2.1, fun a ha => by rw [hla.2.2]; simp only [List.map_append, List.mem_append]; exact .inl ((remL_other (hot a ha).2 _).2 (hot a ha).1), by omega, by rw [hla.2.2]; exact hinc, by omega, hw9, r7, hs.to⟩ (by show _ - _ < _ - _; omega)
                | exact X.again (i + 1, _, F9, fs2.set j (u + 1), F7) ⟨rfl, rfl, rfl, rfl, rfl, rfl, rfl, trivial⟩ ⟨by omega, hla.2.1, fun a ha => by rw [hla.2.2]; exact (remL_other (hot a ha).2 _).2 (hot a ha).1, by omega, by rw [hla.2.2]; exact hinc, by omega, hw9, r7, hs.to⟩ (by show _ - _ < _ - _; omega)
          · refine R.gskip rfl rfl rfl ?_
            refine R.gskip rfl rfl rfl ?_
            refine R.gskip rfl rfl rfl ?_
            refine R.gskip rfl rfl rfl ?_
            refine R.gskip rfl rfl rfl ?_
            refine R.ev rfl (E.pickF rfl rfl) ?_
            refine R.done ?_
            refine X.keep [(2, _), (7, _), (9, _), (11, _), (12, _), (15, _), (16, _), (124, _)] ⟨rfl, rfl, rfl, rfl, rfl, rfl, rfl, rfl, trivial⟩ ?_
            refine X.next ?_
            refine C.cfalse rfl ?_
            refine C.region ?_
            refine R.ev rfl (E.move rfl) ?_
            refine R.ev rfl (E.move rfl) ?_
            refine R.ev rfl (E.move rfl) ?_
            refine R.ev rfl (E.indexAddr rfl rfl Try.underlying40 Try.sz30 rfl (by first | omega | decide)) ?_
            refine R.ev rfl (E.loadRowC rfl Try.underlying30 rfl Try.sz30 (by first | exact ⟨hs.ldA, by first | rfl | assumption | exact encV_len _ | exact Enc.len _ | exact len_ub (by assumption)⟩ | exact ⟨hs.ldP rfl, by first | rfl | assumption | exact encV_len _ | exact Enc.len _ | exact len_ub (by assumption)⟩ | exact ⟨hs.ldM rfl rfl, by first | rfl | assumption | exact encV_len _ | exact Enc.len _ | exact len_ub (by assumption)⟩ | exact ⟨hs.ldM (by assumption) (by first | rfl | assumption), by first | rfl | assumption | exact encV_len _ | exact Enc.len _ | exact len_ub (by assumption)⟩ | exact ⟨by assumption, by first | rfl | assumption | exact encV_len _ | exact Enc.len _ | exact len_ub (by assumption)⟩ | exact hs.ldp | exact At.partC (by assumption))) ?_
            refine R.call ⟨_, _, Try.func27, rfl, by kernel_rfl⟩ rfl rfl (answered_any (idn j) (hs.front (F := F8)) (by show s2.L.length ≤ _; omega)) ?_
            rintro _ w35 ⟨rfl, F9, hw9, hs1⟩
            have hs := hs.back (F := F8) hs1
            have hfu : u + 1 = 1 + lbit x j := by
              have := lbit_le x j
              first
                | (have := of_decide_eq_false h124; omega)
                | (have := of_decide_eq_false h118; omega)
            have hla := hev2.ans hnn39 hj hym hu hfu
            rw [hla.1]
            refine R.ev rfl (E.assign rfl) ?_
            refine R.done ?_
            refine X.keep [(2, _), (7, _), (9, _), (11, _), (12, _), (15, _), (16, _), (18, _)] ⟨rfl, rfl, rfl, rfl, rfl, rfl, rfl, rfl, trivial⟩ ?_
            refine X.next ?_
            refine C.seq ?_
            refine C.region ?_
            refine R.ev rfl (E.move rfl) ?_
            refine R.ev rfl ((E.neq rfl rfl).isF (by decide)) ?_
            refine R.done ?_
            refine X.keep [(2, _), (7, _), (9, _), (11, _), (12, _), (15, _), (16, _), (139, _)] ⟨rfl, rfl, rfl, rfl, rfl, rfl, rfl, rfl, trivial⟩ ?_
            refine X.next ?_
            refine C.cfalse rfl ?_
            refine C.skip ?_
            refine X.blockNormal ?_
            refine X.next ?_
            refine C.region ?_
            refine R.ev rfl (E.move rfl) ?_
            refine R.ev rfl (E.add rfl rfl (by omega) (by omega)) ?_
            refine R.ev rfl (E.assign rfl) ?_
            refine R.done ?_
            refine X.keep [(2, _), (7, _), (9, _), (11, _), (12, _), (15, _), (16, _)] ⟨rfl, rfl, rfl, rfl, rfl, rfl, rfl, trivial⟩ ?_
            first
              | exact X.again (i + 1, _, F9, fs2.set j (u + 1), F7) ⟨rfl, rfl, rfl, rfl, rfl, rfl, rfl, trivial⟩ ⟨by omega, hla.2.1, fun a ha => by rw [hla.2.2]; simp only [List.map_append, List.mem_append]; exact .inl ((remL_other (hot a ha).2 _).2 (hot a ha).1), by omega, by rw [hla.2.2]; exact hinc, by omega, hw9, r7, hs.to⟩ (by show _ - _ < _ - _; omega)
              | exact X.again (i + 1, _, F9, fs2.set j (u + 1), F7) ⟨rfl, rfl, rfl, rfl, rfl, rfl, rfl, trivial⟩ ⟨by omega, hla.2.1, fun a ha => by rw [hla.2.2]; exact (remL_other (hot a ha).2 _).2 (hot a ha).1, by omega, by rw [hla.2.2]; exact hinc, by omega, hw9, r7, hs.to⟩ (by show _ - _ < _ - _; omega)
        · refine C.exit ?_
          refine X.thenExit ?_
          refine X.loopExit ?_
          refine X.blockExit ?_
          refine X.blockNormal ?_
          refine X.next ?_
          refine C.region ?_
          refine R.ev rfl (E.move rfl) ?_
          refine R.ev rfl (E.add rfl rfl (by omega) (by omega)) ?_
          refine R.ev rfl (E.assign rfl) ?_
          refine R.done ?_
          refine X.keep [(2, _), (7, _), (9, _), (11, _), (12, _)] ⟨rfl, rfl, rfl, rfl, rfl, trivial⟩ ?_
          have hie : i = l.length := by omega
          have hfin : psi (lbit x) (k + 1) s2 fs2 ≤ psi (lbit x) k s fs - 1 := by
            rcases Nat.eq_zero_or_pos i with h0 | h0
            · obtain ⟨rfl, rfl⟩ := hi0 h0
              exact psi_none (by omega) hev1 hLA hA hfu hin (hno (by omega))
            · exact psi_some hev2 (by omega) (fun h => hin (by rw [← hinc]; exact h))
          exact X.again (k + 1, s2, F5, fs2, F6) ⟨rfl, rfl, rfl, rfl, rfl, trivial⟩ ⟨by omega, hev2.up, by push_cast; omega, hw5, r6, hs.to⟩ (by show _ - _ < _ - _; omega)
    · refine C.exit ?_
      refine X.thenExit ?_
      refine X.loopExit ?_
      refine X.blockExit ?_
      refine X.next ?_
      refine C.seq ?_
      refine C.seq ?_
      refine C.region ?_
      have hke : k = 500 := by omega
      obtain ⟨hL0, hi0, hall⟩ := psi_end hev (by omega)
      refine R.ev rfl (E.assign rfl) ?_
      refine R.done ?_
      refine X.keep [(2, _), (7, _), (9, _), (11, _), (19, _)] ⟨rfl, rfl, rfl, rfl, rfl, trivial⟩ ?_
      refine X.next ?_
      refine C.block ?_
      refine C.loop (T := Nat) [(2, _), (7, _), (9, _), (11, _)] (fun i => [(19, .int .i64 (i : Nat))]) (fun i w' => i ≤ n ∧ Sat (Kn.of w) w' (F3 :: F2 :: F1 :: [])) (fun i => n - i) (0) ⟨rfl, rfl, rfl, rfl, rfl, trivial⟩ ⟨by omega, hs⟩ ?_
      rintro i w6 ⟨hi, hs⟩
      refine C.keep [(2, _), (7, _), (9, _), (11, _), (19, _)] ⟨rfl, rfl, rfl, rfl, rfl, trivial⟩ ?_
      refine C.seq ?_
      refine C.seq ?_
      refine C.region ?_
      refine R.ev rfl (E.move rfl) ?_
      refine R.ev rfl (E.move rfl) ?_
      refine R.ev rfl (E.lenSl rfl Try.underlying40) ?_
      refine R.ev rfl (E.lss rfl rfl) ?_
      refine R.done ?_
      refine X.keep [(2, _), (7, _), (9, _), (11, _), (19, _), (143, _)] ⟨rfl, rfl, rfl, rfl, rfl, rfl, trivial⟩ ?_
      refine X.next ?_
      refine C.cdec rfl (fun h143 => ?_) (fun h143 => ?_)
      · have hin : i < n := by rw [hil] at h143; omega
        obtain ⟨u, bk_u, of_u, hu, mu, lu, eu, Au⟩ := hs.el (i := i) (ad := some ⟨b54, 0, none⟩) (n := n) (c := n) (by omega)
        simp only [Option.some.injEq, Addr.mk.injEq, and_true] at eu
        obtain ⟨rfl, rfl⟩ := eu
        rw [hall i hin] at hu
        obtain rfl : 1 + lbit x i = u := by simpa using hu
        have := lbit_le x i
        refine C.skip ?_
        refine X.next ?_
        refine C.seq ?_
        refine C.block ?_
        refine C.seq ?_
        refine C.drawn (SatS hs) ([3], [0, 1, 2, 4, 5, 6, 7, 8, 9, 10]) (by kernel_rfl) ?_
        have hs := hs.drew
        refine D.evP 0 rfl (by kernel_rfl) rfl (fun _ => hs.to) (fun _ => E.move rfl) ?_
        refine D.evP 1 rfl (by kernel_rfl) rfl (fun _ => hs.to) (fun _ => E.move rfl) ?_
        refine D.evP 2 rfl (by kernel_rfl) rfl (fun _ => hs.to) (fun _ => E.indexAddr rfl rfl Try.underlying43 Try.sz3 rfl (by first | omega | decide)) ?_
        refine D.evP 4 rfl (by kernel_rfl) rfl (fun _ => hs.to) (fun _ => E.move rfl) ?_
        refine D.evP 5 rfl (by kernel_rfl) rfl (fun _ => hs.to) (fun _ => E.move rfl) ?_
        refine D.evP 6 rfl (by kernel_rfl) rfl (fun _ => hs.to) (fun _ => (E.shr rfl rfl (by omega)).isI (c := ((x / 2 ^ i : Nat) : Int)) (shr_nat (by omega))) ?_
        refine D.evP 7 rfl (by kernel_rfl) rfl (fun _ => hs.to) (fun _ => (E.and rfl rfl).isI (c := ((lbit x i : Nat) : Int)) (and1 (shr_lt hx0))) ?_
        refine D.evP 8 rfl (by kernel_rfl) rfl (fun _ => hs.to) (fun _ => (E.conv rfl Try.underlying42 Try.underlying3).isI (c := ((lbit x i : Nat) : Int)) (wrap_i64 (by omega) (by omega))) ?_
        refine D.evP 9 rfl (by kernel_rfl) rfl (fun _ => hs.to) (fun _ => E.add rfl rfl (by omega) (by omega)) ?_
        refine D.ev 3 rfl (by kernel_rfl) rfl hs.to (fun _ hS => E.load1 rfl Try.underlying3 rfl (Au _ hS 0 _ rfl)) ?_
        refine D.evP 10 rfl (by kernel_rfl) rfl (fun _ => hs.to) (fun _ => (E.neq rfl rfl).isF (by omega)) ?_
        refine D.done rfl (by kernel_rfl) ?_
        refine X.keep [(2, _), (7, _), (9, _), (11, _), (19, _), (156, _)] ⟨rfl, rfl, rfl, rfl, rfl, rfl, trivial⟩ ?_
        refine X.next ?_
        refine C.cfalse rfl ?_
        refine C.skip ?_
        refine X.blockNormal ?_
        refine X.next ?_
        refine C.region ?_
        refine R.ev rfl (E.move rfl) ?_
        refine R.ev rfl (E.add rfl rfl (by omega) (by omega)) ?_
        refine R.ev rfl (E.assign rfl) ?_
        refine R.done ?_
        refine X.keep [(2, _), (7, _), (9, _), (11, _), (19, _)] ⟨rfl, rfl, rfl, rfl, rfl, trivial⟩ ?_
        exact X.again (i + 1) ⟨rfl, rfl, rfl, rfl, rfl, trivial⟩ ⟨by omega, hs.to⟩ (by show _ - _ < _ - _; omega)
      · refine C.exit ?_
        refine X.thenExit ?_
        refine X.loopExit ?_
        refine X.blockExit ?_
        refine X.next ?_
        refine C.seq ?_
        refine C.region ?_
        refine R.ev rfl (E.move rfl) ?_
        refine R.call ⟨_, _, Try.func16, rfl, by kernel_rfl⟩ rfl rfl (len_any hs) ?_
        rintro _ w43 ⟨rfl, hs⟩
        rw [hL0]
        refine R.ev rfl ((E.eql rfl rfl).isT (by decide)) ?_
        refine R.ev rfl (E.move rfl) ?_
        refine R.gyes rfl rfl ?_
        refine R.ev rfl (E.move rfl) ?_
        refine R.gyes rfl rfl ?_
        refine R.call ⟨_, _, Try.func17, rfl, by kernel_rfl⟩ rfl rfl (missed_any hs) ?_
        rintro _ w44 ⟨rfl, hs⟩
        rw [hi0]
        refine R.gyes rfl rfl ?_
        refine R.ev rfl (E.not rfl) ?_
        refine R.ev rfl (E.pickT rfl rfl) ?_
        refine R.ev rfl (E.assign rfl) ?_
        refine R.done ?_
        refine X.keep [(6, _)] ⟨rfl, trivial⟩ ?_
        refine X.next ?_
        refine C.ret ?_
        refine X.ret1 rfl rfl ?_
        exact ⟨rfl, hs.mod⟩

namespace backlogEvery
open Go.ChangeShapes Go.WideShapes Go.ChangeAt Go.RowKit
open Go.ChangeMaps (open_string shut_string)
set_option linter.unusedVariables false

theorem own : ownKnob Try.prog.godebug = none := by kernel_rfl
theorem laidOut : laidOutB Try.prog = true := by kernel_rfl
set_option maxRecDepth 100000 in
theorem lifted (os : Os) (started : os.Started) (H : Type) (enc : TypeId × Value → H) :
    ReturnsInHanded {} Try.checked os 5 .any (Rows.backlogEverySpec.pre6 enc Try.prog Try.f5 Rows.backlogEveryRow.domain false) (Rows.backlogEverySpec.post enc Try.prog Try.f5 false true false false) := by
  refine returnsInHanded_of_change (C := Try.checked) own started (by kernel_rfl) Try.func5
    (ChangeSpec.witness6 (enc := enc) (C := Try.checked) false ⟨#[], #[.int .u8 0, .int .u8 0, .int .u64 0], []⟩ 8 (by kernel_rfl) (by kernel_rfl) (by kernel_rfl) (by kernel_rfl)) ?_
  intro W base args ds gs before hval0 hW hcnd _
  have hval : ∀ (j : Nat) t v, Try.f5.params[j]? = some t → args[j]? = some v → Value.okWide Try.prog W .any base t v := hval0
  have hW' := hW
  obtain ⟨p, q, hA0, hV, rfl, hfz, hnd⟩ := hW
  have hA : DataW.TrodAll enc Try.prog W 0 (fun _ => true) true Try.f5.params.toList args.toList ds p := hA0
  rw [Try.params5] at hA hval
  obtain ⟨v0, vs0, d0, ds0, p0, q0, hargs, rfl, rfl, h0, r0⟩ := trodAll_cons hA
  obtain ⟨v1, vs1, d1, ds1, p1, q1, rfl, rfl, rfl, h1, r1⟩ := trodAll_cons r0
  obtain ⟨v2, vs2, d2, ds2, p2, q2, rfl, rfl, rfl, h2, r2⟩ := trodAll_cons r1
  obtain ⟨rfl, rfl, rfl⟩ := trodAll_nil r2
  obtain rfl : args = #[v0, v1, v2] := by cases args; simp_all
  obtain ⟨rfl, rfl⟩ := trodVars_none hV
  have lt0 : ∀ x ∈ p0, x.block < W.heap.size := by obtain ⟨m, hm⟩ := h0; exact DataW.trod_lt m _ _ _ hm
  have a0 := Eng.argv_of (hval 0 5 v0 rfl rfl) h0
  have lt1 : ∀ x ∈ p1, x.block < W.heap.size := by obtain ⟨m, hm⟩ := h1; exact DataW.trod_lt m _ _ _ hm
  have a1 := Eng.argv_of (hval 1 5 v1 rfl rfl) h1
  have lt2 : ∀ x ∈ p2, x.block < W.heap.size := by obtain ⟨m, hm⟩ := h2; exact DataW.trod_lt m _ _ _ hm
  have a2 := Eng.argv_of (hval 2 42 v2 rfl rfl) h2
  clear hA0 hval0
  refine Calls.mono (every_walk W v0 a0 v1 a1 v2 a2) fun e W' ⟨v, he, hv, hm⟩ => ?_
  subst he
  subst hv
  have bel := hm.below
  exact ⟨_, rfl, _, _, _, [], _, [], hW', trodAll_mk1 (shut_bool Try.underlying4 _), (trodAll_cons_mk (Below.trod laidOut (by kernel_rfl) (of_decide_eq_true (by kernel_rfl)) h0 bel lt0) (trodAll_cons_mk (Below.trod laidOut (by kernel_rfl) (of_decide_eq_true (by kernel_rfl)) h1 bel lt1) (trodAll_cons_mk (Below.trod laidOut (by kernel_rfl) (of_decide_eq_true (by kernel_rfl)) h2 bel lt2) trodAll_mk0))), rfl, bel.frame _, fun h => by cases h⟩

theorem over : Rows.backlogEveryRow.holds Try.pinned (OpenSpec.ofChange Rows.backlogEverySpec) :=
  OpenClaim.holds_of_wide 5 Try.f5 rfl rfl rfl rfl rfl rfl rfl ⟨rfl, rfl, rfl, rfl, rfl⟩ rfl rfl rfl rfl rfl (by kernel_rfl) Try.func5 (by kernel_rfl)
    (of_decide_eq_true (by kernel_rfl)) (by unfold Func.isWrapper; first | (rw [if_pos (by decide +kernel)]; kernel_rfl) | (rw [if_neg (by decide +kernel)]; exact ⟨rfl, rfl⟩))
    (fun os started H enc _ => lifted os started H enc)
end backlogEvery
/-- the statement -/
theorem backlogEvery_holds : Rows.BacklogEverySaid := backlogEvery.over
#print axioms backlogEvery_holds
end Go.Proofs.Ytoidpcmcbmioiaa
