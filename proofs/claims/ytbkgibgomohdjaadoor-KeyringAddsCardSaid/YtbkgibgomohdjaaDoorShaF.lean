/-
  SHA-256 of one block over numbers: a form that the kernel reckons; the identities of the few keys differ.
-/
import Derived.Test.YtbkgibgomohdjaaDoorKeyP
import Derived.KernelRfl
namespace Go.Eng
/-- reckon a number first -/
def fc {α : Type} (n : Nat) (k : Nat → α) : α := Nat.rec (k 0) (fun m _ => k (m + 1)) n
theorem fc_eq {α : Type} (n : Nat) (k : Nat → α) : fc n k = k n := by cases n <;> rfl
def addN (a b : Nat) : Nat := (a + b) % 4294967296
def rrN (x n : Nat) : Nat := (x >>> n) ||| ((x <<< (32 - n)) % 4294967296)
def notN (x : Nat) : Nat := 4294967295 - x
theorem addN_eq (a b : Wd) : addN a.toNat b.toNat = (a + b).toNat := by rw [BitVec.toNat_add]; rfl
theorem rrN_eq (x : Wd) (n : Nat) : rrN x.toNat n = (rr x n).toNat := by simp [rrN, rr, BitVec.toNat_or, BitVec.toNat_ushiftRight, BitVec.toNat_shiftLeft]
theorem notN_eq (x : Wd) : notN x.toNat = (~~~ x).toNat := by rw [BitVec.toNat_not]; simp [notN]
def sg0N (x : Nat) : Nat := rrN x 7 ^^^ rrN x 18 ^^^ (x >>> 3)
def sg1N (x : Nat) : Nat := rrN x 17 ^^^ rrN x 19 ^^^ (x >>> 10)
theorem sg0N_eq (x : Wd) : sg0N x.toNat = (sg0 x).toNat := by simp only [sg0N, sg0, rrN_eq, BitVec.toNat_xor, BitVec.toNat_ushiftRight]
theorem sg1N_eq (x : Wd) : sg1N x.toNat = (sg1 x).toNat := by simp only [sg1N, sg1, rrN_eq, BitVec.toNat_xor, BitVec.toNat_ushiftRight]
def t1N (e f g i k w : Nat) : Nat := addN (addN (addN (addN i (rrN e 6 ^^^ rrN e 11 ^^^ rrN e 25)) ((e &&& f) ^^^ (notN e &&& g))) k) w
def t2N (a b c : Nat) : Nat := addN (rrN a 2 ^^^ rrN a 13 ^^^ rrN a 22) ((a &&& b) ^^^ (a &&& c) ^^^ (b &&& c))
theorem t1N_eq (v : St) (k w : Wd) : t1N v.e.toNat v.f.toNat v.g.toNat v.i.toNat k.toNat w.toNat = (v.t1 k w).toNat := by
  simp only [t1N, St.t1, rrN_eq, notN_eq, ← BitVec.toNat_xor, ← BitVec.toNat_and, addN_eq]
theorem t2N_eq (v : St) : t2N v.a.toNat v.b.toNat v.c.toNat = v.t2.toNat := by
  simp only [t2N, St.t2, rrN_eq, ← BitVec.toNat_xor, ← BitVec.toNat_and, addN_eq]
/-- the rounds: the constants that are left, the next 16 words, the state -/
def runN : List Nat → List Nat → Nat → Nat → Nat → Nat → Nat → Nat → Nat → Nat → List Nat
  | [], _, a, b, c, d, e, f, g, i => [a, b, c, d, e, f, g, i]
  | k :: ks, ws, a, b, c, d, e, f, g, i =>
    fc (t1N e f g i k (ws.getD 0 0)) fun t1 => fc (addN t1 (t2N a b c)) fun a' => fc (addN d t1) fun e' =>
    fc (addN (addN (addN (sg1N (ws.getD 14 0)) (ws.getD 9 0)) (sg0N (ws.getD 1 0))) (ws.getD 0 0)) fun nw =>
    runN ks (ws.tail ++ [nw]) a' a b c e' e f g
def winN (m : Nat → Wd) (t : Nat) : List Nat := (List.range 16).map fun j => (sw m (t + j)).toNat
theorem winN_get {m : Nat → Wd} {t j : Nat} (h : j < 16) : (winN m t).getD j 0 = (sw m (t + j)).toNat := by
  rw [List.getD_eq_getElem?_getD, winN, List.getElem?_map, List.getElem?_range h]; rfl
theorem winN_step {m : Nat → Wd} {t : Nat} : (winN m t).tail ++ [(sw m (t + 16)).toNat] = winN m (t + 1) := by
  have e : winN m (t + 1) = (List.range 15).map (fun j => (sw m (t + 1 + j)).toNat) ++ [(sw m (t + 16)).toNat] := by
    rw [winN, show (16 : Nat) = 15 + 1 from rfl, List.range_succ, List.map_append]; rfl
  rw [e]
  congr 1
theorem runN_eq (m : Nat → Wd) (h : St) : ∀ (d t : Nat), d + t = 64 → ∀ v : St, v = stN m h t →
    runN ((kcL.drop t).map BitVec.toNat) (winN m t) v.a.toNat v.b.toNat v.c.toNat v.d.toNat v.e.toNat v.f.toNat v.g.toNat v.i.toNat = (stN m h 64).l.map BitVec.toNat
  | 0, t, hd, v, hv => by
    obtain rfl : t = 64 := by omega
    rw [← hv]; rfl
  | d + 1, t, hd, v, hv => by
    have ht : t < kcL.length := by show t < 64; omega
    rw [List.drop_eq_getElem_cons ht, List.map_cons, runN]
    simp only [fc_eq]
    have hk : kcL[t] = kc t := by
      have := kc_at (t := t) (by omega)
      rw [List.getElem?_eq_getElem ht] at this; exact Option.some.inj this
    rw [hk, winN_get (by omega), winN_get (by omega), winN_get (by omega), winN_get (by omega), sg0N_eq, sg1N_eq, addN_eq, addN_eq, addN_eq, t1N_eq, t2N_eq, addN_eq, addN_eq]
    simp only [Nat.add_zero]
    have hnw : sg1 (sw m (t + 14)) + sw m (t + 9) + sg0 (sw m (t + 1)) + sw m t = sw m (t + 16) := by
      rw [sw_ge (t := t + 16) (by omega)]; rfl
    rw [hnw, winN_step]
    exact runN_eq m h d (t + 1) (by omega) (v.rd (kc t) (sw m t)) (by rw [hv]; rfl)
def kcN : List Nat := kcL.map BitVec.toNat
def wd4N (a b c d : Nat) : Nat := a * 16777216 + b * 65536 + c * 256 + d
theorem or_shift {x y n : Nat} (h : y < 2 ^ n) : (x <<< n) ||| y = x * 2 ^ n + y := by
  rw [Nat.shiftLeft_eq, Nat.mul_comm, ← Nat.two_pow_add_eq_or_of_lt h]
theorem wd4N_eq (a b c d : UInt8) : wd4N a.toNat b.toNat c.toNat d.toNat = (wd4 a b c d).toNat := by
  have ha := a.toNat_lt; have hb := b.toNat_lt; have hc := c.toNat_lt; have hd := d.toNat_lt
  rw [← wd4_eq]
  have e1 : ∀ (x : Wd) (u : UInt8), x.toNat < 16777216 → (x <<< 8 ||| u.toBitVec.setWidth 32).toNat = x.toNat * 256 + u.toNat := fun x u hx => by
    have hu := u.toNat_lt
    rw [BitVec.toNat_or, BitVec.toNat_shiftLeft, BitVec.toNat_setWidth]
    show (x.toNat <<< 8) % 2 ^ 32 ||| u.toNat % 2 ^ 32 = _
    rw [Nat.mod_eq_of_lt (a := u.toNat) (by omega), Nat.mod_eq_of_lt (by rw [Nat.shiftLeft_eq]; omega), or_shift (by omega)]
  have e0 : (0#32 <<< 8 ||| a.toBitVec.setWidth 32).toNat = a.toNat := by rw [e1 _ _ (by decide)]; simp
  have e2 := e1 _ b (by rw [e0]; omega)
  rw [e0] at e2
  have e3 := e1 _ c (by rw [e2]; omega)
  rw [e2] at e3
  have e4 := e1 _ d (by rw [e3]; omega)
  rw [e3] at e4
  rw [e4]; unfold wd4N; omega
theorem runN_eq0 (m : Nat → Wd) : runN kcN (winN m 0) 0x6a09e667 0xbb67ae85 0x3c6ef372 0xa54ff53a 0x510e527f 0x9b05688c 0x1f83d9ab 0x5be0cd19 = (stN m st0 64).l.map BitVec.toNat := by
  have h := runN_eq m st0 64 0 rfl st0 rfl
  rw [List.drop_zero, show st0.a.toNat = 0x6a09e667 from rfl, show st0.b.toNat = 0xbb67ae85 from rfl, show st0.c.toNat = 0x3c6ef372 from rfl, show st0.d.toNat = 0xa54ff53a from rfl, show st0.e.toNat = 0x510e527f from rfl, show st0.f.toNat = 0x9b05688c from rfl, show st0.g.toNat = 0x1f83d9ab from rfl, show st0.i.toNat = 0x5be0cd19 from rfl] at h
  exact h
theorem getD_toNat (bs : List UInt8) (j : Nat) : (bs.map UInt8.toNat).getD j 0 = (bs.getD j 0).toNat := by
  rw [List.getD_eq_getElem?_getD, List.getD_eq_getElem?_getD, List.getElem?_map]
  cases bs[j]? <;> rfl
def blkN (bs : List Nat) : List Nat := (List.range 16).map fun t => wd4N (bs.getD (4 * t) 0) (bs.getD (4 * t + 1) 0) (bs.getD (4 * t + 2) 0) (bs.getD (4 * t + 3) 0)
theorem blkN_eq (bs : List UInt8) : blkN (bs.map UInt8.toNat) = winN (blkW bs) 0 := by
  unfold winN blkN
  apply List.map_congr_left
  intro t ht
  rw [getD_toNat, getD_toNat, getD_toNat, getD_toNat, wd4N_eq, Nat.zero_add, sw_lt (List.mem_range.1 ht), blkW]
/-- the first word of the digest -/
def firstN (bs : List Nat) : Nat :=
  addN 0x6a09e667 ((runN kcN (blkN bs) 0x6a09e667 0xbb67ae85 0x3c6ef372 0xa54ff53a 0x510e527f 0x9b05688c 0x1f83d9ab 0x5be0cd19).getD 0 0)
theorem first_st (z : St) : addN 0x6a09e667 ((z.l.map BitVec.toNat).getD 0 0) = ((st0.add z).a).toNat := by
  have h : (st0.add z).a = st0.a + z.a := rfl
  rw [h, ← addN_eq]; rfl
theorem firstN_eq (bs : List UInt8) : firstN (bs.map UInt8.toNat) = (sha1 bs).a.toNat := by
  rw [firstN, blkN_eq, runN_eq0, first_st, sha1]
/-- the first word of a half -/
theorem half17_word {bs cs : List UInt8} (h : half17 bs = half17 cs) : (sha1 (pad17 bs)).a = (sha1 (pad17 cs)).a := by
  have key : ∀ (x y : Wd), (∀ k, k < 4 → UInt8.ofNat (x >>> (24 - 8 * k)).toNat = UInt8.ofNat (y >>> (24 - 8 * k)).toNat) → x = y := fun x y hk => by
    have hx := x.isLt; have hy := y.isLt
    have f : ∀ k, k < 4 → x.toNat / 2 ^ (24 - 8 * k) % 256 = y.toNat / 2 ^ (24 - 8 * k) % 256 := fun k h => by
      have := congrArg UInt8.toNat (hk k h)
      rw [UInt8.toNat_ofNat', UInt8.toNat_ofNat', BitVec.toNat_ushiftRight, BitVec.toNat_ushiftRight, Nat.shiftRight_eq_div_pow, Nat.shiftRight_eq_div_pow] at this
      exact this
    have f0 := f 0 (by omega); have f1 := f 1 (by omega); have f2 := f 2 (by omega); have f3 := f 3 (by omega)
    simp at f0 f1 f2 f3
    apply BitVec.eq_of_toNat_eq
    omega
  apply key
  intro k hk
  have h2 := congrArg (fun l => l[k]?) h
  simp only [half17, List.getElem?_map] at h2
  rw [List.getElem?_range (by omega)] at h2
  have h3 := Option.some.inj h2
  simp only [outB, Nat.mod_eq_of_lt hk, Nat.div_eq_of_lt hk] at h3
  exact h3
end Go.Eng
