/-
 SHA-256 of one block, in plain words.
-/
import Derived.Test.YtbkgibgomohdjaaGreatDoorWord
namespace Go.Eng
abbrev Wd := BitVec 32
def rr (x : Wd) (n : Nat) : Wd := (x >>> n) ||| (x <<< (32 - n))
def sg0 (x : Wd) : Wd := rr x 7 ^^^ rr x 18 ^^^ (x >>> 3)
def sg1 (x : Wd) : Wd := rr x 17 ^^^ rr x 19 ^^^ (x >>> 10)
/-- the words of the schedule -/
def sw (m : Nat → Wd) (t : Nat) : Wd := if h : t < 16 then m t else sg1 (sw m (t - 2)) + sw m (t - 7) + sg0 (sw m (t - 15)) + sw m (t - 16)
termination_by t
theorem sw_lt {m : Nat → Wd} {t : Nat} (h : t < 16) : sw m t = m t := by rw [sw, dif_pos h]
theorem sw_ge {m : Nat → Wd} {t : Nat} (h : 16 ≤ t) : sw m t = sg1 (sw m (t - 2)) + sw m (t - 7) + sg0 (sw m (t - 15)) + sw m (t - 16) := by rw [sw, dif_neg (by omega)]
theorem sw_ge' {m : Nat → Wd} {t : Nat} (h : 16 ≤ t) : sw m (t - 16) + (sg0 (sw m (t - 15)) + sg1 (sw m (t - 2)) + sw m (t - 7)) = sw m t := by rw [sw_ge h]; ac_rfl
/-- the last 16 words, each at its place modulo 16 -/
structure RingOk (m : Nat → Wd) (t : Nat) (l : List Wd) : Prop where
 len : l.length = 16
 at_ : ∀ s, s < max t 16 → max t 16 ≤ s + 16 → l[s % 16]? = some (sw m s)
theorem RingOk.start {m : Nat → Wd} {l : List Wd} (h : l.length = 16) (h1 : ∀ s, s < 16 → l[s]? = some (m s)) : RingOk m 0 l := ⟨h, fun s h2 _ => by
 have : s < 16 := by omega
 rw [Nat.mod_eq_of_lt this, h1 s this, sw_lt this]⟩
theorem RingOk.low {m : Nat → Wd} {l : List Wd} {t : Nat} (h : RingOk m t l) (ht : t < 16) : RingOk m (t + 1) l := ⟨h.len, fun s h1 h2 => h.at_ s (by omega) (by omega)⟩
theorem RingOk.step {m : Nat → Wd} {l : List Wd} {t : Nat} (h : RingOk m t l) (ht : 16 ≤ t) : RingOk m (t + 1) (l.set (t % 16) (sw m t)) := ⟨by rw [List.length_set, h.len], fun s h1 h2 => by
 by_cases e : s = t
 · subst e
   rw [List.getElem?_set_self (by rw [h.len]; omega)]
 · rw [List.getElem?_set_ne (by omega)]
   exact h.at_ s (by omega) (by omega)⟩
/-- the eight words of a state -/
structure St where
 a : Wd
 b : Wd
 c : Wd
 d : Wd
 e : Wd
 f : Wd
 g : Wd
 i : Wd
def St.l (v : St) : List Wd := [v.a, v.b, v.c, v.d, v.e, v.f, v.g, v.i]
def St.t1 (v : St) (k w : Wd) : Wd := v.i + (rr v.e 6 ^^^ rr v.e 11 ^^^ rr v.e 25) + ((v.e &&& v.f) ^^^ (~~~ v.e &&& v.g)) + k + w
def St.t2 (v : St) : Wd := (rr v.a 2 ^^^ rr v.a 13 ^^^ rr v.a 22) + ((v.a &&& v.b) ^^^ (v.a &&& v.c) ^^^ (v.b &&& v.c))
def St.rd (v : St) (k w : Wd) : St := ⟨v.t1 k w + v.t2, v.a, v.b, v.c, v.d + v.t1 k w, v.e, v.f, v.g⟩
def St.add (x y : St) : St := ⟨x.a + y.a, x.b + y.b, x.c + y.c, x.d + y.d, x.e + y.e, x.f + y.f, x.g + y.g, x.i + y.i⟩
def kcL : List Wd := [0x428a2f98#32, 0x71374491#32, 0xb5c0fbcf#32, 0xe9b5dba5#32, 0x3956c25b#32, 0x59f111f1#32, 0x923f82a4#32, 0xab1c5ed5#32,
 0xd807aa98#32, 0x12835b01#32, 0x243185be#32, 0x550c7dc3#32, 0x72be5d74#32, 0x80deb1fe#32, 0x9bdc06a7#32, 0xc19bf174#32,
 0xe49b69c1#32, 0xefbe4786#32, 0x0fc19dc6#32, 0x240ca1cc#32, 0x2de92c6f#32, 0x4a7484aa#32, 0x5cb0a9dc#32, 0x76f988da#32,
 0x983e5152#32, 0xa831c66d#32, 0xb00327c8#32, 0xbf597fc7#32, 0xc6e00bf3#32, 0xd5a79147#32, 0x06ca6351#32, 0x14292967#32,
 0x27b70a85#32, 0x2e1b2138#32, 0x4d2c6dfc#32, 0x53380d13#32, 0x650a7354#32, 0x766a0abb#32, 0x81c2c92e#32, 0x92722c85#32,
 0xa2bfe8a1#32, 0xa81a664b#32, 0xc24b8b70#32, 0xc76c51a3#32, 0xd192e819#32, 0xd6990624#32, 0xf40e3585#32, 0x106aa070#32,
 0x19a4c116#32, 0x1e376c08#32, 0x2748774c#32, 0x34b0bcb5#32, 0x391c0cb3#32, 0x4ed8aa4a#32, 0x5b9cca4f#32, 0x682e6ff3#32,
 0x748f82ee#32, 0x78a5636f#32, 0x84c87814#32, 0x8cc70208#32, 0x90befffa#32, 0xa4506ceb#32, 0xbef9a3f7#32, 0xc67178f2#32]
def kc (t : Nat) : Wd := kcL.getD t 0
theorem kc_at {t : Nat} (h : t < 64) : kcL[t]? = some (kc t) := by
 rw [kc, List.getD_eq_getElem?_getD]
 have : t < kcL.length := h
 rw [List.getElem?_eq_getElem this]; rfl
def st0 : St := ⟨0x6a09e667#32, 0xbb67ae85#32, 0x3c6ef372#32, 0xa54ff53a#32, 0x510e527f#32, 0x9b05688c#32, 0x1f83d9ab#32, 0x5be0cd19#32⟩
def stN (m : Nat → Wd) (h : St) : Nat → St
 | 0 => h
 | t + 1 => (stN m h t).rd (kc t) (sw m t)
/-- a word out of four bytes -/
def wd4 (a b c d : UInt8) : Wd := a.toBitVec.setWidth 32 <<< 24 ||| b.toBitVec.setWidth 32 <<< 16 ||| c.toBitVec.setWidth 32 <<< 8 ||| d.toBitVec.setWidth 32
theorem wd4_eq (a b c d : UInt8) : ((((0#32 <<< 8 ||| a.toBitVec.setWidth 32) <<< 8 ||| b.toBitVec.setWidth 32) <<< 8 ||| c.toBitVec.setWidth 32) <<< 8 ||| d.toBitVec.setWidth 32) = wd4 a b c d := by
 unfold wd4
 simp only [BitVec.shiftLeft_or_distrib, ← BitVec.shiftLeft_add, BitVec.zero_shiftLeft, BitVec.zero_or]
def blkW (bs : List UInt8) (t : Nat) : Wd := wd4 (bs.getD (4 * t) 0) (bs.getD (4 * t + 1) 0) (bs.getD (4 * t + 2) 0) (bs.getD (4 * t + 3) 0)
def outB (l : List Wd) (j : Nat) : UInt8 := UInt8.ofNat ((l.getD (j / 4) 0) >>> (24 - 8 * (j % 4))).toNat
/-- what is hashed of 17 bytes -/
def pad17 (bs : List UInt8) : List UInt8 := bs ++ (128 :: List.replicate 38 0) ++ [0, 0, 0, 0, 0, 0, 0, 136]
def sha1 (blk : List UInt8) : St := st0.add (stN (blkW blk) st0 64)
def half17 (bs : List UInt8) : List UInt8 := (List.range 16).map (outB (sha1 (pad17 bs)).l)
end Go.Eng
