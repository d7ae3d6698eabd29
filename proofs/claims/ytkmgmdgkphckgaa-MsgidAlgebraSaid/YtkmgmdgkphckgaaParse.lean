/-
  ascii.skip, ascii.Unhex; msgid.fits, Parse.
-/
import Derived.Test.YtkmgmdgkphckgaaHex
import Derived.Test.YtkmgmdgkphckgaaSite
namespace Go.Proofs.Ytkmgmdgkphckgaa
open Go.Eng Go.RowKit

def hexDigs : List UInt8 := [48, 49, 50, 51, 52, 53, 54, 55, 56, 57, 97, 98, 99, 100, 101, 102]
/-- the value of a digit -/
def hv (c : UInt8) : Nat := (idxL c hexDigs 0).toNat
def isHx (c : UInt8) : Bool := decide (0 ≤ idxL c hexDigs 0)
theorem all256 {p : UInt8 → Prop} (h : ∀ m : Fin 256, p (UInt8.ofNat m.val)) (c : UInt8) : p c := by
  have := h ⟨c.toNat, c.toNat_lt⟩
  simpa using this
theorem isHx_eq (c : UInt8) : isHx c = isHexd c.toNat := all256 (p := fun c => isHx c = isHexd c.toNat) (by decide +kernel) c
theorem hv_lt (c : UInt8) (h : isHx c = true) : hv c < 16 := by
  have := all256 (p := fun c => isHx c = true → hv c < 16) (by decide +kernel) c
  exact this h
theorem hv_wrap (c : UInt8) (h : isHx c = true) : (IntKind.u8).wrap (idxL c hexDigs 0) = (hv c : Int) := by
  have := all256 (p := fun c => isHx c = true → (IntKind.u8).wrap (idxL c hexDigs 0) = (hv c : Int)) (by decide +kernel) c
  exact this h
theorem shl_or (a b : Nat) (ha : a < 16) (hb : b < 16) :
    (IntKind.u8).wrap (BitVec.ofInt (IntKind.u8).bits ((IntKind.u8).wrap ((a : Int) * 2 ^ (min (4 : Int).toNat (IntKind.u8).bits))) ||| BitVec.ofInt (IntKind.u8).bits (b : Int)).toNat = ((UInt8.ofNat (16 * a + b)).toNat : Int) := by
  have key : ∀ (a b : Fin 16), (IntKind.u8).wrap (BitVec.ofInt (IntKind.u8).bits ((IntKind.u8).wrap (((a.val : Nat) : Int) * 2 ^ (min (4 : Int).toNat (IntKind.u8).bits))) ||| BitVec.ofInt (IntKind.u8).bits ((b.val : Nat) : Int)).toNat = ((UInt8.ofNat (16 * a.val + b.val)).toNat : Int) := by decide +kernel
  exact key ⟨a, ha⟩ ⟨b, hb⟩

def unhexL : List UInt8 → List UInt8
  | a :: b :: l => UInt8.ofNat (16 * hv a + hv b) :: unhexL l
  | _ => []
theorem unhexL_app : ∀ (a b : List UInt8), a.length % 2 = 0 → unhexL (a ++ b) = unhexL a ++ unhexL b
  | [], b, _ => rfl
  | [_], _, h => by simp at h
  | x :: y :: a, b, h => by simp [unhexL, unhexL_app a b (by simp at h; omega)]
theorem unhexL_snoc {l : List UInt8} {k : Nat} (h : 2 * k + 1 < l.length) : unhexL (l.take (2 * (k + 1))) = unhexL (l.take (2 * k)) ++ [UInt8.ofNat (16 * hv (l.getD (2 * k) 0) + hv (l.getD (2 * k + 1) 0))] := by
  have e1 : l.getD (2 * k) 0 = l[2 * k] := by simp [show 2 * k < l.length by omega]
  have e2 : l.getD (2 * k + 1) 0 = l[2 * k + 1] := by simp [h]
  rw [e1, e2]
  rw [show 2 * (k + 1) = 2 * k + 1 + 1 by omega, List.take_succ_eq_append_getElem (by omega), List.take_succ_eq_append_getElem (by omega), List.append_assoc, unhexL_app _ _ (by simp; omega)]
  rfl
theorem unhexL_len : ∀ (l : List UInt8), (unhexL l).length = l.length / 2
  | [] => rfl
  | [_] => by simp [unhexL]
  | x :: y :: l => by simp [unhexL, unhexL_len l]; omega

/-- where skip stops -/
def skipR (p : UInt8 → Bool) (l : List UInt8) (k : Nat) : Nat := (findFrom (fun i => !(p (l.getD i 0))) (l.length - k) k).getD l.length

theorem skip_any (fid : Nat) (p : UInt8 → Bool) (hf : Callable Try.prog fid) (hp : ∀ c w, Ret Try.prog fid #[ub c] w fun v w' => v = .bool (p c) ∧ w = w') (l : List UInt8) (k0 : Nat) (hk0 : k0 ≤ l.length) (hl : l.length ≤ 1000000) (w : World) :
    Ret Try.prog 60 #[str l, .int .i64 k0, .func (.func fid) #[] #[]] w fun v w' => v = .int .i64 (skipR p l k0) ∧ w = w' := by
  refine Ret.enter (n := 21) (args := [str l, .int .i64 k0, .func (.func fid) #[] #[]]) Try.func60 rfl rfl ?_
  refine C.keep [(0, _), (1, _), (2, _)] ⟨rfl, rfl, rfl, trivial⟩ ?_
  refine C.seq ?_
  refine C.region ?_
  refine R.ev rfl (E.assign rfl) ?_
  refine R.done ?_
  refine X.keep [(0, _), (1, _), (2, _)] ⟨rfl, rfl, rfl, trivial⟩ ?_
  refine X.next ?_
  refine C.seq ?_
  refine C.block ?_
  refine C.loop  [(0, _), (2, _)] (fun k => [(1, .int .i64 (k : Nat))]) (fun k w' => k ≤ l.length ∧ w = w' ∧ skipR p l k0 = skipR p l k) (fun k => l.length - k) (k0) ⟨rfl, rfl, rfl, trivial⟩ ⟨hk0, rfl, rfl⟩ ?_
  rintro k _ ⟨hk, rfl, hs⟩
  have hf2 : k < l.length → skipR p l k = if p (l.getD k 0) then skipR p l (k + 1) else k := fun h => by
    unfold skipR; rw [findFrom_eq _ _ _ (by omega)]
    cases p (l.getD k 0) <;> simp [Nat.sub_sub]
  have hf3 : ¬ k < l.length → skipR p l k = l.length := fun h => by
    unfold skipR; rw [show l.length - k = 0 by omega]; rfl
  refine C.keep [(0, _), (1, _), (2, _)] ⟨rfl, rfl, rfl, trivial⟩ ?_
  refine C.seq ?_
  refine C.seq ?_
  refine C.region ?_
  refine R.ev rfl (E.move rfl) ?_
  refine R.ev rfl (E.move rfl) ?_
  refine R.ev rfl (E.lenStr rfl Try.underlying9) ?_
  refine R.ev rfl (E.lss rfl rfl) ?_
  refine R.ev rfl (E.move rfl) ?_
  refine R.split 11 rfl (fun h11 => ?_) (fun h11 => ?_)
  · refine R.gyes rfl rfl ?_
    have hlt : k < l.length := by simp at h11; omega
    refine R.ev rfl (E.move rfl) ?_
    refine R.gyes rfl rfl ?_
    refine R.ev rfl (E.move rfl) ?_
    refine R.gyes rfl rfl ?_
    refine R.ev rfl (E.move rfl) ?_
    refine R.gyes rfl rfl ?_
    refine R.ev rfl (E.sindex rfl rfl Try.underlying9 rfl (by first | omega | decide)) ?_
    refine R.gyes rfl rfl ?_
    refine R.callV hf rfl rfl rfl (hp _ _) ?_
    rintro _ _ ⟨rfl, rfl⟩
    refine R.ev rfl (E.pickT rfl rfl) ?_
    refine R.done ?_
    refine X.keep [(0, _), (1, _), (2, _), (17, _)] ⟨rfl, rfl, rfl, rfl, trivial⟩ ?_
    refine X.next ?_
    refine C.cbool rfl (fun h17 => ?_) (fun h17 => ?_)
    · refine C.skip ?_
      refine X.next ?_
      refine C.block ?_
      refine C.region ?_
      refine R.ev rfl (E.move rfl) ?_
      refine R.ev rfl (E.add rfl rfl (by omega) (by omega)) ?_
      refine R.ev rfl (E.assign rfl) ?_
      refine R.done ?_
      refine X.keep [(0, _), (1, _), (2, _)] ⟨rfl, rfl, rfl, trivial⟩ ?_
      refine X.blockNormal ?_
      refine X.again (k + 1) ⟨rfl, rfl, rfl, trivial⟩ ⟨by omega, rfl, by rw [hs, hf2 hlt, if_pos h17]⟩ (by omega)
    · refine C.exit ?_
      refine X.thenExit ?_
      refine X.loopExit ?_
      refine X.blockExit ?_
      refine X.next ?_
      refine C.seq ?_
      refine C.region ?_
      refine R.ev rfl (E.move rfl) ?_
      refine R.ev rfl (E.assign rfl) ?_
      refine R.done ?_
      refine X.keep [(6, _)] ⟨rfl, trivial⟩ ?_
      refine X.next ?_
      refine C.ret ?_
      refine X.ret1 rfl rfl ?_
      refine ⟨?_, rfl⟩
      first
        | (rw [hs, hf3 (by simp at h11; omega), show k = l.length by simp at h11; omega])
        | (rw [hs, hf2 hlt, if_neg (by rw [h17]; decide)])
  · refine R.gskip rfl rfl rfl ?_
    refine R.gskip rfl rfl rfl ?_
    refine R.gskip rfl rfl rfl ?_
    refine R.gskip rfl rfl rfl ?_
    refine R.gskip rfl rfl rfl ?_
    refine R.ev rfl (E.pickF rfl rfl) ?_
    refine R.done ?_
    refine X.keep [(0, _), (1, _), (2, _), (17, _)] ⟨rfl, rfl, rfl, rfl, trivial⟩ ?_
    refine X.next ?_
    refine C.cfalse rfl ?_
    refine C.exit ?_
    refine X.thenExit ?_
    refine X.loopExit ?_
    refine X.blockExit ?_
    refine X.next ?_
    refine C.seq ?_
    refine C.region ?_
    refine R.ev rfl (E.move rfl) ?_
    refine R.ev rfl (E.assign rfl) ?_
    refine R.done ?_
    refine X.keep [(6, _)] ⟨rfl, trivial⟩ ?_
    refine X.next ?_
    refine C.ret ?_
    refine X.ret1 rfl rfl ?_
    refine ⟨?_, rfl⟩
    first
      | (rw [hs, hf3 (by simp at h11; omega), show k = l.length by simp at h11; omega])
      | (rw [hs, hf2 hlt, if_neg (by rw [h17]; decide)])

theorem isHexF_any (c : UInt8) (w : World) : Ret Try.prog 58 #[ub c] w fun v w' => v = .bool (isHx c) ∧ w = w' := by
  refine Ret.enter (n := 6) (args := [ub c]) Try.func58 rfl rfl ?_
  refine C.keep [(0, _)] ⟨rfl, trivial⟩ ?_
  refine C.seq ?_
  refine C.region ?_
  refine R.ev rfl (E.assign rfl) ?_
  refine R.done ?_
  refine X.keep [(0, _)] ⟨rfl, trivial⟩ ?_
  refine X.next ?_
  refine C.seq ?_
  refine C.region ?_
  refine R.ev rfl (E.move rfl) ?_
  refine R.call ⟨_, _, Try.func59, rfl, by kernel_rfl⟩ rfl rfl (idxStr_any _ _ _) ?_
  rintro _ _ ⟨rfl, rfl⟩
  refine R.ev rfl (E.geq rfl rfl) ?_
  refine R.ev rfl (E.assign rfl) ?_
  refine R.done ?_
  refine X.keep [(2, _)] ⟨rfl, trivial⟩ ?_
  refine X.next ?_
  refine C.ret ?_
  refine X.ret1 rfl rfl ?_
  exact ⟨rfl, rfl⟩
theorem valueF_any (c : UInt8) (w : World) : Ret Try.prog 61 #[ub c] w fun v w' => v = .int .u8 ((IntKind.u8).wrap (idxL c hexDigs 0)) ∧ w = w' := by
  refine Ret.enter (n := 6) (args := [ub c]) Try.func61 rfl rfl ?_
  refine C.keep [(0, _)] ⟨rfl, trivial⟩ ?_
  refine C.seq ?_
  refine C.region ?_
  refine R.ev rfl (E.assign rfl) ?_
  refine R.done ?_
  refine X.keep [(0, _)] ⟨rfl, trivial⟩ ?_
  refine X.next ?_
  refine C.seq ?_
  refine C.region ?_
  refine R.ev rfl (E.move rfl) ?_
  refine R.call ⟨_, _, Try.func59, rfl, by kernel_rfl⟩ rfl rfl (idxStr_any _ _ _) ?_
  rintro _ _ ⟨rfl, rfl⟩
  refine R.ev rfl (E.conv rfl Try.underlying3 Try.underlying5) ?_
  refine R.ev rfl (E.assign rfl) ?_
  refine R.done ?_
  refine X.keep [(2, _)] ⟨rfl, trivial⟩ ?_
  refine X.next ?_
  refine C.ret ?_
  refine X.ret1 rfl rfl ?_
  exact ⟨rfl, rfl⟩

def okHex (l : List UInt8) : Bool := decide (l.length % 2 = 0) && decide (¬ skipR isHx l 0 < l.length)
theorem findFrom_none {p : Nat → Bool} : ∀ (f k : Nat), findFrom p f k = none → ∀ i, k ≤ i → i < k + f → p i = false
  | 0, k, _, i, h1, h2 => by omega
  | f + 1, k, h, i, h1, h2 => by
    unfold findFrom at h
    split at h
    · cases h
    · rename_i hp
      by_cases hi : i = k
      · subst hi; simpa using hp
      · exact findFrom_none f (k + 1) h i (by omega) (by omega)
theorem findFrom_some {p : Nat → Bool} : ∀ (f k i : Nat), findFrom p f k = some i → k ≤ i ∧ i < k + f ∧ p i = true ∧ ∀ j, k ≤ j → j < i → p j = false
  | 0, k, i, h => by simp [findFrom] at h
  | f + 1, k, i, h => by
    unfold findFrom at h
    split at h
    · rename_i hp
      simp at h; subst h
      exact ⟨by omega, by omega, hp, fun j h1 h2 => by omega⟩
    · rename_i hp
      obtain ⟨h1, h2, h3, h4⟩ := findFrom_some f (k + 1) i h
      refine ⟨by omega, by omega, h3, fun j hj1 hj2 => ?_⟩
      by_cases hj : j = k
      · subst hj; simpa using hp
      · exact h4 j (by omega) hj2
theorem skipR_all {p : UInt8 → Bool} {l : List UInt8} (h : ¬ skipR p l 0 < l.length) (i : Nat) (hi : i < l.length) : p (l.getD i 0) = true := by
  unfold skipR at h
  cases hf : findFrom (fun i => !(p (l.getD i 0))) (l.length - 0) 0 with
  | none =>
    have := findFrom_none _ _ hf i (by omega) (by omega)
    simpa using this
  | some j =>
    rw [hf] at h
    have := findFrom_some _ _ _ hf
    simp at h
    omega

theorem unhex_any (l : List UInt8) (w : World) (hl : l.length ≤ 1000000) :
    Ret Try.prog 39 #[str l] w fun v w' => (okHex l = false → v = .tuple #[.slice none 0 0, .int .i64 3]) ∧ (okHex l = true → ∃ sv, v = .tuple #[sv, .int .i64 0] ∧ w'.ownsRow w.heap.size 5 1 sv (l.length / 2) ((unhexL l).map ub) ∧ sv ≠ .slice none 0 0) ∧ Mod [] w w' := by
  refine Ret.enter (n := 47) (args := [str l]) Try.func39 rfl rfl ?_
  refine C.keep [(0, _)] ⟨rfl, trivial⟩ ?_
  refine C.seq ?_
  refine C.region ?_
  refine R.ev rfl (E.assign rfl) ?_
  refine R.ev rfl (E.assign rfl) ?_
  refine R.done ?_
  refine X.keep [(0, _)] ⟨rfl, trivial⟩ ?_
  refine X.next ?_
  refine C.seq ?_
  refine C.region ?_
  refine R.ev rfl (E.assign rfl) ?_
  refine R.done ?_
  refine X.keep [(0, _), (4, _)] ⟨rfl, rfl, trivial⟩ ?_
  refine X.next ?_
  refine C.seq ?_
  refine C.seq ?_
  refine C.cut [(0, _)] (fun (_ : Unit) => [(19, .bool (!(okHex l)))]) (fun _ w' => w = w') ⟨rfl, trivial⟩ ?_ ?_
  · refine C.region ?_
    refine R.ev rfl (E.move rfl) ?_
    refine R.ev rfl (E.lenStr rfl Try.underlying9) ?_
    refine R.ev rfl (E.rem rfl rfl (by omega) (by omega)) ?_
    refine R.ev rfl (E.neq rfl rfl) ?_
    refine R.ev rfl (E.move rfl) ?_
    refine R.split 12 rfl (fun h12 => ?_) (fun h12 => ?_)
    · refine R.gskip rfl rfl rfl ?_
      refine R.gskip rfl rfl rfl ?_
      refine R.gskip rfl rfl rfl ?_
      refine R.gskip rfl rfl rfl ?_
      refine R.gskip rfl rfl rfl ?_
      refine R.gskip rfl rfl rfl ?_
      refine R.ev rfl (E.pickT rfl rfl) ?_
      refine R.done ?_
      refine X.keep [(0, _), (19, _)] ⟨rfl, rfl, trivial⟩ ?_
      refine X.cut (()) ⟨lkV rfl ?_, rfl, trivial⟩ ?_
      all_goals try exact rfl
      unfold okHex
      simp at h12
      have hh : ((l.length : Int) % 2 ≠ 0) ↔ ¬ (l.length % 2 = 0) := by omega
      congr 1
      first
        | (rw [decide_eq_false (by omega : ¬ (l.length % 2 = 0))]; rfl)
        | (rw [decide_eq_true (by omega : l.length % 2 = 0), Bool.eq_iff_iff]; simp)
    · refine R.gyes rfl rfl ?_
      refine R.ev rfl (E.move rfl) ?_
      refine R.gyes rfl rfl ?_
      refine R.ev rfl (E.move rfl) ?_
      refine R.gyes rfl rfl ?_
      refine R.call ⟨_, _, Try.func60, rfl, by kernel_rfl⟩ rfl rfl (skip_any _ isHx ⟨_, _, Try.func58, rfl, by kernel_rfl⟩ isHexF_any l 0 (by omega) hl _) ?_
      rintro _ _ ⟨rfl, rfl⟩
      refine R.gyes rfl rfl ?_
      refine R.ev rfl (E.move rfl) ?_
      refine R.gyes rfl rfl ?_
      refine R.ev rfl (E.lenStr rfl Try.underlying9) ?_
      refine R.gyes rfl rfl ?_
      refine R.ev rfl (E.lss rfl rfl) ?_
      refine R.ev rfl (E.pickF rfl rfl) ?_
      refine R.done ?_
      refine X.keep [(0, _), (19, _)] ⟨rfl, rfl, trivial⟩ ?_
      refine X.cut (()) ⟨lkV rfl ?_, rfl, trivial⟩ ?_
      all_goals try exact rfl
      unfold okHex
      simp at h12
      have hh : ((l.length : Int) % 2 ≠ 0) ↔ ¬ (l.length % 2 = 0) := by omega
      congr 1
      first
        | (rw [decide_eq_false (by omega : ¬ (l.length % 2 = 0))]; rfl)
        | (rw [decide_eq_true (by omega : l.length % 2 = 0), Bool.eq_iff_iff]; simp)
  · rintro _ _ rfl
    refine X.keep [(0, _), (19, _)] ⟨rfl, rfl, trivial⟩ ?_
    refine X.next ?_
    refine C.cbool rfl (fun h19 => ?_) (fun h19 => ?_)
    · refine C.seq ?_
      refine C.region ?_
      refine R.ev rfl (E.assign rfl) ?_
      refine R.ev rfl (E.assign rfl) ?_
      refine R.done ?_
      refine X.keep [(2, _), (3, _)] ⟨rfl, rfl, trivial⟩ ?_
      refine X.next ?_
      refine C.ret ?_
      refine X.thenRet ?_
      refine X.ret2 rfl rfl rfl ?_
      exact ⟨fun _ => rfl, (fun h => by rw [h] at h19; cases h19), Mod.refl _ _⟩
    · refine C.skip ?_
      refine X.next ?_
      refine C.seq ?_
      refine C.region ?_
      refine R.ev rfl (E.assign rfl) ?_
      refine R.done ?_
      refine X.keep [(0, _), (5, _)] ⟨rfl, rfl, trivial⟩ ?_
      refine X.next ?_
      refine C.seq ?_
      refine C.region ?_
      refine R.ev rfl (E.move rfl) ?_
      refine R.ev rfl (E.lenStr rfl Try.underlying9) ?_
      refine R.ev rfl (E.quo rfl rfl (by omega) (by omega) (by omega)) ?_
      have hok : okHex l = true := by simpa using h19
      have hev : l.length % 2 = 0 ∧ ¬ skipR isHx l 0 < l.length := by simpa [okHex] using hok
      refine R.make0 (m := l.length / 2) rfl rfl Try.underlying35 Try.by5 rfl rfl (by omega) (by omega) (by omega) ?_
      intro nb w1 ho1 hm1 hnb
      refine R.ev rfl (E.assign rfl) ?_
      refine R.done ?_
      refine X.keep [(0, _), (5, _), (6, _)] ⟨rfl, rfl, rfl, trivial⟩ ?_
      refine X.next ?_
      refine C.seq ?_
      refine C.seq ?_
      refine C.region ?_
      refine R.ev rfl (E.assign rfl) ?_
      refine R.done ?_
      refine X.keep [(0, _), (5, _), (6, _), (7, _)] ⟨rfl, rfl, rfl, rfl, trivial⟩ ?_
      refine X.next ?_
      refine C.block ?_
      refine C.loop (T := Nat × Value) [(0, _), (5, _)] (fun (k, sv) => [(6, sv), (7, .int .i64 ((2 * k : Nat) : Int))]) (fun (k, sv) w' => 2 * k ≤ l.length ∧ w'.ownsRow w.heap.size 5 1 sv k ((unhexL (l.take (2 * k))).map ub) ∧ Mod [] w w' ∧ sv ≠ .slice none 0 0) (fun (k, _) => l.length - k) ((0, _)) ⟨rfl, rfl, rfl, rfl, trivial⟩ ⟨by simp, ho1, hm1, by simp⟩ ?_
      rintro ⟨k, sv⟩ w2 ⟨hk, ho, hm, hne⟩
      refine C.keep [(0, _), (5, _), (6, _), (7, _)] ⟨rfl, rfl, rfl, rfl, trivial⟩ ?_
      refine C.seq ?_
      refine C.seq ?_
      refine C.region ?_
      refine R.ev rfl (E.move rfl) ?_
      refine R.ev rfl (E.move rfl) ?_
      refine R.ev rfl (E.lenStr rfl Try.underlying9) ?_
      refine R.ev rfl (E.lss rfl rfl) ?_
      refine R.done ?_
      refine X.keep [(0, _), (5, _), (6, _), (7, _), (27, _)] ⟨rfl, rfl, rfl, rfl, rfl, trivial⟩ ?_
      refine X.next ?_
      refine C.cdec rfl (fun h27 => ?_) (fun h27 => ?_)
      · have hlt : 2 * k + 1 < l.length := by omega
        have hx1 := skipR_all hev.2 (2 * k) (by omega)
        have hx2 := skipR_all hev.2 (2 * k + 1) (by omega)
        refine C.skip ?_
        refine X.next ?_
        refine C.seq ?_
        refine C.block ?_
        refine C.drawn (fun _ => True) ([], [0, 1, 2, 3, 4, 6, 7, 8, 9, 10, 11, 13, 16]) (by kernel_rfl) ?_
        refine D.evP 0 rfl (by kernel_rfl) rfl (np (by kernel_rfl)) (fun _ => E.move rfl) ?_
        refine D.evP 1 rfl (by kernel_rfl) rfl (np (by kernel_rfl)) (fun _ => E.move rfl) ?_
        refine D.evP 2 rfl (by kernel_rfl) rfl (np (by kernel_rfl)) (fun _ => E.move rfl) ?_
        refine D.evP 3 rfl (by kernel_rfl) rfl (np (by kernel_rfl)) (fun _ => E.move rfl) ?_
        refine D.evP 4 rfl (by kernel_rfl) rfl (np (by kernel_rfl)) (fun _ => E.sindex (i := 2 * k) rfl rfl Try.underlying9 rfl (by omega)) ?_
        refine D.evP 7 rfl (by kernel_rfl) rfl (np (by kernel_rfl)) (fun _ => E.move rfl) ?_
        refine D.evP 8 rfl (by kernel_rfl) rfl (np (by kernel_rfl)) (fun _ => E.move rfl) ?_
        refine D.evP 9 rfl (by kernel_rfl) rfl (np (by kernel_rfl)) (fun _ => E.move rfl) ?_
        refine D.evP 10 rfl (by kernel_rfl) rfl (np (by kernel_rfl)) (fun _ => E.add rfl rfl (by omega) (by omega)) ?_
        refine D.evP 11 rfl (by kernel_rfl) rfl (np (by kernel_rfl)) (fun _ => E.sindex (i := 2 * k + 1) rfl rfl Try.underlying9 (by omega) (by omega)) ?_
        refine D.act 5 rfl (by kernel_rfl) ?_
        refine R.callV ⟨_, _, Try.func61, rfl, by kernel_rfl⟩ rfl rfl rfl (valueF_any _ _) ?_
        rintro _ _ ⟨rfl, rfl⟩
        refine D.back trivial ?_
        refine D.evP 6 rfl (by kernel_rfl) rfl (np (by kernel_rfl)) (fun _ => E.shl rfl rfl (by omega)) ?_
        refine D.act 12 rfl (by kernel_rfl) ?_
        refine R.callV ⟨_, _, Try.func61, rfl, by kernel_rfl⟩ rfl rfl rfl (valueF_any _ _) ?_
        rintro _ _ ⟨rfl, rfl⟩
        refine D.back trivial ?_
        refine D.evP 13 rfl (by kernel_rfl) rfl (np (by kernel_rfl)) (fun _ => (E.or rfl rfl).as (by rw [hv_wrap _ hx1, hv_wrap _ hx2, shl_or _ _ (hv_lt _ hx1) (hv_lt _ hx2)] : _ = ub (UInt8.ofNat (16 * hv (l.getD (2 * k) 0) + hv (l.getD (2 * k + 1) 0))))) ?_
        refine D.act 14 rfl (by kernel_rfl) ?_
        refine R.buildSlice1 (parts := [(0, .tmp 43)]) (vs := [_]) rfl rfl rfl Try.underlying35 Try.sz5 Try.zr5 rfl (by simp [Value.oneCell']) (by decide) ?_
        intro b44 w44 n44
        refine D.back trivial ?_
        refine D.act 15 rfl (by kernel_rfl) ?_
        refine R.append rfl rfl Try.underlying35 Try.by5 (by rfl) rfl ((n44.mod.own ho (by simp))) (n44.blk.at) (by simp [*]) (by simp [*, Value.oneCell']) (by omega) (by omega) (by omega) (by have := n44.mod.size; have := hm.size; have : w2.drew.heap.size = w2.heap.size := rfl; omega) ?_
        intro sv' w4 ho4 hm4 hat4 hnil4
        refine D.back trivial ?_
        refine D.evP 16 rfl (by kernel_rfl) rfl (np (by kernel_rfl)) (fun _ => E.assign rfl) ?_
        refine D.done rfl (by kernel_rfl) ?_
        refine X.keep [(0, _), (5, _), (6, _), (7, _)] ⟨rfl, rfl, rfl, rfl, trivial⟩ ?_
        refine X.blockNormal ?_
        refine X.next ?_
        refine C.region ?_
        refine R.ev rfl (E.move rfl) ?_
        refine R.ev rfl (E.add rfl rfl (by omega) (by omega)) ?_
        refine R.ev rfl (E.assign rfl) ?_
        refine R.done ?_
        refine X.keep [(0, _), (5, _), (6, _), (7, _)] ⟨rfl, rfl, rfl, rfl, trivial⟩ ?_
        have hm5 : Mod [] w w4 := ((hm.tr (Mod.drew _ _)).tr n44.mod).tr' hm4 (fun x hx => (ho.lt x (by simpa using hx)).1)
        refine X.again (k + 1, sv') ⟨rfl, lkV rfl (congrArg (Value.int .i64) (by omega)), rfl, rfl, trivial⟩ ⟨by omega, ?_, hm5, by rw [ne_eq, hnil4]; simp⟩ (by show _ - _ < _ - _; omega)
        rw [unhexL_snoc hlt, List.map_append]; exact ho4
      · refine C.exit ?_
        refine X.thenExit ?_
        refine X.loopExit ?_
        refine X.blockExit ?_
        refine X.next ?_
        refine C.seq ?_
        refine C.region ?_
        refine R.ev rfl (E.move rfl) ?_
        refine R.ev rfl (E.assign rfl) ?_
        refine R.ev rfl (E.assign rfl) ?_
        refine R.done ?_
        refine X.keep [(2, _), (3, _)] ⟨rfl, rfl, trivial⟩ ?_
        refine X.next ?_
        refine C.ret ?_
        refine X.ret2 rfl rfl rfl ?_
        refine ⟨(fun h => by rw [h] at hok; cases hok), fun _ => ⟨sv, rfl, ?_, hne⟩, hm⟩
        have e : k = l.length / 2 := by omega
        have e2 : l.take (2 * k) = l := List.take_of_length_le (by omega)
        rw [e2] at ho
        rw [← e]; exact ho

/-- may byte c stand at offset k of a message identifier? -/
def fitsB (k : Nat) (c : UInt8) : Bool :=
  if k < 1 then decide (c = 60) else if k < 65 then isHx c else decide (c = tailL.getD (k - 65) 0)
theorem u8_eq (a b : UInt8) : (decide ((a.toNat : Int) = (b.toNat : Int))) = decide (a = b) := by
  rw [Bool.eq_iff_iff]
  simp only [decide_eq_true_eq]
  constructor
  · intro h; exact UInt8.toNat_inj.1 (by omega)
  · intro h; rw [h]
theorem fits_any (k : Nat) (c : UInt8) (w : World) (_h0 : 0 ≤ k) (hk : k < 71) : Ret Try.prog 38 #[.int .i64 k, ub c] w fun v w' => v = .bool (fitsB k c) ∧ w = w' := by
  refine Ret.enter (n := 23) (args := [.int .i64 k, ub c]) Try.func38 rfl rfl ?_
  refine C.keep [(0, _), (1, _)] ⟨rfl, rfl, trivial⟩ ?_
  refine C.seq ?_
  refine C.region ?_
  refine R.ev rfl (E.assign rfl) ?_
  refine R.done ?_
  refine X.keep [(0, _), (1, _)] ⟨rfl, rfl, trivial⟩ ?_
  refine X.next ?_
  refine C.seq ?_
  refine C.block ?_
  refine C.seq ?_
  refine C.region ?_
  refine R.ev rfl (E.move rfl) ?_
  refine R.ev rfl (E.lss rfl rfl) ?_
  refine R.ev rfl (E.assign rfl) ?_
  refine R.done ?_
  refine X.keep [(0, _), (1, _), (5, _)] ⟨rfl, rfl, rfl, trivial⟩ ?_
  refine X.next ?_
  refine C.cdec rfl (fun h5 => ?_) (fun h5 => ?_)
  · refine C.seq ?_
    refine C.region ?_
    refine R.ev rfl (E.move rfl) ?_
    refine R.ev rfl (E.move rfl) ?_
    refine R.ev rfl (E.sindex (l := [60]) rfl rfl Try.underlying9 rfl (by simp; omega)) ?_
    refine R.ev rfl (E.eql rfl rfl) ?_
    refine R.ev rfl (E.assign rfl) ?_
    refine R.done ?_
    refine X.keep [(4, _)] ⟨rfl, trivial⟩ ?_
    refine X.next ?_
    refine C.ret ?_
    refine X.blockRet ?_
    refine X.thenRet ?_
    refine X.ret1 rfl rfl ?_
    exact ⟨by rw [u8_eq, fitsB, if_pos (by omega), show k = 0 by omega]; rfl, rfl⟩
  · refine C.seq ?_
    refine C.region ?_
    refine R.ev rfl (E.move rfl) ?_
    refine R.ev rfl (E.lss rfl rfl) ?_
    refine R.ev rfl (E.assign rfl) ?_
    refine R.done ?_
    refine X.keep [(0, _), (1, _), (12, _)] ⟨rfl, rfl, rfl, trivial⟩ ?_
    refine X.next ?_
    refine C.cdec rfl (fun h12 => ?_) (fun h12 => ?_)
    · refine C.seq ?_
      refine C.region ?_
      refine R.ev rfl (E.move rfl) ?_
      refine R.call ⟨_, _, Try.func47, rfl, by kernel_rfl⟩ rfl rfl (isHexDigit_any _ _) ?_
      rintro _ _ ⟨rfl, rfl⟩
      refine R.ev rfl (E.assign rfl) ?_
      refine R.done ?_
      refine X.keep [(4, _)] ⟨rfl, trivial⟩ ?_
      refine X.next ?_
      refine C.ret ?_
      refine X.blockRet ?_
      refine X.thenRet ?_
      refine X.ret1 rfl rfl ?_
      exact ⟨by rw [fitsB, if_neg (by omega), if_pos (by omega), isHx_eq], rfl⟩
    · refine C.skip ?_
      refine X.blockNormal ?_
      refine X.next ?_
      refine C.seq ?_
      refine C.region ?_
      refine R.ev rfl (E.move rfl) ?_
      refine R.ev rfl (E.move rfl) ?_
      refine R.ev rfl (E.sub rfl rfl (by omega) (by omega)) ?_
      refine R.ev rfl (E.sub rfl rfl (by omega) (by omega)) ?_
      refine R.ev rfl (E.sindex (l := [64, 104, 97, 115, 104, 62]) (i := k - 65) rfl rfl Try.underlying9 (by omega) (by simp; omega)) ?_
      refine R.ev rfl (E.eql rfl rfl) ?_
      refine R.ev rfl (E.assign rfl) ?_
      refine R.done ?_
      refine X.keep [(4, _)] ⟨rfl, trivial⟩ ?_
      refine X.next ?_
      refine C.ret ?_
      refine X.ret1 rfl rfl ?_
      exact ⟨by rw [u8_eq, fitsB, if_neg (by omega), if_neg (by omega)]; rfl, rfl⟩

def unfit (l : List UInt8) (k : Nat) : Bool := !(fitsB k (l.getD k 0))
def parseR (l : List UInt8) : List UInt8 × Nat × Int :=
  match findFrom (unfit l) (min l.length 71) 0 with
  | some k => (zid, k, 6)
  | none => if l.length < 71 then (zid, l.length, 4) else if 71 < l.length then (zid, 71, 5) else (unhexL ((l.drop 1).take 64), 0, 0)
theorem zid_len : zid.length = 32 := rfl
theorem parseR_len (l : List UInt8) : (parseR l).1.length = 32 := by
  unfold parseR
  split
  · rfl
  · split
    · rfl
    · split
      · rfl
      · simp [unhexL_len]; omega
theorem mid_hex {l : List UInt8} (hl : l.length = 71) (h : findFrom (unfit l) (min l.length 71) 0 = none) : okHex ((l.drop 1).take 64) = true := by
  have hlen : ((l.drop 1).take 64).length = 64 := by simp; omega
  unfold okHex
  rw [hlen]
  simp only [Bool.and_eq_true, decide_eq_true_eq]
  refine ⟨by decide, ?_⟩
  unfold skipR
  rw [hlen]
  cases hf : findFrom (fun i => !(isHx (((l.drop 1).take 64).getD i 0))) (64 - 0) 0 with
  | none => simp
  | some j =>
    obtain ⟨_, h2, h3, _⟩ := findFrom_some _ _ _ hf
    have h4 := findFrom_none _ _ h (j + 1) (by omega) (by omega)
    exfalso
    unfold unfit fitsB at h4
    rw [if_neg (by omega), if_pos (by omega)] at h4
    have e : ((l.drop 1).take 64).getD j 0 = l.getD (j + 1) 0 := by
      simp [List.getD_eq_getElem?_getD, show j < 64 by omega]
    rw [e] at h3
    rw [h3] at h4
    cases h4

theorem parse_any (l : List UInt8) (w : World) (hl : l.length ≤ 1000000) :
    Ret Try.prog 14 #[str l] w fun v w' => v = .tuple #[idV (parseR l).1, .int .i64 (parseR l).2.1, .int .i64 (parseR l).2.2] ∧ Mod [] w w' := by
  refine Ret.enter (n := 47) (args := [str l]) Try.func14 rfl rfl ?_
  refine C.keep [(0, _)] ⟨rfl, trivial⟩ ?_
  refine C.seq ?_
  refine C.region ?_
  refine R.allocA Try.zr23 rfl ?_
  intro b2 w2 n2
  refine R.ev rfl (E.assign rfl) ?_
  refine R.ev rfl (E.assign rfl) ?_
  refine R.done ?_
  refine X.keep [(0, _), (2, _)] ⟨rfl, rfl, trivial⟩ ?_
  refine X.next ?_
  refine C.seq ?_
  refine C.seq ?_
  refine C.region ?_
  refine R.ev rfl (E.move rfl) ?_
  refine R.ev rfl (E.lenStr rfl Try.underlying9) ?_
  refine R.ev rfl ((E.min2 rfl rfl).as (congrArg (Value.int .i64) (by omega) : _ = .int .i64 ((min l.length 71 : Nat) : Int))) ?_
  refine R.ev rfl (E.move rfl) ?_
  refine R.done ?_
  refine X.keep [(0, _), (2, _), (9, _), (10, _)] ⟨rfl, rfl, rfl, rfl, trivial⟩ ?_
  refine X.next ?_
  refine C.block ?_
  refine C.loop  [(0, _), (2, _), (9, _)] (fun k => [(10, .int .i64 (k : Nat))]) (fun k w' => k ≤ min l.length 71 ∧ w2 = w' ∧ findFrom (unfit l) (min l.length 71) 0 = findFrom (unfit l) (min l.length 71 - k) k) (fun k => 71 - k) (0) ⟨rfl, rfl, rfl, rfl, trivial⟩ ⟨by omega, rfl, rfl⟩ ?_
  rintro k _ ⟨hk, rfl, hf⟩
  refine C.keep [(0, _), (2, _), (9, _), (10, _)] ⟨rfl, rfl, rfl, rfl, trivial⟩ ?_
  refine C.seq ?_
  refine C.region ?_
  refine R.ev rfl (E.lss rfl rfl) ?_
  refine R.done ?_
  refine X.keep [(0, _), (2, _), (9, _), (10, _), (11, _)] ⟨rfl, rfl, rfl, rfl, rfl, trivial⟩ ?_
  refine X.next ?_
  refine C.seq ?_
  refine C.cdec rfl (fun h11 => ?_) (fun h11 => ?_)
  · have hlt : k < min l.length 71 := by omega
    have hf2 := findFrom_eq (unfit l) (min l.length 71 - k) k (by omega)
    refine C.skip ?_
    refine X.next ?_
    refine C.seq ?_
    refine C.block ?_
    refine C.seq ?_
    refine C.region ?_
    refine R.ev rfl (E.move rfl) ?_
    refine R.ev rfl (E.assign rfl) ?_
    refine R.done ?_
    refine X.keep [(0, _), (2, _), (5, _), (9, _), (10, _)] ⟨rfl, rfl, rfl, rfl, rfl, trivial⟩ ?_
    refine X.next ?_
    refine C.seq ?_
    refine C.region ?_
    refine R.ev rfl (E.move rfl) ?_
    refine R.ev rfl (E.move rfl) ?_
    refine R.ev rfl (E.move rfl) ?_
    refine R.ev rfl (E.sindex rfl rfl Try.underlying9 rfl (by first | omega | decide)) ?_
    refine R.call ⟨_, _, Try.func38, rfl, by kernel_rfl⟩ rfl rfl (fits_any _ _ _ (by omega) (by omega)) ?_
    rintro _ _ ⟨rfl, rfl⟩
    refine R.ev rfl ((E.not rfl).isB (c := unfit l k) rfl) ?_
    refine R.done ?_
    refine X.keep [(0, _), (2, _), (5, _), (9, _), (10, _), (18, _)] ⟨rfl, rfl, rfl, rfl, rfl, rfl, trivial⟩ ?_
    refine X.next ?_
    refine C.cbool rfl (fun h18 => ?_) (fun h18 => ?_)
    · refine C.seq ?_
      refine C.region ?_
      refine R.ev rfl (E.buildA rfl Try.underlying23 Try.zr23 Try.sz5 rfl) ?_
      refine R.ev rfl (E.move rfl) ?_
      refine R.storeAll rfl rfl Try.sz23 (n2.blk) (by first | rfl | exact len_ub (by assumption) | simp [*]) (by first | rfl | exact len_ub (by assumption) | simp [*]) (by first | exact ub_all _ | simp [Value.oneCell']) ?_
      intro w3 k3 m3 s3
      refine R.ev rfl (E.assign rfl) ?_
      refine R.ev rfl (E.assign rfl) ?_
      refine R.done ?_
      refine X.keep [(2, _), (3, _), (4, _)] ⟨rfl, rfl, rfl, trivial⟩ ?_
      refine X.next ?_
      refine C.ret ?_
      refine X.blockRet ?_
      refine X.thenRet ?_
      refine X.loopRet ?_
      refine X.blockRet ?_
      refine X.thenRet ?_
      refine X.retCTT rfl rfl rfl rfl Try.underlying23 rfl Try.sz23 (k3.at) (by first | rfl | exact len_ub (by assumption) | simp [*]) ?_
      have e : parseR l = (zid, k, 6) := by unfold parseR; rw [hf, hf2, if_pos h18]
      rw [e]
      exact ⟨rfl, n2.mod.tr' m3 (by intro x hx; simp at hx; subst hx; exact n2.ge)⟩
    · refine C.skip ?_
      refine X.blockNormal ?_
      refine X.next ?_
      refine C.region ?_
      refine R.ev rfl (E.add rfl rfl (by omega) (by omega)) ?_
      refine R.ev rfl (E.move rfl) ?_
      refine R.done ?_
      refine X.keep [(0, _), (2, _), (9, _), (10, _)] ⟨rfl, rfl, rfl, rfl, trivial⟩ ?_
      refine X.again (k + 1) ⟨rfl, rfl, rfl, rfl, trivial⟩ ⟨by omega, rfl, by rw [hf, hf2, if_neg (by rw [h18]; decide), Nat.sub_sub]⟩ (by omega)
  · refine C.exit ?_
    refine X.thenExit ?_
    refine X.loopExit ?_
    refine X.blockExit ?_
    refine X.next ?_
    refine C.seq ?_
    refine C.block ?_
    refine C.seq ?_
    refine C.region ?_
    have hnone : findFrom (unfit l) (min l.length 71) 0 = none := by rw [hf, show min l.length 71 - k = 0 by omega]; rfl
    refine R.ev rfl (E.move rfl) ?_
    refine R.ev rfl (E.lenStr rfl Try.underlying9) ?_
    refine R.ev rfl (E.lss rfl rfl) ?_
    refine R.ev rfl (E.assign rfl) ?_
    refine R.done ?_
    refine X.keep [(0, _), (2, _), (22, _)] ⟨rfl, rfl, rfl, trivial⟩ ?_
    refine X.next ?_
    refine C.cdec rfl (fun h22 => ?_) (fun h22 => ?_)
    · refine C.seq ?_
      refine C.region ?_
      refine R.ev rfl (E.buildA rfl Try.underlying23 Try.zr23 Try.sz5 rfl) ?_
      refine R.ev rfl (E.move rfl) ?_
      refine R.ev rfl (E.lenStr rfl Try.underlying9) ?_
      refine R.storeAll rfl rfl Try.sz23 (n2.blk) (by first | rfl | exact len_ub (by assumption) | simp [*]) (by first | rfl | exact len_ub (by assumption) | simp [*]) (by first | exact ub_all _ | simp [Value.oneCell']) ?_
      intro w3 k3 m3 s3
      refine R.ev rfl (E.assign rfl) ?_
      refine R.ev rfl (E.assign rfl) ?_
      refine R.done ?_
      refine X.keep [(2, _), (3, _), (4, _)] ⟨rfl, rfl, rfl, trivial⟩ ?_
      refine X.next ?_
      refine C.ret ?_
      refine X.blockRet ?_
      refine X.thenRet ?_
      refine X.retCTT rfl rfl rfl rfl Try.underlying23 rfl Try.sz23 (k3.at) (by first | rfl | exact len_ub (by assumption) | simp [*]) ?_
      have e : parseR l = (zid, l.length, 4) := by unfold parseR; rw [hnone]; simp only []; rw [if_pos (by omega)]
      rw [e]
      exact ⟨rfl, n2.mod.tr' m3 (by intro x hx; simp at hx; subst hx; exact n2.ge)⟩
    · refine C.seq ?_
      refine C.region ?_
      refine R.ev rfl (E.move rfl) ?_
      refine R.ev rfl (E.lenStr rfl Try.underlying9) ?_
      refine R.ev rfl (E.gtr rfl rfl) ?_
      refine R.ev rfl (E.assign rfl) ?_
      refine R.done ?_
      refine X.keep [(0, _), (2, _), (29, _)] ⟨rfl, rfl, rfl, trivial⟩ ?_
      refine X.next ?_
      refine C.cdec rfl (fun h29 => ?_) (fun h29 => ?_)
      · refine C.seq ?_
        refine C.region ?_
        refine R.ev rfl (E.buildA rfl Try.underlying23 Try.zr23 Try.sz5 rfl) ?_
        refine R.storeAll rfl rfl Try.sz23 (n2.blk) (by first | rfl | exact len_ub (by assumption) | simp [*]) (by first | rfl | exact len_ub (by assumption) | simp [*]) (by first | exact ub_all _ | simp [Value.oneCell']) ?_
        intro w3 k3 m3 s3
        refine R.ev rfl (E.assign rfl) ?_
        refine R.ev rfl (E.assign rfl) ?_
        refine R.done ?_
        refine X.keep [(2, _), (3, _), (4, _)] ⟨rfl, rfl, rfl, trivial⟩ ?_
        refine X.next ?_
        refine C.ret ?_
        refine X.blockRet ?_
        refine X.thenRet ?_
        refine X.retCTT rfl rfl rfl rfl Try.underlying23 rfl Try.sz23 (k3.at) (by first | rfl | exact len_ub (by assumption) | simp [*]) ?_
        have e : parseR l = (zid, 71, 5) := by unfold parseR; rw [hnone]; simp only []; rw [if_neg (by omega), if_pos (by omega)]
        rw [e]
        exact ⟨rfl, n2.mod.tr' m3 (by intro x hx; simp at hx; subst hx; exact n2.ge)⟩
      · refine C.skip ?_
        refine X.blockNormal ?_
        refine X.next ?_
        refine C.seq ?_
        refine C.region ?_
        refine R.ev rfl (E.move rfl) ?_
        refine R.ev rfl (E.ssliceLH (a := 1) (b := 65) rfl rfl rfl Try.underlying9 rfl rfl (by decide) (by omega)) ?_
        refine R.call ⟨_, _, Try.func39, rfl, by kernel_rfl⟩ rfl rfl (unhex_any ((l.drop 1).take 64) _ (by simp; omega)) ?_
        rintro v3 w3 ⟨hno, hyes, m3⟩
        obtain ⟨sv, rfl, ho3, hne3⟩ := hyes (mid_hex (by omega) hnone)
        have e : parseR l = (unhexL ((l.drop 1).take 64), 0, 0) := by unfold parseR; rw [hnone]; simp only []; rw [if_neg (by omega), if_neg (by omega)]
        have hul : (unhexL ((l.drop 1).take 64)).length = 32 := by rw [unhexL_len]; simp; omega
        obtain ⟨gb, cap, rfl, hgb, hgl⟩ := ho3.form (by simp; omega)
        refine R.ev rfl (E.move rfl) ?_
        refine R.ev rfl (E.extract rfl rfl) ?_
        refine R.ev rfl (E.extract rfl rfl) ?_
        refine R.ev rfl (E.assign rfl) ?_
        refine R.ev rfl (E.assign rfl) ?_
        refine R.done ?_
        refine X.keep [(2, _), (4, _), (6, _)] ⟨rfl, rfl, rfl, trivial⟩ ?_
        refine X.next ?_
        refine C.seq ?_
        refine C.seq ?_
        refine C.region ?_
        refine R.ev rfl (E.move rfl) ?_
        refine R.ev rfl ((E.neq rfl rfl).isF (by simp)) ?_
        refine R.done ?_
        refine X.keep [(2, _), (4, _), (6, _), (41, _)] ⟨rfl, rfl, rfl, rfl, trivial⟩ ?_
        refine X.next ?_
        refine C.cfalse rfl ?_
        refine C.skip ?_
        refine X.next ?_
        refine C.seq ?_
        refine C.region ?_
        have hn : ((l.drop 1).take 64).length / 2 = 32 := by simp; omega
        have hk2 := n2.blk.keep m3 (by simp)
        refine R.ev rfl (E.move rfl) ?_
        refine R.ev rfl (E.arrPtr rfl Try.underlying23 (by omega)) ?_
        refine R.ev rfl (E.loadRow rfl Try.underlying23 rfl Try.sz23 (own_at ho3) (len_ub hul)) ?_
        refine R.storeAll rfl rfl Try.sz23 (hk2) (by first | rfl | exact len_ub (by assumption) | simp [*]) (by first | rfl | exact len_ub (by assumption) | simp [*]) (by first | exact ub_all _ | simp [Value.oneCell']) ?_
        intro w4 k4 m4 s4
        refine R.ev rfl (E.assign rfl) ?_
        refine R.ev rfl (E.assign rfl) ?_
        refine R.done ?_
        refine X.keep [(2, _), (3, _), (4, _)] ⟨rfl, rfl, rfl, trivial⟩ ?_
        refine X.next ?_
        refine C.ret ?_
        refine X.retCTT rfl rfl rfl rfl Try.underlying23 rfl Try.sz23 (k4.at) (by first | rfl | exact len_ub (by assumption) | simp [*]) ?_
        rw [e]
        exact ⟨rfl, (n2.mod.tr m3).tr' m4 (by intro x hx; simp at hx; subst hx; exact n2.ge)⟩
end Go.Proofs.Ytkmgmdgkphckgaa
