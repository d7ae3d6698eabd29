/-
  MsgidCompares returns true for every two identities and every change. No condition.
-/
import Derived.Test.YtkmgmdgkphckgaaRows
import Derived.Test.YtkmgmdgkphckgaaRefParse
import Derived.Test.YtkmgmdgkphckgaaOpen
namespace Go.Proofs.Ytkmgmdgkphckgaa
open Go.Eng Go.RowKit

theorem cmpL_refl : ∀ (l : List UInt8), cmpL l l = 0
  | [] => rfl
  | x :: l => by simp [cmpL, UInt8.lt_irrefl, cmpL_refl l]
theorem u8_tri (x y : UInt8) (h1 : ¬ x < y) (h2 : ¬ y < x) : x = y := by
  rw [UInt8.lt_iff_toNat_lt] at h1 h2
  exact UInt8.toNat_inj.1 (by omega)
theorem u8_asym {x y : UInt8} (h : x < y) : ¬ y < x := by
  rw [UInt8.lt_iff_toNat_lt] at h ⊢; omega
theorem cmpL_neg : ∀ (a b : List UInt8), cmpL b a = -(cmpL a b)
  | [], [] => rfl
  | [], _ :: _ => rfl
  | _ :: _, [] => rfl
  | x :: a, y :: b => by
    unfold cmpL
    by_cases h1 : x < y
    · rw [if_neg (u8_asym h1), if_pos h1, if_pos h1]; rfl
    · by_cases h2 : y < x
      · rw [if_pos h2, if_neg h1, if_pos h2]
      · rw [if_neg h2, if_neg h1, if_neg h1, if_neg h2, cmpL_neg a b]
theorem cmpL_range : ∀ (a b : List UInt8), cmpL a b = -1 ∨ cmpL a b = 0 ∨ cmpL a b = 1
  | [], [] => by simp [cmpL]
  | [], _ :: _ => by simp [cmpL]
  | _ :: _, [] => by simp [cmpL]
  | x :: a, y :: b => by
    unfold cmpL
    split
    · simp
    · split
      · simp
      · exact cmpL_range a b
theorem cmpL_zero : ∀ (a b : List UInt8), cmpL a b = 0 ↔ a = b
  | [], [] => by simp [cmpL]
  | [], _ :: _ => by simp [cmpL]
  | _ :: _, [] => by simp [cmpL]
  | x :: a, y :: b => by
    unfold cmpL
    by_cases h1 : x < y
    · rw [if_pos h1]
      simp only [List.cons.injEq]
      constructor
      · intro h; cases h
      · rintro ⟨rfl, _⟩; exact absurd h1 (UInt8.lt_irrefl x)
    · by_cases h2 : y < x
      · rw [if_neg h1, if_pos h2]
        simp only [List.cons.injEq]
        constructor
        · intro h; cases h
        · rintro ⟨rfl, _⟩; exact absurd h2 (UInt8.lt_irrefl x)
      · rw [if_neg h1, if_neg h2, cmpL_zero a b]
        have := u8_tri x y h1 h2
        subst this
        simp
theorem less_cmp : ∀ (a b : List UInt8), Op.bytesLess a b = decide (cmpL a b = -1)
  | [], [] => by simp [Op.bytesLess, cmpL]
  | [], _ :: _ => by simp [Op.bytesLess, cmpL]
  | _ :: _, [] => by simp [Op.bytesLess, cmpL]
  | x :: a, y :: b => by
    unfold Op.bytesLess cmpL
    rw [less_cmp a b]
    by_cases h1 : x < y
    · simp [h1]
    · by_cases h2 : y < x
      · have : x ≠ y := fun e => by subst e; exact UInt8.lt_irrefl _ h2
        simp [h1, h2, this]
      · have := u8_tri x y h1 h2
        subst this
        simp [h1]
theorem cmpL_cons (x : UInt8) (a b : List UInt8) : cmpL (x :: a) (x :: b) = cmpL a b := by simp [cmpL, UInt8.lt_irrefl]
theorem cmpL_app : ∀ (a b t : List UInt8), a.length = b.length → cmpL (a ++ t) (b ++ t) = cmpL a b
  | [], [], t, _ => by simp [cmpL_refl, cmpL]
  | [], _ :: _, _, h => by simp at h
  | _ :: _, [], _, h => by simp at h
  | x :: a, y :: b, t, h => by
    simp only [List.cons_append, cmpL]
    rw [cmpL_app a b t (by simpa using h)]
theorem hexc_lt : ∀ (m n : Fin 16), (hexc m.val < hexc n.val) = (m.val < n.val) := by
  intro m n
  have : ∀ (m n : Fin 16), decide (hexc m.val < hexc n.val) = decide (m.val < n.val) := by decide +kernel
  have := this m n
  simpa using this
theorem hexc_lt' (m n : Nat) (hm : m < 16) (hn : n < 16) : (hexc m < hexc n) ↔ m < n := by
  have := hexc_lt ⟨m, hm⟩ ⟨n, hn⟩
  rw [this]
theorem cmp_hex : ∀ (a b : List UInt8), cmpL (hexL a) (hexL b) = cmpL a b
  | [], [] => rfl
  | [], _ :: _ => rfl
  | _ :: _, [] => rfl
  | x :: a, y :: b => by
    have hx := x.toNat_lt
    have hy := y.toNat_lt
    simp only [hexL, cmpL, cmp_hex a b, UInt8.lt_iff_toNat_lt (a := x), UInt8.lt_iff_toNat_lt (a := y)]
    simp only [hexc_lt' _ _ (show x.toNat / 16 < 16 by omega) (show y.toNat / 16 < 16 by omega), hexc_lt' _ _ (show y.toNat / 16 < 16 by omega) (show x.toNat / 16 < 16 by omega),
      hexc_lt' _ _ (show x.toNat % 16 < 16 by omega) (show y.toNat % 16 < 16 by omega), hexc_lt' _ _ (show y.toNat % 16 < 16 by omega) (show x.toNat % 16 < 16 by omega)]
    rcases Nat.lt_trichotomy x.toNat y.toNat with h | h | h
    · rw [if_pos h]
      by_cases h1 : x.toNat / 16 < y.toNat / 16
      · rw [if_pos h1]
      · rw [if_neg h1, if_neg (by omega), if_pos (by omega)]
    · rw [h]; simp
    · rw [if_neg (show ¬ x.toNat < y.toNat by omega), if_pos h]
      by_cases h1 : y.toNat / 16 < x.toNat / 16
      · rw [if_neg (by omega), if_pos h1]
      · rw [if_neg (by omega), if_neg h1, if_neg (by omega), if_pos (by omega)]
theorem cmp_print (a b : List UInt8) (h : a.length = b.length) : cmpL (printL a) (printL b) = cmpL a b := by
  unfold printL prefixL
  rw [List.append_assoc, List.append_assoc]
  simp only [List.cons_append, List.nil_append]
  rw [cmpL_cons, cmpL_app _ _ _ (by rw [hexL_len, hexL_len, h]), cmp_hex]

def wantR (a b : List UInt8) : Int := if (!(Op.bytesLess (printL a) (printL b) || printL a == printL b)) = true then 1 else if Op.bytesLess (printL a) (printL b) = true then -1 else 0
theorem wantR_eq (a b : List UInt8) (h : a.length = b.length) : wantR a b = cmpL a b := by
  have h1 := cmp_print a b h
  have h2 := less_cmp (printL a) (printL b)
  have h3 := cmpL_zero (printL a) (printL b)
  rw [h1] at h2 h3
  unfold wantR
  rw [h2]
  have h4 : (printL a == printL b) = decide (cmpL a b = 0) := by
    rw [Bool.eq_iff_iff]; simp [h3]
  rw [h4]
  rcases cmpL_range a b with h | h | h <;> simp [h]

theorem xor_u8 (x y : UInt8) : ∃ z : UInt8, (IntKind.u8).wrap (BitVec.ofInt (IntKind.u8).bits (x.toNat : Int) ^^^ BitVec.ofInt (IntKind.u8).bits (y.toNat : Int)).toNat = (z.toNat : Int) := by
  have hw : ∀ i : Int, 0 ≤ i → i < 256 → (IntKind.u8).wrap i = i := fun i h1 h2 => by
    have : ∀ m : Fin 256, (IntKind.u8).wrap ((m.val : Nat) : Int) = ((m.val : Nat) : Int) := by decide +kernel
    obtain ⟨m, rfl⟩ := Int.eq_ofNat_of_zero_le h1
    exact this ⟨m, by omega⟩
  have hlt := (BitVec.ofInt (IntKind.u8).bits (x.toNat : Int) ^^^ BitVec.ofInt (IntKind.u8).bits (y.toNat : Int)).isLt
  have hb : (IntKind.u8).bits = 8 := rfl
  generalize hm : (BitVec.ofInt (IntKind.u8).bits (x.toNat : Int) ^^^ BitVec.ofInt (IntKind.u8).bits (y.toNat : Int)).toNat = m at hlt ⊢
  rw [hb] at hlt
  refine ⟨UInt8.ofNat m, ?_⟩
  rw [hw _ (by omega) (by omega), UInt8.toNat_ofNat_of_lt' (by show m < 256; omega)]

set_option maxRecDepth 10000 in
theorem compares_walk (w : World) (v0 : Value) (a0 : ArgV Try.prog w 23 v0) (v1 : Value) (a1 : ArgV Try.prog w 23 v1) (v2 : Value) (a2 : ArgV Try.prog w 37 v2) :
    Ret Try.prog 6 #[v0, v1, v2] w fun r w' => r = .bool true ∧ Mod [] w w' := by
  obtain ⟨a, ha, rfl⟩ := argv_bytes a0 Try.underlying23 Try.underlying5 (by kernel_rfl) (by kernel_rfl)
  obtain ⟨c, hc, rfl⟩ := argv_bytes a1 Try.underlying23 Try.underlying5 (by kernel_rfl) (by kernel_rfl)
  obtain ⟨ch, hch, rfl⟩ := argv_bytes a2 Try.underlying37 Try.underlying5 (by kernel_rfl) (by kernel_rfl)
  obtain ⟨ix, by_, rfl⟩ : ∃ x y, ch = [x, y] := by
    match ch, hch with
    | [x, y], _ => exact ⟨x, y, rfl⟩
  have hix := ix.toNat_lt
  refine Ret.enter (n := 69) (args := [idV a, idV c, idV [ix, by_]]) Try.func6 rfl rfl ?_
  refine C.keep [(0, _), (1, _), (2, _)] ⟨rfl, rfl, rfl, trivial⟩ ?_
  skip
  refine C.seq ?_
  refine C.region ?_
  refine R.boxA rfl rfl ?_
  intro b3 w3 n3
  refine R.boxA rfl rfl ?_
  intro b4 w4 n4
  refine R.boxA rfl rfl ?_
  intro b5 w5 n5
  refine R.ev rfl (E.assign rfl) ?_
  refine R.done ?_
  refine X.keep [(3, _), (4, _), (5, _)] ⟨rfl, rfl, rfl, trivial⟩ ?_
  refine X.next ?_
  refine C.seq ?_
  refine C.drawn (fun w6 => Mod [] w5 w6) [0, 1, 2, 3, 4, 5] (by kernel_rfl) ?_
  have hS1 : (fun w6 => Mod [] w5 w6) _ := Mod.drew _ _
  dsimp only at hS1
  skip
  refine D.ev 0 rfl (by kernel_rfl) rfl hS1 (fun _ hS => E.indexAddrA rfl rfl Try.underlying37 Try.sz5 rfl (by first | omega | decide)) ?_
  refine D.ev 1 rfl (by kernel_rfl) rfl hS1 (fun _ hS => E.load1 rfl Try.underlying5 rfl (Mod.cell hS (n5.blk.at 0 (ub ix) rfl) (by simp))) ?_
  refine D.ev 2 rfl (by kernel_rfl) rfl hS1 (fun _ hS => E.indexAddrA rfl rfl Try.underlying37 Try.sz5 rfl (by first | omega | decide)) ?_
  refine D.ev 3 rfl (by kernel_rfl) rfl hS1 (fun _ hS => E.load1 rfl Try.underlying5 rfl (Mod.cell hS (n5.blk.at 1 (ub by_) rfl) (by simp))) ?_
  refine D.ev 4 rfl (by kernel_rfl) rfl hS1 (fun _ hS => E.assign rfl) ?_
  refine D.ev 5 rfl (by kernel_rfl) rfl hS1 (fun _ hS => E.assign rfl) ?_
  refine D.done rfl (by kernel_rfl) ?_
  refine X.keep [(3, _), (4, _), (7, _), (8, _)] ⟨rfl, rfl, rfl, rfl, trivial⟩ ?_
  refine X.next ?_
  refine C.seq ?_
  refine C.region ?_
  have hat3 : At w5.drew b3 0 (a.map ub) := (n3.blk.keep n4.mod (by simp)).at.keep (n5.mod.tr (Mod.drew [] _)) (by simp)
  refine R.ev rfl (E.loadRow rfl Try.underlying23 rfl Try.sz23 hat3 (len_ub ha)) ?_
  refine R.allocA Try.zr23 rfl ?_
  intro b9 w9 n9
  refine R.storeAll rfl rfl Try.sz23 (n9.blk) (by first | rfl | exact len_ub (by assumption) | simp [*]) (by first | rfl | exact len_ub (by assumption) | simp [*]) (by first | exact ub_all _ | simp [Value.oneCell']) ?_
  intro w10 k10 m10 s10
  refine R.done ?_
  refine X.keep [(3, _), (4, _), (7, _), (8, _), (9, _)] ⟨rfl, rfl, rfl, rfl, rfl, trivial⟩ ?_
  refine X.next ?_
  refine C.seq ?_
  refine C.region ?_
  refine R.ev rfl (E.move rfl) ?_
  refine R.ev rfl ((E.conv rfl Try.underlying5 Try.underlying3).isI (conv_u8 ix)) ?_
  refine R.ev rfl ((E.rem rfl rfl (by decide) (by omega)).isI (c := ((ix.toNat % 32 : Nat) : Int)) (by omega)) ?_
  obtain ⟨at_, hat⟩ : ∃ i, i = ix.toNat % 32 := ⟨_, rfl⟩
  rw [← hat]
  have hlt : at_ < 32 := by omega
  have hcell : w10.cell? ⟨b9, 0 + at_ * 1, none⟩ = some (ub (a.getD at_ 0)) := by
    rw [Nat.mul_one, Nat.zero_add, k10.cell]
    simp [show at_ < a.length by omega]
  obtain ⟨z, hz⟩ := xor_u8 (a.getD at_ 0) by_
  refine R.ev rfl (E.indexAddrA rfl rfl Try.underlying23 Try.sz5 rfl (by first | omega | decide)) ?_
  refine R.ev rfl (E.load1 rfl Try.underlying5 rfl (by assumption)) ?_
  refine R.ev rfl (E.move rfl) ?_
  refine R.ev rfl ((E.xor rfl rfl).as (congrArg (Value.int .u8) hz)) ?_
  refine R.ev rfl (E.indexAddrA rfl rfl Try.underlying23 Try.sz5 rfl (by first | omega | decide)) ?_
  refine R.store1 rfl rfl Try.sz5 k10 (by rw [List.length_map]; omega) rfl ?_
  intro w11 k11 m11 s11
  rw [Nat.mul_one, Nat.zero_add, ← List.map_set] at k11
  obtain ⟨b, hbe⟩ : ∃ b, b = a.set at_ z := ⟨_, rfl⟩
  rw [← hbe] at k11
  have hb : b.length = 32 := by rw [hbe]; simp [ha]
  have hne3 : b3 ∉ [b9] := by have h1 := n3.blk.lt; have h2 := n9.ge; have := n4.mod.size; have := n5.mod.size; have : w5.drew.heap.size = w5.heap.size := rfl; simp; omega
  have hne4 : b4 ∉ [b9] := by have h1 := n4.blk.lt; have h2 := n9.ge; have := n5.mod.size; have : w5.drew.heap.size = w5.heap.size := rfl; simp; omega
  have h3 : At w11 b3 0 (a.map ub) := ((hat3.keep n9.mod (by simp)).keep m10 hne3).keep m11 hne3
  have h4 : At w11 b4 0 (c.map ub) := (((n4.blk.at.keep (n5.mod.tr (Mod.drew [] _)) (by simp)).keep n9.mod (by simp)).keep m10 hne4).keep m11 hne4
  have h9 : At w11 b9 0 (b.map ub) := k11.at
  have hm11 : Mod [] w w11 := by
    have := n9.ge; have := n3.mod.size; have := n4.mod.size; have := n5.mod.size; have : w5.drew.heap.size = w5.heap.size := rfl
    exact ((((((n3.mod.tr n4.mod).tr n5.mod).tr (Mod.drew _ _)).tr n9.mod).tr' m10 (by intro x hx; simp at hx; subst hx; omega))).tr' m11 (by intro x hx; simp at hx; subst hx; omega)
  have hla := len_ub ha
  have hlb := len_ub hb
  have hlc := len_ub hc
  refine R.done ?_
  refine X.keep [(3, _), (4, _), (9, _)] ⟨rfl, rfl, rfl, trivial⟩ ?_
  refine X.next ?_
  refine C.seq ?_
  refine C.drawn (fun w6 => Mod [] w11 w6) [0, 2, 4, 5] (by kernel_rfl) ?_
  have hS4 : (fun w6 => Mod [] w11 w6) _ := Mod.drew _ _
  dsimp only at hS4
  refine D.ev 0 rfl (by kernel_rfl) rfl hS4 (fun _ hS => E.loadRow rfl Try.underlying23 rfl Try.sz23 (At.keep (by assumption) hS (by simp)) (by first | rfl | exact len_ub (At.keep (by assumption) hS (by simp)) | simp [*])) ?_
  refine D.ev 2 rfl (by kernel_rfl) rfl hS4 (fun _ hS => E.loadRow rfl Try.underlying23 rfl Try.sz23 (At.keep (by assumption) hS (by simp)) (by first | rfl | exact len_ub (At.keep (by assumption) hS (by simp)) | simp [*])) ?_
  refine D.act 1 rfl (by kernel_rfl) ?_
  refine R.call ⟨_, _, Try.func13, rfl, by kernel_rfl⟩ rfl rfl (print_any a _ ha) ?_
  rintro _ w12 ⟨rfl, m12⟩
  have hSa := hS4.tr m12
  refine D.back hSa ?_
  refine D.act 3 rfl (by kernel_rfl) ?_
  refine R.call ⟨_, _, Try.func13, rfl, by kernel_rfl⟩ rfl rfl (print_any b _ hb) ?_
  rintro _ w13 ⟨rfl, m13⟩
  have hSb := hSa.tr m13
  refine D.back hSb ?_
  refine D.ev 4 rfl (by kernel_rfl) rfl hSb (fun _ hS => E.assign rfl) ?_
  refine D.ev 5 rfl (by kernel_rfl) rfl hSb (fun _ hS => E.assign rfl) ?_
  refine D.done rfl (by kernel_rfl) ?_
  refine X.keep [(3, _), (4, _), (9, _), (10, _), (11, _)] ⟨rfl, rfl, rfl, rfl, rfl, trivial⟩ ?_
  refine X.next ?_
  refine C.seq ?_
  refine C.region ?_
  have g3 := h3.keep hSb (by simp)
  have g4 := h4.keep hSb (by simp)
  have g9 := h9.keep hSb (by simp)
  have hm13 := hm11.tr hSb
  refine R.ev rfl (E.assign rfl) ?_
  refine R.done ?_
  refine X.keep [(3, _), (4, _), (9, _), (10, _), (11, _), (12, _)] ⟨rfl, rfl, rfl, rfl, rfl, rfl, trivial⟩ ?_
  refine X.next ?_
  refine C.seq ?_
  refine C.seq ?_
  refine C.region ?_
  refine R.ev rfl (E.move rfl) ?_
  refine R.ev rfl (E.move rfl) ?_
  refine R.ev rfl (E.slss rfl rfl) ?_
  refine R.done ?_
  refine X.keep [(3, _), (4, _), (9, _), (10, _), (11, _), (12, _), (32, _)] ⟨rfl, rfl, rfl, rfl, rfl, rfl, rfl, trivial⟩ ?_
  refine X.next ?_
  refine C.cbool rfl (fun h32 => ?_) (fun h32 => ?_)
  · refine C.region ?_
    refine R.ev rfl (E.assign rfl) ?_
    refine R.done ?_
    refine X.keep [(3, _), (4, _), (9, _), (10, _), (11, _), (12, _)] ⟨rfl, rfl, rfl, rfl, rfl, rfl, trivial⟩ ?_
    refine X.next ?_
    refine C.seq ?_
    refine C.seq ?_
    refine C.region ?_
    refine R.ev rfl (E.move rfl) ?_
    refine R.ev rfl (E.move rfl) ?_
    refine R.ev rfl (E.sgtr rfl rfl) ?_
    refine R.done ?_
    refine X.keep [(3, _), (4, _), (9, _), (12, _), (35, _)] ⟨rfl, rfl, rfl, rfl, rfl, trivial⟩ ?_
    refine X.next ?_
    refine C.cbool rfl (fun h35 => ?_) (fun h35 => ?_)
    · refine C.region ?_
      refine R.ev rfl (E.assign rfl) ?_
      refine R.done ?_
      refine X.keep [(3, _), (4, _), (9, _), (12, _)] ⟨rfl, rfl, rfl, rfl, trivial⟩ ?_
      refine X.next ?_
      refine C.seq ?_
      refine C.drawn (fun w6 => Mod [] w13 w6) [1, 2, 3, 5, 6, 7, 8, 9, 10, 12, 13, 14, 15, 16, 17, 18, 20, 21, 23, 24, 25, 26, 28, 29, 30, 31, 32, 33] (by kernel_rfl) ?_
      have hS10 : (fun w6 => Mod [] w13 w6) _ := Mod.drew _ _
      dsimp only at hS10
      refine D.act 0 rfl (by kernel_rfl) ?_
      refine R.call ⟨_, _, Try.func15, rfl, by kernel_rfl⟩ rfl rfl (known_any _) ?_
      rintro _ w14 ⟨rfl, m14⟩
      have hSc := hS10.tr m14
      refine D.back hSc ?_
      refine D.ev 1 rfl (by kernel_rfl) rfl hSc (fun _ hS => E.move rfl) ?_
      refine D.evG 2 rfl (by kernel_rfl) rfl rfl rfl hSc (fun _ hS => E.loadRow rfl Try.underlying23 rfl Try.sz23 (At.keep (by assumption) hS (by simp)) (by first | rfl | exact len_ub (At.keep (by assumption) hS (by simp)) | simp [*])) ?_
      refine D.evG 3 rfl (by kernel_rfl) rfl rfl rfl hSc (fun _ hS => E.loadRow rfl Try.underlying23 rfl Try.sz23 (At.keep (by assumption) hS (by simp)) (by first | rfl | exact len_ub (At.keep (by assumption) hS (by simp)) | simp [*])) ?_
      refine D.evG 5 rfl (by kernel_rfl) rfl rfl rfl hSc (fun _ hS => E.move rfl) ?_
      refine D.act 4 rfl (by kernel_rfl) ?_
      refine R.gyes rfl rfl ?_
      refine R.call ⟨_, _, Try.func19, rfl, by kernel_rfl⟩ rfl rfl (compare_any a b _ ha hb) ?_
      rintro _ w15 ⟨rfl, m15⟩
      have hSd := hSc.tr m15
      refine D.back hSd ?_
      have hw : cmpL a b = wantR a b := (wantR_eq a b (by omega)).symm
      have hr := cmpL_range a b
      refine D.evG 6 rfl (by kernel_rfl) rfl rfl rfl hSd (fun _ hS => (E.eql rfl rfl).isT (by rw [hw]; simp_all [wantR])) ?_
      refine D.ev 7 rfl (by kernel_rfl) rfl hSd (fun _ hS => E.pickT rfl rfl) ?_
      refine D.ev 8 rfl (by kernel_rfl) rfl hSd (fun _ hS => E.move rfl) ?_
      refine D.evG 9 rfl (by kernel_rfl) rfl rfl rfl hSd (fun _ hS => E.loadRow rfl Try.underlying23 rfl Try.sz23 (At.keep (by assumption) hS (by simp)) (by first | rfl | exact len_ub (At.keep (by assumption) hS (by simp)) | simp [*])) ?_
      refine D.evG 10 rfl (by kernel_rfl) rfl rfl rfl hSd (fun _ hS => E.loadRow rfl Try.underlying23 rfl Try.sz23 (At.keep (by assumption) hS (by simp)) (by first | rfl | exact len_ub (At.keep (by assumption) hS (by simp)) | simp [*])) ?_
      refine D.evG 12 rfl (by kernel_rfl) rfl rfl rfl hSd (fun _ hS => E.move rfl) ?_
      refine D.evG 13 rfl (by kernel_rfl) rfl rfl rfl hSd (fun _ hS => E.neg rfl (by omega) (by omega)) ?_
      refine D.act 11 rfl (by kernel_rfl) ?_
      refine R.gyes rfl rfl ?_
      refine R.call ⟨_, _, Try.func19, rfl, by kernel_rfl⟩ rfl rfl (compare_any b a _ hb ha) ?_
      rintro _ w16 ⟨rfl, m16⟩
      have hSe := hSd.tr m16
      refine D.back hSe ?_
      refine D.evG 14 rfl (by kernel_rfl) rfl rfl rfl hSe (fun _ hS => (E.eql rfl rfl).isT (by rw [cmpL_neg a b, hw]; simp_all [wantR])) ?_
      refine D.ev 15 rfl (by kernel_rfl) rfl hSe (fun _ hS => E.pickT rfl rfl) ?_
      refine D.ev 16 rfl (by kernel_rfl) rfl hSe (fun _ hS => E.move rfl) ?_
      refine D.evG 17 rfl (by kernel_rfl) rfl rfl rfl hSe (fun _ hS => E.loadRow rfl Try.underlying23 rfl Try.sz23 (At.keep (by assumption) hS (by simp)) (by first | rfl | exact len_ub (At.keep (by assumption) hS (by simp)) | simp [*])) ?_
      refine D.evG 18 rfl (by kernel_rfl) rfl rfl rfl hSe (fun _ hS => E.loadRow rfl Try.underlying23 rfl Try.sz23 (At.keep (by assumption) hS (by simp)) (by first | rfl | exact len_ub (At.keep (by assumption) hS (by simp)) | simp [*])) ?_
      refine D.evG 20 rfl (by kernel_rfl) rfl rfl rfl hSe (fun _ hS => E.loadRow rfl Try.underlying23 rfl Try.sz23 (At.keep (by assumption) hS (by simp)) (by first | rfl | exact len_ub (At.keep (by assumption) hS (by simp)) | simp [*])) ?_
      refine D.evG 21 rfl (by kernel_rfl) rfl rfl rfl hSe (fun _ hS => E.loadRow rfl Try.underlying23 rfl Try.sz23 (At.keep (by assumption) hS (by simp)) (by first | rfl | exact len_ub (At.keep (by assumption) hS (by simp)) | simp [*])) ?_
      refine D.act 19 rfl (by kernel_rfl) ?_
      refine R.gyes rfl rfl ?_
      refine R.call ⟨_, _, Try.func19, rfl, by kernel_rfl⟩ rfl rfl (compare_any a c _ ha hc) ?_
      rintro _ w17 ⟨rfl, m17⟩
      have hSf := hSe.tr m17
      refine D.back hSf ?_
      refine D.act 22 rfl (by kernel_rfl) ?_
      refine R.gyes rfl rfl ?_
      refine R.call ⟨_, _, Try.func20, rfl, by kernel_rfl⟩ rfl rfl (refCompare_any a c _ ha hc) ?_
      rintro _ w18 ⟨rfl, m18⟩
      have hSg := hSf.tr m18
      refine D.back hSg ?_
      refine D.evG 23 rfl (by kernel_rfl) rfl rfl rfl hSg (fun _ hS => (E.eql rfl rfl).isT rfl) ?_
      refine D.ev 24 rfl (by kernel_rfl) rfl hSg (fun _ hS => E.pickT rfl rfl) ?_
      refine D.ev 25 rfl (by kernel_rfl) rfl hSg (fun _ hS => E.move rfl) ?_
      refine D.evG 26 rfl (by kernel_rfl) rfl rfl rfl hSg (fun _ hS => E.loadRow rfl Try.underlying23 rfl Try.sz23 (At.keep (by assumption) hS (by simp)) (by first | rfl | exact len_ub (At.keep (by assumption) hS (by simp)) | simp [*])) ?_
      refine D.evG 28 rfl (by kernel_rfl) rfl rfl rfl hSg (fun _ hS => E.loadRow rfl Try.underlying23 rfl Try.sz23 (At.keep (by assumption) hS (by simp)) (by first | rfl | exact len_ub (At.keep (by assumption) hS (by simp)) | simp [*])) ?_
      refine D.evG 29 rfl (by kernel_rfl) rfl rfl rfl hSg (fun _ hS => E.buildA (cs := (zid.map ub).toArray) rfl Try.underlying23 Try.zr23 Try.sz5 (by rfl)) ?_
      refine D.evG 30 rfl (by kernel_rfl) rfl rfl rfl hSg (fun _ hS => E.eqId (b := zid) 10 32 rfl rfl Try.lv23 rfl Try.underlying23 rfl Try.gd23 ha rfl) ?_
      refine D.act 27 rfl (by kernel_rfl) ?_
      refine R.gyes rfl rfl ?_
      refine R.call ⟨_, _, Try.func18, rfl, by kernel_rfl⟩ rfl rfl (isZero_any a _ ha) ?_
      rintro _ w19 ⟨rfl, m19⟩
      have hSh := hSg.tr m19
      refine D.back hSh ?_
      refine D.evG 31 rfl (by kernel_rfl) rfl rfl rfl hSh (fun _ hS => (E.eqlB rfl rfl Try.underlying4).isB (c := true) (by simp)) ?_
      refine D.ev 32 rfl (by kernel_rfl) rfl hSh (fun _ hS => E.pickT rfl rfl) ?_
      refine D.ev 33 rfl (by kernel_rfl) rfl hSh (fun _ hS => E.assign rfl) ?_
      refine D.done rfl (by kernel_rfl) ?_
      refine X.keep [(6, _)] ⟨rfl, trivial⟩ ?_
      refine X.next ?_
      refine C.ret ?_
      refine X.ret1 rfl rfl ?_
      exact ⟨rfl, hm13.tr hSh⟩
    · refine C.skip ?_
      refine X.next ?_
      refine C.seq ?_
      refine C.drawn (fun w6 => Mod [] w13 w6) [1, 2, 3, 5, 6, 7, 8, 9, 10, 12, 13, 14, 15, 16, 17, 18, 20, 21, 23, 24, 25, 26, 28, 29, 30, 31, 32, 33] (by kernel_rfl) ?_
      have hS10 : (fun w6 => Mod [] w13 w6) _ := Mod.drew _ _
      dsimp only at hS10
      refine D.act 0 rfl (by kernel_rfl) ?_
      refine R.call ⟨_, _, Try.func15, rfl, by kernel_rfl⟩ rfl rfl (known_any _) ?_
      rintro _ w14 ⟨rfl, m14⟩
      have hSc := hS10.tr m14
      refine D.back hSc ?_
      refine D.ev 1 rfl (by kernel_rfl) rfl hSc (fun _ hS => E.move rfl) ?_
      refine D.evG 2 rfl (by kernel_rfl) rfl rfl rfl hSc (fun _ hS => E.loadRow rfl Try.underlying23 rfl Try.sz23 (At.keep (by assumption) hS (by simp)) (by first | rfl | exact len_ub (At.keep (by assumption) hS (by simp)) | simp [*])) ?_
      refine D.evG 3 rfl (by kernel_rfl) rfl rfl rfl hSc (fun _ hS => E.loadRow rfl Try.underlying23 rfl Try.sz23 (At.keep (by assumption) hS (by simp)) (by first | rfl | exact len_ub (At.keep (by assumption) hS (by simp)) | simp [*])) ?_
      refine D.evG 5 rfl (by kernel_rfl) rfl rfl rfl hSc (fun _ hS => E.move rfl) ?_
      refine D.act 4 rfl (by kernel_rfl) ?_
      refine R.gyes rfl rfl ?_
      refine R.call ⟨_, _, Try.func19, rfl, by kernel_rfl⟩ rfl rfl (compare_any a b _ ha hb) ?_
      rintro _ w15 ⟨rfl, m15⟩
      have hSd := hSc.tr m15
      refine D.back hSd ?_
      have hw : cmpL a b = wantR a b := (wantR_eq a b (by omega)).symm
      have hr := cmpL_range a b
      refine D.evG 6 rfl (by kernel_rfl) rfl rfl rfl hSd (fun _ hS => (E.eql rfl rfl).isT (by rw [hw]; simp_all [wantR])) ?_
      refine D.ev 7 rfl (by kernel_rfl) rfl hSd (fun _ hS => E.pickT rfl rfl) ?_
      refine D.ev 8 rfl (by kernel_rfl) rfl hSd (fun _ hS => E.move rfl) ?_
      refine D.evG 9 rfl (by kernel_rfl) rfl rfl rfl hSd (fun _ hS => E.loadRow rfl Try.underlying23 rfl Try.sz23 (At.keep (by assumption) hS (by simp)) (by first | rfl | exact len_ub (At.keep (by assumption) hS (by simp)) | simp [*])) ?_
      refine D.evG 10 rfl (by kernel_rfl) rfl rfl rfl hSd (fun _ hS => E.loadRow rfl Try.underlying23 rfl Try.sz23 (At.keep (by assumption) hS (by simp)) (by first | rfl | exact len_ub (At.keep (by assumption) hS (by simp)) | simp [*])) ?_
      refine D.evG 12 rfl (by kernel_rfl) rfl rfl rfl hSd (fun _ hS => E.move rfl) ?_
      refine D.evG 13 rfl (by kernel_rfl) rfl rfl rfl hSd (fun _ hS => E.neg rfl (by omega) (by omega)) ?_
      refine D.act 11 rfl (by kernel_rfl) ?_
      refine R.gyes rfl rfl ?_
      refine R.call ⟨_, _, Try.func19, rfl, by kernel_rfl⟩ rfl rfl (compare_any b a _ hb ha) ?_
      rintro _ w16 ⟨rfl, m16⟩
      have hSe := hSd.tr m16
      refine D.back hSe ?_
      refine D.evG 14 rfl (by kernel_rfl) rfl rfl rfl hSe (fun _ hS => (E.eql rfl rfl).isT (by rw [cmpL_neg a b, hw]; simp_all [wantR])) ?_
      refine D.ev 15 rfl (by kernel_rfl) rfl hSe (fun _ hS => E.pickT rfl rfl) ?_
      refine D.ev 16 rfl (by kernel_rfl) rfl hSe (fun _ hS => E.move rfl) ?_
      refine D.evG 17 rfl (by kernel_rfl) rfl rfl rfl hSe (fun _ hS => E.loadRow rfl Try.underlying23 rfl Try.sz23 (At.keep (by assumption) hS (by simp)) (by first | rfl | exact len_ub (At.keep (by assumption) hS (by simp)) | simp [*])) ?_
      refine D.evG 18 rfl (by kernel_rfl) rfl rfl rfl hSe (fun _ hS => E.loadRow rfl Try.underlying23 rfl Try.sz23 (At.keep (by assumption) hS (by simp)) (by first | rfl | exact len_ub (At.keep (by assumption) hS (by simp)) | simp [*])) ?_
      refine D.evG 20 rfl (by kernel_rfl) rfl rfl rfl hSe (fun _ hS => E.loadRow rfl Try.underlying23 rfl Try.sz23 (At.keep (by assumption) hS (by simp)) (by first | rfl | exact len_ub (At.keep (by assumption) hS (by simp)) | simp [*])) ?_
      refine D.evG 21 rfl (by kernel_rfl) rfl rfl rfl hSe (fun _ hS => E.loadRow rfl Try.underlying23 rfl Try.sz23 (At.keep (by assumption) hS (by simp)) (by first | rfl | exact len_ub (At.keep (by assumption) hS (by simp)) | simp [*])) ?_
      refine D.act 19 rfl (by kernel_rfl) ?_
      refine R.gyes rfl rfl ?_
      refine R.call ⟨_, _, Try.func19, rfl, by kernel_rfl⟩ rfl rfl (compare_any a c _ ha hc) ?_
      rintro _ w17 ⟨rfl, m17⟩
      have hSf := hSe.tr m17
      refine D.back hSf ?_
      refine D.act 22 rfl (by kernel_rfl) ?_
      refine R.gyes rfl rfl ?_
      refine R.call ⟨_, _, Try.func20, rfl, by kernel_rfl⟩ rfl rfl (refCompare_any a c _ ha hc) ?_
      rintro _ w18 ⟨rfl, m18⟩
      have hSg := hSf.tr m18
      refine D.back hSg ?_
      refine D.evG 23 rfl (by kernel_rfl) rfl rfl rfl hSg (fun _ hS => (E.eql rfl rfl).isT rfl) ?_
      refine D.ev 24 rfl (by kernel_rfl) rfl hSg (fun _ hS => E.pickT rfl rfl) ?_
      refine D.ev 25 rfl (by kernel_rfl) rfl hSg (fun _ hS => E.move rfl) ?_
      refine D.evG 26 rfl (by kernel_rfl) rfl rfl rfl hSg (fun _ hS => E.loadRow rfl Try.underlying23 rfl Try.sz23 (At.keep (by assumption) hS (by simp)) (by first | rfl | exact len_ub (At.keep (by assumption) hS (by simp)) | simp [*])) ?_
      refine D.evG 28 rfl (by kernel_rfl) rfl rfl rfl hSg (fun _ hS => E.loadRow rfl Try.underlying23 rfl Try.sz23 (At.keep (by assumption) hS (by simp)) (by first | rfl | exact len_ub (At.keep (by assumption) hS (by simp)) | simp [*])) ?_
      refine D.evG 29 rfl (by kernel_rfl) rfl rfl rfl hSg (fun _ hS => E.buildA (cs := (zid.map ub).toArray) rfl Try.underlying23 Try.zr23 Try.sz5 (by rfl)) ?_
      refine D.evG 30 rfl (by kernel_rfl) rfl rfl rfl hSg (fun _ hS => E.eqId (b := zid) 10 32 rfl rfl Try.lv23 rfl Try.underlying23 rfl Try.gd23 ha rfl) ?_
      refine D.act 27 rfl (by kernel_rfl) ?_
      refine R.gyes rfl rfl ?_
      refine R.call ⟨_, _, Try.func18, rfl, by kernel_rfl⟩ rfl rfl (isZero_any a _ ha) ?_
      rintro _ w19 ⟨rfl, m19⟩
      have hSh := hSg.tr m19
      refine D.back hSh ?_
      refine D.evG 31 rfl (by kernel_rfl) rfl rfl rfl hSh (fun _ hS => (E.eqlB rfl rfl Try.underlying4).isB (c := true) (by simp)) ?_
      refine D.ev 32 rfl (by kernel_rfl) rfl hSh (fun _ hS => E.pickT rfl rfl) ?_
      refine D.ev 33 rfl (by kernel_rfl) rfl hSh (fun _ hS => E.assign rfl) ?_
      refine D.done rfl (by kernel_rfl) ?_
      refine X.keep [(6, _)] ⟨rfl, trivial⟩ ?_
      refine X.next ?_
      refine C.ret ?_
      refine X.ret1 rfl rfl ?_
      exact ⟨rfl, hm13.tr hSh⟩
  · refine C.skip ?_
    refine X.next ?_
    refine C.seq ?_
    refine C.seq ?_
    refine C.region ?_
    refine R.ev rfl (E.move rfl) ?_
    refine R.ev rfl (E.move rfl) ?_
    refine R.ev rfl (E.sgtr rfl rfl) ?_
    refine R.done ?_
    refine X.keep [(3, _), (4, _), (9, _), (12, _), (35, _)] ⟨rfl, rfl, rfl, rfl, rfl, trivial⟩ ?_
    refine X.next ?_
    refine C.cbool rfl (fun h35 => ?_) (fun h35 => ?_)
    · refine C.region ?_
      refine R.ev rfl (E.assign rfl) ?_
      refine R.done ?_
      refine X.keep [(3, _), (4, _), (9, _), (12, _)] ⟨rfl, rfl, rfl, rfl, trivial⟩ ?_
      refine X.next ?_
      refine C.seq ?_
      refine C.drawn (fun w6 => Mod [] w13 w6) [1, 2, 3, 5, 6, 7, 8, 9, 10, 12, 13, 14, 15, 16, 17, 18, 20, 21, 23, 24, 25, 26, 28, 29, 30, 31, 32, 33] (by kernel_rfl) ?_
      have hS10 : (fun w6 => Mod [] w13 w6) _ := Mod.drew _ _
      dsimp only at hS10
      refine D.act 0 rfl (by kernel_rfl) ?_
      refine R.call ⟨_, _, Try.func15, rfl, by kernel_rfl⟩ rfl rfl (known_any _) ?_
      rintro _ w14 ⟨rfl, m14⟩
      have hSc := hS10.tr m14
      refine D.back hSc ?_
      refine D.ev 1 rfl (by kernel_rfl) rfl hSc (fun _ hS => E.move rfl) ?_
      refine D.evG 2 rfl (by kernel_rfl) rfl rfl rfl hSc (fun _ hS => E.loadRow rfl Try.underlying23 rfl Try.sz23 (At.keep (by assumption) hS (by simp)) (by first | rfl | exact len_ub (At.keep (by assumption) hS (by simp)) | simp [*])) ?_
      refine D.evG 3 rfl (by kernel_rfl) rfl rfl rfl hSc (fun _ hS => E.loadRow rfl Try.underlying23 rfl Try.sz23 (At.keep (by assumption) hS (by simp)) (by first | rfl | exact len_ub (At.keep (by assumption) hS (by simp)) | simp [*])) ?_
      refine D.evG 5 rfl (by kernel_rfl) rfl rfl rfl hSc (fun _ hS => E.move rfl) ?_
      refine D.act 4 rfl (by kernel_rfl) ?_
      refine R.gyes rfl rfl ?_
      refine R.call ⟨_, _, Try.func19, rfl, by kernel_rfl⟩ rfl rfl (compare_any a b _ ha hb) ?_
      rintro _ w15 ⟨rfl, m15⟩
      have hSd := hSc.tr m15
      refine D.back hSd ?_
      have hw : cmpL a b = wantR a b := (wantR_eq a b (by omega)).symm
      have hr := cmpL_range a b
      refine D.evG 6 rfl (by kernel_rfl) rfl rfl rfl hSd (fun _ hS => (E.eql rfl rfl).isT (by rw [hw]; simp_all [wantR])) ?_
      refine D.ev 7 rfl (by kernel_rfl) rfl hSd (fun _ hS => E.pickT rfl rfl) ?_
      refine D.ev 8 rfl (by kernel_rfl) rfl hSd (fun _ hS => E.move rfl) ?_
      refine D.evG 9 rfl (by kernel_rfl) rfl rfl rfl hSd (fun _ hS => E.loadRow rfl Try.underlying23 rfl Try.sz23 (At.keep (by assumption) hS (by simp)) (by first | rfl | exact len_ub (At.keep (by assumption) hS (by simp)) | simp [*])) ?_
      refine D.evG 10 rfl (by kernel_rfl) rfl rfl rfl hSd (fun _ hS => E.loadRow rfl Try.underlying23 rfl Try.sz23 (At.keep (by assumption) hS (by simp)) (by first | rfl | exact len_ub (At.keep (by assumption) hS (by simp)) | simp [*])) ?_
      refine D.evG 12 rfl (by kernel_rfl) rfl rfl rfl hSd (fun _ hS => E.move rfl) ?_
      refine D.evG 13 rfl (by kernel_rfl) rfl rfl rfl hSd (fun _ hS => E.neg rfl (by omega) (by omega)) ?_
      refine D.act 11 rfl (by kernel_rfl) ?_
      refine R.gyes rfl rfl ?_
      refine R.call ⟨_, _, Try.func19, rfl, by kernel_rfl⟩ rfl rfl (compare_any b a _ hb ha) ?_
      rintro _ w16 ⟨rfl, m16⟩
      have hSe := hSd.tr m16
      refine D.back hSe ?_
      refine D.evG 14 rfl (by kernel_rfl) rfl rfl rfl hSe (fun _ hS => (E.eql rfl rfl).isT (by rw [cmpL_neg a b, hw]; simp_all [wantR])) ?_
      refine D.ev 15 rfl (by kernel_rfl) rfl hSe (fun _ hS => E.pickT rfl rfl) ?_
      refine D.ev 16 rfl (by kernel_rfl) rfl hSe (fun _ hS => E.move rfl) ?_
      refine D.evG 17 rfl (by kernel_rfl) rfl rfl rfl hSe (fun _ hS => E.loadRow rfl Try.underlying23 rfl Try.sz23 (At.keep (by assumption) hS (by simp)) (by first | rfl | exact len_ub (At.keep (by assumption) hS (by simp)) | simp [*])) ?_
      refine D.evG 18 rfl (by kernel_rfl) rfl rfl rfl hSe (fun _ hS => E.loadRow rfl Try.underlying23 rfl Try.sz23 (At.keep (by assumption) hS (by simp)) (by first | rfl | exact len_ub (At.keep (by assumption) hS (by simp)) | simp [*])) ?_
      refine D.evG 20 rfl (by kernel_rfl) rfl rfl rfl hSe (fun _ hS => E.loadRow rfl Try.underlying23 rfl Try.sz23 (At.keep (by assumption) hS (by simp)) (by first | rfl | exact len_ub (At.keep (by assumption) hS (by simp)) | simp [*])) ?_
      refine D.evG 21 rfl (by kernel_rfl) rfl rfl rfl hSe (fun _ hS => E.loadRow rfl Try.underlying23 rfl Try.sz23 (At.keep (by assumption) hS (by simp)) (by first | rfl | exact len_ub (At.keep (by assumption) hS (by simp)) | simp [*])) ?_
      refine D.act 19 rfl (by kernel_rfl) ?_
      refine R.gyes rfl rfl ?_
      refine R.call ⟨_, _, Try.func19, rfl, by kernel_rfl⟩ rfl rfl (compare_any a c _ ha hc) ?_
      rintro _ w17 ⟨rfl, m17⟩
      have hSf := hSe.tr m17
      refine D.back hSf ?_
      refine D.act 22 rfl (by kernel_rfl) ?_
      refine R.gyes rfl rfl ?_
      refine R.call ⟨_, _, Try.func20, rfl, by kernel_rfl⟩ rfl rfl (refCompare_any a c _ ha hc) ?_
      rintro _ w18 ⟨rfl, m18⟩
      have hSg := hSf.tr m18
      refine D.back hSg ?_
      refine D.evG 23 rfl (by kernel_rfl) rfl rfl rfl hSg (fun _ hS => (E.eql rfl rfl).isT rfl) ?_
      refine D.ev 24 rfl (by kernel_rfl) rfl hSg (fun _ hS => E.pickT rfl rfl) ?_
      refine D.ev 25 rfl (by kernel_rfl) rfl hSg (fun _ hS => E.move rfl) ?_
      refine D.evG 26 rfl (by kernel_rfl) rfl rfl rfl hSg (fun _ hS => E.loadRow rfl Try.underlying23 rfl Try.sz23 (At.keep (by assumption) hS (by simp)) (by first | rfl | exact len_ub (At.keep (by assumption) hS (by simp)) | simp [*])) ?_
      refine D.evG 28 rfl (by kernel_rfl) rfl rfl rfl hSg (fun _ hS => E.loadRow rfl Try.underlying23 rfl Try.sz23 (At.keep (by assumption) hS (by simp)) (by first | rfl | exact len_ub (At.keep (by assumption) hS (by simp)) | simp [*])) ?_
      refine D.evG 29 rfl (by kernel_rfl) rfl rfl rfl hSg (fun _ hS => E.buildA (cs := (zid.map ub).toArray) rfl Try.underlying23 Try.zr23 Try.sz5 (by rfl)) ?_
      refine D.evG 30 rfl (by kernel_rfl) rfl rfl rfl hSg (fun _ hS => E.eqId (b := zid) 10 32 rfl rfl Try.lv23 rfl Try.underlying23 rfl Try.gd23 ha rfl) ?_
      refine D.act 27 rfl (by kernel_rfl) ?_
      refine R.gyes rfl rfl ?_
      refine R.call ⟨_, _, Try.func18, rfl, by kernel_rfl⟩ rfl rfl (isZero_any a _ ha) ?_
      rintro _ w19 ⟨rfl, m19⟩
      have hSh := hSg.tr m19
      refine D.back hSh ?_
      refine D.evG 31 rfl (by kernel_rfl) rfl rfl rfl hSh (fun _ hS => (E.eqlB rfl rfl Try.underlying4).isB (c := true) (by simp)) ?_
      refine D.ev 32 rfl (by kernel_rfl) rfl hSh (fun _ hS => E.pickT rfl rfl) ?_
      refine D.ev 33 rfl (by kernel_rfl) rfl hSh (fun _ hS => E.assign rfl) ?_
      refine D.done rfl (by kernel_rfl) ?_
      refine X.keep [(6, _)] ⟨rfl, trivial⟩ ?_
      refine X.next ?_
      refine C.ret ?_
      refine X.ret1 rfl rfl ?_
      exact ⟨rfl, hm13.tr hSh⟩
    · refine C.skip ?_
      refine X.next ?_
      refine C.seq ?_
      refine C.drawn (fun w6 => Mod [] w13 w6) [1, 2, 3, 5, 6, 7, 8, 9, 10, 12, 13, 14, 15, 16, 17, 18, 20, 21, 23, 24, 25, 26, 28, 29, 30, 31, 32, 33] (by kernel_rfl) ?_
      have hS10 : (fun w6 => Mod [] w13 w6) _ := Mod.drew _ _
      dsimp only at hS10
      refine D.act 0 rfl (by kernel_rfl) ?_
      refine R.call ⟨_, _, Try.func15, rfl, by kernel_rfl⟩ rfl rfl (known_any _) ?_
      rintro _ w14 ⟨rfl, m14⟩
      have hSc := hS10.tr m14
      refine D.back hSc ?_
      refine D.ev 1 rfl (by kernel_rfl) rfl hSc (fun _ hS => E.move rfl) ?_
      refine D.evG 2 rfl (by kernel_rfl) rfl rfl rfl hSc (fun _ hS => E.loadRow rfl Try.underlying23 rfl Try.sz23 (At.keep (by assumption) hS (by simp)) (by first | rfl | exact len_ub (At.keep (by assumption) hS (by simp)) | simp [*])) ?_
      refine D.evG 3 rfl (by kernel_rfl) rfl rfl rfl hSc (fun _ hS => E.loadRow rfl Try.underlying23 rfl Try.sz23 (At.keep (by assumption) hS (by simp)) (by first | rfl | exact len_ub (At.keep (by assumption) hS (by simp)) | simp [*])) ?_
      refine D.evG 5 rfl (by kernel_rfl) rfl rfl rfl hSc (fun _ hS => E.move rfl) ?_
      refine D.act 4 rfl (by kernel_rfl) ?_
      refine R.gyes rfl rfl ?_
      refine R.call ⟨_, _, Try.func19, rfl, by kernel_rfl⟩ rfl rfl (compare_any a b _ ha hb) ?_
      rintro _ w15 ⟨rfl, m15⟩
      have hSd := hSc.tr m15
      refine D.back hSd ?_
      have hw : cmpL a b = wantR a b := (wantR_eq a b (by omega)).symm
      have hr := cmpL_range a b
      refine D.evG 6 rfl (by kernel_rfl) rfl rfl rfl hSd (fun _ hS => (E.eql rfl rfl).isT (by rw [hw]; simp_all [wantR])) ?_
      refine D.ev 7 rfl (by kernel_rfl) rfl hSd (fun _ hS => E.pickT rfl rfl) ?_
      refine D.ev 8 rfl (by kernel_rfl) rfl hSd (fun _ hS => E.move rfl) ?_
      refine D.evG 9 rfl (by kernel_rfl) rfl rfl rfl hSd (fun _ hS => E.loadRow rfl Try.underlying23 rfl Try.sz23 (At.keep (by assumption) hS (by simp)) (by first | rfl | exact len_ub (At.keep (by assumption) hS (by simp)) | simp [*])) ?_
      refine D.evG 10 rfl (by kernel_rfl) rfl rfl rfl hSd (fun _ hS => E.loadRow rfl Try.underlying23 rfl Try.sz23 (At.keep (by assumption) hS (by simp)) (by first | rfl | exact len_ub (At.keep (by assumption) hS (by simp)) | simp [*])) ?_
      refine D.evG 12 rfl (by kernel_rfl) rfl rfl rfl hSd (fun _ hS => E.move rfl) ?_
      refine D.evG 13 rfl (by kernel_rfl) rfl rfl rfl hSd (fun _ hS => E.neg rfl (by omega) (by omega)) ?_
      refine D.act 11 rfl (by kernel_rfl) ?_
      refine R.gyes rfl rfl ?_
      refine R.call ⟨_, _, Try.func19, rfl, by kernel_rfl⟩ rfl rfl (compare_any b a _ hb ha) ?_
      rintro _ w16 ⟨rfl, m16⟩
      have hSe := hSd.tr m16
      refine D.back hSe ?_
      refine D.evG 14 rfl (by kernel_rfl) rfl rfl rfl hSe (fun _ hS => (E.eql rfl rfl).isT (by rw [cmpL_neg a b, hw]; simp_all [wantR])) ?_
      refine D.ev 15 rfl (by kernel_rfl) rfl hSe (fun _ hS => E.pickT rfl rfl) ?_
      refine D.ev 16 rfl (by kernel_rfl) rfl hSe (fun _ hS => E.move rfl) ?_
      refine D.evG 17 rfl (by kernel_rfl) rfl rfl rfl hSe (fun _ hS => E.loadRow rfl Try.underlying23 rfl Try.sz23 (At.keep (by assumption) hS (by simp)) (by first | rfl | exact len_ub (At.keep (by assumption) hS (by simp)) | simp [*])) ?_
      refine D.evG 18 rfl (by kernel_rfl) rfl rfl rfl hSe (fun _ hS => E.loadRow rfl Try.underlying23 rfl Try.sz23 (At.keep (by assumption) hS (by simp)) (by first | rfl | exact len_ub (At.keep (by assumption) hS (by simp)) | simp [*])) ?_
      refine D.evG 20 rfl (by kernel_rfl) rfl rfl rfl hSe (fun _ hS => E.loadRow rfl Try.underlying23 rfl Try.sz23 (At.keep (by assumption) hS (by simp)) (by first | rfl | exact len_ub (At.keep (by assumption) hS (by simp)) | simp [*])) ?_
      refine D.evG 21 rfl (by kernel_rfl) rfl rfl rfl hSe (fun _ hS => E.loadRow rfl Try.underlying23 rfl Try.sz23 (At.keep (by assumption) hS (by simp)) (by first | rfl | exact len_ub (At.keep (by assumption) hS (by simp)) | simp [*])) ?_
      refine D.act 19 rfl (by kernel_rfl) ?_
      refine R.gyes rfl rfl ?_
      refine R.call ⟨_, _, Try.func19, rfl, by kernel_rfl⟩ rfl rfl (compare_any a c _ ha hc) ?_
      rintro _ w17 ⟨rfl, m17⟩
      have hSf := hSe.tr m17
      refine D.back hSf ?_
      refine D.act 22 rfl (by kernel_rfl) ?_
      refine R.gyes rfl rfl ?_
      refine R.call ⟨_, _, Try.func20, rfl, by kernel_rfl⟩ rfl rfl (refCompare_any a c _ ha hc) ?_
      rintro _ w18 ⟨rfl, m18⟩
      have hSg := hSf.tr m18
      refine D.back hSg ?_
      refine D.evG 23 rfl (by kernel_rfl) rfl rfl rfl hSg (fun _ hS => (E.eql rfl rfl).isT rfl) ?_
      refine D.ev 24 rfl (by kernel_rfl) rfl hSg (fun _ hS => E.pickT rfl rfl) ?_
      refine D.ev 25 rfl (by kernel_rfl) rfl hSg (fun _ hS => E.move rfl) ?_
      refine D.evG 26 rfl (by kernel_rfl) rfl rfl rfl hSg (fun _ hS => E.loadRow rfl Try.underlying23 rfl Try.sz23 (At.keep (by assumption) hS (by simp)) (by first | rfl | exact len_ub (At.keep (by assumption) hS (by simp)) | simp [*])) ?_
      refine D.evG 28 rfl (by kernel_rfl) rfl rfl rfl hSg (fun _ hS => E.loadRow rfl Try.underlying23 rfl Try.sz23 (At.keep (by assumption) hS (by simp)) (by first | rfl | exact len_ub (At.keep (by assumption) hS (by simp)) | simp [*])) ?_
      refine D.evG 29 rfl (by kernel_rfl) rfl rfl rfl hSg (fun _ hS => E.buildA (cs := (zid.map ub).toArray) rfl Try.underlying23 Try.zr23 Try.sz5 (by rfl)) ?_
      refine D.evG 30 rfl (by kernel_rfl) rfl rfl rfl hSg (fun _ hS => E.eqId (b := zid) 10 32 rfl rfl Try.lv23 rfl Try.underlying23 rfl Try.gd23 ha rfl) ?_
      refine D.act 27 rfl (by kernel_rfl) ?_
      refine R.gyes rfl rfl ?_
      refine R.call ⟨_, _, Try.func18, rfl, by kernel_rfl⟩ rfl rfl (isZero_any a _ ha) ?_
      rintro _ w19 ⟨rfl, m19⟩
      have hSh := hSg.tr m19
      refine D.back hSh ?_
      refine D.evG 31 rfl (by kernel_rfl) rfl rfl rfl hSh (fun _ hS => (E.eqlB rfl rfl Try.underlying4).isB (c := true) (by simp)) ?_
      refine D.ev 32 rfl (by kernel_rfl) rfl hSh (fun _ hS => E.pickT rfl rfl) ?_
      refine D.ev 33 rfl (by kernel_rfl) rfl hSh (fun _ hS => E.assign rfl) ?_
      refine D.done rfl (by kernel_rfl) ?_
      refine X.keep [(6, _)] ⟨rfl, trivial⟩ ?_
      refine X.next ?_
      refine C.ret ?_
      refine X.ret1 rfl rfl ?_
      exact ⟨rfl, hm13.tr hSh⟩

namespace msgidCompares
open Go.ChangeShapes Go.WideShapes Go.ChangeAt Go.RowKit
open Go.ChangeMaps (open_string shut_string)
set_option linter.unusedVariables false

theorem own : ownKnob Try.prog.godebug = none := by kernel_rfl
theorem laidOut : laidOutB Try.prog = true := by kernel_rfl
set_option maxRecDepth 100000 in
theorem lifted (os : Os) (started : os.Started) (H : Type) (enc : TypeId × Value → H) :
    ReturnsInHanded {} Try.checked os 6 .any (Rows.msgidComparesSpec.pre6 enc Try.prog Try.f6 Rows.msgidComparesRow.domain false) (Rows.msgidComparesSpec.post enc Try.prog Try.f6 false true false false) := by
  refine returnsInHanded_of_change (C := Try.checked) own started (by kernel_rfl) Try.func6
    (ChangeSpec.witness6 (enc := enc) (C := Try.checked) false ⟨#[], #[.agg #[.int .u8 0, .int .u8 0, .int .u8 0, .int .u8 0, .int .u8 0, .int .u8 0, .int .u8 0, .int .u8 0, .int .u8 0, .int .u8 0, .int .u8 0, .int .u8 0, .int .u8 0, .int .u8 0, .int .u8 0, .int .u8 0, .int .u8 0, .int .u8 0, .int .u8 0, .int .u8 0, .int .u8 0, .int .u8 0, .int .u8 0, .int .u8 0, .int .u8 0, .int .u8 0, .int .u8 0, .int .u8 0, .int .u8 0, .int .u8 0, .int .u8 0, .int .u8 0], .agg #[.int .u8 0, .int .u8 0, .int .u8 0, .int .u8 0, .int .u8 0, .int .u8 0, .int .u8 0, .int .u8 0, .int .u8 0, .int .u8 0, .int .u8 0, .int .u8 0, .int .u8 0, .int .u8 0, .int .u8 0, .int .u8 0, .int .u8 0, .int .u8 0, .int .u8 0, .int .u8 0, .int .u8 0, .int .u8 0, .int .u8 0, .int .u8 0, .int .u8 0, .int .u8 0, .int .u8 0, .int .u8 0, .int .u8 0, .int .u8 0, .int .u8 0, .int .u8 0], .agg #[.int .u8 0, .int .u8 0]], []⟩ 8 (by kernel_rfl) (by kernel_rfl) (by kernel_rfl) (by kernel_rfl)) ?_
  intro W base args ds gs before hval0 hW hcnd _
  have hval : ∀ (j : Nat) t v, Try.f6.params[j]? = some t → args[j]? = some v → Value.okWide Try.prog W .any base t v := hval0
  have hW' := hW
  obtain ⟨p, q, hA0, hV, rfl, hfz, hnd⟩ := hW
  have hA : DataW.TrodAll enc Try.prog W 0 (fun _ => true) true Try.f6.params.toList args.toList ds p := hA0
  rw [Try.params6] at hA hval
  obtain ⟨v0, vs0, d0, ds0, p0, q0, hargs, rfl, rfl, h0, r0⟩ := trodAll_cons hA
  obtain ⟨v1, vs1, d1, ds1, p1, q1, rfl, rfl, rfl, h1, r1⟩ := trodAll_cons r0
  obtain ⟨v2, vs2, d2, ds2, p2, q2, rfl, rfl, rfl, h2, r2⟩ := trodAll_cons r1
  obtain ⟨rfl, rfl, rfl⟩ := trodAll_nil r2
  obtain rfl : args = #[v0, v1, v2] := by cases args; simp_all
  obtain ⟨rfl, rfl⟩ := trodVars_none hV
  have lt0 : ∀ x ∈ p0, x.block < W.heap.size := by obtain ⟨m, hm⟩ := h0; exact DataW.trod_lt m _ _ _ hm
  have a0 := Eng.argv_of (hval 0 23 v0 rfl rfl) h0
  have lt1 : ∀ x ∈ p1, x.block < W.heap.size := by obtain ⟨m, hm⟩ := h1; exact DataW.trod_lt m _ _ _ hm
  have a1 := Eng.argv_of (hval 1 23 v1 rfl rfl) h1
  have lt2 : ∀ x ∈ p2, x.block < W.heap.size := by obtain ⟨m, hm⟩ := h2; exact DataW.trod_lt m _ _ _ hm
  have a2 := Eng.argv_of (hval 2 37 v2 rfl rfl) h2
  clear hA0 hval0
  refine Calls.mono (compares_walk W v0 a0 v1 a1 v2 a2) fun e W' ⟨v, he, hv, hm⟩ => ?_
  subst he
  subst hv
  have bel := hm.below
  exact ⟨_, rfl, _, _, _, [], _, [], hW', trodAll_mk1 (shut_bool Try.underlying4 _), (trodAll_cons_mk (Below.trod laidOut (by kernel_rfl) (of_decide_eq_true (by kernel_rfl)) h0 bel lt0) (trodAll_cons_mk (Below.trod laidOut (by kernel_rfl) (of_decide_eq_true (by kernel_rfl)) h1 bel lt1) (trodAll_cons_mk (Below.trod laidOut (by kernel_rfl) (of_decide_eq_true (by kernel_rfl)) h2 bel lt2) trodAll_mk0))), rfl, bel.frame _, fun h => by cases h⟩

theorem over : Rows.msgidComparesRow.holds Try.pinned (OpenSpec.ofChange Rows.msgidComparesSpec) :=
  OpenClaim.holds_of_wide 6 Try.f6 rfl rfl rfl rfl rfl rfl rfl ⟨rfl, rfl, rfl, rfl, rfl⟩ rfl rfl rfl rfl rfl (by kernel_rfl) Try.func6 (by kernel_rfl)
    (of_decide_eq_true (by kernel_rfl)) (by unfold Func.isWrapper; first | (rw [if_pos (by decide +kernel)]; kernel_rfl) | (rw [if_neg (by decide +kernel)]; exact ⟨rfl, rfl⟩))
    (fun os started H enc _ => lifted os started H enc)
end msgidCompares
/-- the statement -/
theorem msgidCompares_holds : Rows.MsgidComparesSaid := msgidCompares.over
#print axioms msgidCompares_holds
end Go.Proofs.Ytkmgmdgkphckgaa
