/-
  The reference's Parse.
-/
import Derived.Test.YtkmgmdgkphckgaaRef11
namespace Go.Proofs.Ytkmgmdgkphckgaa
open Go.Eng Go.RowKit

/-- the identity after d digits, as the reference makes it -/
def idAt (l : List UInt8) : Nat → List UInt8
  | 0 => zid
  | d + 1 => (idAt l d).set (d / 2) (UInt8.ofNat (16 * ((idAt l d).getD (d / 2) 0).toNat + hv (l.getD (d + 1) 0)))
theorem idAt_len (l : List UInt8) : ∀ d, (idAt l d).length = 32
  | 0 => rfl
  | d + 1 => by simp [idAt, idAt_len l d]
theorem hv_lt' (c : UInt8) : hv c < 16 := all256 (p := fun c => hv c < 16) (by decide +kernel) c
theorem set_mid (a b : List UInt8) (x y : UInt8) : (a ++ x :: b).set a.length y = a ++ y :: b := by
  induction a with
  | nil => rfl
  | cons u a ih => simp [ih]
theorem get_mid (a b : List UInt8) (x : UInt8) : (a ++ x :: b).getD a.length 0 = x := by
  induction a with
  | nil => rfl
  | cons u a ih => simp
theorem ofNat_hv (c : UInt8) : (UInt8.ofNat (hv c)).toNat = hv c := UInt8.toNat_ofNat_of_lt' (by have := hv_lt' c; show _ < 256; omega)
theorem idAt_form (l : List UInt8) (hl : 64 < l.length) : ∀ k, k ≤ 32 → idAt l (2 * k) = unhexL ((l.drop 1).take (2 * k)) ++ List.replicate (32 - k) 0 := by
  intro k
  induction k with
  | zero => intro _; rfl
  | succ k ih =>
    intro hk
    have ih := ih (by omega)
    have hU : (unhexL ((l.drop 1).take (2 * k))).length = k := by rw [unhexL_len]; simp; omega
    have hR : List.replicate (32 - k) (0 : UInt8) = 0 :: List.replicate (31 - k) 0 := by rw [show 32 - k = (31 - k) + 1 by omega]; rfl
    rw [hR] at ih
    have e1 : idAt l (2 * k + 1) = unhexL ((l.drop 1).take (2 * k)) ++ UInt8.ofNat (hv (l.getD (2 * k + 1) 0)) :: List.replicate (31 - k) 0 := by
      rw [idAt, ih, show 2 * k / 2 = (unhexL ((l.drop 1).take (2 * k))).length by omega, get_mid, set_mid]
      simp
    have e2 : idAt l (2 * k + 2) = unhexL ((l.drop 1).take (2 * k)) ++ UInt8.ofNat (16 * hv (l.getD (2 * k + 1) 0) + hv (l.getD (2 * k + 2) 0)) :: List.replicate (31 - k) 0 := by
      rw [idAt, e1, show (2 * k + 1) / 2 = (unhexL ((l.drop 1).take (2 * k))).length by omega, get_mid, set_mid, ofNat_hv]
    rw [show 2 * (k + 1) = 2 * k + 2 by omega, e2, show 2 * k + 2 = 2 * (k + 1) by omega, unhexL_snoc (by simp; omega), show 32 - (k + 1) = 31 - k by omega]
    have g1 : (l.drop 1).getD (2 * k) 0 = l.getD (2 * k + 1) 0 := by rw [List.getD_eq_getElem?_getD, List.getD_eq_getElem?_getD, List.getElem?_drop, Nat.add_comm]
    have g2 : (l.drop 1).getD (2 * k + 1) 0 = l.getD (2 * k + 2) 0 := by rw [List.getD_eq_getElem?_getD, List.getD_eq_getElem?_getD, List.getElem?_drop, show 1 + (2 * k + 1) = 2 * k + 2 by omega]
    rw [g1, g2, List.append_assoc]
    rfl
theorem idAt_end (l : List UInt8) (hl : 64 < l.length) : idAt l 64 = unhexL ((l.drop 1).take 64) := by
  have := idAt_form l hl 32 (by omega)
  simpa using this
theorem idAt_zero (l : List UInt8) : ∀ d, (∀ j, (d + 1) / 2 ≤ j → (idAt l d).getD j 0 = 0) ∧ (d % 2 = 1 → ((idAt l d).getD (d / 2) 0).toNat < 16)
  | 0 => by
    refine ⟨fun j _ => ?_, fun h => by simp at h⟩
    simp only [idAt, zid, List.getD_eq_getElem?_getD, List.getElem?_replicate]
    split <;> rfl
  | d + 1 => by
    obtain ⟨h1, h2⟩ := idAt_zero l d
    have hlen := idAt_len l d
    have other : ∀ j, j ≠ d / 2 → (idAt l (d + 1)).getD j 0 = (idAt l d).getD j 0 := fun j hj => by
      simp only [idAt, List.getD_eq_getElem?_getD]
      rw [List.getElem?_set_ne (by omega)]
    refine ⟨fun j hj => ?_, fun ho => ?_⟩
    · rw [other j (by omega)]; exact h1 j (by omega)
    · have h0 := h1 (d / 2) (by omega)
      rw [show (d + 1) / 2 = d / 2 by omega]
      have : (idAt l (d + 1)).getD (d / 2) 0 = if d / 2 < 32 then UInt8.ofNat (hv (l.getD (d + 1) 0)) else 0 := by
        simp only [idAt, h0]
        split
        · rename_i hlt
          simp [hlen, hlt]
        · rename_i hlt
          rw [List.getD_eq_getElem?_getD, List.getElem?_eq_none (by simp [hlen]; omega)]; rfl
      rw [this]
      split
      · rw [ofNat_hv]; exact hv_lt' _
      · decide
theorem idAt_small (l : List UInt8) (d : Nat) : ((idAt l d).getD (d / 2) 0).toNat < 16 := by
  obtain ⟨h1, h2⟩ := idAt_zero l d
  rcases Nat.mod_two_eq_zero_or_one d with h0 | h0
  · rw [h1 (d / 2) (by omega)]; decide
  · exact h2 h0

theorem mulAdd (x y : Nat) (hx : x < 16) (hy : y < 16) : (IntKind.u8).wrap ((IntKind.u8).wrap ((x : Int) * 16) + (IntKind.u8).wrap (y : Int)) = ((UInt8.ofNat (16 * x + y)).toNat : Int) := by
  have key : ∀ (x y : Fin 16), (IntKind.u8).wrap ((IntKind.u8).wrap (((x.val : Nat) : Int) * 16) + (IntKind.u8).wrap ((y.val : Nat) : Int)) = ((UInt8.ofNat (16 * x.val + y.val)).toNat : Int) := by decide +kernel
  exact key ⟨x, hx⟩ ⟨y, hy⟩
theorem rdig_hv {c : UInt8} (h : ¬ rdig c < 0) : rdig c = (hv c : Int) ∧ isHx c = true := by
  rw [rdig_eq] at h ⊢
  refine ⟨by unfold hv; omega, by unfold isHx; simp; omega⟩
theorem rdig_no {c : UInt8} (h : rdig c < 0) : isHx c = false := by
  rw [rdig_eq] at h
  unfold isHx; simp; omega
theorem unfit0 {l : List UInt8} : unfit l 0 = decide (l.getD 0 0 ≠ 60) := by simp [unfit, fitsB]
theorem unfit1 {l : List UInt8} {k : Nat} (h1 : 1 ≤ k) (h2 : k ≤ 64) : unfit l k = !(isHx (l.getD k 0)) := by unfold unfit fitsB; rw [if_neg (by omega), if_pos (by omega)]
theorem unfit2 {l : List UInt8} {k : Nat} (h2 : 64 < k) : unfit l k = decide (l.getD k 0 ≠ tailL.getD (k - 65) 0) := by unfold unfit fitsB; rw [if_neg (by omega), if_neg (by omega)]; simp
theorem u8_ne (a b : UInt8) : ((a.toNat : Int) ≠ (b.toNat : Int)) ↔ a ≠ b := by
  constructor
  · intro h e; rw [e] at h; exact h rfl
  · intro h e; exact h (UInt8.toNat_inj.1 (by omega))

theorem refParse_any (l : List UInt8) (w : World) (hl : l.length ≤ 1000000) :
    Ret Try.prog 17 #[str l] w fun v w' => v = .tuple #[idV (parseR l).1, .int .i64 (parseR l).2.1, .int .i64 (parseR l).2.2] ∧ Mod [] w w' := by
  refine Ret.enter (n := 71) (args := [str l]) Try.func17 rfl rfl ?_
  refine C.keep [(0, _)] ⟨rfl, trivial⟩ ?_
  refine C.seq ?_
  refine C.region ?_
  refine R.allocA Try.zr30 rfl ?_
  intro b2 w2 n2
  refine R.ev rfl (E.assign rfl) ?_
  refine R.ev rfl (E.assign rfl) ?_
  refine R.done ?_
  refine X.keep [(0, _), (2, _)] ⟨rfl, rfl, trivial⟩ ?_
  refine X.next ?_
  refine C.seq ?_
  refine C.region ?_
  refine R.allocA Try.zr30 rfl ?_
  intro b5 w5 n5
  refine R.done ?_
  refine X.keep [(0, _), (2, _), (5, _)] ⟨rfl, rfl, rfl, trivial⟩ ?_
  refine X.next ?_
  refine C.seq ?_
  refine C.region ?_
  refine R.ev rfl (E.assign rfl) ?_
  refine R.done ?_
  refine X.keep [(0, _), (2, _), (5, _), (6, _)] ⟨rfl, rfl, rfl, rfl, trivial⟩ ?_
  refine X.next ?_
  refine C.seq ?_
  refine C.seq ?_
  refine C.region ?_
  refine R.ev rfl (E.assign rfl) ?_
  refine R.done ?_
  refine X.keep [(0, _), (2, _), (5, _), (6, _), (7, _)] ⟨rfl, rfl, rfl, rfl, rfl, trivial⟩ ?_
  refine X.next ?_
  refine C.block ?_
  refine C.loop  [(0, _), (2, _), (5, _), (6, _)] (fun k => [(7, .int .i64 (k : Nat))]) (fun k w' => k ≤ min l.length 71 ∧ Mod [] w w' ∧ Blk w' b2 30 (zid.map ub) ∧ Blk w' b5 30 ((idAt l (min (k - 1) 64)).map ub) ∧ findFrom (unfit l) (min l.length 71) 0 = findFrom (unfit l) (min l.length 71 - k) k) (fun k => 71 - k) (0) ⟨rfl, rfl, rfl, rfl, rfl, trivial⟩ ⟨by omega, n2.mod.tr n5.mod, n2.blk.keep n5.mod (by simp), n5.blk, rfl⟩ ?_
  rintro k w6 ⟨hk, hm, hb2, hb5, hf⟩
  have hge2 := n2.ge
  have hge5 : w.heap.size ≤ b5 := by have := n5.ge; have := n2.mod.size; omega
  have hne : b2 ≠ b5 := by have := n5.ge; have := n2.blk.lt; omega
  refine C.keep [(0, _), (2, _), (5, _), (6, _), (7, _)] ⟨rfl, rfl, rfl, rfl, rfl, trivial⟩ ?_
  refine C.seq ?_
  refine C.seq ?_
  refine C.cut [(0, _), (2, _), (5, _), (6, _), (7, _)] (fun (_ : Unit) => [(16, .bool (decide (k < min l.length 71)))]) (fun _ w' => w6 = w') ⟨rfl, rfl, rfl, rfl, rfl, trivial⟩ ?_ ?_
  · refine C.region ?_
    refine R.ev rfl (E.move rfl) ?_
    refine R.ev rfl (E.move rfl) ?_
    refine R.ev rfl (E.lenStr rfl Try.underlying9) ?_
    refine R.ev rfl (E.lss rfl rfl) ?_
    refine R.ev rfl (E.move rfl) ?_
    refine R.split 13 rfl (fun h13 => ?_) (fun h13 => ?_)
    · refine R.gyes rfl rfl ?_
      refine R.ev rfl (E.move rfl) ?_
      refine R.gyes rfl rfl ?_
      refine R.ev rfl (E.lss rfl rfl) ?_
      refine R.ev rfl (E.pickT rfl rfl) ?_
      refine R.done ?_
      refine X.keep [(0, _), (2, _), (5, _), (6, _), (7, _), (16, _)] ⟨rfl, rfl, rfl, rfl, rfl, rfl, trivial⟩ ?_
      refine X.cut (()) ⟨lkV rfl ?_, rfl, rfl, rfl, rfl, rfl, trivial⟩ ?_
      all_goals try exact rfl
      congr 1
      simp at h13
      first | (rw [Bool.eq_iff_iff]; simp; omega) | (symm; simp; omega)
    · refine R.gskip rfl rfl rfl ?_
      refine R.gskip rfl rfl rfl ?_
      refine R.ev rfl (E.pickF rfl rfl) ?_
      refine R.done ?_
      refine X.keep [(0, _), (2, _), (5, _), (6, _), (7, _), (16, _)] ⟨rfl, rfl, rfl, rfl, rfl, rfl, trivial⟩ ?_
      refine X.cut (()) ⟨lkV rfl ?_, rfl, rfl, rfl, rfl, rfl, trivial⟩ ?_
      all_goals try exact rfl
      congr 1
      simp at h13
      first | (rw [Bool.eq_iff_iff]; simp; omega) | (symm; simp; omega)
  · rintro _ _ rfl
    refine X.keep [(0, _), (2, _), (5, _), (6, _), (7, _), (16, _)] ⟨rfl, rfl, rfl, rfl, rfl, rfl, trivial⟩ ?_
    refine X.next ?_
    refine C.cdec rfl (fun h16 => ?_) (fun h16 => ?_)
    · have hf2 := findFrom_eq (unfit l) (min l.length 71 - k) k (by omega)
      refine C.skip ?_
      refine X.next ?_
      refine C.seq ?_
      refine C.block ?_
      refine C.block ?_
      refine C.seq ?_
      refine C.region ?_
      refine R.ev rfl (E.move rfl) ?_
      refine R.ev rfl (E.eql rfl rfl) ?_
      refine R.ev rfl (E.assign rfl) ?_
      refine R.done ?_
      refine X.keep [(0, _), (2, _), (5, _), (6, _), (7, _), (29, _)] ⟨rfl, rfl, rfl, rfl, rfl, rfl, trivial⟩ ?_
      refine X.next ?_
      refine C.cdec rfl (fun h29 => ?_) (fun h29 => ?_)
      · refine C.seq ?_
        refine C.region ?_
        refine R.ev rfl (E.move rfl) ?_
        refine R.ev rfl (E.sindex (i := 0) rfl rfl Try.underlying9 rfl (by omega)) ?_
        refine R.ev rfl (E.neq rfl rfl) ?_
        refine R.done ?_
        refine X.keep [(0, _), (2, _), (5, _), (6, _), (7, _), (34, _)] ⟨rfl, rfl, rfl, rfl, rfl, rfl, trivial⟩ ?_
        refine X.next ?_
        refine C.cdec rfl (fun h34 => ?_) (fun h34 => ?_)
        · have hun : unfit l k = true := by rw [show k = 0 by omega, unfit0]; simpa using (u8_ne (l.getD 0 0) 60).1 h34
          refine C.seq ?_
          refine C.region ?_
          refine R.ev rfl (E.buildA rfl Try.underlying30 Try.zr30 Try.sz5 rfl) ?_
          refine R.storeAll rfl rfl Try.sz30 (hb2) (by first | rfl | exact len_ub (by assumption) | simp [*]) (by first | rfl | exact len_ub (by assumption) | simp [*]) (by first | exact ub_all _ | simp [Value.oneCell']) ?_
          intro w7 k7 m7 s7
          refine R.ev rfl (E.assign rfl) ?_
          refine R.ev rfl (E.assign rfl) ?_
          refine R.done ?_
          refine X.keep [(2, _), (3, _), (4, _)] ⟨rfl, rfl, rfl, trivial⟩ ?_
          refine X.next ?_
          refine C.ret ?_
          refine X.blockRet ?_
          refine X.blockRet ?_
          refine X.thenRet ?_
          refine X.loopRet ?_
          refine X.blockRet ?_
          refine X.thenRet ?_
          refine X.retCTT rfl rfl rfl rfl Try.underlying30 rfl Try.sz30 (k7.at) (by first | rfl | exact len_ub (by assumption) | simp [*]) ?_
          have e : parseR l = (zid, k, 6) := by unfold parseR; rw [hf, hf2, if_pos hun]
          rw [e, show k = 0 by omega]
          exact ⟨rfl, hm.tr' m7 (by intro x hx; simp at hx; subst hx; exact hge2)⟩
        · have hun : unfit l k = false := by rw [show k = 0 by omega, unfit0]; simpa using (not_congr (u8_ne (l.getD 0 0) 60)).1 h34
          have hk1 : min (k + 1 - 1) 64 = min (k - 1) 64 := by omega
          have hb5' := hb5
          rw [← hk1] at hb5'
          have hb2' := hb2
          have hm' := hm
          refine C.skip ?_
          refine X.blockNormal ?_
          refine X.blockNormal ?_
          refine X.next ?_
          refine C.region ?_
          refine R.ev rfl (E.move rfl) ?_
          refine R.ev rfl (E.add rfl rfl (by omega) (by omega)) ?_
          refine R.ev rfl (E.assign rfl) ?_
          refine R.done ?_
          refine X.keep [(0, _), (2, _), (5, _), (6, _), (7, _)] ⟨rfl, rfl, rfl, rfl, rfl, trivial⟩ ?_
          refine X.again (k + 1) ⟨rfl, rfl, rfl, rfl, rfl, trivial⟩ ⟨by omega, hm', hb2', hb5', by rw [hf, hf2, if_neg (by rw [hun]; decide), Nat.sub_sub]⟩ (by omega)
      · refine C.seq ?_
        refine C.region ?_
        refine R.ev rfl (E.move rfl) ?_
        refine R.ev rfl (E.leq rfl rfl) ?_
        refine R.ev rfl (E.assign rfl) ?_
        refine R.done ?_
        refine X.keep [(0, _), (2, _), (5, _), (6, _), (7, _), (36, _)] ⟨rfl, rfl, rfl, rfl, rfl, rfl, trivial⟩ ?_
        refine X.next ?_
        refine C.cdec rfl (fun h36 => ?_) (fun h36 => ?_)
        · refine C.seq ?_
          refine C.region ?_
          refine R.ev rfl (E.move rfl) ?_
          refine R.ev rfl (E.move rfl) ?_
          refine R.ev rfl (E.sindex rfl rfl Try.underlying9 rfl (by omega)) ?_
          refine R.call ⟨_, _, Try.func41, rfl, by kernel_rfl⟩ rfl rfl (refDigit_any _ _) ?_
          rintro _ _ ⟨rfl, rfl⟩
          refine R.ev rfl (E.assign rfl) ?_
          refine R.done ?_
          refine X.keep [(0, _), (2, _), (5, _), (6, _), (7, _), (8, _)] ⟨rfl, rfl, rfl, rfl, rfl, rfl, trivial⟩ ?_
          refine X.next ?_
          refine C.seq ?_
          refine C.seq ?_
          refine C.region ?_
          refine R.ev rfl (E.move rfl) ?_
          refine R.ev rfl (E.lss rfl rfl) ?_
          refine R.done ?_
          refine X.keep [(0, _), (2, _), (5, _), (6, _), (7, _), (8, _), (44, _)] ⟨rfl, rfl, rfl, rfl, rfl, rfl, rfl, trivial⟩ ?_
          refine X.next ?_
          refine C.cdec rfl (fun h44 => ?_) (fun h44 => ?_)
          · have hun : unfit l k = true := by rw [unfit1 (by omega) (by omega), rdig_no h44]; rfl
            refine C.seq ?_
            refine C.region ?_
            refine R.ev rfl (E.buildA rfl Try.underlying30 Try.zr30 Try.sz5 rfl) ?_
            refine R.ev rfl (E.move rfl) ?_
            refine R.storeAll rfl rfl Try.sz30 (hb2) (by first | rfl | exact len_ub (by assumption) | simp [*]) (by first | rfl | exact len_ub (by assumption) | simp [*]) (by first | exact ub_all _ | simp [Value.oneCell']) ?_
            intro w7 k7 m7 s7
            refine R.ev rfl (E.assign rfl) ?_
            refine R.ev rfl (E.assign rfl) ?_
            refine R.done ?_
            refine X.keep [(2, _), (3, _), (4, _)] ⟨rfl, rfl, rfl, trivial⟩ ?_
            refine X.next ?_
            refine C.ret ?_
            refine X.thenRet ?_
            refine X.blockRet ?_
            refine X.blockRet ?_
            refine X.thenRet ?_
            refine X.loopRet ?_
            refine X.blockRet ?_
            refine X.thenRet ?_
            refine X.retCTT rfl rfl rfl rfl Try.underlying30 rfl Try.sz30 (k7.at) (by first | rfl | exact len_ub (by assumption) | simp [*]) ?_
            have e : parseR l = (zid, k, 6) := by unfold parseR; rw [hf, hf2, if_pos hun]
            rw [e]
            exact ⟨rfl, hm.tr' m7 (by intro x hx; simp at hx; subst hx; exact hge2)⟩
          · have hrd := rdig_hv h44
            have hun : unfit l k = false := by rw [unfit1 (by omega) (by omega), hrd.2]; rfl
            have hkd : min (k - 1) 64 = k - 1 := by omega
            have hkd1 : min (k + 1 - 1) 64 = k - 1 + 1 := by omega
            rw [hkd] at hb5
            have hcell : w6.cell? ⟨b5, 0 + (k - 1) / 2 * 1, none⟩ = some (ub ((idAt l (k - 1)).getD ((k - 1) / 2) 0)) := by
              rw [Nat.mul_one, Nat.zero_add, hb5.cell]
              have := idAt_len l (k - 1)
              simp [show (k - 1) / 2 < (idAt l (k - 1)).length by omega]
            refine C.skip ?_
            refine X.next ?_
            refine C.region ?_
            refine R.ev rfl (E.move rfl) ?_
            refine R.ev rfl (E.sub rfl rfl (by omega) (by omega)) ?_
            refine R.ev rfl (E.quo rfl rfl (by omega) (by omega) (by omega)) ?_
            refine R.ev rfl (E.move rfl) ?_
            refine R.ev rfl (E.sub rfl rfl (by omega) (by omega)) ?_
            refine R.ev rfl (E.quo rfl rfl (by omega) (by omega) (by omega)) ?_
            refine R.ev rfl (E.indexAddrA (i := (k - 1) / 2) rfl rfl Try.underlying30 Try.sz5 (by omega) (by omega)) ?_
            refine R.ev rfl (E.load1 rfl Try.underlying5 rfl (by assumption)) ?_
            refine R.ev rfl (E.mulW rfl rfl) ?_
            refine R.ev rfl (E.move rfl) ?_
            refine R.ev rfl ((E.conv rfl Try.underlying3 Try.underlying5).as (by rw [hrd.1])) ?_
            refine R.ev rfl ((E.addW rfl rfl).as (congrArg (Value.int .u8) (mulAdd _ _ (idAt_small l (k - 1)) (hv_lt' _)))) ?_
            refine R.ev rfl (E.indexAddrA (i := (k - 1) / 2) rfl rfl Try.underlying30 Try.sz5 (by omega) (by omega)) ?_
            refine R.store1 (bt := 30) rfl rfl Try.sz5 hb5 (by rw [List.length_map, idAt_len]; omega) rfl ?_
            intro w7 k7 m7 s7
            have hb5' : Blk w7 b5 30 ((idAt l (min (k + 1 - 1) 64)).map ub) := by
              rw [hkd1, idAt, List.map_set, show k - 1 + 1 = k by omega]
              rw [Nat.mul_one, Nat.zero_add] at k7
              exact k7
            have hb2' := hb2.keep m7 (by simpa using hne)
            have hm' : Mod [] w w7 := hm.tr' m7 (by intro x hx; simp at hx; subst hx; exact hge5)
            refine R.done ?_
            refine X.keep [(0, _), (2, _), (5, _), (6, _), (7, _)] ⟨rfl, rfl, rfl, rfl, rfl, trivial⟩ ?_
            refine X.blockNormal ?_
            refine X.blockNormal ?_
            refine X.next ?_
            refine C.region ?_
            refine R.ev rfl (E.move rfl) ?_
            refine R.ev rfl (E.add rfl rfl (by omega) (by omega)) ?_
            refine R.ev rfl (E.assign rfl) ?_
            refine R.done ?_
            refine X.keep [(0, _), (2, _), (5, _), (6, _), (7, _)] ⟨rfl, rfl, rfl, rfl, rfl, trivial⟩ ?_
            refine X.again (k + 1) ⟨rfl, rfl, rfl, rfl, rfl, trivial⟩ ⟨by omega, hm', hb2', hb5', by rw [hf, hf2, if_neg (by rw [hun]; decide), Nat.sub_sub]⟩ (by omega)
        · refine C.seq ?_
          refine C.drawn (fun _ => True) [0, 1, 2, 3, 4, 5, 6, 7] (by kernel_rfl) ?_
          refine D.ev 0 rfl (by kernel_rfl) rfl trivial (fun _ hS => E.move rfl) ?_
          refine D.ev 1 rfl (by kernel_rfl) rfl trivial (fun _ hS => E.move rfl) ?_
          refine D.ev 2 rfl (by kernel_rfl) rfl trivial (fun _ hS => E.sindex rfl rfl Try.underlying9 rfl (by omega)) ?_
          refine D.ev 3 rfl (by kernel_rfl) rfl trivial (fun _ hS => E.move rfl) ?_
          refine D.ev 4 rfl (by kernel_rfl) rfl trivial (fun _ hS => E.move rfl) ?_
          refine D.ev 5 rfl (by kernel_rfl) rfl trivial (fun _ hS => E.sub rfl rfl (by omega) (by omega)) ?_
          refine D.ev 6 rfl (by kernel_rfl) rfl trivial (fun _ hS => E.sindex (l := [64, 104, 97, 115, 104, 62]) (i := k - 65) rfl rfl Try.underlying9 (by omega) (by simp; omega)) ?_
          refine D.ev 7 rfl (by kernel_rfl) rfl trivial (fun _ hS => E.neq rfl rfl) ?_
          refine D.done rfl (by kernel_rfl) ?_
          refine X.keep [(0, _), (2, _), (5, _), (6, _), (7, _), (26, _)] ⟨rfl, rfl, rfl, rfl, rfl, rfl, trivial⟩ ?_
          refine X.next ?_
          refine C.cdec rfl (fun h26 => ?_) (fun h26 => ?_)
          · have hun : unfit l k = true := by rw [unfit2 (by omega)]; simpa [tailL] using (u8_ne _ _).1 h26
            refine C.seq ?_
            refine C.region ?_
            refine R.ev rfl (E.buildA rfl Try.underlying30 Try.zr30 Try.sz5 rfl) ?_
            refine R.ev rfl (E.move rfl) ?_
            refine R.storeAll rfl rfl Try.sz30 (hb2) (by first | rfl | exact len_ub (by assumption) | simp [*]) (by first | rfl | exact len_ub (by assumption) | simp [*]) (by first | exact ub_all _ | simp [Value.oneCell']) ?_
            intro w7 k7 m7 s7
            refine R.ev rfl (E.assign rfl) ?_
            refine R.ev rfl (E.assign rfl) ?_
            refine R.done ?_
            refine X.keep [(2, _), (3, _), (4, _)] ⟨rfl, rfl, rfl, trivial⟩ ?_
            refine X.next ?_
            refine C.ret ?_
            refine X.blockRet ?_
            refine X.blockRet ?_
            refine X.thenRet ?_
            refine X.loopRet ?_
            refine X.blockRet ?_
            refine X.thenRet ?_
            refine X.retCTT rfl rfl rfl rfl Try.underlying30 rfl Try.sz30 (k7.at) (by first | rfl | exact len_ub (by assumption) | simp [*]) ?_
            have e : parseR l = (zid, k, 6) := by unfold parseR; rw [hf, hf2, if_pos hun]
            rw [e]
            exact ⟨rfl, (hm.tr (Mod.drew _ _)).tr' m7 (by intro x hx; simp at hx; subst hx; exact hge2)⟩
          · have hun : unfit l k = false := by rw [unfit2 (by omega)]; simpa [tailL] using (not_congr (u8_ne _ _)).1 h26
            have hk1 : min (k + 1 - 1) 64 = min (k - 1) 64 := by omega
            have hb5' : Blk w6.drew b5 30 ((idAt l (min (k + 1 - 1) 64)).map ub) := by rw [hk1]; exact hb5
            have hb2' : Blk w6.drew b2 30 (zid.map ub) := hb2
            have hm' := hm.tr (Mod.drew [] w6)
            refine C.skip ?_
            refine X.blockNormal ?_
            refine X.blockNormal ?_
            refine X.next ?_
            refine C.region ?_
            refine R.ev rfl (E.move rfl) ?_
            refine R.ev rfl (E.add rfl rfl (by omega) (by omega)) ?_
            refine R.ev rfl (E.assign rfl) ?_
            refine R.done ?_
            refine X.keep [(0, _), (2, _), (5, _), (6, _), (7, _)] ⟨rfl, rfl, rfl, rfl, rfl, trivial⟩ ?_
            refine X.again (k + 1) ⟨rfl, rfl, rfl, rfl, rfl, trivial⟩ ⟨by omega, hm', hb2', hb5', by rw [hf, hf2, if_neg (by rw [hun]; decide), Nat.sub_sub]⟩ (by omega)
    · refine C.exit ?_
      refine X.thenExit ?_
      refine X.loopExit ?_
      refine X.blockExit ?_
      refine X.next ?_
      refine C.seq ?_
      refine C.seq ?_
      refine C.region ?_
      have hnone : findFrom (unfit l) (min l.length 71) 0 = none := by rw [hf, show min l.length 71 - k = 0 by omega]; rfl
      refine R.ev rfl (E.move rfl) ?_
      refine R.ev rfl (E.lenStr rfl Try.underlying9) ?_
      refine R.ev rfl (E.lss rfl rfl) ?_
      refine R.done ?_
      refine X.keep [(0, _), (2, _), (5, _), (62, _)] ⟨rfl, rfl, rfl, rfl, trivial⟩ ?_
      refine X.next ?_
      refine C.cdec rfl (fun h62 => ?_) (fun h62 => ?_)
      · refine C.seq ?_
        refine C.region ?_
        refine R.ev rfl (E.buildA rfl Try.underlying30 Try.zr30 Try.sz5 rfl) ?_
        refine R.ev rfl (E.move rfl) ?_
        refine R.ev rfl (E.lenStr rfl Try.underlying9) ?_
        refine R.storeAll rfl rfl Try.sz30 (hb2) (by first | rfl | exact len_ub (by assumption) | simp [*]) (by first | rfl | exact len_ub (by assumption) | simp [*]) (by first | exact ub_all _ | simp [Value.oneCell']) ?_
        intro w7 k7 m7 s7
        refine R.ev rfl (E.assign rfl) ?_
        refine R.ev rfl (E.assign rfl) ?_
        refine R.done ?_
        refine X.keep [(2, _), (3, _), (4, _)] ⟨rfl, rfl, rfl, trivial⟩ ?_
        refine X.next ?_
        refine C.ret ?_
        refine X.thenRet ?_
        refine X.retCTT rfl rfl rfl rfl Try.underlying30 rfl Try.sz30 (k7.at) (by first | rfl | exact len_ub (by assumption) | simp [*]) ?_
        have e : parseR l = (zid, l.length, 4) := by unfold parseR; rw [hnone]; simp only []; rw [if_pos (by omega)]
        rw [e]
        exact ⟨rfl, hm.tr' m7 (by intro x hx; simp at hx; subst hx; exact hge2)⟩
      · refine C.skip ?_
        refine X.next ?_
        refine C.seq ?_
        refine C.seq ?_
        refine C.region ?_
        refine R.ev rfl (E.move rfl) ?_
        refine R.ev rfl (E.lenStr rfl Try.underlying9) ?_
        refine R.ev rfl (E.gtr rfl rfl) ?_
        refine R.done ?_
        refine X.keep [(2, _), (5, _), (68, _)] ⟨rfl, rfl, rfl, trivial⟩ ?_
        refine X.next ?_
        refine C.cdec rfl (fun h68 => ?_) (fun h68 => ?_)
        · refine C.seq ?_
          refine C.region ?_
          refine R.ev rfl (E.buildA rfl Try.underlying30 Try.zr30 Try.sz5 rfl) ?_
          refine R.storeAll rfl rfl Try.sz30 (hb2) (by first | rfl | exact len_ub (by assumption) | simp [*]) (by first | rfl | exact len_ub (by assumption) | simp [*]) (by first | exact ub_all _ | simp [Value.oneCell']) ?_
          intro w7 k7 m7 s7
          refine R.ev rfl (E.assign rfl) ?_
          refine R.ev rfl (E.assign rfl) ?_
          refine R.done ?_
          refine X.keep [(2, _), (3, _), (4, _)] ⟨rfl, rfl, rfl, trivial⟩ ?_
          refine X.next ?_
          refine C.ret ?_
          refine X.thenRet ?_
          refine X.retCTT rfl rfl rfl rfl Try.underlying30 rfl Try.sz30 (k7.at) (by first | rfl | exact len_ub (by assumption) | simp [*]) ?_
          have e : parseR l = (zid, 71, 5) := by unfold parseR; rw [hnone]; simp only []; rw [if_neg (by omega), if_pos (by omega)]
          rw [e]
          exact ⟨rfl, hm.tr' m7 (by intro x hx; simp at hx; subst hx; exact hge2)⟩
        · refine C.skip ?_
          refine X.next ?_
          refine C.seq ?_
          refine C.region ?_
          have hll : l.length = 71 := by omega
          have hkk : min (k - 1) 64 = 64 := by omega
          rw [hkk, idAt_end l (by omega)] at hb5
          have hul : (unhexL ((l.drop 1).take 64)).length = 32 := by rw [unhexL_len]; simp; omega
          refine R.ev rfl (E.loadRow rfl Try.underlying30 rfl Try.sz30 hb5.at (len_ub hul)) ?_
          refine R.storeAll rfl rfl Try.sz30 (hb2) (by first | rfl | exact len_ub (by assumption) | simp [*]) (by first | rfl | exact len_ub (by assumption) | simp [*]) (by first | exact ub_all _ | simp [Value.oneCell']) ?_
          intro w7 k7 m7 s7
          refine R.ev rfl (E.assign rfl) ?_
          refine R.ev rfl (E.assign rfl) ?_
          refine R.done ?_
          refine X.keep [(2, _), (3, _), (4, _)] ⟨rfl, rfl, rfl, trivial⟩ ?_
          refine X.next ?_
          refine C.ret ?_
          refine X.retCTT rfl rfl rfl rfl Try.underlying30 rfl Try.sz30 (k7.at) (by first | rfl | exact len_ub (by assumption) | simp [*]) ?_
          have e : parseR l = (unhexL ((l.drop 1).take 64), 0, 0) := by unfold parseR; rw [hnone]; simp only []; rw [if_neg (by omega), if_neg (by omega)]
          rw [e]
          exact ⟨rfl, hm.tr' m7 (by intro x hx; simp at hx; subst hx; exact hge2)⟩
end Go.Proofs.Ytkmgmdgkphckgaa
