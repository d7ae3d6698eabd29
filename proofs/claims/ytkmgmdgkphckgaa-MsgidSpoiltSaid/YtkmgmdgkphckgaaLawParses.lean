/-
  MsgidParses returns true for every string. No condition.
-/
import Derived.Test.YtkmgmdgkphckgaaRows
import Derived.Test.YtkmgmdgkphckgaaRefParse
import Derived.Test.YtkmgmdgkphckgaaOpen
namespace Go.Proofs.Ytkmgmdgkphckgaa
open Go.Eng Go.RowKit

/-- what is accepted is printed unchanged -/
theorem hexc_hv : ∀ c : UInt8, isHx c = true → hexc (hv c) = c := fun c => all256 (p := fun c => isHx c = true → hexc (hv c) = c) (by decide +kernel) c
theorem hex_unhex : ∀ (l : List UInt8), l.length % 2 = 0 → (∀ c ∈ l, isHx c = true) → hexL (unhexL l) = l
  | [], _, _ => rfl
  | [_], h, _ => by simp at h
  | a :: b :: l, h, hx => by
    have ha := hx a (by simp)
    have hb := hx b (by simp)
    have e : (UInt8.ofNat (16 * hv a + hv b)).toNat = 16 * hv a + hv b := UInt8.toNat_ofNat_of_lt' (by have := hv_lt' a; have := hv_lt' b; show _ < 256; omega)
    have h1 : (16 * hv a + hv b) / 16 = hv a := by have := hv_lt' b; omega
    have h2 : (16 * hv a + hv b) % 16 = hv b := by have := hv_lt' b; omega
    simp only [unhexL, hexL, e, h1, h2, hexc_hv a ha, hexc_hv b hb, hex_unhex l (by simp at h; omega) (fun c hc => hx c (by simp [hc]))]
theorem tail_get : ∀ j, j < 6 → tailL.getD j 0 = tailL.getD j 0 := fun _ _ => rfl
theorem print_parse {l : List UInt8} (h : (parseR l).2.2 = 0) : printL (parseR l).1 = l := by
  unfold parseR at h ⊢
  cases hf : findFrom (unfit l) (min l.length 71) 0 with
  | some k => rw [hf] at h; simp at h
  | none =>
    rw [hf] at h
    simp only [] at h ⊢
    by_cases h1 : l.length < 71
    · rw [if_pos h1] at h; simp at h
    · rw [if_neg h1] at h ⊢
      by_cases h2 : 71 < l.length
      · rw [if_pos h2] at h; simp at h
      · rw [if_neg h2]
        have hl : l.length = 71 := by omega
        have hn := fun i (hi : i < 71) => findFrom_none _ _ hf i (by omega) (by omega)
        have hmid : ∀ c ∈ (l.drop 1).take 64, isHx c = true := by
          intro c hc
          obtain ⟨i, hi, rfl⟩ := List.mem_iff_getElem.1 hc
          simp at hi
          have := hn (i + 1) (by omega)
          rw [unfit1 (by omega) (by omega)] at this
          have e : l.getD (i + 1) 0 = ((l.drop 1).take 64)[i] := by simp [show i + 1 < l.length by omega]
          rw [e] at this
          simpa using this
        show printL (unhexL ((l.drop 1).take 64)) = l
        unfold printL
        rw [hex_unhex _ (by simp; omega) hmid]
        have h0 : prefixL = l.take 1 := by
          have := hn 0 (by omega)
          rw [unfit0] at this
          cases l with
          | nil => simp at hl
          | cons x l => simp at this; simp [prefixL, this]
        have h6 : tailL = (l.drop 1).drop 64 := by
          apply List.ext_getElem?
          intro j
          by_cases hj : j < 6
          · have := hn (j + 65) (by omega)
            rw [unfit2 (by omega)] at this
            simp at this
            rw [List.drop_drop, List.getElem?_drop, show 1 + 64 + j = j + 65 by omega]
            rw [List.getElem?_eq_getElem (by omega : j + 65 < l.length)] at this ⊢
            simp [tailL] at this ⊢
            rw [this]
            match j, hj with
            | 0, _ => rfl
            | 1, _ => rfl
            | 2, _ => rfl
            | 3, _ => rfl
            | 4, _ => rfl
            | 5, _ => rfl
          · rw [List.getElem?_eq_none (by simp [tailL]; omega), List.getElem?_eq_none (by simp; omega)]
        rw [h0, h6, List.append_assoc, List.take_append_drop, List.take_append_drop]

theorem parses_walk (w : World) (v : Value) (av : ArgV Try.prog w 9 v) : Ret Try.prog 4 #[v] w fun r w' => r = .bool true ∧ Mod [] w w' := by
  obtain ⟨l0, rfl, hl0⟩ := argv_str av Try.underlying9
  unfold maxLen at hl0
  refine Ret.enter (n := 52) (args := [str l0]) Try.func4 rfl rfl ?_
  refine C.keep [(0, _)] ⟨rfl, trivial⟩ ?_
  refine C.seq ?_
  refine C.region ?_
  refine R.ev rfl (E.assign rfl) ?_
  refine R.done ?_
  refine X.keep [(0, _)] ⟨rfl, trivial⟩ ?_
  refine X.next ?_
  refine C.seq ?_
  refine C.region ?_
  refine R.ev rfl (E.move rfl) ?_
  refine R.ev rfl (E.move rfl) ?_
  refine R.ev rfl (E.lenStr rfl Try.underlying9) ?_
  refine R.ev rfl ((E.min2 rfl rfl).as (congrArg (Value.int .i64) (by omega) : _ = .int .i64 ((min l0.length 200 : Nat) : Int))) ?_
  refine R.ev rfl (E.ssliceH rfl rfl Try.underlying9 rfl (by omega)) ?_
  refine R.ev rfl (E.assign rfl) ?_
  refine R.done ?_
  refine X.keep [(0, _)] ⟨rfl, trivial⟩ ?_
  refine X.next ?_
  refine C.seq ?_
  refine C.region ?_
  obtain ⟨l, hle⟩ : ∃ l, l = l0.take (min l0.length 200) := ⟨_, rfl⟩
  have hl : l.length ≤ 200 := by rw [hle]; simp; omega
  rw [← hle]
  have hpl := parseR_len l
  refine R.ev rfl (E.move rfl) ?_
  refine R.call ⟨_, _, Try.func14, rfl, by kernel_rfl⟩ rfl rfl (parse_any l _ (by omega)) ?_
  rintro _ w2 ⟨rfl, m2⟩
  refine R.ev rfl (E.move rfl) ?_
  refine R.ev rfl (E.extract rfl rfl) ?_
  refine R.ev rfl (E.extract rfl rfl) ?_
  refine R.ev rfl (E.extract rfl rfl) ?_
  refine R.allocA Try.zr23 rfl ?_
  intro b3 w3 n3
  refine R.storeAll rfl rfl Try.sz23 (n3.blk) (by first | rfl | exact len_ub (by assumption) | simp [*]) (by first | rfl | exact len_ub (by assumption) | simp [*]) (by first | exact ub_all _ | simp [Value.oneCell']) ?_
  intro w4 k4 m4 s4
  refine R.ev rfl (E.assign rfl) ?_
  refine R.ev rfl (E.assign rfl) ?_
  refine R.done ?_
  refine X.keep [(0, _), (3, _), (4, _), (5, _)] ⟨rfl, rfl, rfl, rfl, trivial⟩ ?_
  refine X.next ?_
  refine C.seq ?_
  refine C.region ?_
  refine R.ev rfl (E.move rfl) ?_
  refine R.call ⟨_, _, Try.func17, rfl, by kernel_rfl⟩ rfl rfl (refParse_any l _ (by omega)) ?_
  rintro _ w5 ⟨rfl, m5⟩
  refine R.ev rfl (E.move rfl) ?_
  refine R.ev rfl (E.extract rfl rfl) ?_
  refine R.ev rfl (E.extract rfl rfl) ?_
  refine R.ev rfl (E.extract rfl rfl) ?_
  refine R.allocA Try.zr30 rfl ?_
  intro b6 w6 n6
  refine R.storeAll rfl rfl Try.sz30 (n6.blk) (by first | rfl | exact len_ub (by assumption) | simp [*]) (by first | rfl | exact len_ub (by assumption) | simp [*]) (by first | exact ub_all _ | simp [Value.oneCell']) ?_
  intro w7 k7 m7 s7
  refine R.ev rfl (E.assign rfl) ?_
  refine R.ev rfl (E.assign rfl) ?_
  refine R.done ?_
  refine X.keep [(0, _), (3, _), (4, _), (5, _), (6, _), (7, _), (8, _)] ⟨rfl, rfl, rfl, rfl, rfl, rfl, rfl, trivial⟩ ?_
  refine X.next ?_
  refine C.seq ?_
  refine C.region ?_
  refine R.call ⟨_, _, Try.func15, rfl, by kernel_rfl⟩ rfl rfl (known_any _) ?_
  rintro _ w8 ⟨rfl, m8⟩
  have hb3 := (((k4.keep m5 (by simp)).keep n6.mod (by simp)).keep m7 (by
    have h1 := k4.lt; have h2 := n6.ge; have := m5.size; simp; omega)).keep m8 (by simp)
  have hb6 := k7.keep m8 (by simp)
  refine R.ev rfl (E.move rfl) ?_
  refine R.gyes rfl rfl ?_
  refine R.ev rfl (E.loadRow rfl Try.underlying23 rfl Try.sz23 hb3.at (len_ub hpl)) ?_
  refine R.gyes rfl rfl ?_
  refine R.ev rfl (E.loadRow rfl Try.underlying30 rfl Try.sz30 hb6.at (len_ub hpl)) ?_
  refine R.gyes rfl rfl ?_
  refine R.ev rfl ((E.eqId 10 32 rfl rfl Try.lv30 rfl Try.underlying30 rfl Try.gd30 hpl hpl).isT rfl) ?_
  refine R.ev rfl (E.pickT rfl rfl) ?_
  refine R.ev rfl (E.move rfl) ?_
  refine R.gyes rfl rfl ?_
  refine R.ev rfl (E.move rfl) ?_
  refine R.gyes rfl rfl ?_
  refine R.ev rfl (E.move rfl) ?_
  refine R.gyes rfl rfl ?_
  refine R.ev rfl ((E.eql rfl rfl).isT rfl) ?_
  refine R.ev rfl (E.pickT rfl rfl) ?_
  refine R.ev rfl (E.move rfl) ?_
  refine R.gyes rfl rfl ?_
  refine R.ev rfl (E.move rfl) ?_
  refine R.gyes rfl rfl ?_
  refine R.ev rfl (E.move rfl) ?_
  refine R.gyes rfl rfl ?_
  refine R.ev rfl ((E.eql rfl rfl).isT rfl) ?_
  refine R.ev rfl (E.pickT rfl rfl) ?_
  refine R.ev rfl (E.move rfl) ?_
  refine R.gyes rfl rfl ?_
  refine R.ev rfl (E.move rfl) ?_
  refine R.gyes rfl rfl ?_
  refine R.ev rfl (E.neq rfl rfl) ?_
  refine R.gyes rfl rfl ?_
  refine R.ev rfl (E.move rfl) ?_
  refine R.split 45 rfl (fun h45 => ?_) (fun h45 => ?_)
  · refine R.gskip rfl rfl rfl ?_
    refine R.gskip rfl rfl rfl ?_
    refine R.gskip rfl rfl rfl ?_
    refine R.gskip rfl rfl rfl ?_
    refine R.gyes rfl rfl ?_
    refine R.ev rfl (E.pickT rfl rfl) ?_
    refine R.ev rfl (E.pickT rfl rfl) ?_
    refine R.ev rfl (E.assign rfl) ?_
    refine R.done ?_
    refine X.keep [(2, _)] ⟨rfl, trivial⟩ ?_
    refine X.next ?_
    refine C.ret ?_
    refine X.ret1 rfl rfl ?_
    have := n3.ge
    have := n6.ge
    have := m2.size
    have := m5.size
    have := n3.mod.size
    have hfin : Mod [] w w8 := ((((((m2.tr n3.mod).tr' m4 (by intro x hx; simp at hx; subst hx; omega)).tr m5).tr n6.mod).tr' m7 (by intro x hx; simp at hx; subst hx; omega)).tr m8)
    first | exact ⟨rfl, hfin⟩ | exact ⟨rfl, hfin.tr m9⟩
  · refine R.gyes rfl rfl ?_
    refine R.ev rfl (E.loadRow rfl Try.underlying23 rfl Try.sz23 hb3.at (len_ub hpl)) ?_
    refine R.gyes rfl rfl ?_
    refine R.call ⟨_, _, Try.func13, rfl, by kernel_rfl⟩ rfl rfl (print_any _ _ hpl) ?_
    rintro _ w9 ⟨rfl, m9⟩
    refine R.gyes rfl rfl ?_
    refine R.ev rfl (E.move rfl) ?_
    refine R.gyes rfl rfl ?_
    refine R.ev rfl ((E.seql rfl rfl).isT (print_parse (by simpa using h45))) ?_
    refine R.gyes rfl rfl ?_
    refine R.ev rfl (E.pickF rfl rfl) ?_
    refine R.ev rfl (E.pickT rfl rfl) ?_
    refine R.ev rfl (E.assign rfl) ?_
    refine R.done ?_
    refine X.keep [(2, _)] ⟨rfl, trivial⟩ ?_
    refine X.next ?_
    refine C.ret ?_
    refine X.ret1 rfl rfl ?_
    have := n3.ge
    have := n6.ge
    have := m2.size
    have := m5.size
    have := n3.mod.size
    have hfin : Mod [] w w8 := ((((((m2.tr n3.mod).tr' m4 (by intro x hx; simp at hx; subst hx; omega)).tr m5).tr n6.mod).tr' m7 (by intro x hx; simp at hx; subst hx; omega)).tr m8)
    first | exact ⟨rfl, hfin⟩ | exact ⟨rfl, hfin.tr m9⟩

namespace msgidParses
open Go.ChangeShapes Go.WideShapes Go.ChangeAt Go.RowKit
open Go.ChangeMaps (open_string shut_string)
set_option linter.unusedVariables false

theorem own : ownKnob Try.prog.godebug = none := by kernel_rfl
theorem laidOut : laidOutB Try.prog = true := by kernel_rfl
set_option maxRecDepth 100000 in
theorem lifted (os : Os) (started : os.Started) (H : Type) (enc : TypeId × Value → H) :
    ReturnsInHanded {} Try.checked os 4 .any (Rows.msgidParsesSpec.pre6 enc Try.prog Try.f4 Rows.msgidParsesRow.domain false) (Rows.msgidParsesSpec.post enc Try.prog Try.f4 false true false false) := by
  refine returnsInHanded_of_change (C := Try.checked) own started (by kernel_rfl) Try.func4
    (ChangeSpec.witness6 (enc := enc) (C := Try.checked) false ⟨#[], #[.string ByteArray.empty], []⟩ 8 (by kernel_rfl) (by kernel_rfl) (by kernel_rfl) (by kernel_rfl)) ?_
  intro W base args ds gs before hval0 hW hcnd _
  have hval : ∀ (j : Nat) t v, Try.f4.params[j]? = some t → args[j]? = some v → Value.okWide Try.prog W .any base t v := hval0
  have hW' := hW
  obtain ⟨p, q, hA0, hV, rfl, hfz, hnd⟩ := hW
  have hA : DataW.TrodAll enc Try.prog W 0 (fun _ => true) true Try.f4.params.toList args.toList ds p := hA0
  rw [Try.params4] at hA hval
  obtain ⟨v0, vs0, d0, ds0, p0, q0, hargs, rfl, rfl, h0, r0⟩ := trodAll_cons hA
  obtain ⟨rfl, rfl, rfl⟩ := trodAll_nil r0
  obtain rfl : args = #[v0] := by cases args; simp_all
  obtain ⟨rfl, rfl⟩ := trodVars_none hV
  have lt0 : ∀ x ∈ p0, x.block < W.heap.size := by obtain ⟨m, hm⟩ := h0; exact DataW.trod_lt m _ _ _ hm
  have a0 := Eng.argv_of (hval 0 9 v0 rfl rfl) h0
  clear hA0 hval0
  refine Calls.mono (parses_walk W v0 a0) fun e W' ⟨v, he, hv, hm⟩ => ?_
  subst he
  subst hv
  have bel := hm.below
  exact ⟨_, rfl, _, _, _, [], _, [], hW', trodAll_mk1 (shut_bool Try.underlying4 _), (trodAll_cons_mk (Below.trod laidOut (by kernel_rfl) (of_decide_eq_true (by kernel_rfl)) h0 bel lt0) trodAll_mk0), rfl, bel.frame _, fun h => by cases h⟩

theorem over : Rows.msgidParsesRow.holds Try.pinned (OpenSpec.ofChange Rows.msgidParsesSpec) :=
  OpenClaim.holds_of_wide 4 Try.f4 rfl rfl rfl rfl rfl rfl rfl ⟨rfl, rfl, rfl, rfl, rfl⟩ rfl rfl rfl rfl rfl (by kernel_rfl) Try.func4 (by kernel_rfl)
    (of_decide_eq_true (by kernel_rfl)) (by unfold Func.isWrapper; first | (rw [if_pos (by decide +kernel)]; kernel_rfl) | (rw [if_neg (by decide +kernel)]; exact ⟨rfl, rfl⟩))
    (fun os started H enc _ => lifted os started H enc)
end msgidParses
/-- the statement -/
theorem msgidParses_holds : Rows.MsgidParsesSaid := msgidParses.over
#print axioms msgidParses_holds
end Go.Proofs.Ytkmgmdgkphckgaa
