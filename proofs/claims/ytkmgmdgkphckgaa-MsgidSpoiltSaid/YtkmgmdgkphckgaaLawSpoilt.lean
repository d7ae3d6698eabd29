/-
  MsgidSpoilt returns true for every identity, place and byte. No condition.
-/
import Derived.Test.YtkmgmdgkphckgaaRows
import Derived.Test.YtkmgmdgkphckgaaLawParses
namespace Go.Proofs.Ytkmgmdgkphckgaa
open Go.Eng Go.RowKit

theorem getD_set (l : List UInt8) (i j : Nat) (b : UInt8) (hi : i < l.length) : (l.set i b).getD j 0 = if j = i then b else l.getD j 0 := by
  rw [List.getD_eq_getElem?_getD, List.getD_eq_getElem?_getD]
  split
  · rename_i h; subst h; simp [hi]
  · rename_i h; rw [List.getElem?_set_ne (by omega)]
theorem findFrom_first {p : Nat → Bool} : ∀ (f k i : Nat), k ≤ i → i < k + f → p i = true → (∀ j, k ≤ j → j < i → p j = false) → findFrom p f k = some i
  | 0, k, i, h1, h2, _, _ => by omega
  | f + 1, k, i, h1, h2, h3, h4 => by
    unfold findFrom
    by_cases hk : k = i
    · subst hk; rw [if_pos h3]
    · rw [if_neg (by rw [h4 k (by omega) (by omega)]; decide)]
      exact findFrom_first f (k + 1) i (by omega) (by omega) h3 (fun j h5 h6 => h4 j (by omega) h6)
theorem unfit_print (a : List UInt8) (ha : a.length = 32) (j : Nat) (hj : j < 71) : unfit (printL a) j = false := by
  have h := parse_print a ha
  unfold parseR at h
  cases hf : findFrom (unfit (printL a)) (min (printL a).length 71) 0 with
  | some k => rw [hf] at h; simp at h
  | none =>
    have := printL_len a
    exact findFrom_none _ _ hf j (by omega) (by omega)
theorem spoilt (a : List UInt8) (ha : a.length = 32) (i : Nat) (hi : i < 71) (b : UInt8) (hb : b ≠ (printL a).getD i 0) :
    (∃ o, parseR ((printL a).set i b) = (o, 0, 0) ∧ o ≠ a ∧ 1 ≤ i ∧ i ≤ 64) ∨ parseR ((printL a).set i b) = (zid, i, 6) := by
  have hpl : (printL a).length = 71 := by rw [printL_len]; omega
  have hget := fun j => getD_set (printL a) i j b (by omega)
  have hsl : ((printL a).set i b).length = 71 := by simp [hpl]
  have hother : ∀ j, j < 71 → j ≠ i → unfit ((printL a).set i b) j = false := by
    intro j hj hne
    have := unfit_print a ha j hj
    unfold unfit at this ⊢
    rw [hget j, if_neg hne]; exact this
  have hself : unfit ((printL a).set i b) i = !(fitsB i b) := by unfold unfit; rw [hget i, if_pos rfl]
  cases hf : fitsB i b with
  | false =>
    right
    unfold parseR
    rw [hsl, show min 71 71 = 71 from rfl, findFrom_first 71 0 i (by omega) (by omega) (by rw [hself, hf]; rfl) (fun j _ h2 => hother j (by omega) (by omega))]
  | true =>
    left
    have hfi := unfit_print a ha i hi
    unfold unfit at hfi
    have hor : 1 ≤ i ∧ i ≤ 64 := by
      unfold fitsB at hf hfi
      by_cases h1 : i < 1
      · rw [if_pos h1] at hf hfi
        simp only [Bool.not_eq_false', decide_eq_true_eq] at hf hfi
        exact absurd (hf.trans hfi.symm) hb
      · rw [if_neg h1] at hf hfi
        by_cases h2 : i < 65
        · omega
        · rw [if_neg h2] at hf hfi
          simp only [Bool.not_eq_false', decide_eq_true_eq] at hf hfi
          exact absurd (hf.trans hfi.symm) hb
    have hnone : findFrom (unfit ((printL a).set i b)) 71 0 = none := findFrom_none_of _ _ (fun j _ hj => by
      by_cases hji : j = i
      · subst hji; rw [hself, hf]; rfl
      · exact hother j (by omega) hji)
    have hr : parseR ((printL a).set i b) = (unhexL ((((printL a).set i b).drop 1).take 64), 0, 0) := by
      unfold parseR
      rw [hsl]
      rw [show min 71 71 = 71 from rfl, hnone]
      rfl
    refine ⟨_, hr, ?_, hor.1, hor.2⟩
    intro he
    have h0 : (parseR ((printL a).set i b)).2.2 = 0 := by rw [hr]
    have hp := print_parse h0
    rw [hr] at hp
    simp only [] at hp
    rw [he] at hp
    have := hget i
    rw [← hp, if_pos rfl] at this
    exact hb this.symm

theorem spoilt_walk (w : World) (v0 : Value) (a0 : ArgV Try.prog w 23 v0) (v1 : Value) (a1 : ArgV Try.prog w 5 v1) (v2 : Value) (a2 : ArgV Try.prog w 5 v2) :
    Ret Try.prog 5 #[v0, v1, v2] w fun r w' => r = .bool true ∧ Mod [] w w' := by
  obtain ⟨a, ha, rfl⟩ := argv_bytes a0 Try.underlying23 Try.underlying5 (by kernel_rfl) (by kernel_rfl)
  obtain ⟨wh, rfl⟩ := argv_u8 a1 Try.underlying5
  obtain ⟨nb, rfl⟩ := argv_u8 a2 Try.underlying5
  have hpl : (printL a).length = 71 := by rw [printL_len]; omega
  have hwh := wh.toNat_lt
  refine Ret.enter (n := 67) (args := [idV a, ub wh, ub nb]) Try.func5 rfl rfl ?_
  refine C.keep [(0, _), (1, _), (2, _)] ⟨rfl, rfl, rfl, trivial⟩ ?_
  refine C.seq ?_
  refine C.region ?_
  refine R.boxA rfl rfl ?_
  intro b3 w3 n3
  refine R.ev rfl (E.assign rfl) ?_
  refine R.done ?_
  refine X.keep [(1, _), (2, _), (3, _)] ⟨rfl, rfl, rfl, trivial⟩ ?_
  refine X.next ?_
  refine C.seq ?_
  refine C.seq ?_
  refine C.region ?_
  refine R.call ⟨_, _, Try.func15, rfl, by kernel_rfl⟩ rfl rfl (known_any _) ?_
  rintro _ w1 ⟨rfl, m1⟩
  refine R.ev rfl (E.notT rfl) ?_
  refine R.done ?_
  refine X.keep [(1, _), (2, _), (3, _), (13, _)] ⟨rfl, rfl, rfl, rfl, trivial⟩ ?_
  refine X.next ?_
  refine C.cfalse rfl ?_
  refine C.skip ?_
  refine X.next ?_
  refine C.seq ?_
  refine C.region ?_
  refine R.ev rfl (E.loadRow rfl Try.underlying23 rfl Try.sz23 (n3.blk.at.keep m1 (by simp)) (len_ub ha)) ?_
  refine R.call ⟨_, _, Try.func16, rfl, by kernel_rfl⟩ rfl rfl (refPrint_any a _ ha) ?_
  rintro _ w4 ⟨rfl, m4⟩
  refine R.strBytes rfl Try.underlying9 Try.underlying35 Try.underlying5 rfl ?_
  intro b5 cap5 zs5 fr5 w5 hb5 hf5 hge5 hcap5 m5
  refine R.ev rfl (E.assign rfl) ?_
  refine R.done ?_
  refine X.keep [(1, _), (2, _), (3, _), (7, _)] ⟨rfl, rfl, rfl, rfl, trivial⟩ ?_
  refine X.next ?_
  refine C.seq ?_
  refine C.region ?_
  refine R.ev rfl (E.move rfl) ?_
  refine R.ev rfl ((E.conv rfl Try.underlying5 Try.underlying3).isI (conv_u8 wh)) ?_
  refine R.ev rfl (E.move rfl) ?_
  refine R.ev rfl (E.lenSl rfl Try.underlying35) ?_
  refine R.ev rfl ((E.rem rfl rfl (by omega) (by omega)).isI (c := ((wh.toNat % 71 : Nat) : Int)) (by rw [hpl]; omega)) ?_
  refine R.ev rfl (E.assign rfl) ?_
  refine R.done ?_
  refine X.keep [(2, _), (3, _), (7, _), (8, _)] ⟨rfl, rfl, rfl, rfl, trivial⟩ ?_
  refine X.next ?_
  refine C.seq ?_
  refine C.seq ?_
  refine C.region ?_
  obtain ⟨at_, hat⟩ : ∃ i, i = wh.toNat % 71 := ⟨_, rfl⟩
  rw [← hat]
  have hlt : at_ < 71 := by omega
  have hcell : w5.cell? ⟨b5, 0 + at_ * 1, none⟩ = some (ub ((printL a).getD at_ 0)) := by
    rw [Nat.mul_one]
    exact at_of_row hb5 at_ _ (by simp [show at_ < (printL a).length by omega])
  refine R.ev rfl (E.move rfl) ?_
  refine R.ev rfl (E.move rfl) ?_
  refine R.ev rfl (E.indexAddr rfl rfl Try.underlying35 Try.sz5 rfl (by omega)) ?_
  refine R.ev rfl (E.load1 rfl Try.underlying5 rfl (by assumption)) ?_
  refine R.ev rfl (E.move rfl) ?_
  refine R.ev rfl (E.eql rfl rfl) ?_
  refine R.done ?_
  refine X.keep [(2, _), (3, _), (7, _), (8, _), (27, _)] ⟨rfl, rfl, rfl, rfl, rfl, trivial⟩ ?_
  refine X.next ?_
  refine C.cdec rfl (fun h27 => ?_) (fun h27 => ?_)
  · refine C.seq ?_
    refine C.region ?_
    refine R.ev rfl (E.assign rfl) ?_
    refine R.done ?_
    refine X.keep [(6, _)] ⟨rfl, trivial⟩ ?_
    refine X.next ?_
    refine C.ret ?_
    refine X.thenRet ?_
    refine X.ret1 rfl rfl ?_
    exact ⟨rfl, ((n3.mod.tr m1).tr m4).tr m5⟩
  · have hne : nb ≠ (printL a).getD at_ 0 := fun e => h27 (by rw [e])
    refine C.skip ?_
    refine X.next ?_
    refine C.seq ?_
    refine C.region ?_
    refine R.ev rfl (E.move rfl) ?_
    refine R.ev rfl (E.move rfl) ?_
    refine R.ev rfl (E.move rfl) ?_
    refine R.ev rfl (E.indexAddr rfl rfl Try.underlying35 Try.sz5 rfl (by omega)) ?_
    refine R.storeF rfl rfl Try.sz5 hb5 hf5 (by simp [hpl]; omega) rfl ?_
    intro w6 hb6 m6
    rw [Nat.mul_one, Nat.zero_add, List.set_append_left _ _ (by simp [hpl]; omega), ← List.map_set] at hb6
    have hsl : ((printL a).set at_ nb).length = (printL a).length := by simp
    have hb3 : Blk w6 b3 _ _ := (((n3.blk.keep m1 (by simp)).keep m4 (by simp)).keep m5 (by simp)).keep m6 (by
      have h1 := n3.blk.lt; have := m1.size; have := m4.size; simp; omega)
    refine R.done ?_
    refine X.keep [(3, _), (7, _), (8, _)] ⟨rfl, rfl, rfl, trivial⟩ ?_
    refine X.next ?_
    refine C.seq ?_
    refine C.region ?_
    refine R.ev rfl (E.move rfl) ?_
    refine R.ev rfl (E.bytesStr (l := (printL a).set at_ nb) rfl Try.underlying35 Try.underlying5 Try.underlying9 hsl (at_of_row hb6)) ?_
    refine R.call ⟨_, _, Try.func14, rfl, by kernel_rfl⟩ rfl rfl (parse_any ((printL a).set at_ nb) _ (by rw [hsl]; omega)) ?_
    rintro _ w7 ⟨rfl, m7⟩
    have hpr := parseR_len ((printL a).set at_ nb)
    refine R.ev rfl (E.move rfl) ?_
    refine R.ev rfl (E.extract rfl rfl) ?_
    refine R.ev rfl (E.extract rfl rfl) ?_
    refine R.ev rfl (E.extract rfl rfl) ?_
    refine R.allocA Try.zr23 rfl ?_
    intro b9 w9 n9
    refine R.storeAll rfl rfl Try.sz23 (n9.blk) (by first | rfl | exact len_ub (by assumption) | simp [*]) (by first | rfl | exact len_ub (by assumption) | simp [*]) (by first | exact ub_all _ | simp [Value.oneCell']) ?_
    intro w10 k10 m10 s10
    have hb3' : Blk w10 b3 _ _ := ((hb3.keep m7 (by simp)).keep n9.mod (by simp)).keep m10 (by
      have h1 := hb3.lt; have := m7.size; have := n9.ge; simp; omega)
    have hm10 : Mod [] w w10 := by
      have h0 := n3.mod.size; have h1 := m1.size; have h4 := m4.size; have h5 := m5.size; have h6 := m6.size; have h7 := m7.size; have h9 := n9.ge
      exact ((((((n3.mod.tr m1).tr m4).tr m5).tr' m6 (by intro x hx; simp at hx; subst hx; omega)).tr m7).tr n9.mod).tr' m10 (by intro x hx; simp at hx; subst hx; omega)
    refine R.ev rfl (E.assign rfl) ?_
    refine R.ev rfl (E.assign rfl) ?_
    refine R.done ?_
    refine X.keep [(3, _), (8, _), (9, _), (10, _), (11, _)] ⟨rfl, rfl, rfl, rfl, rfl, trivial⟩ ?_
    refine X.next ?_
    refine C.seq ?_
    refine C.region ?_
    rcases spoilt a ha at_ hlt nb hne with ⟨o, hpe, hoa, h1a, h64⟩ | hpe
    all_goals rw [hpe] at k10 hpr ⊢
    · refine R.ev rfl (E.move rfl) ?_
      refine R.ev rfl ((E.eql rfl rfl).isT rfl) ?_
      refine R.ev rfl (E.move rfl) ?_
      refine R.gyes rfl rfl ?_
      refine R.ev rfl (E.loadRow rfl Try.underlying23 rfl Try.sz23 k10.at (len_ub hpr)) ?_
      refine R.gyes rfl rfl ?_
      refine R.ev rfl (E.loadRow rfl Try.underlying23 rfl Try.sz23 hb3'.at (len_ub ha)) ?_
      refine R.gyes rfl rfl ?_
      refine R.ev rfl ((E.neId 10 32 rfl rfl Try.lv23 rfl Try.underlying23 rfl Try.gd23 hpr ha).isT hoa) ?_
      refine R.ev rfl (E.pickT rfl rfl) ?_
      refine R.ev rfl (E.move rfl) ?_
      refine R.gyes rfl rfl ?_
      refine R.ev rfl (E.move rfl) ?_
      refine R.gyes rfl rfl ?_
      refine R.ev rfl ((E.geq rfl rfl).isT (by omega)) ?_
      refine R.ev rfl (E.pickT rfl rfl) ?_
      refine R.ev rfl (E.move rfl) ?_
      refine R.gyes rfl rfl ?_
      refine R.ev rfl (E.move rfl) ?_
      refine R.gyes rfl rfl ?_
      refine R.ev rfl ((E.leq rfl rfl).isT (by omega)) ?_
      refine R.ev rfl (E.pickT rfl rfl) ?_
      refine R.ev rfl (E.move rfl) ?_
      refine R.gskip rfl rfl rfl ?_
      refine R.gskip rfl rfl rfl ?_
      refine R.gskip rfl rfl rfl ?_
      refine R.gundef rfl rfl ?_
      refine R.gundef rfl rfl ?_
      refine R.gundef rfl rfl ?_
      refine R.gskip rfl rfl rfl ?_
      refine R.gskip rfl rfl rfl ?_
      refine R.gundef rfl rfl ?_
      refine R.gundef rfl rfl ?_
      refine R.gskip rfl rfl rfl ?_
      refine R.ev rfl (E.pickT rfl rfl) ?_
      refine R.ev rfl (E.assign rfl) ?_
      refine R.done ?_
      refine X.keep [(6, _)] ⟨rfl, trivial⟩ ?_
      refine X.next ?_
      refine C.ret ?_
      refine X.ret1 rfl rfl ?_
      exact ⟨rfl, hm10⟩
    · refine R.ev rfl (E.move rfl) ?_
      refine R.ev rfl ((E.eql rfl rfl).isF (by show ¬ ((6 : Int) = 0); decide)) ?_
      refine R.ev rfl (E.move rfl) ?_
      refine R.gskip rfl rfl rfl ?_
      refine R.gskip rfl rfl rfl ?_
      refine R.gskip rfl rfl rfl ?_
      refine R.ev rfl (E.pickF rfl rfl) ?_
      refine R.ev rfl (E.move rfl) ?_
      refine R.gskip rfl rfl rfl ?_
      refine R.gskip rfl rfl rfl ?_
      refine R.ev rfl (E.pickF rfl rfl) ?_
      refine R.ev rfl (E.move rfl) ?_
      refine R.gskip rfl rfl rfl ?_
      refine R.gskip rfl rfl rfl ?_
      refine R.ev rfl (E.pickF rfl rfl) ?_
      refine R.ev rfl (E.move rfl) ?_
      refine R.gyes rfl rfl ?_
      refine R.ev rfl (E.move rfl) ?_
      refine R.gyes rfl rfl ?_
      refine R.ev rfl ((E.eql rfl rfl).isT rfl) ?_
      refine R.gyes rfl rfl ?_
      refine R.ev rfl (E.move rfl) ?_
      refine R.gyes rfl rfl ?_
      refine R.ev rfl (E.move rfl) ?_
      refine R.gyes rfl rfl ?_
      refine R.ev rfl (E.move rfl) ?_
      refine R.gyes rfl rfl ?_
      refine R.ev rfl ((E.eql rfl rfl).isT rfl) ?_
      refine R.gyes rfl rfl ?_
      refine R.ev rfl (E.pickT rfl rfl) ?_
      refine R.gyes rfl rfl ?_
      refine R.ev rfl (E.move rfl) ?_
      refine R.gyes rfl rfl ?_
      refine R.ev rfl (E.loadRow rfl Try.underlying23 rfl Try.sz23 k10.at (len_ub hpr)) ?_
      refine R.gyes rfl rfl ?_
      refine R.call ⟨_, _, Try.func18, rfl, by kernel_rfl⟩ rfl rfl (isZero_any zid _ rfl) ?_
      rintro _ w11 ⟨rfl, m11⟩
      refine R.slot 64 (.bool true) rfl rfl ?_
      refine R.gyes rfl rfl ?_
      refine R.ev rfl (E.pickT rfl rfl) ?_
      refine R.ev rfl (E.pickF rfl rfl) ?_
      refine R.ev rfl (E.assign rfl) ?_
      refine R.done ?_
      refine X.keep [(6, _)] ⟨rfl, trivial⟩ ?_
      refine X.next ?_
      refine C.ret ?_
      refine X.ret1 rfl rfl ?_
      exact ⟨rfl, hm10.tr m11⟩
namespace msgidSpoilt
open Go.ChangeShapes Go.WideShapes Go.ChangeAt Go.RowKit
open Go.ChangeMaps (open_string shut_string)
set_option linter.unusedVariables false

theorem own : ownKnob Try.prog.godebug = none := by kernel_rfl
theorem laidOut : laidOutB Try.prog = true := by kernel_rfl
set_option maxRecDepth 100000 in
theorem lifted (os : Os) (started : os.Started) (H : Type) (enc : TypeId × Value → H) :
    ReturnsInHanded {} Try.checked os 5 .any (Rows.msgidSpoiltSpec.pre6 enc Try.prog Try.f5 Rows.msgidSpoiltRow.domain false) (Rows.msgidSpoiltSpec.post enc Try.prog Try.f5 false true false false) := by
  refine returnsInHanded_of_change (C := Try.checked) own started (by kernel_rfl) Try.func5
    (ChangeSpec.witness6 (enc := enc) (C := Try.checked) false ⟨#[], #[.agg #[.int .u8 0, .int .u8 0, .int .u8 0, .int .u8 0, .int .u8 0, .int .u8 0, .int .u8 0, .int .u8 0, .int .u8 0, .int .u8 0, .int .u8 0, .int .u8 0, .int .u8 0, .int .u8 0, .int .u8 0, .int .u8 0, .int .u8 0, .int .u8 0, .int .u8 0, .int .u8 0, .int .u8 0, .int .u8 0, .int .u8 0, .int .u8 0, .int .u8 0, .int .u8 0, .int .u8 0, .int .u8 0, .int .u8 0, .int .u8 0, .int .u8 0, .int .u8 0], .int .u8 0, .int .u8 0], []⟩ 8 (by kernel_rfl) (by kernel_rfl) (by kernel_rfl) (by kernel_rfl)) ?_
  intro W base args ds gs before hval0 hW hcnd _
  have hval : ∀ (j : Nat) t v, Try.f5.params[j]? = some t → args[j]? = some v → Value.okWide Try.prog W .any base t v := hval0
  have hW' := hW
  obtain ⟨p, q, hA0, hV, rfl, hfz, hnd⟩ := hW
  have hA : DataW.TrodAll enc Try.prog W 0 (fun _ => true) true Try.f5.params.toList args.toList ds p := hA0
  rw [Try.params5] at hA hval
  obtain ⟨v0, vs0, d0, ds0, p0, q0, hargs, rfl, rfl, h0, r0⟩ := trodAll_cons hA
  obtain ⟨v1, vs1, d1, ds1, p1, q1, rfl, rfl, rfl, h1, r1⟩ := trodAll_cons r0
  obtain ⟨v2, vs2, d2, ds2, p2, q2, rfl, rfl, rfl, h2, r2⟩ := trodAll_cons r1
  obtain ⟨rfl, rfl, rfl⟩ := trodAll_nil r2
  obtain rfl : args = #[v0, v1, v2] := by cases args; simp_all
  obtain ⟨rfl, rfl⟩ := trodVars_none hV
  have lt0 : ∀ x ∈ p0, x.block < W.heap.size := by obtain ⟨m, hm⟩ := h0; exact DataW.trod_lt m _ _ _ hm
  have a0 := Eng.argv_of (hval 0 23 v0 rfl rfl) h0
  have lt1 : ∀ x ∈ p1, x.block < W.heap.size := by obtain ⟨m, hm⟩ := h1; exact DataW.trod_lt m _ _ _ hm
  have a1 := Eng.argv_of (hval 1 5 v1 rfl rfl) h1
  have lt2 : ∀ x ∈ p2, x.block < W.heap.size := by obtain ⟨m, hm⟩ := h2; exact DataW.trod_lt m _ _ _ hm
  have a2 := Eng.argv_of (hval 2 5 v2 rfl rfl) h2
  clear hA0 hval0
  refine Calls.mono (spoilt_walk W v0 a0 v1 a1 v2 a2) fun e W' ⟨v, he, hv, hm⟩ => ?_
  subst he
  subst hv
  have bel := hm.below
  exact ⟨_, rfl, _, _, _, [], _, [], hW', trodAll_mk1 (shut_bool Try.underlying4 _), (trodAll_cons_mk (Below.trod laidOut (by kernel_rfl) (of_decide_eq_true (by kernel_rfl)) h0 bel lt0) (trodAll_cons_mk (Below.trod laidOut (by kernel_rfl) (of_decide_eq_true (by kernel_rfl)) h1 bel lt1) (trodAll_cons_mk (Below.trod laidOut (by kernel_rfl) (of_decide_eq_true (by kernel_rfl)) h2 bel lt2) trodAll_mk0))), rfl, bel.frame _, fun h => by cases h⟩

theorem over : Rows.msgidSpoiltRow.holds Try.pinned (OpenSpec.ofChange Rows.msgidSpoiltSpec) :=
  OpenClaim.holds_of_wide 5 Try.f5 rfl rfl rfl rfl rfl rfl rfl ⟨rfl, rfl, rfl, rfl, rfl⟩ rfl rfl rfl rfl rfl (by kernel_rfl) Try.func5 (by kernel_rfl)
    (of_decide_eq_true (by kernel_rfl)) (by unfold Func.isWrapper; first | (rw [if_pos (by decide +kernel)]; kernel_rfl) | (rw [if_neg (by decide +kernel)]; exact ⟨rfl, rfl⟩))
    (fun os started H enc _ => lifted os started H enc)
end msgidSpoilt
/-- the statement -/
theorem msgidSpoilt_holds : Rows.MsgidSpoiltSaid := msgidSpoilt.over
#print axioms msgidSpoilt_holds
end Go.Proofs.Ytkmgmdgkphckgaa
