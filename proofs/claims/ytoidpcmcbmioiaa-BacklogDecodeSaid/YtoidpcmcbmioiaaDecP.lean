/-
  What Decode says of bytes, plainly: the errors stay; what is decoded is encoded as the same bytes; and the other way round.
-/
import Derived.Test.YtoidpcmcbmioiaaBkD
import Derived.Test.YtoidpcmcbmioiaaRefN
namespace Go.Proofs.Ytoidpcmcbmioiaa
open Go.Eng Go.RowKit

section
variable {r : Rdr} {n : Nat} {q : Int → Bool} {ok : Bool}
theorem short_good (h : r.err = 0) (hl : n ≤ r.rest.length) : r.short n = 0 := by rw [Rdr.short, if_neg (by omega), h]
theorem go_good (h : r.err = 0) (hl : n ≤ r.rest.length) : r.go n = ⟨r.rest.drop n, 0⟩ := by rw [Rdr.go, if_pos (short_good h hl)]
theorem bs_good (h : r.err = 0) (hl : n ≤ r.rest.length) : r.bs n = r.rest.take n := by rw [Rdr.bs, if_pos (short_good h hl)]
theorem go_short (h : r.err = 0) (hl : r.rest.length < n) : (r.go n).err = 23 := by
  have : r.short n = 23 := by rw [Rdr.short, if_pos ⟨h, hl⟩]
  rw [Rdr.go, this, if_neg (by decide)]
theorem go_err (h : r.err ≠ 0) : r.go n = r := by
  have : r.short n = r.err := by rw [Rdr.short, if_neg (fun e => h e.1)]
  rw [Rdr.go, this, if_neg h]
theorem req_err (h : r.err ≠ 0) : r.req ok = r := by rw [Rdr.req, if_neg (fun e => h e.1)]
theorem req_T : r.req true = r := by rw [Rdr.req, if_neg (fun e => Bool.noConfusion e.2)]
theorem req_F (h : r.err = 0) : (r.req false).err = 3 := by rw [Rdr.req, if_pos ⟨h, rfl⟩]
theorem num_err (h : r.err ≠ 0) : r.num q = r := by rw [Rdr.num, go_err h, req_err h]
theorem val_good (h : r.err = 0) (hl : 8 ≤ r.rest.length) : r.val = toI (r.rest.take 8) := by rw [Rdr.val, bs_good h hl]
theorem num_good (h : r.err = 0) (hl : 8 ≤ r.rest.length) (hq : q (toI (r.rest.take 8)) = true) : r.num q = ⟨r.rest.drop 8, 0⟩ := by rw [Rdr.num, val_good h hl, hq, req_T, go_good h hl]
theorem num_short (h : r.err = 0) (hl : r.rest.length < 8) : (r.num q).err = 23 := by
  have e := go_short h hl
  rw [Rdr.num, req_err (by rw [e]; decide), e]
theorem num_bad (h : r.err = 0) (hl : 8 ≤ r.rest.length) (hq : q (toI (r.rest.take 8)) = false) : (r.num q).err = 3 := by
  rw [Rdr.num, val_good h hl, hq]
  exact req_F (by rw [go_good h hl])
theorem num_in (hq : ∀ n, q n = true → 0 ≤ n) (h : (r.num q).err = 0) : r.err = 0 ∧ q r.val = true ∧ r.rest = num8 r.val ++ (r.num q).rest := by
  obtain ⟨h1, h2⟩ := num_ok h
  obtain ⟨h3, h4⟩ := go_ok h1
  have hv := val_good h3 h4
  refine ⟨h3, h2, ?_⟩
  have hg : r.num q = ⟨r.rest.drop 8, 0⟩ := num_good h3 h4 (by rw [← hv]; exact h2)
  have hn := hq _ h2
  rw [hg]
  have hb : r.val = ((beNat (r.rest.take 8) : Nat) : Int) := by
    rw [hv] at hn ⊢
    unfold toI at hn ⊢
    split
    · rfl
    · rename_i hc; rw [if_neg hc] at hn; omega
  rw [hb, num8_beNat (by rw [List.length_take]; omega), List.take_append_drop]
theorem toI_num8 {c : Int} (h0 : 0 ≤ c) (h1 : c ≤ 9223372036854775807) : toI (num8 c) = c := by
  have := beNat_num8 (n := c) h0 (by omega)
  unfold toI
  rw [if_pos (by omega)]; exact this
theorem num_out {c : Int} {R : List UInt8} (h0 : 0 ≤ c) (h1 : c ≤ 9223372036854775807) (hq : q c = true) : (⟨num8 c ++ R, 0⟩ : Rdr).num q = ⟨R, 0⟩ ∧ (⟨num8 c ++ R, 0⟩ : Rdr).val = c := by
  have hl : 8 ≤ (num8 c ++ R).length := by rw [List.length_append, num8_len]; omega
  have ht : (num8 c ++ R).take 8 = num8 c := List.take_left' (num8_len c)
  have hd : (num8 c ++ R).drop 8 = R := List.drop_left' (num8_len c)
  refine ⟨?_, ?_⟩
  · rw [num_good rfl hl (by simp only; rw [ht, toI_num8 h0 h1]; exact hq)]; simp only; rw [hd]
  · rw [val_good rfl hl]; simp only; rw [ht, toI_num8 h0 h1]
end
/-! the errors stay -/
section
variable {P : List UInt8} {st : DSt}
theorem decE_end {n : Nat} (h : dEnd P = dLoop n st) (he : st.1.err ≠ 0) : decE P = st.1.err := by
  rw [dLoop_stop he] at h
  rw [decE, h, if_neg (fun e => he e.1)]
theorem decE_4 (h : (dH4 P).err ≠ 0) : decE P = (dH4 P).err := decE_end (st := (dH4 P, [])) rfl h
theorem decE_3 (h : (dH3 P).err ≠ 0) : decE P = (dH3 P).err := by
  have e : dH4 P = dH3 P := num_err h
  rw [← e]; exact decE_4 (by rw [e]; exact h)
theorem decE_2 (h : (dH2 P).err ≠ 0) : decE P = (dH2 P).err := by
  have e : dH3 P = dH2 P := by rw [dH3, go_err h, req_err h]
  rw [← e]; exact decE_3 (by rw [e]; exact h)
theorem decE_1 (h : (dH1 P).err ≠ 0) : decE P = (dH1 P).err := by
  have e : dH2 P = dH1 P := num_err h
  rw [← e]; exact decE_2 (by rw [e]; exact h)
theorem decE_step {n : Nat} (h : dEnd P = dLoop (n + 1) st) (h0 : st.1.err = 0) (he : (dStep st).1.err ≠ 0) : decE P = (dStep st).1.err := by
  rw [dLoop, if_pos h0] at h
  exact decE_end h he
theorem dStep_2 (h : (dS2 st).err ≠ 0) : (dStep st).1.err = (dS2 st).err := by
  show ((dS2 st).num isTr).err = _
  rw [num_err h]
theorem dStep_1 (h : (dS1 st).err ≠ 0) : (dStep st).1.err = (dS1 st).err := by
  have e : dS2 st = dS1 st := num_err h
  rw [← e]; exact dStep_2 (by rw [e]; exact h)
end
/-! what was decoded -/
theorem isCap_nn {n : Int} (h : isCap n = true) : 1 ≤ n ∧ n ≤ 4096 := by simpa [isCap] using h
theorem isWt_nn {n : Int} (h : isWt n = true) : 0 ≤ n ∧ n ≤ 100000 := by simpa [isWt] using h
theorem isMin_nn {n : Int} (h : isMin n = true) : 0 ≤ n ∧ n ≤ 105190559 := by simpa [isMin] using h
theorem isTr_nn {n : Int} (h : isTr n = true) : 0 ≤ n ∧ n ≤ 1073741824 := by simpa [isTr] using h
theorem upTo_nn {c n : Int} (h : upTo c n = true) : 0 ≤ n ∧ n ≤ c := by simpa [upTo] using h
def dEnt (st : DSt) : Ent := ⟨dId st, (dS1 st).val, (dS2 st).val⟩
theorem step_in {st : DSt} (h : (dStep st).1.err = 0) : st.1.err = 0 ∧ st.1.rest = entB (dEnt st) ++ (dStep st).1.rest ∧ dId st ≠ zid ∧ has (dId st) st.2 = false := by
  obtain ⟨h1, h2, h3⟩ := num_in (fun _ h => (isTr_nn h).1) (show ((dS2 st).num isTr).err = 0 from h)
  obtain ⟨h4, h5, h6⟩ := num_in (fun _ h => (isMin_nn h).1) (show ((dS1 st).num isMin).err = 0 from h1)
  obtain ⟨h7, h8⟩ := req_ok (show ((st.1.go 32).req _).err = 0 from h4)
  obtain ⟨h9, h10⟩ := go_ok h7
  simp only [Bool.and_eq_true, decide_eq_true_eq, Bool.not_eq_true'] at h8
  refine ⟨h9, ?_, h8.1, h8.2⟩
  have e1 : (dS1 st).rest = st.1.rest.drop 32 := by rw [dS1, Rdr.req_rest, go_good h9 h10]
  have e2 : (dId st).1 = st.1.rest.take 32 := bs_good h9 h10
  have e3 : (dS1 st).rest = num8 (dS1 st).val ++ (dS2 st).rest := h6
  have e4 : (dS2 st).rest = num8 (dS2 st).val ++ (dStep st).1.rest := h3
  rw [entB, encEnt]
  simp only [dEnt]
  rw [List.append_assoc, List.append_assoc, ← e4, ← e3, e1, e2, List.take_append_drop]
def Good (L : List Ent) : Prop := (L.map Ent.id).Nodup ∧ zid ∉ L.map Ent.id
theorem Good.app {L : List Ent} {e : Ent} (h : Good L) (h1 : e.id ≠ zid) (h2 : has e.id L = false) : Good (L ++ [e]) := by
  refine ⟨?_, ?_⟩
  · rw [List.map_append, List.nodup_append]
    refine ⟨h.1, by simp, ?_⟩
    intro x hx y hy hxy
    simp at hy; subst hxy hy
    exact has_false.1 h2 hx
  · simp only [List.map_append, List.mem_append, not_or]
    exact ⟨h.2, by simpa using fun e0 => h1 e0.symm⟩
theorem loop_in : ∀ (n : Nat) (st : DSt), (dLoop n st).1.err = 0 → Good st.2 → st.1.err = 0 ∧ Good (dLoop n st).2 ∧ ∃ L', (dLoop n st).2 = st.2 ++ L' ∧ L'.length = n ∧ st.1.rest = L'.flatMap entB ++ (dLoop n st).1.rest
  | 0, st, h, hg => ⟨h, hg, [], by simp [dLoop], rfl, by simp [dLoop]⟩
  | n + 1, st, h, hg => by
    by_cases h0 : st.1.err = 0
    · rw [dLoop, if_pos h0] at h ⊢
      have hne : (dStep st).1.err = 0 := by
        rcases Decidable.em ((dStep st).1.err = 0) with hn | hn
        · exact hn
        · rw [dLoop_stop hn] at h; exact h
      obtain ⟨_, e1, e2, e3⟩ := step_in hne
      obtain ⟨_, g, L', e4, e5, e6⟩ := loop_in n (dStep st) h (hg.app e2 e3)
      refine ⟨h0, g, dEnt st :: L', by rw [e4]; show (st.2 ++ [dEnt st]) ++ L' = _; simp, by simp [e5], ?_⟩
      rw [e1, e6]; simp
    · rw [dLoop, if_neg h0] at h; exact absurd h h0
theorem dec_in {P : List UInt8} (h : decE P = 0) : BInv (decS P) ∧ bytesB (decS P) = P := by
  have h5 : (dEnd P).1.err = 0 ∧ (dEnd P).1.rest = [] := by
    unfold decE at h
    split at h
    · cases h
    · rename_i hn; exact ⟨h, by cases hr : (dEnd P).1.rest with | nil => rfl | cons a l => exact absurd ⟨h, by rw [hr]; simp⟩ hn⟩
  obtain ⟨h4, g, L', e1, e2, e3⟩ := loop_in (dN P).toNat (dH4 P, []) h5.1 ⟨by simp, by simp⟩
  have h4 : (dH4 P).err = 0 := h4
  have e1 : (dEnd P).2 = L' := by rw [dEnd, e1]; rfl
  have e3 : (dH4 P).rest = L'.flatMap entB ++ (dEnd P).1.rest := e3
  have g : Good (dEnd P).2 := g
  obtain ⟨a1, a2, a3⟩ := num_in (fun _ h => (upTo_nn h).1) (show ((dH3 P).num (upTo (dCap P))).err = 0 from h4)
  have a3 : (dH3 P).rest = num8 (dN P) ++ (dH4 P).rest := a3
  obtain ⟨b1, b2⟩ := req_ok (show (((dH2 P).go 1).req _).err = 0 from a1)
  obtain ⟨c1, c2⟩ := go_ok b1
  have b3 : (dH2 P).rest = [dFl P] ++ (dH3 P).rest := by
    rw [dH3, Rdr.req_rest, go_good c1 c2, dFl, bs_good c1 c2]
    simp only
    have hh := head1 (l := (dH2 P).rest.take 1) (by rw [List.length_take]; omega)
    rw [← hh, List.take_append_drop]
  obtain ⟨d1, d2, d3⟩ := num_in (fun _ h => (isWt_nn h).1) (show ((dH1 P).num isWt).err = 0 from c1)
  have d3 : (dH1 P).rest = num8 (dWt P) ++ (dH2 P).rest := d3
  obtain ⟨_, f2, f3⟩ := num_in (r := ⟨P, 0⟩) (fun _ h => by have := (isCap_nn h).1; omega) (show ((⟨P, 0⟩ : Rdr).num isCap).err = 0 from d1)
  have f3 : P = num8 (dCap P) ++ (dH1 P).rest := f3
  have hn := upTo_nn a2
  have hn : 0 ≤ dN P ∧ dN P ≤ dCap P := hn
  have hc : 1 ≤ dCap P ∧ dCap P ≤ 4096 := isCap_nn f2
  have hlen : ((dEnd P).2.length : Int) = dN P := by rw [e1, e2]; omega
  refine ⟨⟨g.1, g.2, ?_, ?_, by simp [decS], by simp [decS]⟩, ?_⟩
  · simp only [decS, newOk, Bool.and_eq_true]; exact ⟨f2, d2⟩
  · simp only [decS]; omega
  · show encHead (dCap P) (dWt P) (decide (dFl P = 1)) (dEnd P).2.length ++ (dEnd P).2.flatMap entB = P
    rw [encHead]
    have hfl : (if decide (dFl P = 1) = true then (1 : UInt8) else 0) = dFl P := by
      have : (dFl P).toNat ≤ 1 := by simpa using b2
      by_cases h1 : dFl P = 1
      · rw [decide_eq_true h1, if_pos rfl, h1]
      · rw [decide_eq_false h1, if_neg (by decide)]
        apply UInt8.toNat_inj.1
        have h2 : (dFl P).toNat ≠ 1 := fun e => h1 (UInt8.toNat_inj.1 e)
        rw [show (0 : UInt8).toNat = 0 from rfl]; omega
    rw [hfl, hlen, e1]
    conv => rhs; rw [f3, d3, b3, a3, e3, h5.2]
    simp
/-! the other way round -/
def DOk (s : Bk) : Prop := ∀ e ∈ s.L, isMin e.due = true
theorem loop_out : ∀ (L2 L1 : List Ent), Good (L1 ++ L2) → (∀ e ∈ L2, isMin e.due = true ∧ isTr e.tries = true) → dLoop L2.length (⟨L2.flatMap entB, 0⟩, L1) = (⟨[], 0⟩, L1 ++ L2)
  | [], L1, _, _ => by simp [dLoop]
  | e :: L2, L1, hg, hL => by
    have he := hL e (by simp)
    have m1 := isMin_nn he.1
    have m2 := isTr_nn he.2
    have hid : e.id.1.length = 32 := e.id.2
    generalize hR : L2.flatMap entB = R
    have hfl : (e :: L2).flatMap entB = e.id.1 ++ (num8 e.due ++ (num8 e.tries ++ R)) := by rw [List.flatMap_cons, hR, entB, encEnt]; simp
    rw [hfl, List.length_cons, dLoop, if_pos rfl]
    have hl : 32 ≤ (e.id.1 ++ (num8 e.due ++ (num8 e.tries ++ R))).length := by rw [List.length_append, hid]; omega
    have hd : dId (⟨e.id.1 ++ (num8 e.due ++ (num8 e.tries ++ R)), 0⟩, L1) = e.id := by
      apply Subtype.ext
      show Rdr.bs _ 32 = _
      rw [bs_good rfl hl]; exact List.take_left' hid
    have hnz : e.id ≠ zid := by
      intro h; apply hg.2; rw [← h]; simp
    have hnh : has e.id L1 = false := by
      rw [has_false]
      have := hg.1
      rw [List.map_append, List.nodup_append] at this
      intro hm
      exact this.2.2 _ hm e.id (by simp) rfl
    have s1 : dS1 (⟨e.id.1 ++ (num8 e.due ++ (num8 e.tries ++ R)), 0⟩, L1) = ⟨num8 e.due ++ (num8 e.tries ++ R), 0⟩ := by
      rw [dS1, hd, decide_eq_true hnz, hnh]
      simp only [Bool.not_false, Bool.and_true]
      rw [req_T, go_good rfl hl]
      simp only; rw [List.drop_left' hid]
    have n1 := num_out (q := isMin) (c := e.due) (R := num8 e.tries ++ R) m1.1 (by omega) he.1
    have n2 := num_out (q := isTr) (c := e.tries) (R := R) m2.1 (by omega) he.2
    have s2 : dS2 (⟨e.id.1 ++ (num8 e.due ++ (num8 e.tries ++ R)), 0⟩, L1) = ⟨num8 e.tries ++ R, 0⟩ := by rw [dS2, s1]; exact n1.1
    have hstep : dStep (⟨e.id.1 ++ (num8 e.due ++ (num8 e.tries ++ R)), 0⟩, L1) = (⟨R, 0⟩, L1 ++ [e]) := by
      rw [dStep, s2, s1, hd, n1.2, n2.1, n2.2]
    rw [hstep, ← hR, loop_out L2 (L1 ++ [e]) (by simpa using hg) (fun x hx => hL x (by simp [hx]))]
    simp
theorem dec_out {s : Bk} (hI : BInv s) (hD : DOk s) (hT : ∀ e ∈ s.L, 0 ≤ e.tries ∧ e.tries ≤ 1073741824) : decE (bytesB s) = 0 ∧ decS (bytesB s) = { s with M := [] } := by
  have hok := hI.ok
  simp only [newOk, Bool.and_eq_true] at hok
  have c1 := isCap_nn hok.1
  have c2 := isWt_nn hok.2
  have hle := hI.le
  generalize hE : s.L.flatMap entB = E
  have hP : bytesB s = num8 s.cap ++ (num8 s.wait ++ ([if s.inc then 1 else 0] ++ (num8 s.L.length ++ E))) := by rw [bytesB, encHead, hE]; simp
  rw [hP]
  generalize hfl : (if s.inc then (1 : UInt8) else 0) = fl
  generalize hQ : num8 s.cap ++ (num8 s.wait ++ ([fl] ++ (num8 s.L.length ++ E))) = Q
  have n1 := num_out (q := isCap) (c := s.cap) (R := num8 s.wait ++ ([fl] ++ (num8 s.L.length ++ E))) (by omega) (by omega) hok.1
  rw [hQ] at n1
  have h1 : dH1 Q = ⟨num8 s.wait ++ ([fl] ++ (num8 s.L.length ++ E)), 0⟩ := n1.1
  have hc : dCap Q = s.cap := n1.2
  have n2 := num_out (q := isWt) (c := s.wait) (R := [fl] ++ (num8 s.L.length ++ E)) (by omega) (by omega) hok.2
  have h2 : dH2 Q = ⟨[fl] ++ (num8 s.L.length ++ E), 0⟩ := by rw [dH2, h1]; exact n2.1
  have hw : dWt Q = s.wait := by rw [dWt, h1]; exact n2.2
  have hf : dFl Q = fl := by rw [dFl, h2, bs_good rfl (by simp)]; rfl
  have hfl1 : fl.toNat ≤ 1 := by rw [← hfl]; split <;> decide
  have h3 : dH3 Q = ⟨num8 s.L.length ++ E, 0⟩ := by rw [dH3, hf, h2, decide_eq_true hfl1, req_T, go_good rfl (by simp)]; rfl
  have n4 := num_out (q := upTo s.cap) (c := s.L.length) (R := E) (by omega) (by omega) (by simp [upTo]; omega)
  have h4 : dH4 Q = ⟨E, 0⟩ := by rw [dH4, h3, hc]; exact n4.1
  have hn : dN Q = s.L.length := by rw [dN, h3]; exact n4.2
  have h5 : dEnd Q = (⟨[], 0⟩, s.L) := by
    rw [dEnd, h4, hn, Int.toNat_natCast, ← hE]
    exact loop_out s.L [] ⟨by simpa using hI.nd, by simpa using hI.nz⟩ (fun e he => ⟨hD e he, by have := hT e he; simp [isTr]; omega⟩)
  refine ⟨by rw [decE, h5]; simp, ?_⟩
  have hi : decide (fl = 1) = s.inc := by rw [← hfl]; cases s.inc <;> rfl
  rw [decS, h5, hc, hw, hf, hi]
/-! the minutes of entries -/
theorem DOk.rem {s : Bk} (h : DOk s) (a : Vec 32) : DOk (remS s a) := by
  unfold remS; split
  · exact fun e he => h e ((remL_sub a s.L).subset he)
  · exact h
theorem DOk.sc {now : Int} (hm : isMin now = true) : ∀ (L : List (Vec 32)) (x : ScS), DOk x.s → DOk (runL (scStep now) scGo x L).s
  | [], x, h => h
  | a :: L, x, h => by
    have h1 : DOk (scStep now x a).s := by
      unfold scStep
      split
      · exact h
      · split
        · exact h
        · split
          · exact h
          · intro e he
            rcases List.mem_append.1 he with he | he
            · exact h e he
            · simp at he; subst he; exact hm
    rw [runL]
    split
    · exact DOk.sc hm L _ h1
    · exact h1
theorem DOk.op {s : Bk} (h : DOk s) (o : Op38) : DOk (opS s o) := by
  unfold opS
  split
  · unfold offS; split <;> exact h
  · split
    · unfold ansS; split
      · exact h.rem _
      · exact h
    · split
      · unfold latS; split
        · rename_i he
          intro e hm
          rcases List.mem_append.1 hm with hm | hm
          · exact h.rem _ e hm
          · simp at hm; subst hm
            unfold latE at he
            split at he
            · cases he
            · rename_i hn; simp only [not_or, Bool.not_eq_false] at hn; exact hn.2
        · exact h
      · split
        · unfold addS; split
          · exact h
          · split
            · rename_i he
              intro e hm
              rcases List.mem_append.1 hm with hm | hm
              · exact h e hm
              · simp at hm; subst hm
                unfold addE at he
                split at he
                · cases he
                · split at he
                  · cases he
                  · rename_i hn; simpa using hn
            · exact h
        · split
          · exact h.rem _
          · split
            · exact h
            · split
              · unfold scanS; split
                · rename_i hm; exact DOk.sc hm o.ids _ h
                · exact h
              · exact h
theorem DOk.run {s : Bk} (h : DOk s) (ops : List Op38) : DOk (runS s ops) := by
  unfold runS
  induction ops generalizing s with
  | nil => exact h
  | cons o l ih => exact ih (h.op o)
end Go.Proofs.Ytoidpcmcbmioiaa
