/-
  WindowOneByOne, the plain part: the offers under way as a stretch of a table, and what each step does to it.
-/
import Derived.Test.YtajbclcpkgenbaaDoorWinB
namespace Go.Proofs.YtajbclcpkgenbaaDoor
open Go.Eng Go.RowKit

structure Ofr where
  fst : UInt8
  thn : UInt8
instance : Inhabited Ofr := ⟨⟨0, 0⟩⟩
def encF (o : Ofr) : List Value := [ub o.fst, ub o.thn]
instance : Enc encF 2 := ⟨fun _ => rfl, fun o u hu => by simp [encF] at hu; rcases hu with rfl | rfl <;> rfl⟩
instance {o : Ofr} : CellOf (encF o) 0 (ub o.fst) := ⟨rfl⟩
instance {o : Ofr} : CellOf (encF o) 1 (ub o.thn) := ⟨rfl⟩
def encN (k : Nat) : List Value := [.int .i64 (k : Nat)]
instance : Enc encN 1 := ⟨fun _ => rfl, fun o u hu => by simp [encN] at hu; subst hu; rfl⟩
instance {o : Nat} : CellOf (encN o) 0 (.int .i64 (o : Nat)) := ⟨rfl⟩
def encI (k : Int) : List Value := [.int .i64 k]
instance : Enc encI 1 := ⟨fun _ => rfl, fun o u hu => by simp [encI] at hu; subst hu; rfl⟩
instance {o : Int} : CellOf (encI o) 0 (.int .i64 o) := ⟨rfl⟩

def fsN (a : Nat) : Int := [1, 3, 4, 5].getD a 0
def thN (b : Nat) : Int := [2, 4, 5].getD b 0
def anN (a b : Nat) : List Int := if fsN a = 1 then [1, thN b] else [fsN a]
def fiN (a b : Nat) : Int := if fsN a = 1 then thN b else fsN a
def ouN (a b s : Nat) : Fin 6 := if s = 0 then 0 else Fin.ofNat 6 ((anN a b).getD (s - 1) 0).toNat
abbrev Ofr.a (o : Ofr) : Nat := o.fst.toNat % 4
abbrev Ofr.b (o : Ofr) : Nat := o.thn.toNat % 3
def ans (o : Ofr) : List Int := anN o.a o.b
def finl (o : Ofr) : Int := fiN o.a o.b
def outAt (o : Ofr) (s : Nat) : Fin 6 := ouN o.a o.b s
theorem Ofr.al (o : Ofr) : o.a < 4 := Nat.mod_lt _ (by decide)
theorem Ofr.bl (o : Ofr) : o.b < 3 := Nat.mod_lt _ (by decide)
theorem tabLen : ∀ a : Fin 4, ∀ b : Fin 3, 1 ≤ (anN a b).length ∧ (anN a b).length ≤ 2 := by decide
theorem tabOut : ∀ a : Fin 4, ∀ b : Fin 3, ∀ s : Fin 3, s.1 ≤ (anN a b).length → decide ((ouN a b s).1 < 2) = decide (s.1 < (anN a b).length) := by decide
theorem tabFin : ∀ a : Fin 4, ∀ b : Fin 3, ((ouN a b (anN a b).length).1 : Int) = fiN a b := by decide
theorem tabAns : ∀ a : Fin 4, ∀ b : Fin 3, ∀ s : Fin 2, s.1 < (anN a b).length → may (ouN a b s).1 ((anN a b).getD s.1 0).toNat = true ∧ 1 ≤ (anN a b).getD s.1 0 ∧ (anN a b).getD s.1 0 ≤ 5 ∧ Fin.ofNat 6 ((anN a b).getD s.1 0).toNat = ouN a b (s.1 + 1) := by decide
theorem ans_len (o : Ofr) : 1 ≤ (ans o).length ∧ (ans o).length ≤ 2 := tabLen ⟨_, o.al⟩ ⟨_, o.bl⟩
theorem out_lt {o : Ofr} {s : Nat} (h : s ≤ (ans o).length) : decide ((outAt o s).1 < 2) = decide (s < (ans o).length) := tabOut ⟨_, o.al⟩ ⟨_, o.bl⟩ ⟨s, by have := (ans_len o).2; omega⟩ h
theorem out_fin (o : Ofr) : ((outAt o (ans o).length).1 : Int) = finl o := tabFin ⟨_, o.al⟩ ⟨_, o.bl⟩
theorem out_next {o : Ofr} {s : Nat} (h : s < (ans o).length) : may (outAt o s).1 ((ans o).getD s 0).toNat = true ∧ 1 ≤ (ans o).getD s 0 ∧ (ans o).getD s 0 ≤ 5 ∧ Fin.ofNat 6 ((ans o).getD s 0).toNat = outAt o (s + 1) := tabAns ⟨_, o.al⟩ ⟨_, o.bl⟩ ⟨s, by have := (ans_len o).2; omega⟩ h

abbrev vN (i : Nat) : Vec 32 := vid (UInt8.ofNat i)
theorem vN_inj {i j : Nat} (hi : i < 256) (hj : j < 256) (h : vN i = vN j) : i = j := by
  have h1 := congrArg (fun v : Vec 32 => v.1.head?) h
  simp only [vid, List.head?_cons, Option.some.injEq] at h1
  have h2 := congrArg UInt8.toNat h1
  simp only [UInt8.toNat_ofNat'] at h2
  omega
abbrev gO (ofs : List Ofr) (i : Nat) : Ofr := ofs.getD i default
abbrev gN (c : List Nat) (i : Nat) : Nat := c.getD i 0
def fO (ofs : List Ofr) (c : List Nat) (i : Nat) : Off := ⟨vN i, 10, outAt (gO ofs i) (gN c i)⟩
def rO (ofs : List Ofr) (i : Nat) : Res := ⟨vN i, finl (gO ofs i)⟩
abbrev seg (ofs : List Ofr) (c : List Nat) (b m : Nat) : List Off := (List.range' b m).map (fO ofs c)
structure St (ofs : List Ofr) (b next : Nat) (c : List Nat) (L : List Off) : Prop where
  bn : b ≤ next
  nn : next ≤ ofs.length
  cl : c.length = ofs.length
  ll : L = seg ofs c b (next - b)
  lo : ∀ i, i < b → gN c i = (ans (gO ofs i)).length
  hi : ∀ i, next ≤ i → gN c i = 0
  up : ∀ i, gN c i ≤ (ans (gO ofs i)).length
theorem seg_get {ofs : List Ofr} {c : List Nat} {b m j : Nat} (h : j < m) : (seg ofs c b m)[j]? = some (fO ofs c (b + j)) := by
  simp [seg, List.getElem?_range', h]
theorem seg_len {ofs : List Ofr} {c : List Nat} {b m : Nat} : (seg ofs c b m).length = m := by simp [seg]
theorem fO_outs {ofs : List Ofr} {c : List Nat} {i : Nat} (h : gN c i ≤ (ans (gO ofs i)).length) : (fO ofs c i).outs = decide (gN c i < (ans (gO ofs i)).length) := out_lt h
theorem settle (ofs : List Ofr) (c : List Nat) (up : ∀ i, gN c i ≤ (ans (gO ofs i)).length) : ∀ m b, ∃ k, k ≤ m ∧ fin (seg ofs c b m) = seg ofs c b k ∧ unfin (seg ofs c b m) = seg ofs c (b + k) (m - k) ∧ (∀ i, b ≤ i → i < b + k → gN c i = (ans (gO ofs i)).length) ∧ (k < m → (fO ofs c (b + k)).outs = true)
  | 0, b => ⟨0, by omega, rfl, rfl, fun i h1 h2 => by omega, fun h => by omega⟩
  | m + 1, b => by
    cases h : (fO ofs c b).outs with
    | true => exact ⟨0, by omega, by simp [seg, fin, List.range'_succ, h], by simp [seg, unfin, List.range'_succ, h], fun i h1 h2 => by omega, fun _ => h⟩
    | false =>
      obtain ⟨k, h1, h2, h3, h4, h5⟩ := settle ofs c up m (b + 1)
      have hb : gN c b = (ans (gO ofs b)).length := by
        have := fO_outs (up b); rw [h] at this
        have := up b
        simp at *; omega
      refine ⟨k + 1, by omega, ?_, ?_, ?_, ?_⟩
      · simp only [seg, List.range'_succ, List.map_cons, fin, List.takeWhile_cons, h]
        simpa [fin, seg] using h2
      · simp only [seg, List.range'_succ, List.map_cons, unfin, List.dropWhile_cons, h]
        have e : b + (k + 1) = b + 1 + k := by omega
        have e2 : m + 1 - (k + 1) = m - k := by omega
        rw [e, e2]
        simpa [unfin, seg] using h3
      · intro i i1 i2
        rcases Nat.eq_or_lt_of_le i1 with rfl | i3
        · exact hb
        · exact h4 i (by omega) (by omega)
      · intro hk
        have e : b + (k + 1) = b + 1 + k := by omega
        rw [e]; exact h5 (by omega)
theorem St.settled {ofs : List Ofr} {b next : Nat} {c : List Nat} {L : List Off} (h : St ofs b next c L) : ∃ b', b ≤ b' ∧ St ofs b' next c (unfin L) ∧ (List.range' 0 b).map (rO ofs) ++ (fin L).map resO = (List.range' 0 b').map (rO ofs) ∧ (outsL L = [] → b' = next) := by
  obtain ⟨k, h1, h2, h3, h4, h5⟩ := settle ofs c h.up (next - b) b
  have hbn := h.bn
  rw [← h.ll] at h2 h3
  refine ⟨b + k, by omega, ⟨by omega, h.nn, h.cl, ?_, ?_, h.hi, h.up⟩, ?_, ?_⟩
  · rw [h3]; congr 1; omega
  · intro i hi
    rcases Nat.lt_or_ge i b with h6 | h6
    · exact h.lo i h6
    · exact h4 i h6 hi
  · have e : (fin L).map resO = (List.range' b k).map (rO ofs) := by
      rw [h2, List.map_map]
      apply List.map_congr_left
      intro i hi
      have hi := List.mem_range'_1.1 hi
      simp only [Function.comp, resO, fO, rO, Res.mk.injEq, true_and]
      rw [h4 i hi.1 hi.2, out_fin]
    rw [e, ← List.map_append]
    congr 1
    have := List.range'_append (s := 0) (m := b) (n := k) (step := 1)
    simpa using this
  · intro ho
    rcases Nat.lt_or_ge k (next - b) with h6 | h6
    · have h7 := h5 h6
      have h8 : fO ofs c (b + k) ∈ L := by rw [h.ll]; exact List.mem_of_getElem? (seg_get h6)
      have : (fO ofs c (b + k)).id ∈ outsL L := List.mem_map.2 ⟨_, List.mem_filter.2 ⟨h8, h7⟩, rfl⟩
      rw [ho] at this; cases this
    · omega
theorem St.len {ofs : List Ofr} {b next : Nat} {c : List Nat} {L : List Off} (h : St ofs b next c L) : L.length = next - b := by rw [h.ll, seg_len]
theorem St.fresh {ofs : List Ofr} {b next : Nat} {c : List Nat} {L : List Off} (h : St ofs b next c L) (hn : ofs.length ≤ 60) (hl : next < ofs.length) : has (vN next) L = false := by
  rw [Bool.eq_false_iff]
  intro hh
  obtain ⟨z, hz, hzi⟩ := List.any_eq_true.1 hh
  rw [h.ll] at hz
  obtain ⟨i, hi, rfl⟩ := List.mem_map.1 hz
  have hi := List.mem_range'_1.1 hi
  have := vN_inj (i := i) (j := next) (by omega) (by omega) (by simpa [fO] using hzi)
  have := h.bn
  omega
theorem St.offer {ofs : List Ofr} {b next : Nat} {c : List Nat} {L : List Off} {sz : Int} (h : St ofs b next c L) (hn : ofs.length ≤ 60) (hl : next < ofs.length) : (offerE sz L (vN next) 10 = 0 → St ofs b (next + 1) c (offerL sz L (vN next) 10)) ∧ (offerE sz L (vN next) 10 ≠ 0 → offerL sz L (vN next) 10 = L ∧ (1 ≤ sz → outsL L ≠ [])) := by
  have hbn := h.bn
  constructor
  · intro h0
    refine ⟨by omega, by omega, h.cl, ?_, h.lo, fun i hi => h.hi i (by omega), h.up⟩
    rw [offerL, if_pos h0, h.ll]
    have e : next + 1 - b = next - b + 1 := by omega
    have e2 : b + (next - b) = next := by omega
    rw [e, seg, seg, List.range'_concat]
    simp only [List.map_append, List.map_cons, List.map_nil, Nat.one_mul, e2]
    congr 2
    simp only [fO, Off.mk.injEq, true_and]
    rw [h.hi next (Nat.le_refl _)]; rfl
  · intro h0
    refine ⟨by rw [offerL, if_neg h0], fun hz ho => h0 ?_⟩
    rw [offerE, if_neg (by omega), h.fresh hn hl, if_neg (by simp), if_neg]
    rw [← outsL_len, ho]; simp; omega
theorem gN_set {c : List Nat} {i v : Nat} (hi : i < c.length) (j : Nat) : gN (c.set i v) j = if j = i then v else gN c j := by
  simp only [gN, List.getD_eq_getElem?_getD, List.getElem?_set]
  by_cases h : i = j
  · subst h; simp [hi]
  · simp [h, Ne.symm h, fun e : j = i => h e.symm]
theorem sum_set {c : List Nat} : ∀ {i : Nat}, i < c.length → (c.set i (gN c i + 1)).sum = c.sum + 1 := by
  induction c with
  | nil => intro i h; simp at h
  | cons a c ih =>
    intro i h
    cases i with
    | zero => simp [gN]; omega
    | succ i => have := ih (i := i) (by simpa using h); simp [gN] at this ⊢; omega
theorem sum_le {c : List Nat} (h : ∀ i, gN c i ≤ 2) : c.sum ≤ 2 * c.length := by
  induction c with
  | nil => simp
  | cons a c ih =>
    have h0 := h 0
    have := ih (fun i => by have := h (i + 1); simpa [gN] using this)
    simp [gN] at h0 ⊢; omega
theorem St.sum {ofs : List Ofr} {b next : Nat} {c : List Nat} {L : List Off} (h : St ofs b next c L) : c.sum ≤ 2 * ofs.length := by
  rw [← h.cl]; exact sum_le fun i => Nat.le_trans (h.up i) (ans_len _).2
theorem St.pick {ofs : List Ofr} {b next : Nat} {c : List Nat} {L : List Off} (h : St ofs b next c L) {x : Vec 32} (hx : x ∈ outsL L) : ∃ i, x = vN i ∧ b ≤ i ∧ i < next ∧ gN c i < (ans (gO ofs i)).length := by
  obtain ⟨z, hz, rfl⟩ := List.mem_map.1 hx
  obtain ⟨h1, h2⟩ := List.mem_filter.1 hz
  rw [h.ll] at h1
  obtain ⟨i, hi, rfl⟩ := List.mem_map.1 h1
  have hi := List.mem_range'_1.1 hi
  rw [fO_outs (h.up i)] at h2
  exact ⟨i, rfl, hi.1, by omega, by simpa using h2⟩
theorem St.answer {ofs : List Ofr} {b next : Nat} {c : List Nat} {L : List Off} (h : St ofs b next c L) (hn : ofs.length ≤ 60) {i : Nat} (h1 : b ≤ i) (h2 : i < next) (h3 : gN c i < (ans (gO ofs i)).length) :
    answerE L (vN i) ((ans (gO ofs i)).getD (gN c i) 0) = 0 ∧ St ofs b next (c.set i (gN c i + 1)) (answerL L (vN i) ((ans (gO ofs i)).getD (gN c i) 0)) := by
  obtain ⟨a1, a2, a3, a4⟩ := out_next h3
  have hbn := h.bn
  have hnn := h.nn
  have hcl := h.cl
  generalize hv : (ans (gO ofs i)).getD (gN c i) 0 = v at *
  have ho : L[i - b]? = some (fO ofs c i) := by rw [h.ll, seg_get (by omega)]; congr 2; omega
  have hp : isId (vN i) (fO ofs c i) = true := by simp [fO]
  have hno : ∀ j, j < i - b → ∀ z, L[j]? = some z → isId (vN i) z = false := by
    intro j hj z hz
    rw [h.ll, seg_get (by omega)] at hz
    simp only [Option.some.injEq] at hz
    subst hz
    refine decide_eq_false fun e => ?_
    have e : vN (b + j) = vN i := e
    have := vN_inj (by omega) (by omega) e
    omega
  have hE : answerE L (vN i) v = 0 := by
    simp only [answerE, find_at ho hp hno]
    rw [if_neg (by omega)]
    exact if_pos a1
  refine ⟨hE, ⟨hbn, hnn, by simpa using hcl, ?_, ?_, ?_, ?_⟩⟩
  · rw [answerL, if_pos hE, setOut_at ho hp hno]
    apply List.ext_getElem?
    intro j
    rw [List.getElem?_set]
    by_cases hj : j < next - b
    · rw [seg_get hj]
      split
      · rename_i e
        subst e
        rw [if_pos (by rw [h.len]; omega)]
        have e3 : b + (i - b) = i := by omega
        rw [e3]
        simp only [fO, Option.some.injEq, Off.mk.injEq, true_and]
        rw [a4, gN_set (by omega), if_pos rfl]
      · rename_i e
        rw [h.ll, seg_get hj]
        simp only [fO, Option.some.injEq, Off.mk.injEq, true_and]
        rw [gN_set (by omega), if_neg (by omega)]
    · rw [if_neg (by omega), List.getElem?_eq_none (by rw [h.len]; omega), List.getElem?_eq_none (by rw [seg_len]; omega)]
  · intro j hj
    rw [gN_set (by omega), if_neg (by omega)]; exact h.lo j hj
  · intro j hj
    rw [gN_set (by omega), if_neg (by omega)]; exact h.hi j hj
  · intro j
    rw [gN_set (by omega)]
    split
    · rename_i e; subst e; omega
    · exact h.up j
theorem St.start (ofs : List Ofr) : St ofs 0 0 (List.replicate ofs.length 0) [] := by
  have e : ∀ i, gN (List.replicate ofs.length 0) i = 0 := fun i => by
    simp only [gN, List.getD_eq_getElem?_getD, List.getElem?_replicate]; split <;> rfl
  exact ⟨by omega, by omega, by simp, rfl, fun i hi => by omega, fun i _ => e i, fun i => by rw [e]; omega⟩
end Go.Proofs.YtajbclcpkgenbaaDoor
