/-
  history and reference: Forget; what holds of a history that was played.
-/
import Derived.Test.YtobhhnfckhbeeaaHisS
import Derived.Test.YtobhhnfckhbeeaaHisA
namespace Go.Proofs.Ytobhhnfckhbeeaa
open Go.Eng Go.RowKit Go.Sort
variable {s : Hi} {L : List HEnt}
theorem delAll_nd : ∀ {l : List (Vec 32)} {M : HMap}, (M.map (·.1)).Nodup → ((delAll l M).map (·.1)).Nodup
  | [], _, h => h
  | _ :: l, _, h => delAll_nd (l := l) (delM_nodup h)
theorem delAll_lk {a : Vec 32} : ∀ {l : List (Vec 32)} {M : HMap}, (M.map (·.1)).Nodup → lkM (delAll l M) a = if a ∈ l then none else lkM M a
  | [], _, _ => by simp [delAll]
  | b :: l, M, h => by
    have ih := delAll_lk (a := a) (l := l) (M := delM b M) (delM_nodup h)
    rw [delAll, List.foldl_cons]
    rw [delAll] at ih
    rw [ih, lkM_del h]
    by_cases h1 : a ∈ l
    · rw [if_pos h1, if_pos (by simp [h1])]
    · by_cases h2 : a = b
      · rw [if_neg h1, if_pos h2, if_pos (by simp [h2])]
      · rw [if_neg h1, if_neg h2, if_neg (by simp [h1, h2])]
theorem delAll_sub : ∀ {l : List (Vec 32)} {M : HMap}, (delAll l M).Sublist M
  | [], _ => List.Sublist.refl _
  | b :: l, M => (delAll_sub (l := l) (M := delM b M)).trans (delM_sub M)
theorem fgR_eq (now : Int) (L : List HEnt) : Hi.fgR now L = rFIds now L := by
  unfold Hi.fgR rFIds fgIds rF
  cases isMin now <;> simp
theorem Ord.fgCut (now : Int) : (s.fgS now L).cut = rFCut now s.cut L := by
  unfold Hi.fgS rFCut
  rw [← fgR_eq, Hi.fgR]
  cases isMin now
  · simp
  · simp only [if_true]
    split <;> split <;> first | rfl | omega
theorem Ord.forget (h : Ord s L) (now : Int) : Ord (s.fgS now L) (rFRest now L) := by
  unfold Hi.fgS
  cases hm : isMin now with
  | false =>
    have : rFRest now L = L := by
      unfold rFRest rF
      rw [hm]; simp
    rw [this]; exact h
  | true =>
    have hok : HOk ⟨delAll (fgIds now L) s.M, if 0 < (fgIds now L).length then max s.cut now else s.cut⟩ :=
      ⟨delAll_nd h.ok.nd, fun q hq => h.ok.key q (delAll_sub.subset hq), by have := (delAll_sub (l := fgIds now L) (M := s.M)).length_le; have := h.ok.len; simp only; omega⟩
    refine Ord.of hok (List.Pairwise.sublist List.filter_sublist h.ss) fun y => ?_
    show y ∈ rFRest now L ↔ lkM (delAll (fgIds now L) s.M) y.id = some y
    rw [delAll_lk h.ok.nd, rFRest, List.mem_filter, h.lk]
    have hid : y.id ∈ fgIds now L ↔ ∃ x ∈ L, fgt now x = true ∧ x.id = y.id := by
      unfold fgIds
      simp only [List.mem_map, List.mem_filter]
      constructor
      · rintro ⟨x, ⟨h1, h2⟩, h3⟩; exact ⟨x, h1, h2, h3⟩
      · rintro ⟨x, h1, h2, h3⟩; exact ⟨x, ⟨h1, h2⟩, h3⟩
    by_cases hy : y.id ∈ fgIds now L
    · rw [if_pos hy]
      obtain ⟨x, hx, hf, he⟩ := hid.1 hy
      constructor
      · rintro ⟨h1, h2⟩
        have hx2 := (h.lk x).1 hx
        rw [he, h1] at hx2
        obtain rfl : y = x := by simpa using hx2
        simp [rF, hm, hf] at h2
      · intro h1; cases h1
    · rw [if_neg hy]
      constructor
      · exact fun h1 => h1.1
      · intro h1
        refine ⟨h1, ?_⟩
        cases hf : fgt now y with
        | false => simp [rF, hf]
        | true => exact absurd (hid.2 ⟨y, (h.lk y).2 h1, hf, rfl⟩) hy
/-- what holds of a history that was played, with the rows of the reference -/
structure PInv (n : Nat) (s : Hi) (L : List HEnt) : Prop where
  ord : Ord s L
  cut : 0 ≤ s.cut ∧ s.cut ≤ 105190559
  len : L.length ≤ n
  chk : ∀ x ∈ L, x.check = 0
theorem PInv.mlen {n : Nat} (h : PInv n s L) : s.M.length ≤ n := by have := h.ord.len; have := h.len; omega
theorem PInv.start : PInv 0 ⟨[], 0⟩ [] := ⟨Ord.nil, by simp, by simp, by simp⟩
theorem addS_cut (x : HEnt) : (s.addS x).cut = s.cut := by unfold Hi.addS; split <;> rfl
theorem goneS_cut (a : Vec 32) : (s.goneS a).cut = s.cut := by
  unfold Hi.goneS
  split
  · rfl
  · split <;> rfl
theorem PInv.add {n : Nat} (h : PInv n s L) (x : HEnt) (hn : n < 1000000) : PInv (n + 1) (s.addS x) (rAddL L x) := by
  have hl := h.len
  have hm := h.mlen
  refine ⟨h.ord.add x (by omega), by rw [addS_cut]; exact h.cut, ?_, ?_⟩
  · unfold rAddL
    split
    · simp [insH]; omega
    · omega
  · intro y hy
    unfold rAddL at hy
    split at hy
    · rename_i he
      rcases insH_mem.1 hy with rfl | hy
      · unfold rAddE at he
        split at he
        · contradiction
        · rename_i h1; simpa using h1
      · exact h.chk y hy
    · exact h.chk y hy
theorem gone_check {x : HEnt} (h : x.check = 0) : x.gone.check = 0 := by
  unfold HEnt.check at h ⊢
  split at h
  · simp at h
  · rename_i h1
    rw [if_neg (by simpa [HEnt.gone] using h1), if_neg (by simp [HEnt.gone])]
theorem PInv.gone {n : Nat} (h : PInv n s L) (a : Vec 32) : PInv n (s.goneS a) (rGoneL L a) := by
  have hg : PInv n s (goneF a L) → True := fun _ => trivial
  refine ⟨h.ord.gone a, by rw [goneS_cut]; exact h.cut, ?_, ?_⟩
  · unfold rGoneL
    split
    · exact h.len
    · split
      · exact h.len
      · have := congrArg List.length (goneF_ids (a := a) L)
        simp only [List.length_map] at this
        rw [this]; exact h.len
  · intro y hy
    unfold rGoneL at hy
    split at hy
    · exact h.chk y hy
    · split at hy
      · exact h.chk y hy
      · rcases (goneF_mem (ss_nd h.ord.ss)).1 hy with ⟨h1, _⟩ | ⟨x, hx, _, rfl⟩
        · exact h.chk y h1
        · exact gone_check (h.chk x hx)
theorem isMin_iff {n : Int} : isMin n = true ↔ 0 ≤ n ∧ n ≤ 105190559 := by simp [isMin]
theorem fgS_cut_ok (h : 0 ≤ s.cut ∧ s.cut ≤ 105190559) (now : Int) : 0 ≤ (s.fgS now L).cut ∧ (s.fgS now L).cut ≤ 105190559 := by
  unfold Hi.fgS
  cases hm : isMin now with
  | false => exact h
  | true =>
    have := isMin_iff.1 hm
    simp only [if_true]
    split
    · omega
    · exact h
theorem PInv.forget {n : Nat} (h : PInv n s L) (now : Int) : PInv n (s.fgS now L) (rFRest now L) :=
  ⟨h.ord.forget now, fgS_cut_ok h.cut now, Nat.le_trans (rFRest_le now L) h.len, fun x hx => h.chk x (List.mem_filter.1 hx).1⟩
theorem PInv.mono {n m : Nat} (h : PInv n s L) (k : n ≤ m) : PInv m s L := ⟨h.ord, h.cut, Nat.le_trans h.len k, h.chk⟩
/-! operations -/
structure Op25 where
  kind : UInt8
  x : HEnt
def encO (o : Op25) : List Value := [ub o.kind] ++ encH o.x
instance {o : Op25} : CellOf (encO o) 0 (ub o.kind) := ⟨rfl⟩
instance {o : Op25} : PartOf (encO o) 1 36 (encH o.x) := PartOf.mk' (c1 := [ub o.kind]) (c3 := []) (by simp [encO]) rfl (Enc.len _)
instance {o : Op25} : PartOf (encO o) 1 32 (o.x.id.1.map ub) := PartOf.mk' (c1 := [ub o.kind]) rfl rfl (encV_len _)
instance {o : Op25} : CellOf (encO o) 33 (.int .i64 o.x.arr) := ⟨by simp [encO, encH, o.x.id.2]⟩
instance : Enc encO 37 := ⟨fun o => by simp [encO, encH, o.x.id.2], fun o u hu => by
  simp only [encO, List.mem_append, List.mem_cons, List.not_mem_nil, or_false] at hu
  rcases hu with rfl | hu
  · rfl
  · exact Enc.one _ u hu⟩
theorem fit_o {w : World} (n : Nat) (x : List Value) (hx : x.length = 37) (h : Fit Try.prog w n 44 x) : ∃ y, x = encO y := by
  obtain ⟨n', _, hf⟩ := fit_struct h Try.underlying44
  obtain ⟨a, r, rfl⟩ : ∃ a r, x = a :: r := by
    cases x with
    | nil => simp at hx
    | cons a r => exact ⟨a, r, rfl⟩
  have hr : r.length = 36 := by simpa using hx
  have f0 : Fit Try.prog w n' 5 (((a :: r).drop 0).take (Try.prog.cellsOf 5)) := hf 0 _ rfl
  have f1 : Fit Try.prog w n' 24 (((a :: r).drop 1).take (Try.prog.cellsOf 24)) := hf 1 _ rfl
  have c0 : Try.prog.cellsOf 5 = 1 := by kernel_rfl
  have c1 : Try.prog.cellsOf 24 = 36 := by kernel_rfl
  simp only [c0, c1] at f0 f1
  have e1 : ((a :: r).drop 1).take 36 = r := by simp [← hr]
  rw [e1] at f1
  simp only [List.drop_zero, List.take_succ_cons, List.take_zero] at f0
  obtain ⟨y, rfl⟩ := fit_x n' r hr f1
  obtain ⟨k, hk⟩ := fit_u8 f0 Try.underlying5
  simp only [List.cons.injEq, and_true] at hk
  subst hk
  exact ⟨⟨k, y⟩, rfl⟩
theorem argv_o {w : World} {v : Value} (h : ArgV Try.prog w 34 v) : ∃ ad cap ops, v = .slice ad ops.length cap ∧ ops.length ≤ cap ∧ cap ≤ maxLen ∧ KRow encO 37 (Kn.of w) v ops :=
  argv_slK h Try.underlying34 (by kernel_rfl) (by decide) fit_o
end Go.Proofs.Ytobhhnfckhbeeaa
