/-
  EveryArticleIsOffered: the arrivals as a list, the items and entries made of them; one minute, plainly.
-/
import Derived.Test.YtifghjeapfijkaaGreatDoorEvQ
import Derived.Test.YtifghjeapfijkaaGreatDoorFeed
import Derived.Test.YtifghjeapfijkaaGreatDoorHis4
import Derived.Test.YtifghjeapfijkaaGreatDoorArg
namespace Go.Proofs.YtifghjeapfijkaaGreatDoor
open Go.Eng Go.RowKit

/-- an arrival -/
structure Arv where
  g : UInt8
  w : UInt8
  l : UInt8
  snd : Bool
instance : Inhabited Arv := ⟨⟨0, 0, 0, false⟩⟩
def encArv (o : Arv) : List Value := [ub o.g, ub o.w, ub o.l, .bool o.snd]
instance {o : Arv} : CellOf (encArv o) 0 (ub o.g) := ⟨rfl⟩
instance {o : Arv} : CellOf (encArv o) 1 (ub o.w) := ⟨rfl⟩
instance {o : Arv} : CellOf (encArv o) 2 (ub o.l) := ⟨rfl⟩
instance {o : Arv} : CellOf (encArv o) 3 (.bool o.snd) := ⟨rfl⟩
instance : Enc encArv 4 := ⟨fun _ => rfl, fun o u hu => by
  simp only [encArv, List.mem_cons, List.not_mem_nil, or_false] at hu
  rcases hu with rfl | rfl | rfl | rfl <;> rfl⟩
theorem fit_byte {w : World} {n : Nat} {v : Value} (h : Fit Tryz.prog w n 5 [v]) : ∃ b : UInt8, v = ub b := by
  obtain ⟨b, hb⟩ := fit_u8 h Tryz.underlying5
  simp only [encB, List.cons.injEq, and_true] at hb
  exact ⟨b, hb⟩
theorem list4 {x : List Value} (h : x.length = 4) : ∃ a b c d, x = [a, b, c, d] := by
  match x, h with
  | [a, b, c, d], _ => exact ⟨a, b, c, d, rfl⟩
theorem fit_arv {w : World} (n : Nat) (x : List Value) (hx : x.length = 4) (h : Fit Tryz.prog w n 43 x) : ∃ y, x = encArv y := by
  obtain ⟨n', _, hf⟩ := fit_struct h Tryz.underlying43
  obtain ⟨a, b, c, d, rfl⟩ := list4 hx
  have f0 : Fit Tryz.prog w n' 5 (([a, b, c, d].drop 0).take (Tryz.prog.cellsOf 5)) := hf 0 _ rfl
  have f1 : Fit Tryz.prog w n' 5 (([a, b, c, d].drop 1).take (Tryz.prog.cellsOf 5)) := hf 1 _ rfl
  have f2 : Fit Tryz.prog w n' 5 (([a, b, c, d].drop 2).take (Tryz.prog.cellsOf 5)) := hf 2 _ rfl
  have f3 : Fit Tryz.prog w n' 4 (([a, b, c, d].drop 3).take (Tryz.prog.cellsOf 4)) := hf 3 _ rfl
  have c0 : Tryz.prog.cellsOf 5 = 1 := by kernel_rfl
  have c1 : Tryz.prog.cellsOf 4 = 1 := by kernel_rfl
  simp only [c0, c1] at f0 f1 f2 f3
  obtain ⟨g, rfl⟩ := fit_byte (v := a) f0
  obtain ⟨w', rfl⟩ := fit_byte (v := b) f1
  obtain ⟨l, rfl⟩ := fit_byte (v := c) f2
  obtain ⟨s, hs⟩ := fit_bool (show Fit Tryz.prog w n' 4 [d] from f3) Tryz.underlying4
  simp only [List.cons.injEq, and_true] at hs
  subst hs
  exact ⟨⟨g, w', l, s⟩, rfl⟩
theorem argv_arvs {w : World} {v : Value} (h : ArgV Tryz.prog w 22 v) : ∃ ad cap ops, v = .slice ad ops.length cap ∧ ops.length ≤ cap ∧ cap ≤ maxLen ∧ KRow encArv 4 (Kn.of w) v ops :=
  argv_slK h Tryz.underlying22 (by kernel_rfl) (by decide) fit_arv

def encK (k : Nat) : List Value := [.int .i64 (k : Nat)]
instance : Enc encK 1 := ⟨fun _ => rfl, fun o u hu => by simp [encK] at hu; subst hu; rfl⟩
instance {o : Nat} : CellOf (encK o) 0 (.int .i64 (o : Nat)) := ⟨rfl⟩
def zIt : It := ⟨⟨List.replicate 32 0, rfl⟩, none, 0, 0, 0, [], 0⟩
instance : ZeroEnc Tryz.prog 47 evIt zIt := ⟨Tryz.zr47⟩
instance : ZeroEnc Tryz.prog 3 (Value.int .i64) 0 := ⟨Tryz.zr3⟩

/-! the arrivals' items and entries -/
def grpF (l : List Arv) (i : Nat) : Nat := (l.getD i default).g.toNat % 3
def sndF (l : List Arv) (i : Nat) : Bool := (l.getD i default).snd
def laF (l : List Arv) (i : Nat) : Nat := (l.getD i default).l.toNat % 3
def paF (l : List Arv) (i : Nat) : Bool := !(sndF l i) && decide (grpF l i ≠ 2)
def itF (l : List Arv) (M : List Nat) (bg i : Nat) (frm : List UInt8) : It := ⟨idq i, some ⟨bg, grpF l i, none⟩, 1, 3 - grpF l i, 5, frm, ((M.getD i 0 : Nat) : Int)⟩
def itm (l : List Arv) (M : List Nat) (bg i : Nat) : It := itF l M bg i (if sndF l i then nbT else [])
def gNF (l : List Arv) (i : Nat) : List (List UInt8) := [[UInt8.ofNat (97 + grpF l i)]]
def hent (M : List Nat) (i : Nat) : Hist.HEnt := ⟨idq i, ((M.getD i 0 : Nat) : Int), ((M.getD i 0 : Nat) : Int), 0, false⟩
def grpL : List (List UInt8) := [[97], [98], [99]]
theorem grp_lt (l : List Arv) (i : Nat) : grpF l i < 3 := Nat.mod_lt _ (by decide)
theorem la_le (l : List Arv) (i : Nat) : laF l i ≤ 2 := by have := Nat.mod_lt (l.getD i default).l.toNat (show 0 < 3 by decide); unfold laF; omega
theorem sel_0 : sel [[97]] = true := by decide +kernel
theorem sel_1 : sel [[98]] = true := by decide +kernel
theorem sel_2 : sel [[99]] = false := by decide +kernel
theorem rsn_itm (l : List Arv) (M : List Nat) (bg i : Nat) : rsn (itm l M bg i) (gNF l i) = 0 ↔ paF l i = true := by
  unfold rsn itm itF gNF paF
  have h := grp_lt l i
  generalize grpF l i = g at h
  cases sndF l i with
  | true => simp
  | false =>
    match g, h with
    | 0, _ => simp [show UInt8.ofNat 97 = 97 from rfl, sel_0]
    | 1, _ => simp [show UInt8.ofNat 98 = 98 from rfl, sel_1]
    | 2, _ => simp [show UInt8.ofNat 99 = 99 from rfl, sel_2]
theorem itm_ok {K : Kn} {bg : Nat} (h : KRow encS 1 K (.slice (some ⟨bg, 0, none⟩) 3 3) grpL) (l : List Arv) (M : List Nat) (i : Nat) : ItOk K (itm l M bg i) (gNF l i) := by
  have hg := grp_lt l i
  have h1 := h.part (i := grpF l i) (j := grpF l i + 1) (by omega) (by omega)
  unfold ItOk It.gv itm itF gNF
  simp only
  generalize grpF l i = g at hg h1
  rw [subAd, if_neg (by omega), Option.map_some, add_at, show g + 1 - g = 1 by omega] at h1
  simp only [Nat.zero_add, Nat.mul_one] at h1
  have e : (grpL.drop g).take 1 = [[UInt8.ofNat (97 + g)]] := by
    match g, hg with
    | 0, _ => rfl
    | 1, _ => rfl
    | 2, _ => rfl
  rw [e] at h1
  exact h1
/-! history -/
open Hist in
theorem ord_ex {s : Hist.Hi} (h : Hist.HOk s) : ∃ L, Hist.Ord s L := by
  have hp := List.mergeSort_perm (s.M.map (·.2)) (fun x y => !(Hist.ltH y x))
  have hs : ((s.M.map (·.2)).mergeSort (fun x y => !(Hist.ltH y x))).Pairwise (fun x y => Hist.ltH y x = false) := by
    have := List.pairwise_mergeSort (le := fun x y => !(Hist.ltH y x)) (fun a b c h1 h2 => by
      simp only [Bool.not_eq_true'] at h1 h2 ⊢
      exact Hist.ltH_swo.ntrans _ _ _ h2 h1) (fun a b => by
      cases hab : Hist.ltH b a with
      | false => simp
      | true => simp [asym Hist.ltH_swo hab]) (s.M.map (·.2))
    exact this.imp fun h => by simpa using h
  refine ⟨_, h, Hist.ss_of_sorted hs ?_, fun x => hp.mem_iff⟩
  rw [(hp.map Hist.HEnt.id).nodup_iff]
  exact Hist.ids_nd h.nd h.key
def hisM (M : List Nat) (os : List Nat) : Hist.HMap := os.map fun k => (idq k, hent M k)
def itmM (l : List Arv) (M : List Nat) (bg : Nat) (os : List Nat) : List (Vec 32 × It) := os.map fun k => (idq k, itm l M bg k)
theorem keys_map {α : Type} (os : List Nat) (f : Nat → α) : (os.map fun k => (idq k, f k)).map (·.1) = os.map idq := by rw [List.map_map]; rfl
theorem idq_nodup {os : List Nat} (h : os.Nodup) (hl : ∀ k ∈ os, k < 40) : (os.map idq).Nodup := by
  rw [List.Nodup, List.pairwise_map]
  exact (List.Pairwise.and_mem.1 h).imp fun {a b} ⟨ha, hb, hne⟩ e => hne (idq_inj (hl a ha) (hl b hb) e)
theorem idq_mem {os : List Nat} (hl : ∀ k ∈ os, k < 40) {k : Nat} (hk : k < 40) : idq k ∈ os.map idq ↔ k ∈ os := by
  constructor
  · intro h
    obtain ⟨j, hj, e⟩ := List.mem_map.1 h
    rw [← idq_inj (hl j hj) hk e]; exact hj
  · exact fun h => List.mem_map_of_mem h
theorem lk_map {α : Type} (f : Nat → α) {os : List Nat} (hn : os.Nodup) (hl : ∀ k ∈ os, k < 40) {k : Nat} (hk : k ∈ os) : lkM (os.map fun k => (idq k, f k)) (idq k) = some (f k) :=
  lkM_of_mem (by rw [keys_map]; exact idq_nodup hn hl) (List.mem_map.2 ⟨k, hk, rfl⟩)
theorem lk_none {α : Type} (f : Nat → α) {os : List Nat} (hl : ∀ k ∈ os, k < 40) {k : Nat} (hk : k < 40) (hn : k ∉ os) : lkM (os.map fun k => (idq k, f k)) (idq k) = none := by
  rw [lkM_none, keys_map, idq_mem hl hk]; exact hn
theorem put_map {α : Type} (f : Nat → α) {os : List Nat} (hl : ∀ k ∈ os, k < 40) {k : Nat} (hk : k < 40) (hn : k ∉ os) : putM (idq k) (f k) (os.map fun k => (idq k, f k)) = (os ++ [k]).map fun k => (idq k, f k) := by
  rw [putM_new (by rw [keys_map, idq_mem hl hk]; exact hn), List.map_append]; rfl
theorem os_len {os : List Nat} {n : Nat} (h : os.Nodup) (hl : ∀ k ∈ os, k < n) : os.length ≤ n := by
  have := nodup_len h (fun x hx => List.mem_range.2 (hl x hx))
  simpa using this
theorem his_ok {M os : List Nat} {c : Int} (h : os.Nodup) (hl : ∀ k ∈ os, k < 30) : Hist.HOk ⟨hisM M os, c⟩ := ⟨by
  show ((os.map _).map _).Nodup
  rw [keys_map]; exact idq_nodup h fun k hk => by have := hl k hk; omega, fun q hq => by
  obtain ⟨k, _, rfl⟩ := List.mem_map.1 hq; rfl, by
  have := os_len h hl
  show (os.map _).length ≤ _
  rw [List.length_map]; omega⟩
theorem his_add {M os : List Nat} {c : Int} {k : Nat} (h : os.Nodup) (hl : ∀ k ∈ os, k < 30) (hk : k < 30) (hn : k ∉ os) (hm : M.getD k 0 ≤ 1000000) : Hist.Hi.addE ⟨hisM M os, c⟩ (hent M k) = 0 ∧ Hist.Hi.addS ⟨hisM M os, c⟩ (hent M k) = ⟨hisM M (os ++ [k]), c⟩ := by
  have hl' : ∀ k ∈ os, k < 40 := fun k hk => by have := hl k hk; omega
  have hmin : Hist.isMin ((M.getD k 0 : Nat) : Int) = true := by
    simp only [Hist.isMin, Bool.and_eq_true, decide_eq_true_eq]; omega
  have hc : (hent M k).check = 0 := by
    unfold Hist.HEnt.check hent
    simp only
    rw [if_neg (by rw [hmin]; simp), if_neg (by simp)]
  have hE : Hist.Hi.addE ⟨hisM M os, c⟩ (hent M k) = 0 := by
    unfold Hist.Hi.addE
    rw [if_neg (by rw [hc]; simp), if_neg, if_neg]
    · have := os_len h hl
      show ¬ (1048576 : Int) ≤ ((os.map _).length : Nat)
      rw [List.length_map]; omega
    · show ¬ (lkM (hisM M os) (idq k)).isSome = true
      rw [hisM, lk_none (hent M) hl' (by omega) hn]; simp
  refine ⟨hE, ?_⟩
  unfold Hist.Hi.addS
  rw [if_pos hE]
  show (⟨putM (idq k) (hent M k) (hisM M os), c⟩ : Hist.Hi) = _
  rw [hisM, put_map (hent M) hl' (by omega) hn]; rfl
/-- what the scan is given -/
def kkF (x : Hist.HEnt) : Nat := 40 - (x.id.1.getD 0 0).toNat
def keepF (l : List Arv) (fs : List Nat) (x : Hist.HEnt) : Bool := paF l (kkF x) && !(decide (fs.getD (kkF x) 0 = 1 + laF l (kkF x)))
theorem kk_hent {M : List Nat} {k : Nat} (hk : k < 40) : kkF (hent M k) = k := by
  show 40 - (UInt8.ofNat (40 - k)).toNat = k
  rw [UInt8.toNat_ofNat']; omega
def restS (l : List Arv) (fs : List Nat) (r : List (Vec 32)) (x : Hist.HEnt) : List (Vec 32) := if keepF l fs x then r ++ [x.id] else r
theorem rest_fold (l : List Arv) (fs : List Nat) : ∀ (L : List Hist.HEnt) (r : List (Vec 32)), L.foldl (restS l fs) r = r ++ (L.filter (keepF l fs)).map Hist.HEnt.id
  | [], r => by simp
  | x :: L, r => by
    rw [List.foldl_cons, rest_fold l fs L, restS]
    by_cases h : keepF l fs x = true
    · rw [if_pos h, List.filter_cons_of_pos h]; simp
    · rw [if_neg h, List.filter_cons_of_neg h]
theorem rest_le (l : List Arv) (fs : List Nat) (L : List Hist.HEnt) : (L.foldl (restS l fs) []).length ≤ L.length := by
  rw [rest_fold, List.nil_append, List.length_map]; exact List.length_filter_le _ _
theorem rest_mem {l : List Arv} {M os fs : List Nat} {c : Int} {L : List Hist.HEnt} (ho : Hist.Ord ⟨hisM M os, c⟩ L) (hl : ∀ k ∈ os, k < fs.length) (h40 : fs.length ≤ 30) (a : Vec 32) : a ∈ L.foldl (restS l fs) [] ↔ ∃ k, k ∈ os ∧ paF l k = true ∧ fs[k]? ≠ some (1 + laF l k) ∧ a = idq k := by
  have hg : ∀ k, k < fs.length → (keepF l fs (hent M k) = true ↔ paF l k = true ∧ fs[k]? ≠ some (1 + laF l k)) := fun k hk => by
    unfold keepF
    rw [kk_hent (by omega), Bool.and_eq_true, Bool.not_eq_true', decide_eq_false_iff_not, List.getD_eq_getElem?_getD, List.getElem?_eq_getElem hk]
    simp
  rw [rest_fold, List.nil_append]
  constructor
  · intro h
    obtain ⟨x, hx, rfl⟩ := List.mem_map.1 h
    obtain ⟨h1, h2⟩ := List.mem_filter.1 hx
    rw [ho.mem] at h1
    obtain ⟨q, hq, rfl⟩ := List.mem_map.1 h1
    obtain ⟨k, hk, rfl⟩ := List.mem_map.1 hq
    have := (hg k (hl k hk)).1 h2
    exact ⟨k, hk, this.1, this.2, rfl⟩
  · rintro ⟨k, hk, h1, h2, rfl⟩
    exact List.mem_map.2 ⟨hent M k, List.mem_filter.2 ⟨(ho.mem _).2 (List.mem_map.2 ⟨_, List.mem_map.2 ⟨k, hk, rfl⟩, rfl⟩), (hg k (hl k hk)).2 ⟨h1, h2⟩⟩, rfl⟩
/-! one minute after another -/
def T0 (at_ : Nat) : Nat := max (at_ + 20) 64
def topN (at_ now : Nat) : Int := ((max (at_ + 19) (now + 4) : Nat) : Int)
theorem psi_next {n : Nat} {c : Int} {l : List Arv} {os : List Nat} {s s' : Bk} {fs fs' : List Nat} {at_ now : Nat} (hn : n ≤ 30) (hps : T0 at_ ≤ now → psi (laF l) (paF l) (now : Int) s fs ≤ 460 - (now - T0 at_)) (hev : EvQ n c (laF l) (paF l) os (topN at_ (now + 1)) s' fs') (h : T0 at_ ≤ now → psi (laF l) (paF l) ((now : Int) + 1) s' fs' ≤ psi (laF l) (paF l) (now : Int) s fs - 1) : T0 at_ ≤ now + 1 → psi (laF l) (paF l) ((now + 1 : Nat) : Int) s' fs' ≤ 460 - (now + 1 - T0 at_) := fun hT => by
  push_cast
  by_cases h0 : T0 at_ ≤ now
  · have h1 := hps h0
    have h2 := h h0
    omega
  · have := psi_le (now := (now : Int) + 1) hev hn (la_le l) (by unfold topN; unfold T0 at hT; push_cast; omega)
    omega
end Go.Proofs.YtifghjeapfijkaaGreatDoor
