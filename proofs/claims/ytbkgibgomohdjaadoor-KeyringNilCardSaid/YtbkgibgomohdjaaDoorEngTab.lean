/-
  Long drawn regions: a table of what each operation sets, looks at and waits for, checked once; every step is then checked against the table alone.
-/
import Derived.Test.YtbkgibgomohdjaaDoorEngDraw
namespace Go.Eng
open Go.RowKit

def memB (x : Nat) : List Nat → Bool
  | [] => false
  | y :: l => (Nat.beq x y) || memB x l
theorem memB_iff {x : Nat} : ∀ {l : List Nat}, memB x l = true ↔ x ∈ l
  | [] => by simp [memB]
  | y :: l => by simp [memB, memB_iff (l := l), Nat.beq_eq]
abbrev Tab := List (Option Nat × List Nat × List Nat)
def tabGo (ops : Array Oper) : List Oper → Tab → Bool
  | [], [] => true
  | o :: l, (d, ls, ws) :: tb => (o.dst == d) && (o.looksAt ops).all (fun t => memB t ls) && o.after.toList.all (fun e => !Region.binds .any e || memB e.on ws) && ws.all (fun k => o.after.toList.any fun e => Region.binds .any e && Nat.beq e.on k) && tabGo ops l tb
  | [], _ :: _ => false
  | _ :: _, [] => false
structure Row3 (ops : Array Oper) (o : Oper) (d : Option Nat) (ls ws : List Nat) : Prop where
  dst : o.dst = d
  looks : ∀ t ∈ o.looksAt ops, t ∈ ls
  waits : ∀ e ∈ o.after, Region.binds .any e = true → e.on ∈ ws
  back : ∀ k ∈ ws, ∃ e ∈ o.after, Region.binds .any e = true ∧ e.on = k
theorem tabGo_len {ops : Array Oper} : ∀ {l : List Oper} {tb : Tab}, tabGo ops l tb = true → tb.length = l.length
  | [], [], _ => rfl
  | o :: l, (d, ls, ws) :: tb, h => by
    simp only [tabGo, Bool.and_eq_true] at h
    simp [tabGo_len h.2]
theorem tabGo_get {ops : Array Oper} : ∀ {l : List Oper} {tb : Tab}, tabGo ops l tb = true → ∀ {i : Nat} {o : Oper}, l[i]? = some o → ∃ d ls ws, tb[i]? = some (d, ls, ws) ∧ Row3 ops o d ls ws
  | [], [], _, i, o, h => by simp at h
  | o :: l, (d, ls, ws) :: tb, h, 0, o', h' => by
    simp only [tabGo, Bool.and_eq_true, List.all_eq_true] at h
    obtain ⟨⟨⟨⟨h1, h2⟩, h3⟩, h4⟩, _⟩ := h
    simp at h'; subst h'
    refine ⟨d, ls, ws, rfl, by simpa using h1, fun t ht => memB_iff.1 (h2 t ht), fun e he hb => ?_, fun k hk => ?_⟩
    · have := h3 e (by simpa using he)
      rw [hb] at this
      exact memB_iff.1 (by simpa using this)
    · obtain ⟨e, he, hb⟩ := List.any_eq_true.1 (h4 k hk)
      rw [Bool.and_eq_true, Nat.beq_eq] at hb
      exact ⟨e, by simpa using he, hb.1, hb.2⟩
  | o :: l, (d, ls, ws) :: tb, h, i + 1, o', h' => by
    simp only [tabGo, Bool.and_eq_true] at h
    simpa using tabGo_get h.2 (by simpa using h')
def rowOK (i d : Nat) : Nat → Tab → Bool
  | _, [] => true
  | j, (dj, ls, ws) :: tb => (Nat.beq j i || ((match dj with | some x => !Nat.beq x d | none => true) && (!memB d ls || memB i ws))) && rowOK i d (j + 1) tb
theorem rowOK_get {i d : Nat} : ∀ {tb : Tab} {j k : Nat} {dj : Option Nat} {ls ws : List Nat}, rowOK i d j tb = true → tb[k]? = some (dj, ls, ws) → j + k ≠ i → dj ≠ some d ∧ (d ∈ ls → i ∈ ws)
  | [], j, k, dj, ls, ws, _, h, _ => by simp at h
  | (d0, l0, w0) :: tb, j, 0, dj, ls, ws, h, h', hn => by
    simp only [rowOK, Bool.and_eq_true, Bool.or_eq_true] at h
    simp only [List.getElem?_cons_zero, Option.some.injEq, Prod.mk.injEq] at h'
    obtain ⟨rfl, rfl, rfl⟩ := h'
    rcases h.1 with h1 | ⟨h1, h2⟩
    · exact absurd (Nat.eq_of_beq_eq_true h1) (by omega)
    · refine ⟨fun e => ?_, fun hd => ?_⟩
      · subst e
        simp at h1
      · rcases h2 with h2 | h2
        · rw [memB_iff.2 hd] at h2; cases h2
        · exact memB_iff.1 h2
  | (d0, l0, w0) :: tb, j, k + 1, dj, ls, ws, h, h', hn => by
    simp only [rowOK, Bool.and_eq_true] at h
    exact rowOK_get h.2 (by simpa using h') (by omega)
def tabSsa (full : Tab) : Nat → Tab → Bool
  | _, [] => true
  | i, (some d, _, _) :: tb => rowOK i d 0 full && tabSsa full (i + 1) tb
  | i, (none, _, _) :: tb => tabSsa full (i + 1) tb
theorem tabSsa_get {full : Tab} : ∀ {tb : Tab} {i k d : Nat} {ls ws : List Nat}, tabSsa full i tb = true → tb[k]? = some (some d, ls, ws) → rowOK (i + k) d 0 full = true
  | [], i, k, d, ls, ws, _, h => by simp at h
  | (some d0, l0, w0) :: tb, i, 0, d, ls, ws, h, h' => by
    simp only [tabSsa, Bool.and_eq_true] at h
    simp at h'
    rw [← h'.1]; exact h.1
  | (none, l0, w0) :: tb, i, 0, d, ls, ws, h, h' => by simp at h'
  | (some d0, l0, w0) :: tb, i, k + 1, d, ls, ws, h, h' => by
    simp only [tabSsa, Bool.and_eq_true] at h
    have := tabSsa_get h.2 (by simpa using h')
    rwa [show i + 1 + k = i + (k + 1) by omega] at this
  | (none, l0, w0) :: tb, i, k + 1, d, ls, ws, h, h' => by
    simp only [tabSsa] at h
    have := tabSsa_get h (by simpa using h')
    rwa [show i + 1 + k = i + (k + 1) by omega] at this
structure Good (l : List Oper) (tb : Tab) : Prop where
  make ::
  go : tabGo l.toArray l tb = true
  ssa : tabSsa tb 0 tb = true
  sel : Region.noSelect l.toArray = true
def wsB (tb : Tab) (dn : List Nat) (i : Nat) : Bool := match tb[i]? with | some (_, _, ws) => ws.all (fun k => memB k dn) | none => false
def baseB (tb : Tab) (dn : List Nat) (i : Nat) : Bool := !memB i dn && wsB tb dn i && dn.all (fun k => Nat.blt k tb.length) && Nat.blt dn.length tb.length
section
variable {l : List Oper} {tb : Tab} {h : List Nat × List Nat} {dn : List Nat} {i : Nat}
theorem mk_size {n : Nat} {dn : List Nat} : (mk n dn).size = n := by
  have key : ∀ (dn : List Nat) (a : Array Bool), (dn.foldl (fun a i => a.setIfInBounds i true) a).size = a.size := by
    intro dn
    induction dn with
    | nil => intro a; rfl
    | cons x dn ih => intro a; rw [List.foldl_cons, ih]; simp
  rw [mk, key]; simp
theorem mk_t {n : Nat} {dn : List Nat} {j : Nat} (hj : j < n) : (mk n dn).getD j true = decide (j ∈ dn) := by
  have h1 : (mk n dn).getD j true = (mk n dn).getD j false := by
    have : j < (mk n dn).size := by rw [mk_size]; exact hj
    simp [Array.getD, this]
  rw [h1]
  by_cases hm : j ∈ dn
  · rw [mk_in hm hj]; simp [hm]
  · cases hc : (mk n dn).getD j false with
    | false => simp [hm]
    | true => exact absurd (mk_get _ _ hc) hm
theorem mk_f {n : Nat} {dn : List Nat} {j : Nat} (hj : j ∈ dn) (hb : ∀ k ∈ dn, k < n) : (mk n dn).getD j false = true := mk_in hj (hb j hj)
theorem Good.base (hg : Good l tb) (hc : baseB tb dn i = true) : i ∉ dn ∧ i < l.length ∧ (∀ k ∈ dn, k < l.length) ∧ dn.length < l.length ∧ ∃ o d ls ws, l[i]? = some o ∧ tb[i]? = some (d, ls, ws) ∧ Row3 l.toArray o d ls ws ∧ ∀ k ∈ ws, k ∈ dn := by
  simp only [baseB, Bool.and_eq_true, List.all_eq_true] at hc
  obtain ⟨⟨⟨h1, h2⟩, h3⟩, h4⟩ := hc
  have hl := tabGo_len hg.go
  have hi : i < l.length := by
    unfold wsB at h2
    split at h2
    · rename_i hh; have := (List.getElem?_eq_some_iff.1 hh).1; omega
    · cases h2
  obtain ⟨d, ls, ws, ht, hr⟩ := tabGo_get hg.go (List.getElem?_eq_getElem hi)
  unfold wsB at h2
  rw [ht] at h2
  refine ⟨(fun hm => by rw [memB_iff.2 hm] at h1; cases h1), hi, (fun k hk => by have := h3 k hk; rw [Nat.blt_eq] at this; omega), (by rw [Nat.blt_eq] at h4; omega), _, d, ls, ws, List.getElem?_eq_getElem hi, ht, hr, fun k hk => memB_iff.1 (List.all_eq_true.1 h2 k hk)⟩
theorem Good.ready (hg : Good l tb) (hc : baseB tb dn i = true) : (Region.ready .any l.toArray (mk l.length dn)).contains i = true := by
  obtain ⟨h1, h2, h3, h4, o, d, ls, ws, ho, ht, hr, hw⟩ := hg.base hc
  simp only [List.contains_iff_mem, Region.ready, List.mem_filter, List.mem_range, Bool.and_eq_true]
  refine ⟨by simpa using h2, by rw [mk_t h2]; simpa using h1, ?_⟩
  have ho' : l.toArray[i]? = some o := by simpa using ho
  rw [ho']
  simp only [Option.map_some, Option.getD_some]
  refine Array.all_eq_true_iff_forall_mem.2 fun e he => ?_
  cases hb : Region.binds .any e with
  | false => rfl
  | true => rw [mk_f (hw _ (hr.waits e he hb)) h3]; rfl
theorem Good.free (hg : Good l tb) (hc : baseB tb dn i = true) : Region.free .any l.toArray (mk l.length dn) i = true := by
  obtain ⟨h1, h2, h3, h4, o, d, ls, ws, ho, ht, hr, hw⟩ := hg.base hc
  have ho' : l.toArray[i]? = some o := by simpa using ho
  unfold Region.free
  rw [ho']
  refine List.all_eq_true.2 fun j hj => ?_
  have hj : j < l.length := by simpa using hj
  by_cases hji : j = i
  · simp [hji]
  by_cases hjd : j ∈ dn
  · rw [mk_t hj]; simp [hjd]
  obtain ⟨dj, lj, wj, htj, hrj⟩ := tabGo_get hg.go (List.getElem?_eq_getElem hj)
  have hoj : l.toArray[j]? = some l[j] := by simp [hj]
  rw [hoj]
  by_cases hwi : i ∈ wj
  · obtain ⟨e, he, hb, hon⟩ := hrj.back i hwi
    have : (l[j].after.any fun e => Region.binds .any e && e.on == i) = true := Array.any_eq_true'.2 ⟨e, he, by simp [hb, hon]⟩
    simp [this]
  · have hap : o.apart l.toArray l[j] = true := by
      unfold Oper.apart
      rw [Bool.and_eq_true]
      constructor
      · cases hd : o.dst with
        | none => rfl
        | some x =>
          have e1 : d = some x := by rw [← hr.dst, hd]
          subst e1
          have h5 := rowOK_get (tabSsa_get hg.ssa ht) htj (by omega)
          rw [Nat.zero_add] at h5
          have hno : x ∉ l[j].looksAt l.toArray := fun hx => hwi (h5.2 (hrj.looks x hx))
          have hne : l[j].dst ≠ some x := by rw [hrj.dst]; exact h5.1
          simp [hno, hne]
      · cases hd : l[j].dst with
        | none => rfl
        | some x =>
          have e1 : dj = some x := by rw [← hrj.dst, hd]
          subst e1
          have h5 := rowOK_get (tabSsa_get hg.ssa htj) ht (by omega)
          rw [Nat.zero_add] at h5
          have hno : x ∉ o.looksAt l.toArray := fun hx => hjd (hw j (h5.2 (hr.looks x hx)))
          simp [hno]
    simp [hap]
def tpureB (tb : Tab) (h : List Nat × List Nat) (dn : List Nat) (i : Nat) : Bool := memB i h.2 && baseB tb dn i
theorem Good.pure (hg : Good l tb) (hc : tpureB tb h dn i = true) : pureB l h dn i = true := by
  rw [tpureB, Bool.and_eq_true] at hc
  have hb := hg.base hc.2
  simp only [pureB, Bool.and_eq_true]
  exact ⟨⟨⟨⟨by simpa using memB_iff.1 hc.1, hg.sel⟩, hg.free hc.2⟩, hg.ready hc.2⟩, by rw [Nat.blt_eq]; exact hb.2.2.2.1⟩
def ttakeB (tb : Tab) (h : List Nat × List Nat) (dn : List Nat) (i : Nat) : Bool := memB i h.1 && baseB tb dn i && dn.all (fun k => wsB tb dn k)
theorem Good.take (hg : Good l tb) (hc : ttakeB tb h dn i = true) : takeB l h dn i = true := by
  rw [ttakeB, Bool.and_eq_true, Bool.and_eq_true] at hc
  have hb := hg.base hc.1.2
  simp only [takeB, Bool.and_eq_true]
  refine ⟨⟨?_, List.all_eq_true.2 fun k hk => by rw [Nat.blt_eq]; exact hb.2.2.1 k hk⟩, ⟨⟨⟨by simpa using memB_iff.1 hc.1.1, hg.sel⟩, hg.free hc.1.2⟩, hg.ready hc.1.2⟩, by rw [Nat.blt_eq]; exact hb.2.2.2.1⟩
  refine List.all_eq_true.2 fun k hk => ?_
  have hkl := hb.2.2.1 k hk
  obtain ⟨d, ls, ws, ht, hr⟩ := tabGo_get hg.go (List.getElem?_eq_getElem hkl)
  have hw := List.all_eq_true.1 hc.2 k hk
  unfold wsB at hw
  rw [ht] at hw
  rw [List.getElem?_eq_getElem hkl]
  refine Array.all_eq_true_iff_forall_mem.2 fun e he => ?_
  cases hbi : Region.binds .any e with
  | false => rfl
  | true =>
    have := memB_iff.1 (List.all_eq_true.1 hw e.on (hr.waits e he hbi))
    simpa using this
def restB (dn : List Nat) (i : Nat) : Nat → Tab → Bool
  | _, [] => true
  | j, (_, _, ws) :: tb => (Nat.beq j i || memB j dn || ws.any (fun k => !memB k dn)) && restB dn i (j + 1) tb
theorem restB_get : ∀ {tb : Tab} {j k : Nat} {d : Option Nat} {ls ws : List Nat}, restB dn i j tb = true → tb[k]? = some (d, ls, ws) → j + k ≠ i → j + k ∉ dn → ∃ x ∈ ws, x ∉ dn
  | [], j, k, d, ls, ws, _, h', _, _ => by simp at h'
  | (d0, l0, w0) :: tb, j, 0, d, ls, ws, h, h', hn, hm => by
    simp only [restB, Bool.and_eq_true, Bool.or_eq_true] at h
    simp only [List.getElem?_cons_zero, Option.some.injEq, Prod.mk.injEq] at h'
    obtain ⟨rfl, rfl, rfl⟩ := h'
    rcases h.1 with (h1 | h1) | h1
    · exact absurd (Nat.eq_of_beq_eq_true h1) (by omega)
    · exact absurd (memB_iff.1 h1) hm
    · obtain ⟨x, hx, hb⟩ := List.any_eq_true.1 h1
      exact ⟨x, hx, fun hd => by rw [memB_iff.2 hd] at hb; cases hb⟩
  | (d0, l0, w0) :: tb, j, k + 1, d, ls, ws, h, h', hn, hm => by
    simp only [restB, Bool.and_eq_true] at h
    exact restB_get h.2 (by simpa using h') (by omega) (by rwa [show j + 1 + k = j + (k + 1) by omega])
theorem filter_one {p : Nat → Bool} {n i : Nat} (hi : i < n) (hp : p i = true) (hq : ∀ j, j < n → j ≠ i → p j = false) : (List.range n).filter p = [i] := by
  induction n with
  | zero => omega
  | succ n ih =>
    rw [List.range_succ, List.filter_append]
    by_cases hin : i = n
    · subst hin
      have : (List.range i).filter p = [] := List.filter_eq_nil_iff.2 fun x hx => by
        have := List.mem_range.1 hx
        rw [hq x (by omega) (by omega)]; decide
      rw [this]; simp [hp]
    · rw [ih (by omega) (fun j h1 h2 => hq j (by omega) h2)]
      simp [hq n (by omega) (fun e => hin e.symm)]
theorem Good.act (hg : Good l tb) (hc : (baseB tb dn i && restB dn i 0 tb) = true) : readyIs l dn [i] = true := by
  rw [Bool.and_eq_true] at hc
  have hb := hg.base hc.1
  have hrd := hg.ready hc.1
  rw [readyIs, Bool.and_eq_true]
  refine ⟨?_, by rw [Nat.blt_eq]; exact hb.2.2.2.1⟩
  rw [beq_iff_eq]
  simp only [List.contains_iff_mem, Region.ready, List.mem_filter, List.mem_range] at hrd
  refine filter_one hrd.1 hrd.2 fun j hj hji => ?_
  have hj : j < l.length := by simpa using hj
  by_cases hjd : j ∈ dn
  · rw [mk_t hj]; simp [hjd]
  obtain ⟨dj, lj, wj, htj, hrj⟩ := tabGo_get hg.go (List.getElem?_eq_getElem hj)
  obtain ⟨x, hx, hxd⟩ := restB_get hc.2 htj (by omega) (by rwa [Nat.zero_add])
  obtain ⟨e, he, hbi, hon⟩ := hrj.back x hx
  have hoj : l.toArray[j]? = some l[j] := by simp [hj]
  rw [hoj, Bool.and_eq_false_iff]
  right
  simp only [Option.map_some, Option.getD_some]
  rw [Bool.eq_false_iff]
  intro hall
  have := Array.all_eq_true_iff_forall_mem.1 hall e he
  rw [hbi, hon] at this
  have h6 : (mk l.length dn).getD x false = true := by simpa using this
  exact hxd (mk_get _ _ h6)
end
theorem C.drawnT {P : Program} {Q : Post} {n : Nn} {g : Env} {w : World} {l : List Oper} {id : Nat} (tb : Tab) (S : World → Prop) (h : List Nat × List Nat) (hm : P.follows .mixedOrders = true) (h1 : tabGo l.toArray l tb = true) (h2 : tabSsa tb 0 tb = true) (h3 : Region.noSelect l.toArray = true) (k : Good l tb → D P l Q S h [] n g w.drew) (hn : l.all notDefer = true := by rfl) : C P (.region id l.toArray true) Q n g w :=
  C.drawn S h hm (k ⟨h1, h2, h3⟩) hn
end Go.Eng
