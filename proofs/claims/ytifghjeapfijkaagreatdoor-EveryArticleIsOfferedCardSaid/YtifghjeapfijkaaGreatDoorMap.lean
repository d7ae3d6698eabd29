/-
  Maps whose keys are arrays or structs: as lists of pairs in the order of their making (over any program).
-/
import Derived.Test.YtifghjeapfijkaaGreatDoorRet
import Derived.Maps.RangeRun
namespace Go.Eng
open Go.RowKit

section keys
variable {P : Program}
theorem run_forIn_yield {α : Type} {w : World} : ∀ (l : List α) (f : α → PUnit → Sem (ForInStep PUnit)), (∀ i ∈ l, (f i ⟨⟩).run P w = .ok (.yield ⟨⟩) w) → (forIn l PUnit.unit f).run P w = .ok ⟨⟩ w
  | [], f, _ => by simp
  | i :: l, f, h => by
    have h1 := h i (by simp)
    have h2 := run_forIn_yield l f (fun j hj => h j (by simp [hj]))
    simp only [List.forIn_cons, Sem.run_bind, h1, Result.andThen_ok]
    exact h2
theorem fits_rep {le : List Leaf} : ∀ (j : Nat) (xs : List Value) (i : Nat), fitsAll (List.replicate j le).flatten xs = true → i < j → fitsAll le ((xs.drop (i * le.length)).take le.length) = true ∧ i * le.length + le.length ≤ xs.length
  | 0, _, _, _, h => by omega
  | j + 1, xs, i, h, hi => by
    have hlen := fitsAll_len h
    rw [List.replicate_succ, List.flatten_cons] at h
    obtain ⟨h1, h2⟩ := fitsAll_app h
    have hl1 := fitsAll_len h1
    cases i with
    | zero =>
      refine ⟨by simpa using h1, ?_⟩
      simp at hl1 ⊢; omega
    | succ i =>
      obtain ⟨h3, h4⟩ := fits_rep j (xs.drop le.length) i h2 (by omega)
      rw [List.drop_drop] at h3
      have e : le.length + i * le.length = (i + 1) * le.length := by rw [Nat.add_mul]; omega
      rw [e] at h3
      refine ⟨h3, ?_⟩
      simp at h4 hl1
      rw [← e]; omega
theorem fits_fields {lv : TypeId → Option (List Leaf)} {xs : List Value} : ∀ (fs : List Field) (off : Nat) (l : List Leaf), fieldLeaves P lv fs off = some l → fitsAll l (xs.drop off) = true → ∀ f ∈ fs, ∃ le, lv f.type = some le ∧ szOf P f.type = some le.length ∧ fitsAll le ((xs.drop f.offset).take le.length) = true ∧ f.offset + le.length ≤ xs.length
  | [], _, _, _, _, f, hf => by cases hf
  | g :: fs, off, l, hl, hx, f, hf => by
    unfold fieldLeaves at hl
    split at hl
    · cases hl
    · rename_i le hle
      split at hl
      · rename_i hc
        obtain ⟨hn, ho, hsz, hpos⟩ := hc
        obtain ⟨l2, hl2, rfl⟩ := Option.map_eq_some_iff.1 hl
        obtain ⟨x1, x2⟩ := fitsAll_app hx
        have hl1 := fitsAll_len x1
        rcases List.mem_cons.1 hf with rfl | hf
        · subst ho
          exact ⟨le, hle, hsz, x1, by simp at hl1; omega⟩
        · rw [List.drop_drop] at x2
          exact fits_fields fs (off + le.length) l2 hl2 x2 f hf
      · cases hl
theorem check_leaves (em : Bool) : ∀ (n : Nat) (t : TypeId) (l : List Leaf) (d : Nat) (xs : List Value) (w : World), leaves P n t = some l → n ≤ d → fitsAll l xs = true → (Instr.checkKey em (d + 1) t (mkv P t xs)).run P w = .ok () w := by
  intro n
  induction n with
  | zero => intro t l d xs w h; simp [leaves] at h
  | succ n ih =>
    intro t l d xs w h hd hx
    unfold leaves at h
    cases hu : P.underlying t with
    | none => simp [hu] at h
    | some ds =>
      rw [hu] at h
      cases ds with
      | int k => simp [mkv, hu, Instr.checkKey, run_underlying hu]
      | bool => simp [mkv, hu, Instr.checkKey, run_underlying hu]
      | string => simp [mkv, hu, Instr.checkKey, run_underlying hu]
      | array m e =>
        simp only [] at h
        cases hl : leaves P n e with
        | none => simp [hl] at h
        | some le =>
          rw [hl] at h
          simp only [] at h
          split at h
          · rename_i hsz
            simp at h; subst h
            obtain ⟨de, hue, hde⟩ := leaves_sz hl
            obtain ⟨d', rfl⟩ : ∃ d', d = d' + 1 := ⟨d - 1, by omega⟩
            rw [Instr.checkKey]
            simp only [mkv, hu, Sem.run_bind, run_underlying hu, Result.andThen_ok]
            rw [Std.Legacy.Range.forIn_eq_forIn_range']
            have hsize : [:m].size = m := by simp [Std.Legacy.Range.size]
            rw [hsize, run_forIn_yield]
            · rfl
            · intro i hi
              have him : i < m := by simpa using hi
              obtain ⟨h1, h2⟩ := fits_rep m xs i hx him
              have px := run_part w hue hsz xs (i * le.length) h2 hde
              have hc := ih e le d' _ w hl (by omega) h1
              simp only [Sem.run_bind, run_szOf hsz, px, hc, Result.andThen_ok, Sem.run_pure]
          · cases h
      | struct fs =>
        simp only [] at h
        split at h
        · cases h
        · rename_i hst
          obtain ⟨d', rfl⟩ : ∃ d', d = d' + 1 := ⟨d - 1, by omega⟩
          rw [Instr.checkKey]
          simp only [mkv, hu, Sem.run_bind, run_underlying hu, Result.andThen_ok]
          rw [← Array.forIn_toList, run_forIn_yield]
          · rfl
          · intro f hf
            obtain ⟨le, h1, h2, h3, h4⟩ := fits_fields fs.toList 0 l h (by simpa using hx) f hf
            obtain ⟨de, hue, hde⟩ := leaves_sz h1
            have px := run_part w hue h2 xs f.offset h4 hde
            have hc := ih f.type le d' _ w h1 (by omega) h3
            by_cases hn : f.name = "_"
            · simp [hn]
            · simp only [hn, ne_eq, not_false_eq_true, if_true, Sem.run_bind, px, hc, Result.andThen_ok, Sem.run_pure]
      | _ => simp at h
theorem beq_bytes (s : ByteArray) : (s == s) = true := by
  show (s.data == s.data) = true
  simp
theorem same_self : ∀ (ls : List Leaf) (xs : List Value) (m : Nat), fitsAll ls xs = true → (xs.zip xs).all (fun p => Instr.sameBits (m + 1) p.1 p.2) = true
  | [], [], _, _ => rfl
  | [], _ :: _, _, h => by simp [fitsAll] at h
  | _ :: _, [], _, h => by simp [fitsAll] at h
  | l :: ls, x :: xs, m, h => by
    simp only [fitsAll, Bool.and_eq_true] at h
    have h2 := same_self ls xs m h.2
    have h1 : Instr.sameBits (m + 1) x x = true := by
      obtain ⟨h, _⟩ := h
      cases l with
      | none => cases x <;> simp [leafFits] at h <;> simp [Instr.sameBits, beq_bytes]
      | some l => cases l with
        | none => cases x <;> simp [leafFits] at h <;> simp [Instr.sameBits]
        | some k => cases x <;> simp [leafFits] at h <;> simp [Instr.sameBits]
    simp only [List.zip_cons_cons, List.all_cons, h1, Bool.true_and]
    exact h2
end keys

/-- how the keys of a type are encoded -/
class KeyEnc (P : Program) (kt : TypeId) {κ : outParam Type} (ek : outParam (κ → Value)) [dk : outParam (DecidableEq κ)] : Prop where
  eq : ∀ (w : World) (a b : κ), (Op.equal kt (ek a) (ek b)).run P w = .ok (decide (a = b)) w
  check : ∀ (w : World) (em : Bool) (a : κ), (Instr.checkKey em 10000 kt (ek a)).run P w = .ok () w
  agg : ∃ d, P.underlying kt = some d ∧ isAggD d = true
  bits : ∀ a, Instr.sameBits 10000 (ek a) (ek a) = true
theorem KeyEnc.of {P : Program} {kt : TypeId} {κ : Type} [DecidableEq κ] {enc : κ → List Value} {k : Nat} {l : List Leaf} {td : TypeDesc} (hl : leaves P k kt = some l) (hk : k ≤ 9998) (hu : P.underlying kt = some td) (ht : isAggD td = true)
    (hf : ∀ a, fitsAll l (enc a) = true) (he : ∀ a b, cellsEq (enc a) (enc b) = decide (a = b)) : KeyEnc P kt (fun a => .agg (enc a).toArray) := by
  have hm : ∀ zs : List Value, mkv P kt zs = .agg zs.toArray := fun zs => by
    unfold mkv; rw [hu]; cases td <;> simp [isAggD] at ht <;> rfl
  refine ⟨fun w a b => ?_, fun w em a => ?_, ⟨td, hu, ht⟩, fun a => ?_⟩
  · rw [← he]; exact run_equal_agg hl (by omega) hu ht (hf a) (hf b)
  · have := check_leaves em k kt l 9999 (enc a) w hl (by omega) (hf a)
    rw [hm] at this; exact this
  · have := same_self l (enc a) 9998 (hf a)
    simpa [Instr.sameBits] using this

/-! the plain side -/
section plain
variable {κ ν : Type} [DecidableEq κ]
def findM (k : κ) : List (κ × ν) → Nat → Option (Nat × ν)
  | [], _ => none
  | (a, v) :: M, i => if k = a then some (i, v) else findM k M (i + 1)
def lkM (M : List (κ × ν)) (k : κ) : Option ν := (findM k M 0).map (·.2)
def putM (k : κ) (v : ν) : List (κ × ν) → List (κ × ν)
  | [] => [(k, v)]
  | (a, u) :: M => if k = a then (a, v) :: M else (a, u) :: putM k v M
def delM (k : κ) : List (κ × ν) → List (κ × ν)
  | [] => []
  | (a, u) :: M => if k = a then M else (a, u) :: delM k M
theorem findM_put {k : κ} {v : ν} : ∀ (M : List (κ × ν)) (i : Nat), match findM k M i with
    | some (j, u) => i ≤ j ∧ M[j - i]? = some (k, u) ∧ putM k v M = M.set (j - i) (k, v) ∧ delM k M = M.eraseIdx (j - i)
    | none => putM k v M = M ++ [(k, v)] ∧ delM k M = M ∧ k ∉ M.map (·.1)
  | [], i => by simp [findM, putM, delM]
  | (a, u) :: M, i => by
    have ih := findM_put (k := k) (v := v) M (i + 1)
    by_cases h : k = a
    · subst h; simp [findM, putM, delM]
    · simp only [findM, putM, delM, if_neg h]
      split
      · rename_i j u' hj
        rw [hj] at ih
        simp only at ih
        obtain ⟨h1, h2, h3, h4⟩ := ih
        have e : j - i = (j - (i + 1)) + 1 := by omega
        refine ⟨by omega, by rw [e]; simpa using h2, by rw [e, List.set_cons_succ, h3], by rw [e, List.eraseIdx_cons_succ, h4]⟩
      · rename_i hj
        rw [hj] at ih
        simp only at ih
        simp [ih.1, ih.2.1, h]
        simpa using ih.2.2
theorem putM_keys {k : κ} {v : ν} : ∀ (M : List (κ × ν)), (putM k v M).map (·.1) = if k ∈ M.map (·.1) then M.map (·.1) else M.map (·.1) ++ [k]
  | [] => by simp [putM]
  | (a, u) :: M => by
    have ih := putM_keys (k := k) (v := v) M
    by_cases h : k = a
    · subst h; simp [putM]
    · simp only [putM, if_neg h, List.map_cons, ih, List.mem_cons]
      split <;> simp_all
theorem putM_nodup {k : κ} {v : ν} {M : List (κ × ν)} (h : (M.map (·.1)).Nodup) : ((putM k v M).map (·.1)).Nodup := by
  rw [putM_keys]
  split
  · exact h
  · rename_i hk
    rw [List.nodup_append]
    refine ⟨h, by simp, ?_⟩
    intro a ha b hb hab
    simp at hb; subst hab hb; exact hk ha
theorem delM_sub {k : κ} : ∀ (M : List (κ × ν)), (delM k M).Sublist M
  | [] => by simp [delM]
  | (a, u) :: M => by
    unfold delM
    split
    · exact List.sublist_cons_self _ _
    · exact (delM_sub M).cons_cons _
theorem delM_nodup {k : κ} {M : List (κ × ν)} (h : (M.map (·.1)).Nodup) : ((delM k M).map (·.1)).Nodup := h.sublist ((delM_sub M).map _)
theorem lkM_cons {k a : κ} {v : ν} {M : List (κ × ν)} : lkM ((a, v) :: M) k = if k = a then some v else lkM M k := by
  have key : ∀ (M : List (κ × ν)) (i : Nat), (findM k M i).map (·.2) = (findM k M 0).map (·.2) := by
    intro M
    induction M with
    | nil => intro i; rfl
    | cons p M ih =>
      intro i
      obtain ⟨b, u⟩ := p
      simp only [findM]
      split
      · rfl
      · rw [ih (i + 1), ih 1]
  unfold lkM
  simp only [findM]
  split
  · rfl
  · exact key M 1
@[simp] theorem lkM_nil {k : κ} : lkM ([] : List (κ × ν)) k = none := rfl
theorem lkM_put {k a : κ} {v : ν} : ∀ (M : List (κ × ν)), lkM (putM k v M) a = if a = k then some v else lkM M a
  | [] => by simp [putM, lkM_cons]
  | (b, u) :: M => by
    have ih := lkM_put (k := k) (a := a) (v := v) M
    by_cases h : k = b
    · subst h; simp only [putM, if_true, lkM_cons]; split <;> rfl
    · simp only [putM, if_neg h, lkM_cons, ih]
      split
      · rename_i hab; subst hab; rw [if_neg (fun e => h e.symm)]
      · rfl
theorem lkM_mem {k : κ} {v : ν} : ∀ {M : List (κ × ν)}, lkM M k = some v → (k, v) ∈ M
  | [], h => by simp at h
  | (a, u) :: M, h => by
    rw [lkM_cons] at h
    split at h
    · rename_i e; simp at h; subst e h; simp
    · exact List.mem_cons_of_mem _ (lkM_mem h)
theorem lkM_none {k : κ} : ∀ {M : List (κ × ν)}, lkM M k = none ↔ k ∉ M.map (·.1)
  | [] => by simp
  | (a, u) :: M => by
    rw [lkM_cons]
    split
    · rename_i e; simp [e]
    · rename_i e; rw [lkM_none (M := M)]; simp [e]
theorem lkM_of_mem {k : κ} {v : ν} : ∀ {M : List (κ × ν)}, (M.map (·.1)).Nodup → (k, v) ∈ M → lkM M k = some v
  | [], _, h => by cases h
  | (a, u) :: M, hn, h => by
    rw [lkM_cons]
    simp only [List.map_cons, List.nodup_cons] at hn
    rcases List.mem_cons.1 h with h | h
    · simp at h; rw [if_pos h.1, h.2]
    · rw [if_neg, lkM_of_mem hn.2 h]
      intro e; subst e; rename_i h'; exact hn.1 (List.mem_map.2 ⟨(k, v), h', rfl⟩)
theorem lkM_del {k a : κ} : ∀ {M : List (κ × ν)}, (M.map (·.1)).Nodup → lkM (delM k M) a = if a = k then none else lkM M a
  | [], _ => by simp [delM]
  | (b, u) :: M, hn => by
    simp only [List.map_cons, List.nodup_cons] at hn
    unfold delM
    split
    · rename_i e; subst e
      split
      · rename_i e; subst e; exact lkM_none.2 hn.1
      · rename_i e; rw [lkM_cons, if_neg e]
    · rename_i e
      rw [lkM_cons, lkM_cons, lkM_del hn.2]
      split
      · rename_i e2; subst e2; rw [if_neg (fun e3 => e e3.symm)]
      · rfl
end plain

theorem map_erase {α β : Type} (f : α → β) : ∀ (l : List α) (i : Nat), (l.eraseIdx i).map f = (l.map f).eraseIdx i
  | [], _ => rfl
  | _ :: _, 0 => rfl
  | x :: l, i + 1 => by simp [map_erase f l i]
/-! the map object -/
section obj
variable {κ ν : Type} [DecidableEq κ] {ek : κ → Value} {ev : ν → Value}
structure MapRep (ek : κ → Value) (ev : ν → Value) (M : List (κ × ν)) (es : Array MapEntry) (clock : Nat) : Prop where
  eq : es.toList.map (fun e => (e.key, e.val)) = M.map (fun p => (ek p.1, ev p.2))
  nd : (M.map (·.1)).Nodup
  born : (es.toList.map (·.born)).Nodup
  old : ∀ e ∈ es.toList, e.born < clock
omit [DecidableEq κ] in
theorem MapRep.len {M : List (κ × ν)} {es : Array MapEntry} {clock : Nat} (h : MapRep ek ev M es clock) : es.size = M.length := by
  have := congrArg List.length h.eq; simpa using this
theorem run_ask {P : Program} {kt : TypeId} {w : World} [ke : KeyEnc P kt ek] (k : κ) : ∀ (es : List MapEntry) (M : List (κ × ν)) (i : Nat), es.map (fun e => (e.key, e.val)) = M.map (fun p => (ek p.1, ev p.2)) →
    (Instr.findAsking kt (ek k) es i).run P w = .ok ((findM k M i).map fun p => (p.1, ev p.2)) w
  | [], [], i, _ => by simp [Instr.findAsking, findM]
  | [], _ :: _, _, h => by simp at h
  | _ :: _, [], _, h => by simp at h
  | e :: es, (a, v) :: M, i, h => by
    simp only [List.map_cons, List.cons.injEq, Prod.mk.injEq] at h
    obtain ⟨⟨h1, h2⟩, h3⟩ := h
    have ih := run_ask (w := w) (ke := ke) k es M (i + 1) h3
    simp only [Instr.findAsking, h1, Sem.run_bind, ke.eq w k a, Result.andThen_ok, findM]
    by_cases hk : k = a
    · simp [hk, h2]
    · simp only [hk, decide_false, Bool.false_eq_true, if_false]; exact ih
theorem run_findM {P : Program} {kt : TypeId} {w : World} [ke : KeyEnc P kt ek] (k : κ) {es : Array MapEntry} {M : List (κ × ν)} {clock : Nat} (h : MapRep ek ev M es clock) :
    (Instr.findKey kt (ek k) es.toList).run P w = .ok ((findM k M 0).map fun p => (p.1, ev p.2)) w := by
  obtain ⟨d, hu, hd⟩ := ke.agg
  have ha := run_ask (P := P) (kt := kt) (w := w) k es.toList M 0 h.eq
  simp only [Instr.findKey, Sem.run_bind, run_underlying hu, Result.andThen_ok]
  cases hes : es.toList with
  | nil =>
    have : M = [] := by have := h.eq; rw [hes] at this; simpa using this
    subst this
    cases d <;> simp [isAggD] at hd <;> simp [Instr.findNow, findM]
  | cons e l =>
    rw [hes] at ha
    cases d <;> simp [isAggD] at hd <;> simp only [Instr.findNow, Instr.sameNow] <;> exact ha
theorem MapRep.put {M : List (κ × ν)} {es : Array MapEntry} {clock : Nat} (h : MapRep ek ev M es clock) (k : κ) (v : ν) : match findM k M 0 with
    | some (j, _) => MapRep ek ev (putM k v M) (es.modify j fun e => { e with key := ek k, val := ev v }) clock
    | none => MapRep ek ev (putM k v M) (es.push { key := ek k, val := ev v, born := clock }) (clock + 1) := by
  have hp := findM_put (k := k) (v := v) M 0
  have hnd := putM_nodup (k := k) (v := v) h.nd
  split
  · rename_i j u hj
    rw [hj] at hp
    simp only [Nat.sub_zero] at hp
    obtain ⟨_, h1, h2, _⟩ := hp
    have hlt : j < es.size := by rw [h.len]; exact (List.getElem?_eq_some_iff.1 h1).1
    refine ⟨?_, hnd, ?_, ?_⟩
    · rw [h2, List.map_set, ← h.eq]
      apply List.ext_getElem?
      intro i
      simp only [List.getElem?_map, List.getElem?_set, List.length_map, Array.length_toList, Array.getElem?_toList, Array.getElem?_modify]
      by_cases hij : j = i
      · subst hij; simp [hlt]
      · simp [hij]
    · have : (es.modify j fun e => { e with key := ek k, val := ev v }).toList.map (·.born) = es.toList.map (·.born) := by
        apply List.ext_getElem?
        intro i
        simp only [List.getElem?_map, Array.getElem?_toList, Array.getElem?_modify]
        by_cases hij : j = i
        · subst hij; simp [Option.map_map, Function.comp_def]
        · simp [hij]
      rw [this]; exact h.born
    · intro e he
      obtain ⟨i, hi⟩ := List.mem_iff_getElem?.1 he
      rw [Array.getElem?_toList, Array.getElem?_modify] at hi
      split at hi
      · obtain ⟨e0, he0, rfl⟩ := Option.map_eq_some_iff.1 hi
        exact h.old e0 (List.mem_of_getElem? (by rw [Array.getElem?_toList]; exact he0))
      · exact h.old e (List.mem_of_getElem? (by rw [Array.getElem?_toList]; exact hi))
  · rename_i hj
    rw [hj] at hp
    refine ⟨by simp [hp.1, h.eq], hnd, ?_, ?_⟩
    · simp only [Array.toList_push, List.map_append, List.map_cons, List.map_nil]
      rw [List.nodup_append]
      refine ⟨h.born, by simp, ?_⟩
      intro a ha b hb hab
      simp at hb
      obtain ⟨e, he, rfl⟩ := List.mem_map.1 ha
      have := h.old e he
      omega
    · intro e he
      simp at he
      rcases he with he | rfl
      · have := h.old e (by simpa using he); omega
      · simp
theorem MapRep.del {M : List (κ × ν)} {es : Array MapEntry} {clock : Nat} (h : MapRep ek ev M es clock) (k : κ) (v0 : ν) : match findM k M 0 with
    | some (j, _) => MapRep ek ev (delM k M) (es.eraseIdxIfInBounds j) clock
    | none => MapRep ek ev (delM k M) es clock := by
  have hp := findM_put (k := k) (v := v0) M 0
  have hnd := delM_nodup (k := k) h.nd
  split
  · rename_i j u hj
    rw [hj] at hp
    simp only [Nat.sub_zero] at hp
    obtain ⟨_, h1, _, h2⟩ := hp
    have hlt : j < es.size := by rw [h.len]; exact (List.getElem?_eq_some_iff.1 h1).1
    have e : (es.eraseIdxIfInBounds j).toList = es.toList.eraseIdx j := by
      unfold Array.eraseIdxIfInBounds
      rw [dif_pos hlt, Array.toList_eraseIdx]
    refine ⟨?_, hnd, ?_, ?_⟩
    · rw [e, h2, map_erase, h.eq, ← map_erase]
    · rw [e]; exact h.born.sublist ((List.eraseIdx_sublist _ _).map _)
    · intro x hx; rw [e] at hx; exact h.old x ((List.eraseIdx_sublist _ _).subset hx)
  · rename_i hj
    rw [hj] at hp
    rw [hp.2.1]; exact h
end obj
end Go.Eng
