/-
  Lists of rows: Check, what is withdrawn, sets of rows (the plain law).
-/
import Derived.Test.YtmjmichghfepkaaSup
namespace Go.Proofs.Ytmjmichghfepkaa
open Go.Eng Go.RowKit Go.Sort

variable {L : List RR}
def hasId (a : Vec 32) (L : List RR) : Bool := L.any fun y => decide (y.id = a)
theorem hasId_iff {a : Vec 32} : hasId a L = true ↔ a ∈ L.map RR.id := by
  simp only [hasId, List.any_eq_true, decide_eq_true_eq, List.mem_map]
theorem hasId_false {a : Vec 32} : hasId a L = false ↔ a ∉ L.map RR.id := by
  rw [Bool.eq_false_iff, Ne, hasId_iff]
/-- the first error from a place on -/
def chkF (pre : List RR) : List RR → Nat × Int
  | [] => (0, 0)
  | x :: l => if isMin x.date = false then (pre.length, 13) else if hasId x.id pre then (pre.length, 7) else chkF (pre ++ [x]) l
def chk (L : List RR) : Nat × Int := chkF [] L
theorem chkF_step {pre l : List RR} {x : RR} (h1 : isMin x.date = true) (h2 : hasId x.id pre = false) : chkF pre (x :: l) = chkF (pre ++ [x]) l := by
  rw [chkF, if_neg (by rw [h1]; decide), if_neg (by rw [h2]; decide)]
theorem chk_at {k : Nat} {x : RR} (h : L[k]? = some x) : L.drop k = x :: L.drop (k + 1) := by
  obtain ⟨h1, h2⟩ := List.getElem?_eq_some_iff.1 h
  rw [List.drop_eq_getElem_cons h1, h2]
theorem chkF_ok : ∀ {l pre : List RR}, (pre.map RR.id).Nodup → ((chkF pre l).2 = 0 ↔ (∀ x ∈ l, isMin x.date = true) ∧ ((pre ++ l).map RR.id).Nodup)
  | [], pre, hn => by simp [chkF]; exact hn
  | x :: l, pre, hn => by
    unfold chkF
    cases h1 : isMin x.date with
    | false => simp [h1]
    | true =>
      simp only [Bool.true_eq_false, if_false]
      cases h2 : hasId x.id pre with
      | true =>
        simp only [if_true]
        constructor
        · intro h; simp at h
        · rintro ⟨_, h⟩
          rw [List.map_append, List.nodup_append] at h
          exact absurd rfl (h.2.2 _ (hasId_iff.1 h2) _ (by simp))
      | false =>
        simp only [Bool.false_eq_true, if_false]
        have hn2 : ((pre ++ [x]).map RR.id).Nodup := by
          rw [List.map_append, List.nodup_append]
          refine ⟨hn, by simp, fun a ha b hb => ?_⟩
          simp at hb; subst hb
          intro e; subst e
          exact hasId_false.1 h2 ha
        rw [chkF_ok hn2]
        simp only [List.append_assoc, List.singleton_append, List.mem_cons, forall_eq_or_imp, h1, true_and]
theorem chk_ok : (chk L).2 = 0 ↔ (∀ x ∈ L, isMin x.date = true) ∧ (L.map RR.id).Nodup := by
  have := chkF_ok (l := L) (pre := []) (by simp)
  simpa [chk] using this
theorem chkF_zero : ∀ {l pre : List RR}, (chkF pre l).2 = 0 → chkF pre l = (0, 0)
  | [], _, _ => rfl
  | x :: l, pre, h => by
    unfold chkF at h ⊢
    split at h
    · simp at h
    · rename_i h1
      split at h
      · simp at h
      · rename_i h2
        rw [if_neg h1, if_neg h2]
        exact chkF_zero h
/-- withdrawn -/
def wd (L : List RR) (x : RR) : Bool := L.any fun y => valid x y || outd y x
theorem wd_iff {x : RR} : wd L x = true ↔ ∃ y ∈ L, valid x y = true ∨ outd y x = true := by
  simp only [wd, List.any_eq_true, Bool.or_eq_true]
theorem wd_perm {L' : List RR} {x : RR} (h : ∀ y, y ∈ L ↔ y ∈ L') : wd L x = wd L' x := by
  rw [Bool.eq_iff_iff, wd_iff, wd_iff]
  constructor
  · rintro ⟨y, h1, h2⟩; exact ⟨y, (h y).1 h1, h2⟩
  · rintro ⟨y, h1, h2⟩; exact ⟨y, (h y).2 h1, h2⟩
def chosen (L : List RR) (b : Bool) : List (Vec 32) := (L.filter fun x => wd L x == b).map RR.id
theorem chosen_len : (chosen L false).length + (chosen L true).length = L.length := by
  unfold chosen
  rw [List.length_map, List.length_map]
  generalize wd L = q
  induction L with
  | nil => rfl
  | cons x l ih =>
    rw [List.filter_cons, List.filter_cons, List.length_cons]
    cases hq : q x
    · simp only [beq_self_eq_true, if_true, List.length_cons, show (false == true) = false from rfl, Bool.false_eq_true, if_false]; omega
    · simp only [beq_self_eq_true, if_true, List.length_cons, show (true == false) = false from rfl, Bool.false_eq_true, if_false]; omega
theorem chosen_nd {b : Bool} (h : (L.map RR.id).Nodup) : (chosen L b).Nodup := h.sublist (List.filter_sublist.map _)
theorem ssV_of {l : List (Vec 32)} (h1 : l.Pairwise (fun x y => ltV y x = false)) (h2 : l.Nodup) : SS ltV l := by
  refine (h1.and h2).imp ?_
  rintro x y ⟨ha, hb⟩
  cases hc : ltV x y with
  | true => rfl
  | false => exact absurd (ltV_tot _ _ hc ha) hb
/-- insertion into a list that increases, from its end -/
theorem ssV_ins {l : List (Vec 32)} {a : Nat} {y : Vec 32} (h : SS ltV l) (h1 : ∀ z ∈ l.take a, ltV z y = true) (h2 : ∀ z ∈ l.drop a, ltV y z = true) : SS ltV (l.take a ++ [y] ++ l.drop a) := by
  have h0 := h
  rw [SS, ← List.take_append_drop a l, List.pairwise_append] at h0
  obtain ⟨p1, p2, p3⟩ := h0
  rw [SS, List.append_assoc, List.pairwise_append]
  refine ⟨p1, ?_, fun z hz u hu => ?_⟩
  · rw [List.singleton_append, List.pairwise_cons]
    exact ⟨h2, p2⟩
  · rw [List.singleton_append, List.mem_cons] at hu
    rcases hu with rfl | hu
    · exact h1 z hz
    · exact p3 z hz u hu
/-! sets -/
abbrev SMap := List (Vec 32 × RA)
structure SInv (M : SMap) (L : List RR) : Prop where
  eq : M.map (fun q => (q.1, q.2.x)) = L.map (fun x => (x.id, x))
  nd : (L.map RR.id).Nodup
  ok : ∀ x ∈ L, isMin x.date = true
def GAll (K : Kn) (M : SMap) : Prop := ∀ q ∈ M, GOk K q.2
theorem GAll.mono {K K' : Kn} {M : SMap} (h : GAll K M) (k : KLe K K') : GAll K' M := fun q hq => (h q hq).mono k
variable {M : SMap}
theorem SInv.nil : SInv [] [] := ⟨rfl, by simp, by simp⟩
theorem SInv.keys (h : SInv M L) : M.map (·.1) = L.map RR.id := by
  have := congrArg (List.map Prod.fst) h.eq
  simpa [Function.comp_def] using this
theorem SInv.xs (h : SInv M L) : M.map (fun q => q.2.x) = L := by
  have := congrArg (List.map Prod.snd) h.eq
  simpa [Function.comp_def] using this
theorem SInv.len (h : SInv M L) : M.length = L.length := by
  have := congrArg List.length h.eq
  simpa using this
theorem SInv.key (h : SInv M L) {q : Vec 32 × RA} (hq : q ∈ M) : q.1 = q.2.x.id ∧ q.2.x ∈ L := by
  have : (q.1, q.2.x) ∈ L.map (fun x => (x.id, x)) := by rw [← h.eq]; exact List.mem_map.2 ⟨q, hq, rfl⟩
  obtain ⟨x, hx, he⟩ := List.mem_map.1 this
  simp only [Prod.mk.injEq] at he
  rw [← he.1, ← he.2]; exact ⟨rfl, hx⟩
theorem SInv.mem (h : SInv M L) {x : RR} (hx : x ∈ L) : ∃ y, y.x = x ∧ (x.id, y) ∈ M := by
  have : (x.id, x) ∈ M.map (fun q => (q.1, q.2.x)) := by rw [h.eq]; exact List.mem_map.2 ⟨x, hx, rfl⟩
  obtain ⟨q, hq, he⟩ := List.mem_map.1 this
  simp only [Prod.mk.injEq] at he
  exact ⟨q.2, he.2, by rw [← he.1]; exact hq⟩
theorem SInv.ndk (h : SInv M L) : (M.map (·.1)).Nodup := by rw [h.keys]; exact h.nd
theorem SInv.lk (h : SInv M L) {x : RR} (hx : x ∈ L) : ∃ y, lkM M x.id = some y ∧ y.x = x := by
  obtain ⟨y, h1, h2⟩ := h.mem hx
  exact ⟨y, lkM_of_mem h.ndk h2, h1⟩
theorem SInv.lkNone (h : SInv M L) {a : Vec 32} : lkM M a = none ↔ a ∉ L.map RR.id := by
  rw [lkM_none, h.keys]
theorem SInv.has (h : SInv M L) (a : Vec 32) : (lkM M a).isSome = hasId a L := by
  rw [Bool.eq_iff_iff, hasId_iff]
  cases e : lkM M a with
  | none => simp; simpa using h.lkNone.1 e
  | some y =>
    simp only [Option.isSome_some, true_iff]
    have := lkM_mem e
    rw [← h.keys]
    exact List.mem_map.2 ⟨_, this, rfl⟩
theorem SInv.lkSome (h : SInv M L) {a : Vec 32} {y : RA} (e : lkM M a = some y) : y.x.id = a ∧ y.x ∈ L := by
  have := h.key (lkM_mem e)
  exact ⟨this.1.symm, this.2⟩
theorem putM_new {κ ν : Type} [DecidableEq κ] {k : κ} {x : ν} : ∀ {M : List (κ × ν)}, k ∉ M.map (·.1) → putM k x M = M ++ [(k, x)]
  | [], _ => rfl
  | (a, y) :: M, h => by
    simp only [List.map_cons, List.mem_cons, not_or] at h
    rw [putM, if_neg (fun e => h.1 e), putM_new h.2]; rfl
theorem SInv.add (h : SInv M L) {y : RA} (hn : hasId y.x.id L = false) (hd : isMin y.x.date = true) : SInv (putM y.x.id y M) (L ++ [y.x]) := by
  have hk : y.x.id ∉ M.map (·.1) := by rw [h.keys]; exact hasId_false.1 hn
  refine ⟨by rw [putM_new hk, List.map_append, List.map_append, h.eq]; rfl, ?_, ?_⟩
  · rw [List.map_append, List.nodup_append]
    refine ⟨h.nd, by simp, fun a ha b hb => ?_⟩
    simp at hb; subst hb
    intro e; subst e
    exact hasId_false.1 hn ha
  · intro x hx
    rcases List.mem_append.1 hx with hx | hx
    · exact h.ok x hx
    · simp at hx; subst hx; exact hd
def delL (a : Vec 32) : List RR → List RR
  | [] => []
  | x :: l => if x.id = a then l else x :: delL a l
theorem delL_sub {a : Vec 32} : ∀ (L : List RR), (delL a L).Sublist L
  | [] => List.Sublist.slnil
  | x :: l => by
    unfold delL; split
    · exact List.sublist_cons_self x l
    · exact (delL_sub l).cons_cons x
theorem delM_eq {a : Vec 32} : ∀ {M : SMap} {L : List RR}, M.map (fun q => (q.1, q.2.x)) = L.map (fun x => (x.id, x)) → (delM a M).map (fun q => (q.1, q.2.x)) = (delL a L).map (fun x => (x.id, x))
  | [], [], _ => rfl
  | [], _ :: _, h => by simp at h
  | _ :: _, [], h => by simp at h
  | q :: M, x :: L, h => by
    simp only [List.map_cons, List.cons.injEq, Prod.mk.injEq] at h
    obtain ⟨⟨h1, h2⟩, h3⟩ := h
    obtain ⟨k, y⟩ := q
    simp only at h1 h2
    unfold delM delL
    by_cases ha : a = k
    · rw [if_pos ha, if_pos (by rw [← h1, ha])]; exact h3
    · rw [if_neg ha, if_neg (by rw [← h1]; exact fun e => ha e.symm)]
      simp only [List.map_cons, h1, h2, delM_eq h3]
theorem SInv.del (h : SInv M L) (a : Vec 32) : SInv (delM a M) (delL a L) :=
  ⟨delM_eq h.eq, h.nd.sublist ((delL_sub L).map _), fun x hx => h.ok x ((delL_sub L).subset hx)⟩
theorem GAll.del {K : Kn} (h : GAll K M) (a : Vec 32) : GAll K (delM a M) := fun q hq => h q ((delM_sub M).subset hq)
theorem GAll.put {K : Kn} {y : RA} (h : GAll K M) (hk : y.x.id ∉ M.map (·.1)) (hy : GOk K y) : GAll K (putM y.x.id y M) := fun q hq => by
  rw [putM_new hk] at hq
  rcases List.mem_append.1 hq with hq | hq
  · exact h q hq
  · simp at hq; subst hq; exact hy
theorem delL_mem {a : Vec 32} {x : RR} : ∀ {L : List RR}, (L.map RR.id).Nodup → (x ∈ delL a L ↔ x ∈ L ∧ x.id ≠ a)
  | [], _ => by simp [delL]
  | z :: l, h => by
    simp only [List.map_cons, List.nodup_cons] at h
    unfold delL
    by_cases hz : z.id = a
    · rw [if_pos hz]
      constructor
      · intro hx
        refine ⟨by simp [hx], fun e => h.1 (List.mem_map.2 ⟨x, hx, by rw [e, hz]⟩)⟩
      · rintro ⟨hx, hne⟩
        rcases List.mem_cons.1 hx with rfl | hx
        · exact absurd hz hne
        · exact hx
    · rw [if_neg hz, List.mem_cons, delL_mem h.2, List.mem_cons]
      constructor
      · rintro (rfl | ⟨h1, h2⟩)
        · exact ⟨.inl rfl, hz⟩
        · exact ⟨.inr h1, h2⟩
      · rintro ⟨rfl | h1, h2⟩
        · exact .inl rfl
        · exact .inr ⟨h1, h2⟩
end Go.Proofs.Ytmjmichghfepkaa
