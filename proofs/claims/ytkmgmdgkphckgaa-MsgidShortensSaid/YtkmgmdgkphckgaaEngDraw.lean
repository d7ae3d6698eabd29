/-
  Regions whose order is drawn: what only reads is taken first, under a condition S on the world that every acting operation keeps as long as something of the head is to come.
-/
import Derived.Test.YtkmgmdgkphckgaaEngMem
namespace Go.Eng
open Go.RowKit

section
variable {P : Program} {ops : Array Oper} {Q : Post} {md : Region.Mode} {S : World → Prop} {h : List Nat}

/-- operation i waits for every operation of the head -/
def tailB (md : Region.Mode) (ops : Array Oper) (h : List Nat) (i : Nat) : Bool :=
  match ops[i]? with
  | some o => h.all fun k => o.after.any fun e => Region.binds md e && e.on == k
  | none => false

/-- Whatever order is picked from here on; S holds behind every operation that does not wait for the whole head h. -/
def wpAnyG (P : Program) (md : Region.Mode) (ops : Array Oper) (Q : Post) (S : World → Prop) (h : List Nat) : Nat → Array Bool → Act → World → Prop
  | 0, listed, a, w => Region.ready md ops listed = [] ∧ Q .normal a w
  | fuel + 1, listed, a, w =>
    (Region.ready md ops listed = [] → Q .normal a w) ∧
    ∀ i ∈ Region.ready md ops listed, wpOp P ops Q i (fun a' w' => (tailB md ops h i = false → S w') ∧ wpAnyG P md ops Q S h fuel (listed.setIfInBounds i true) a' w') a w

theorem wpAny_of_G : ∀ (fuel : Nat) (listed : Array Bool) (a : Act) (w : World), wpAnyG P md ops Q S h fuel listed a w → wpAny P md ops Q fuel listed a w
  | 0, _, _, _, h => h
  | fuel + 1, _, _, _, h => ⟨h.1, fun i hi => wpOp_mono (fun a' w' h' => wpAny_of_G fuel _ a' w' h'.2) (h.2 i hi)⟩

theorem wpAnyG_first {i : Nat} {oi : Oper} {v : Value} (hih : i ∈ h) (hi : ops[i]? = some oi) (hsel : ∀ (j : Nat) (o : Oper) cs b, ops[j]? = some o → o.op ≠ .select cs b)
    (hQ : ∀ c a w, Q (.panic c) (a.put oi.dst v) w → Q (.panic c) a w) :
    ∀ (fuel : Nat) (listed : Array Bool) (a : Act) (w : World),
      (∀ j oj, ops[j]? = some oj → j ≠ i → listed.getD j true = false → (∀ e ∈ oj.after, Region.binds md e = true → e.on ≠ i) → oi.apart ops oj = true) →
      i ∈ Region.ready md ops listed → YieldsIf P ops S oi v a → S w →
      wpAnyG P md ops Q S h fuel (listed.setIfInBounds i true) (a.put oi.dst v) w → wpAnyG P md ops Q S h (fuel + 1) listed a w := by
  intro fuel
  induction fuel with
  | zero =>
    intro listed a w _ hr hy hS H
    refine ⟨fun h => (by rw [h] at hr; cases hr), fun j hj => ?_⟩
    by_cases hji : j = i
    · subst hji; exact hy.wpOp hi hS ⟨fun _ => hS, H⟩
    · have := ready_mono hj hji
      rw [H.1] at this
      cases this
  | succ fuel ih =>
    intro listed a w hfree hr hy hS H
    refine ⟨fun h => (by rw [h] at hr; cases hr), fun j hj => ?_⟩
    by_cases hji : j = i
    · subst hji; exact hy.wpOp hi hS ⟨fun _ => hS, H⟩
    · have h1 := H.2 j (ready_mono hj hji)
      obtain ⟨hjun, oj, hoj, hall⟩ := mem_ready.1 hj
      have h0i := (mem_ready.1 hr).1
      have hnot : ∀ e ∈ oj.after, Region.binds md e = true → e.on ≠ i := fun e he hb heq => by
        have h1 := hall e he hb
        have h0 := (mem_ready.1 hr).1
        rw [heq] at h1
        rcases Nat.lt_or_ge i listed.size with h' | h'
        · simp [h'] at h0 h1; rw [h0] at h1; cases h1
        · simp [Array.getElem?_eq_none h'] at h1
      have h2 := wpOp_putIf hoj (hfree j oj hoj hji hjun hnot) (fun cs b => hsel i oi cs b hi) (fun cs b => hsel j oj cs b hoj) hQ hy h1
      have hfree' : ∀ k ok, ops[k]? = some ok → k ≠ i → (listed.setIfInBounds j true).getD k true = false →
          (∀ e ∈ ok.after, Region.binds md e = true → e.on ≠ i) → oi.apart ops ok = true := fun k ok hk hki hun hno => by
        refine hfree k ok hk hki ?_ hno
        by_cases hjk : j = k
        · subst hjk; exact hjun
        · rw [getD_set_ne true hjk] at hun; exact hun
      have hpi : tailB md ops h j = false := by
        unfold tailB
        rw [hoj]
        simp only []
        rw [List.all_eq_false]
        refine ⟨i, hih, ?_⟩
        intro hany
        obtain ⟨e, he, hb⟩ := Array.any_eq_true'.1 hany
        simp only [Bool.and_eq_true, beq_iff_eq] at hb
        exact hnot e he hb.1 hb.2
      refine wpOp_mono (fun a' w' h3 => ?_) h2
      obtain ⟨hy', hpS, hG⟩ := h3
      refine ⟨hpS, ih (listed.setIfInBounds j true) a' w' hfree' (ready_mono hr (Ne.symm hji)) hy' (hpS hpi) ?_⟩
      rw [Array.setIfInBounds_comm _ _ hji]
      exact hG
end

/-- Q, but no panic -/
def NP (Q : Post) : Post := fun e a w => match e with | .panic _ => False | e => Q e a w
theorem NP.out {Q : Post} : ∀ (e : Exit) (a : Act) (w : World), NP Q e a w → Q e a w := fun e a w h => by
  cases e <;> first | exact h | exact (h : False).elim

def mk (n : Nat) (dn : List Nat) : Array Bool := dn.foldl (fun a i => a.setIfInBounds i true) (Array.replicate n false)

/-- a region whose order is drawn: the operations of dn have been carried out -/
def D (P : Program) (l : List Oper) (Q : Post) (S : World → Prop) (h : List Nat) (dn : List Nat) (n : Nat) (g : Env) (w : World) : Prop :=
  ∀ a, Fr n g a → ∀ fuel, fuel + dn.length = l.length → wpAnyG P .any l.toArray (NP Q) S h fuel (mk l.length dn) a w

section rules
variable {P : Program} {Q : Post} {S : World → Prop} {h dn : List Nat} {n : Nat} {g : Env} {w : World} {l : List Oper} {i : Nat} {o : Oper} {op : Op} {ty : TypeId} {pos : String} {af : Array Edge} {d : Nat} {v : Value}

theorem C.drawn {id : Nat} (S : World → Prop) (h : List Nat) (hm : P.follows .mixedOrders = true) (k : D P l Q S h [] n g w.drew) : C P (.region id l.toArray true) Q n g w := fun a f => by
  refine Code.wp_mono NP.out (wp_region_any hm ?_)
  have := wpAny_of_G _ _ _ _ (k a f l.length (by simp))
  simpa [mk] using this

theorem mk_snoc (m : Nat) (dn : List Nat) (i : Nat) : mk m (dn ++ [i]) = (mk m dn).setIfInBounds i true := by simp [mk]

def takeB (l : List Oper) (h dn : List Nat) (i : Nat) : Bool :=
  h.contains i && Region.noSelect l.toArray && Region.free .any l.toArray (mk l.length dn) i && (Region.ready .any l.toArray (mk l.length dn)).contains i && Nat.blt dn.length l.length

theorem D.yields (i : Nat) {o : Oper} {g' : Env} (hi : l[i]? = some o) (hc : takeB l h dn i = true) (hS : S w) (hy : ∀ a, Fr n g a → YieldsIf P l.toArray S o v a) (hf : ∀ a, Fr n g a → Fr n g' (a.put o.dst v))
    (k : D P l Q S h (dn ++ [i]) n g' w) : D P l Q S h dn n g w := fun a f fuel hfu => by
  simp only [takeB, Bool.and_eq_true] at hc
  obtain ⟨⟨⟨⟨c1, c2⟩, c3⟩, c4⟩, c5⟩ := hc
  have hlt : dn.length < l.length := by simpa [Nat.blt_eq] using c5
  cases fuel with
  | zero => omega
  | succ fuel =>
    refine wpAnyG_first (i := i) (v := v) (by simpa using c1) (by simpa using hi) (Region.noSelect_spec c2) (fun _ _ _ hh => hh.elim) fuel _ a w (Region.free_spec (by simpa using hi) c3) (by simpa using c4) (hy a f) hS ?_
    have := k _ (hf a f) fuel (by simp; omega)
    rw [mk_snoc] at this
    exact this

/-- what only reads, taken first -/
theorem D.ev (i : Nat) (hi : l[i]? = some ⟨some d, op, ty, pos, af, none⟩) (hc : takeB l h dn i = true) (hd : Nat.blt d n = true) (hS : S w) (hv : ∀ w, S w → Ev P n g ⟨some d, op, ty, pos, af, none⟩ w v)
    (k : D P l Q S h (dn ++ [i]) n ((d, v) :: g) w) : D P l Q S h dn n g w :=
  D.yields i hi hc hS (fun a f => .inl ⟨rfl, fun w hw => hv w hw a f⟩) (fun _ f => f.put hd v) k
theorem D.evG (i : Nat) {j : Nat} {want b : Bool} (hi : l[i]? = some ⟨some d, op, ty, pos, af, some (j, want)⟩) (hc : takeB l h dn i = true) (hd : Nat.blt d n = true) (hg : gd l.toArray g j = some (.bool b)) (hb : (b == want) = true) (hS : S w)
    (hv : ∀ w, S w → Ev P n g ⟨some d, op, ty, pos, af, some (j, want)⟩ w v)
    (k : D P l Q S h (dn ++ [i]) n ((d, v) :: g) w) : D P l Q S h dn n g w :=
  D.yields i hi hc hS (fun a f => .inl ⟨by rw [wanted_gd f rfl hg]; exact hb, fun w hw => hv w hw a f⟩) (fun _ f => f.put hd v) k
theorem D.skip (i : Nat) {j : Nat} {want b : Bool} (hi : l[i]? = some ⟨some d, op, ty, pos, af, some (j, want)⟩) (hc : takeB l h dn i = true) (hd : Nat.blt d n = true) (hg : gd l.toArray g j = some (.bool b)) (hb : (b == want) = false) (hS : S w)
    (k : D P l Q S h (dn ++ [i]) n ((d, undef) :: g) w) : D P l Q S h dn n g w :=
  D.yields i hi hc hS (fun a f => .inr ⟨by rw [wanted_gd f rfl hg]; exact hb, rfl⟩) (fun _ f => f.put hd undef) k
theorem D.undef (i : Nat) {j : Nat} {want : Bool} (hi : l[i]? = some ⟨some d, op, ty, pos, af, some (j, want)⟩) (hc : takeB l h dn i = true) (hd : Nat.blt d n = true) (hg : gd l.toArray g j = some undef) (hS : S w)
    (k : D P l Q S h (dn ++ [i]) n ((d, undef) :: g) w) : D P l Q S h dn n g w :=
  D.yields i hi hc hS (fun _ f => .inr ⟨wanted_undef f rfl hg, rfl⟩) (fun _ f => f.put hd Go.undef) k

/-- behind an acting operation -/
def BackQ (P : Program) (l : List Oper) (Q : Post) (S : World → Prop) (h dn : List Nat) (i : Nat) : Post :=
  Exit.then (fun a' w' => (tailB .any l.toArray h i = false → S w') ∧ ∀ fuel, fuel + (dn.length + 1) = l.length → wpAnyG P .any l.toArray (NP Q) S h fuel (mk l.length (dn ++ [i])) a' w') (NP Q)

theorem wpOp_of_R {a : Act} {K : Act → World → Prop} {Q' : Post} (hi : l[i]? = some o) (hr : wpList P l.toArray (Exit.then K Q') [o] a w) : wpOp P l.toArray Q' i K a w := by
  have hi' : l.toArray[i]? = some o := by simpa using hi
  unfold wpOp
  rw [hi']
  unfold wpList at hr
  simp only []
  split
  · rename_i hw
    rw [if_pos hw] at hr
    rcases hr with hr | ⟨h1, a', w', h2⟩
    · refine .inl ?_
      unfold Oper.wp at hr ⊢
      generalize (execOp a.eval o).run P w = r at hr ⊢
      cases r with
      | ok n w' =>
        cases n <;> simp only [Oper.upon, wpList] at hr ⊢ <;>
          first
            | exact hr
            | exact Calls.mono hr (fun e w'' he => by cases e <;> exact he)
            | exact Rows.mono hr (fun _ _ he => he)
      | halt x w' => cases x <;> simp only [Oper.upon] at hr ⊢ <;> exact hr
    · exact .inr ⟨h1, a', w', h2⟩
  · rename_i hw
    rw [if_neg hw] at hr
    exact hr

def readyIs (l : List Oper) (dn rs : List Nat) : Bool := (Region.ready .any l.toArray (mk l.length dn) == rs) && Nat.blt dn.length l.length

/-- only operation i may come up -/
theorem D.act (i : Nat) {o : Oper} (hi : l[i]? = some o) (hc : readyIs l dn [i] = true) (k : R P l.toArray (BackQ P l Q S h dn i) [o] n g w) : D P l Q S h dn n g w := fun a f fuel hfu => by
  simp only [readyIs, Bool.and_eq_true, beq_iff_eq] at hc
  have hlt : dn.length < l.length := by simpa [Nat.blt_eq] using hc.2
  cases fuel with
  | zero => omega
  | succ fuel =>
    refine ⟨fun h0 => ?_, fun j hj => ?_⟩
    · rw [hc.1] at h0; cases h0
    · rw [hc.1] at hj
      have : j = i := by simpa using hj
      subst this
      have := wpOp_of_R hi (k a f)
      refine wpOp_mono ?_ this
      intro a' w' ⟨h1, h2⟩
      refine ⟨h1, ?_⟩
      have := h2 fuel (by omega)
      rw [mk_snoc] at this
      exact this
/-- one of the operations i, j may come up -/
theorem D.act2 (i j : Nat) {o o' : Oper} (hi : l[i]? = some o) (hj : l[j]? = some o') (hc : readyIs l dn [i, j] = true) (k : R P l.toArray (BackQ P l Q S h dn i) [o] n g w) (k' : R P l.toArray (BackQ P l Q S h dn j) [o'] n g w) : D P l Q S h dn n g w := fun a f fuel hfu => by
  simp only [readyIs, Bool.and_eq_true, beq_iff_eq] at hc
  have hlt : dn.length < l.length := by simpa [Nat.blt_eq] using hc.2
  cases fuel with
  | zero => omega
  | succ fuel =>
    refine ⟨fun h0 => ?_, fun x hx => ?_⟩
    · rw [hc.1] at h0; cases h0
    · rw [hc.1] at hx
      have hx' : x = i ∨ x = j := by simpa using hx
      rcases hx' with rfl | rfl
      · refine wpOp_mono ?_ (wpOp_of_R hi (k a f))
        intro a' w' ⟨h1, h2⟩
        refine ⟨h1, ?_⟩
        have := h2 fuel (by omega)
        rw [mk_snoc] at this
        exact this
      · refine wpOp_mono ?_ (wpOp_of_R hj (k' a f))
        intro a' w' ⟨h1, h2⟩
        refine ⟨h1, ?_⟩
        have := h2 fuel (by omega)
        rw [mk_snoc] at this
        exact this
theorem D.back {ops : Array Oper} (hS : S w) (k : D P l Q S h (dn ++ [i]) n g w) : R P ops (BackQ P l Q S h dn i) [] n g w := fun a f =>
  show (_ → S w) ∧ _ from ⟨fun _ => hS, fun fuel hf => k a f fuel (by simpa using hf)⟩
/-- operation i waits for the whole head: S need not hold behind it -/
theorem D.backT {ops : Array Oper} (ht : tailB .any l.toArray h i = true) (k : D P l Q S h (dn ++ [i]) n g w) : R P ops (BackQ P l Q S h dn i) [] n g w := fun a f =>
  show (_ → S w) ∧ _ from ⟨(fun hh => by rw [ht] at hh; cases hh), fun fuel hf => k a f fuel (by simpa using hf)⟩
theorem D.keep (g' : Env) (s : Sub g' g) (k : D P l Q S h dn n g' w) : D P l Q S h dn n g w := fun a f => k a (f.sub s)
theorem D.split (d : Nat) {b : Bool} (hd : lk g d = some (.bool b)) (h1 : b = true → D P l Q S h dn n ((d, .bool true) :: g) w) (h2 : b = false → D P l Q S h dn n ((d, .bool false) :: g) w) : D P l Q S h dn n g w := by
  cases b
  · exact fun a f => h2 rfl a (f.more hd)
  · exact fun a f => h1 rfl a (f.more hd)
theorem D.done (hl : l.length = dn.length) (hc : Region.ready .any l.toArray (mk l.length dn) = []) (k : X Q .normal n g w) : D P l Q S h dn n g w := fun a f fuel hfu => by
  have : fuel = 0 := by omega
  subst this
  exact ⟨hc, k a f⟩
end rules
end Go.Eng
