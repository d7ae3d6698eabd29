/-
  Regions whose order is drawn: what only reads is taken first, under a condition S on the world that every acting operation keeps as long as something of the head is to come.
-/
import Derived.Test.YtifghjeapfijkaaGreatDoorEngMem
namespace Go.Eng
open Go.RowKit

section
variable {P : Program} {ops : Array Oper} {Q : Exit → Act → World → Prop} {md : Region.Mode} {S : World → Prop} {h : List Nat × List Nat}

/-- operation i waits for operation k, maybe through others -/
inductive Waits (md : Region.Mode) (ops : Array Oper) : Nat → Nat → Prop where
  | one {i : Nat} {o : Oper} {e : Edge} : ops[i]? = some o → e ∈ o.after → Region.binds md e = true → Waits md ops i e.on
  | more {i k : Nat} {o : Oper} {e : Edge} : ops[i]? = some o → e ∈ o.after → Region.binds md e = true → Waits md ops e.on k → Waits md ops i k
/-- what is listed waits for what is listed alone -/
def Closed (md : Region.Mode) (ops : Array Oper) (listed : Array Bool) : Prop :=
  ∀ (k : Nat) ok, ops[k]? = some ok → listed.getD k false = true → ∀ e ∈ ok.after, Region.binds md e = true → listed.getD e.on false = true
theorem Waits.listed {listed : Array Bool} (hc : Closed md ops listed) {i k : Nat} (h : Waits md ops i k) : (∀ o, ops[i]? = some o → ∀ e ∈ o.after, Region.binds md e = true → listed.getD e.on false = true) → listed.getD k false = true := by
  induction h with
  | one ho he hb => intro H; exact H _ ho _ he hb
  | more ho he hb _ ih => intro H; exact ih (fun o' ho' e' he' hb' => hc _ o' ho' (H _ ho _ he hb) e' he' hb')
theorem Closed.set {listed : Array Bool} (hc : Closed md ops listed) {i : Nat} (hr : i ∈ Region.ready md ops listed) : Closed md ops (listed.setIfInBounds i true) := by
  intro k ok hk hl e he hb
  obtain ⟨_, o, ho, hall⟩ := mem_ready.1 hr
  by_cases hik : i = k
  · subst hik
    rw [ho] at hk; simp at hk; subst hk
    exact getD_set_true (hall e he hb)
  · rw [getD_set_ne false hik] at hl
    exact getD_set_true (hc k ok hk hl e he hb)
/-- the operations that an operation waits for, as bits -/
def waitMask (md : Region.Mode) (acc : List Nat) (es : List Edge) (m : Nat) : Nat := match es with
  | [] => m
  | e :: es => waitMask md acc es (match Region.binds md e with | true => (m ||| 2 ^ e.on) ||| acc.getD e.on 0 | false => m)
def masks (md : Region.Mode) : List Oper → List Nat → List Nat
  | [], acc => acc
  | o :: l, acc => masks md l (acc ++ [waitMask md acc o.after.toList 0])
theorem waitMask_spec {acc : List Nat} {k : Nat} : ∀ (es : List Edge) (m : Nat), (waitMask md acc es m).testBit k = true → m.testBit k = true ∨ ∃ e ∈ es, Region.binds md e = true ∧ (e.on = k ∨ (acc.getD e.on 0).testBit k = true)
  | [], _, h => .inl h
  | e :: es, m, h => by
    unfold waitMask at h
    rcases waitMask_spec es _ h with h1 | ⟨e', he', h2⟩
    · split at h1
      · rename_i hb
        rw [Nat.testBit_or, Nat.testBit_or, Bool.or_eq_true, Bool.or_eq_true, Nat.testBit_two_pow] at h1
        rcases h1 with (h1 | h1) | h1
        · exact .inl h1
        · exact .inr ⟨e, by simp, hb, .inl (by simpa using h1)⟩
        · exact .inr ⟨e, by simp, hb, .inr h1⟩
      · exact .inl h1
    · exact .inr ⟨e', by simp [he'], h2⟩
theorem masks_spec : ∀ (l pre : List Oper) (acc : List Nat), ops.toList = pre ++ l → acc.length = pre.length → (∀ i k, (acc.getD i 0).testBit k = true → Waits md ops i k) → ∀ i k, ((masks md l acc).getD i 0).testBit k = true → Waits md ops i k
  | [], _, _, _, _, h => h
  | o :: l, pre, acc, he, hl, h => by
    refine masks_spec l (pre ++ [o]) _ (by rw [he]; simp) (by simp [hl]) ?_
    intro i k hb
    by_cases hi : i < acc.length
    · rw [List.getD_eq_getElem?_getD, List.getElem?_append_left hi, ← List.getD_eq_getElem?_getD] at hb
      exact h i k hb
    · by_cases hi' : i = acc.length
      · subst hi'
        have ho : ops[acc.length]? = some o := by
          rw [← Array.getElem?_toList, he, hl]; simp
        simp at hb
        rcases waitMask_spec _ _ hb with h1 | ⟨e, hem, heb, h2⟩
        · simp at h1
        · have hem' : e ∈ o.after := by simpa using hem
          rcases h2 with rfl | h2
          · exact .one ho hem' heb
          · exact .more ho hem' heb (h _ _ h2)
      · rw [List.getD_eq_getElem?_getD, List.getElem?_eq_none (by simp; omega)] at hb
        simp at hb
/-- something of the head may still be to come, for all that is listed tells -/
def pend (md : Region.Mode) (ops : Array Oper) (h : List Nat × List Nat) (listed : Array Bool) : Bool :=
  h.1.any fun k => (List.range ops.size).all fun l => !listed.getD l false || (l == k || (h.2.contains l || !((masks md ops.toList []).getD l 0).testBit k))
theorem pend_of {h : List Nat × List Nat} {listed : Array Bool} (hc : Closed md ops listed) {i : Nat} (hi : i ∈ h.1) (hn : listed.getD i false = false) {listed' : Array Bool} (hl : ∀ l, l ≠ i → listed'.getD l false = true → listed.getD l false = true) : pend md ops h listed' = true := by
  refine List.any_eq_true.2 ⟨i, hi, List.all_eq_true.2 fun l hlm => ?_⟩
  cases h1 : listed'.getD l false with
  | false => simp
  | true =>
    by_cases hli : l = i
    · simp [hli]
    · have h2 := hl l hli h1
      cases h3 : ((masks md ops.toList []).getD l 0).testBit i with
      | false => simp
      | true =>
        have h4 := masks_spec (ops := ops) ops.toList [] [] (by simp) rfl (fun i k hb => by simp at hb) l i h3
        have h5 := h4.listed hc (fun o ho e he hb => hc l o ho h2 e he hb)
        rw [hn] at h5; cases h5
theorem pend_pure {h : List Nat × List Nat} {listed : Array Bool} {i : Nat} (hi : i ∈ h.2) : pend md ops h (listed.setIfInBounds i true) = pend md ops h listed := by
  unfold pend
  congr 1
  funext k
  congr 1
  funext l
  by_cases hl : i = l
  · subst hl
    have : h.2.contains i = true := by simpa using hi
    simp [hi]
  · rw [getD_set_ne false hl]

/-- Whatever order is picked from here on; S holds behind every operation as long as something of the head h may be to come. -/
def wpAnyG (P : Program) (md : Region.Mode) (ops : Array Oper) (Q : Exit → Act → World → Prop) (S : World → Prop) (h : List Nat × List Nat) : Nat → Array Bool → Act → World → Prop
  | 0, listed, a, w => Region.ready md ops listed = [] ∧ Q .normal a w
  | fuel + 1, listed, a, w =>
    (Region.ready md ops listed = [] → Q .normal a w) ∧
    ∀ i ∈ Region.ready md ops listed, wpOp P ops Q i (fun a' w' => (pend md ops h (listed.setIfInBounds i true) = true → S w') ∧ wpAnyG P md ops Q S h fuel (listed.setIfInBounds i true) a' w') a w

theorem wpAny_of_G : ∀ (fuel : Nat) (listed : Array Bool) (a : Act) (w : World), wpAnyG P md ops Q S h fuel listed a w → wpAny P md ops Q fuel listed a w
  | 0, _, _, _, h => h
  | fuel + 1, _, _, _, h => ⟨h.1, fun i hi => wpOp_mono (fun a' w' h' => wpAny_of_G fuel _ a' w' h'.2) (h.2 i hi)⟩

theorem getD_tf {listed : Array Bool} {i : Nat} (h : listed.getD i true = false) : listed.getD i false = false := by
  rcases Nat.lt_or_ge i listed.size with h' | h'
  · simpa [h'] using h
  · simp [Array.getElem?_eq_none h']
theorem wpAnyG_first {i : Nat} {oi : Oper} {v : Value} (hih : i ∈ h.1) (hi : ops[i]? = some oi) (hsel : ∀ (j : Nat) (o : Oper) cs b, ops[j]? = some o → o.op ≠ .select cs b)
    (hQ : ∀ c a w, Q (.panic c) (a.put oi.dst v) w → Q (.panic c) a w) :
    ∀ (fuel : Nat) (listed : Array Bool) (a : Act) (w : World),
      (∀ j oj, ops[j]? = some oj → j ≠ i → listed.getD j true = false → (∀ e ∈ oj.after, Region.binds md e = true → e.on ≠ i) → oi.apart ops oj = true) →
      i ∈ Region.ready md ops listed → Closed md ops listed → YieldsIf P ops S oi v a → S w →
      wpAnyG P md ops Q S h fuel (listed.setIfInBounds i true) (a.put oi.dst v) w → wpAnyG P md ops Q S h (fuel + 1) listed a w := by
  intro fuel
  induction fuel with
  | zero =>
    intro listed a w _ hr _ hy hS H
    refine ⟨fun h => (by rw [h] at hr; cases hr), fun j hj => ?_⟩
    by_cases hji : j = i
    · subst hji; exact hy.wpOp hi hS ⟨fun _ => hS, H⟩
    · have := ready_mono hj hji
      rw [H.1] at this
      cases this
  | succ fuel ih =>
    intro listed a w hfree hr hcl hy hS H
    refine ⟨fun h => (by rw [h] at hr; cases hr), fun j hj => ?_⟩
    by_cases hji : j = i
    · subst hji; exact hy.wpOp hi hS ⟨fun _ => hS, H⟩
    · have h1 := H.2 j (ready_mono hj hji)
      obtain ⟨hjun, oj, hoj, hall⟩ := mem_ready.1 hj
      have h0i := getD_tf (mem_ready.1 hr).1
      have hnot : ∀ e ∈ oj.after, Region.binds md e = true → e.on ≠ i := fun e he hb heq => by
        have h1 := hall e he hb
        rw [heq, h0i] at h1; cases h1
      have h2 := wpOp_putIf hoj (hfree j oj hoj hji hjun hnot) (fun cs b => hsel i oi cs b hi) (fun cs b => hsel j oj cs b hoj) hQ hy h1
      have hfree' : ∀ k ok, ops[k]? = some ok → k ≠ i → (listed.setIfInBounds j true).getD k true = false →
          (∀ e ∈ ok.after, Region.binds md e = true → e.on ≠ i) → oi.apart ops ok = true := fun k ok hk hki hun hno => by
        refine hfree k ok hk hki ?_ hno
        by_cases hjk : j = k
        · subst hjk; exact hjun
        · rw [getD_set_ne true hjk] at hun; exact hun
      have hpi : pend md ops h ((listed.setIfInBounds i true).setIfInBounds j true) = true :=
        pend_of (hcl.set hj) hih (by rw [getD_set_ne false hji]; exact h0i) (fun l hl hh => by
          rw [Array.setIfInBounds_comm _ _ (Ne.symm hji)] at hh
          rwa [getD_set_ne false (Ne.symm hl)] at hh)
      refine wpOp_mono (fun a' w' h3 => ?_) h2
      obtain ⟨hy', hpS, hG⟩ := h3
      have hS' := hpS hpi
      refine ⟨fun _ => hS', ih (listed.setIfInBounds j true) a' w' hfree' (ready_mono hr (Ne.symm hji)) (hcl.set hj) hy' hS' ?_⟩
      rw [Array.setIfInBounds_comm _ _ hji]
      exact hG
/-- what does not look at the world comes first too -/
theorem wpAnyG_firstP {i : Nat} {oi : Oper} {v : Value} (hih : i ∈ h.2) (hi : ops[i]? = some oi) (hsel : ∀ (j : Nat) (o : Oper) cs b, ops[j]? = some o → o.op ≠ .select cs b)
    (hQ : ∀ c a w, Q (.panic c) (a.put oi.dst v) w → Q (.panic c) a w) :
    ∀ (fuel : Nat) (listed : Array Bool) (a : Act) (w : World),
      (∀ j oj, ops[j]? = some oj → j ≠ i → listed.getD j true = false → (∀ e ∈ oj.after, Region.binds md e = true → e.on ≠ i) → oi.apart ops oj = true) →
      i ∈ Region.ready md ops listed → YieldsIf P ops (fun _ => True) oi v a → (pend md ops h listed = true → S w) →
      wpAnyG P md ops Q S h fuel (listed.setIfInBounds i true) (a.put oi.dst v) w → wpAnyG P md ops Q S h (fuel + 1) listed a w := by
  intro fuel
  induction fuel with
  | zero =>
    intro listed a w _ hr hy hS H
    refine ⟨fun h => (by rw [h] at hr; cases hr), fun j hj => ?_⟩
    by_cases hji : j = i
    · subst hji; exact hy.wpOp hi trivial ⟨(fun hp => hS (by rwa [pend_pure hih] at hp)), H⟩
    · have := ready_mono hj hji
      rw [H.1] at this
      cases this
  | succ fuel ih =>
    intro listed a w hfree hr hy hS H
    refine ⟨fun h => (by rw [h] at hr; cases hr), fun j hj => ?_⟩
    by_cases hji : j = i
    · subst hji; exact hy.wpOp hi trivial ⟨(fun hp => hS (by rwa [pend_pure hih] at hp)), H⟩
    · have h1 := H.2 j (ready_mono hj hji)
      obtain ⟨hjun, oj, hoj, hall⟩ := mem_ready.1 hj
      have h0i := getD_tf (mem_ready.1 hr).1
      have hnot : ∀ e ∈ oj.after, Region.binds md e = true → e.on ≠ i := fun e he hb heq => by
        have h1 := hall e he hb
        rw [heq, h0i] at h1; cases h1
      have h2 := wpOp_putIf hoj (hfree j oj hoj hji hjun hnot) (fun cs b => hsel i oi cs b hi) (fun cs b => hsel j oj cs b hoj) hQ hy h1
      have hfree' : ∀ k ok, ops[k]? = some ok → k ≠ i → (listed.setIfInBounds j true).getD k true = false →
          (∀ e ∈ ok.after, Region.binds md e = true → e.on ≠ i) → oi.apart ops ok = true := fun k ok hk hki hun hno => by
        refine hfree k ok hk hki ?_ hno
        by_cases hjk : j = k
        · subst hjk; exact hjun
        · rw [getD_set_ne true hjk] at hun; exact hun
      refine wpOp_mono (fun a' w' h3 => ?_) h2
      obtain ⟨hy', hpS, hG⟩ := h3
      rw [Array.setIfInBounds_comm _ _ (Ne.symm hji), pend_pure hih] at hpS
      refine ⟨hpS, ih (listed.setIfInBounds j true) a' w' hfree' (ready_mono hr (Ne.symm hji)) hy' hpS ?_⟩
      rw [Array.setIfInBounds_comm _ _ hji]
      exact hG
end

theorem wpOpIn_fen {P : Program} {rd : Option Nat} {m : Nat} {ops : Array Oper} {Q : Exit → Act → World → Prop} (hq : ¬ LetsOut Q) (hn : ops.all notDefer = true) {i : Nat} {K : Act → World → Prop} {a : Act} {w : World} (h : wpOp P ops Q i K a w) : wpOpIn (fen rd) m P ops Q i K a w := by
  unfold wpOp at h
  unfold wpOpIn
  split
  · rename_i h0; simpa [h0] using h
  · rename_i o ho
    simp only [ho] at h
    have ho' : notDefer o = true := by
      obtain ⟨h1, h2⟩ := Array.getElem?_eq_some_iff.1 ho
      rw [Array.all_eq_true] at hn
      rw [← h2]; exact hn i h1
    split
    · rename_i hw
      rw [if_pos hw] at h
      exact wpIn_fen ho' (h.resolve_right fun h2 => hq h2.2)
    · rename_i hw
      rw [if_neg hw] at h
      exact ⟨fun _ _ => trivial, h⟩
theorem wpAnyIn_fen {P : Program} {rd : Option Nat} {m : Nat} {md : Region.Mode} {ops : Array Oper} {Q : Exit → Act → World → Prop} (hq : ¬ LetsOut Q) (hn : ops.all notDefer = true) : ∀ {fuel : Nat} {listed : Array Bool} {a : Act} {w : World}, wpAny P md ops Q fuel listed a w → wpAnyIn (fen rd) m P md ops Q fuel listed a w
  | 0, _, _, _, h => h
  | fuel + 1, _, _, _, h => ⟨h.1, fun i hi => wpOpIn_mono (fun _ _ h' => wpAnyIn_fen hq hn h') (wpOpIn_fen hq hn (h.2 i hi))⟩

def mk (n : Nat) (dn : List Nat) : Array Bool := dn.foldl (fun a i => a.setIfInBounds i true) (Array.replicate n false)

/-- a region whose order is drawn: the operations of dn have been carried out -/
def D (P : Program) (l : List Oper) (Q : Post) (S : World → Prop) (h : List Nat × List Nat) (dn : List Nat) (n : Nn) (g : Env) (w : World) : Prop :=
  ∀ a, Fr n g a → ∀ fuel, fuel + dn.length = l.length → wpAnyG P .any l.toArray (NP Q) S h fuel (mk l.length dn) a w

section rules
variable {P : Program} {Q : Post} {S : World → Prop} {h : List Nat × List Nat} {dn : List Nat} {n : Nn} {g : Env} {w : World} {l : List Oper} {i : Nat} {o : Oper} {op : Op} {ty : TypeId} {pos : String} {af : Array Edge} {d : Nat} {v : Value}

theorem C.drawn {id : Nat} (S : World → Prop) (h : List Nat × List Nat) (hm : P.follows .mixedOrders = true) (k : D P l Q S h [] n g w.drew) (hn : l.all notDefer = true := by rfl) : C P (.region id l.toArray true) Q n g w := fun a f => by
  refine Code.wpIn_mono NP.out (wpIn_region_any hm (wpAnyIn_fen NP.in_ (by simpa using hn) ?_))
  have := wpAny_of_G _ _ _ _ (k a f l.length (by simp))
  simpa [mk] using this

theorem mk_snoc (m : Nat) (dn : List Nat) (i : Nat) : mk m (dn ++ [i]) = (mk m dn).setIfInBounds i true := by simp [mk]

def closedB (l : List Oper) (dn : List Nat) : Bool := dn.all fun k => match l[k]? with | some o => o.after.all fun e => !Region.binds .any e || dn.contains e.on | none => true
theorem mk_get {n : Nat} : ∀ (dn : List Nat) (k : Nat), (mk n dn).getD k false = true → k ∈ dn := by
  have key : ∀ (dn : List Nat) (a : Array Bool) (k : Nat), (dn.foldl (fun a i => a.setIfInBounds i true) a).getD k false = true → k ∈ dn ∨ a.getD k false = true := by
    intro dn
    induction dn with
    | nil => intro a k h; exact .inr h
    | cons x dn ih =>
      intro a k h
      rcases ih _ k h with h1 | h1
      · exact .inl (by simp [h1])
      · by_cases hx : x = k
        · exact .inl (by simp [hx])
        · rw [getD_set_ne false hx] at h1; exact .inr h1
  intro dn k h
  rcases key dn _ k h with h1 | h1
  · exact h1
  · simp only [Array.getD_eq_getD_getElem?, Array.getElem?_replicate] at h1
    split at h1 <;> simp at h1
theorem mk_in {n : Nat} {dn : List Nat} {k : Nat} (hk : k ∈ dn) (hn : k < n) : (mk n dn).getD k false = true := by
  have key : ∀ (dn : List Nat) (a : Array Bool), k < a.size → (k ∈ dn ∨ a.getD k false = true) → (dn.foldl (fun a i => a.setIfInBounds i true) a).getD k false = true := by
    intro dn
    induction dn with
    | nil => intro a _ h; simpa using h
    | cons x dn ih =>
      intro a hs h
      refine ih _ (by simpa using hs) ?_
      rcases h with h | h
      · rcases List.mem_cons.1 h with rfl | h
        · right; simp [hs]
        · exact .inl h
      · exact .inr (getD_set_true h)
  exact key dn _ (by simpa using hn) (.inl hk)
theorem closedB_spec {l : List Oper} {dn : List Nat} (h : closedB l dn = true) (hb : dn.all (Nat.blt · l.length) = true) : Closed .any l.toArray (mk l.length dn) := by
  intro k ok hk hl e he hbi
  have h1 := List.all_eq_true.1 h k (mk_get dn k hl)
  have hk' : l[k]? = some ok := by simpa using hk
  rw [hk'] at h1
  simp only at h1
  have h2 := Array.all_eq_true_iff_forall_mem.1 h1 e he
  rw [hbi] at h2
  have h3 : e.on ∈ dn := by simpa using h2
  exact mk_in h3 (by have := List.all_eq_true.1 hb _ h3; simpa [Nat.blt_eq] using this)
def takeB (l : List Oper) (h : List Nat × List Nat) (dn : List Nat) (i : Nat) : Bool :=
  closedB l dn && dn.all (Nat.blt · l.length) &&
  (h.1.contains i && Region.noSelect l.toArray && Region.free .any l.toArray (mk l.length dn) i && (Region.ready .any l.toArray (mk l.length dn)).contains i && Nat.blt dn.length l.length)

theorem D.yields (i : Nat) {o : Oper} {g' : Env} (hi : l[i]? = some o) (hc : takeB l h dn i = true) (hS : S w) (hy : ∀ a, Fr n g a → YieldsIf P l.toArray S o v a) (hf : ∀ a, Fr n g a → Fr n g' (a.put o.dst v))
    (k : D P l Q S h (dn ++ [i]) n g' w) : D P l Q S h dn n g w := fun a f fuel hfu => by
  simp only [takeB, Bool.and_eq_true] at hc
  obtain ⟨⟨c6, c7⟩, ⟨⟨⟨c1, c2⟩, c3⟩, c4⟩, c5⟩ := hc
  have hlt : dn.length < l.length := by simpa [Nat.blt_eq] using c5
  cases fuel with
  | zero => omega
  | succ fuel =>
    refine wpAnyG_first (i := i) (v := v) (by simpa using c1) (by simpa using hi) (Region.noSelect_spec c2) (fun _ _ _ hh => hh.elim) fuel _ a w (Region.free_spec (by simpa using hi) c3) (by simpa using c4) (closedB_spec c6 c7) (hy a f) hS ?_
    have := k _ (hf a f) fuel (by simp; omega)
    rw [mk_snoc] at this
    exact this

def pureB (l : List Oper) (h : List Nat × List Nat) (dn : List Nat) (i : Nat) : Bool :=
  h.2.contains i && Region.noSelect l.toArray && Region.free .any l.toArray (mk l.length dn) i && (Region.ready .any l.toArray (mk l.length dn)).contains i && Nat.blt dn.length l.length
def pendB (l : List Oper) (h : List Nat × List Nat) (dn : List Nat) : Bool := pend .any l.toArray h (mk l.length dn)
theorem D.yieldsP (i : Nat) {o : Oper} {g' : Env} (hi : l[i]? = some o) (hc : pureB l h dn i = true) (hS : pendB l h dn = true → S w) (hy : ∀ a, Fr n g a → YieldsIf P l.toArray (fun _ => True) o v a) (hf : ∀ a, Fr n g a → Fr n g' (a.put o.dst v))
    (k : D P l Q S h (dn ++ [i]) n g' w) : D P l Q S h dn n g w := fun a f fuel hfu => by
  simp only [pureB, Bool.and_eq_true] at hc
  obtain ⟨⟨⟨⟨c1, c2⟩, c3⟩, c4⟩, c5⟩ := hc
  have hlt : dn.length < l.length := by simpa [Nat.blt_eq] using c5
  cases fuel with
  | zero => omega
  | succ fuel =>
    refine wpAnyG_firstP (i := i) (v := v) (by simpa using c1) (by simpa using hi) (Region.noSelect_spec c2) (fun _ _ _ hh => hh.elim) fuel _ a w (Region.free_spec (by simpa using hi) c3) (by simpa using c4) (hy a f) hS ?_
    have := k _ (hf a f) fuel (by simp; omega)
    rw [mk_snoc] at this
    exact this
theorem np {p : Prop} (h0 : pendB l h dn = false) : pendB l h dn = true → p := fun hh => by rw [h0] at hh; cases hh
theorem D.evP (i : Nat) (hi : l[i]? = some ⟨some d, op, ty, pos, af, none⟩) (hc : pureB l h dn i = true) (hd : Nat.blt d n.sz = true) (hS : pendB l h dn = true → S w) (hv : ∀ w, Ev P n g ⟨some d, op, ty, pos, af, none⟩ w v)
    (k : D P l Q S h (dn ++ [i]) n ((d, v) :: g) w) : D P l Q S h dn n g w :=
  D.yieldsP i hi hc hS (fun a f => .inl ⟨rfl, fun w _ => hv w a f⟩) (fun _ f => f.put hd v) k
theorem D.evPG (i : Nat) {j : Nat} {want b : Bool} (hi : l[i]? = some ⟨some d, op, ty, pos, af, some (j, want)⟩) (hc : pureB l h dn i = true) (hd : Nat.blt d n.sz = true) (hg : gd l.toArray g j = some (.bool b)) (hb : (b == want) = true) (hS : pendB l h dn = true → S w)
    (hv : ∀ w, Ev P n g ⟨some d, op, ty, pos, af, some (j, want)⟩ w v)
    (k : D P l Q S h (dn ++ [i]) n ((d, v) :: g) w) : D P l Q S h dn n g w :=
  D.yieldsP i hi hc hS (fun a f => .inl ⟨by rw [wanted_gd f rfl hg]; exact hb, fun w _ => hv w a f⟩) (fun _ f => f.put hd v) k
theorem D.skipP (i : Nat) {j : Nat} {want b : Bool} (hi : l[i]? = some ⟨some d, op, ty, pos, af, some (j, want)⟩) (hc : pureB l h dn i = true) (hd : Nat.blt d n.sz = true) (hg : gd l.toArray g j = some (.bool b)) (hb : (b == want) = false) (hS : pendB l h dn = true → S w)
    (k : D P l Q S h (dn ++ [i]) n ((d, undef) :: g) w) : D P l Q S h dn n g w :=
  D.yieldsP i hi hc hS (fun a f => .inr ⟨by rw [wanted_gd f rfl hg]; exact hb, rfl⟩) (fun _ f => f.put hd undef) k
theorem D.undefP (i : Nat) {j : Nat} {want : Bool} (hi : l[i]? = some ⟨some d, op, ty, pos, af, some (j, want)⟩) (hc : pureB l h dn i = true) (hd : Nat.blt d n.sz = true) (hg : gd l.toArray g j = some undef) (hS : pendB l h dn = true → S w)
    (k : D P l Q S h (dn ++ [i]) n ((d, undef) :: g) w) : D P l Q S h dn n g w :=
  D.yieldsP i hi hc hS (fun _ f => .inr ⟨wanted_undef f rfl hg, rfl⟩) (fun _ f => f.put hd Go.undef) k

/-- what only reads, taken first -/
theorem D.ev (i : Nat) (hi : l[i]? = some ⟨some d, op, ty, pos, af, none⟩) (hc : takeB l h dn i = true) (hd : Nat.blt d n.sz = true) (hS : S w) (hv : ∀ w, S w → Ev P n g ⟨some d, op, ty, pos, af, none⟩ w v)
    (k : D P l Q S h (dn ++ [i]) n ((d, v) :: g) w) : D P l Q S h dn n g w :=
  D.yields i hi hc hS (fun a f => .inl ⟨rfl, fun w hw => hv w hw a f⟩) (fun _ f => f.put hd v) k
theorem D.evG (i : Nat) {j : Nat} {want b : Bool} (hi : l[i]? = some ⟨some d, op, ty, pos, af, some (j, want)⟩) (hc : takeB l h dn i = true) (hd : Nat.blt d n.sz = true) (hg : gd l.toArray g j = some (.bool b)) (hb : (b == want) = true) (hS : S w)
    (hv : ∀ w, S w → Ev P n g ⟨some d, op, ty, pos, af, some (j, want)⟩ w v)
    (k : D P l Q S h (dn ++ [i]) n ((d, v) :: g) w) : D P l Q S h dn n g w :=
  D.yields i hi hc hS (fun a f => .inl ⟨by rw [wanted_gd f rfl hg]; exact hb, fun w hw => hv w hw a f⟩) (fun _ f => f.put hd v) k
theorem D.skip (i : Nat) {j : Nat} {want b : Bool} (hi : l[i]? = some ⟨some d, op, ty, pos, af, some (j, want)⟩) (hc : takeB l h dn i = true) (hd : Nat.blt d n.sz = true) (hg : gd l.toArray g j = some (.bool b)) (hb : (b == want) = false) (hS : S w)
    (k : D P l Q S h (dn ++ [i]) n ((d, undef) :: g) w) : D P l Q S h dn n g w :=
  D.yields i hi hc hS (fun a f => .inr ⟨by rw [wanted_gd f rfl hg]; exact hb, rfl⟩) (fun _ f => f.put hd undef) k
theorem D.undef (i : Nat) {j : Nat} {want : Bool} (hi : l[i]? = some ⟨some d, op, ty, pos, af, some (j, want)⟩) (hc : takeB l h dn i = true) (hd : Nat.blt d n.sz = true) (hg : gd l.toArray g j = some undef) (hS : S w)
    (k : D P l Q S h (dn ++ [i]) n ((d, undef) :: g) w) : D P l Q S h dn n g w :=
  D.yields i hi hc hS (fun _ f => .inr ⟨wanted_undef f rfl hg, rfl⟩) (fun _ f => f.put hd Go.undef) k

/-- behind an acting operation -/
def BackQ (P : Program) (l : List Oper) (Q : Post) (S : World → Prop) (h : List Nat × List Nat) (dn : List Nat) (i : Nat) : Post :=
  ⟨none, Exit.then (fun a' w' => (pendB l h (dn ++ [i]) = true → S w') ∧ ∀ fuel, fuel + (dn.length + 1) = l.length → wpAnyG P .any l.toArray (NP Q) S h fuel (mk l.length (dn ++ [i])) a' w') (NP Q)⟩

theorem wpOp_of_R {a : Act} {K : Act → World → Prop} {Q' Q2 : Exit → Act → World → Prop} (hi : l[i]? = some o) (h1 : ∀ a w, Q2 .normal a w → K a w) (h2 : ∀ c a w, ¬ Q2 (.panic c) a w) (h3 : ¬ LetsOut Q2) (hr : wpList P l.toArray Q2 [o] a w) : wpOp P l.toArray Q' i K a w := by
  have hi' : l.toArray[i]? = some o := by simpa using hi
  unfold wpOp
  rw [hi']
  unfold wpList at hr
  simp only []
  split
  · rename_i hw
    rw [if_pos hw] at hr
    refine .inl ?_
    have hr := hr.resolve_right fun h => h3 h.2
    unfold Oper.wp at hr ⊢
    generalize (execOp a.eval o).run P w = r at hr ⊢
    cases r with
    | ok n w' =>
      cases n <;> simp only [Oper.upon, wpList] at hr ⊢ <;>
        first
          | exact h1 _ _ hr
          | exact Calls.mono hr (fun e w'' he => by
              cases e with
              | returned v => exact h1 _ _ he
              | panicked c => exact (h2 _ _ _ he).elim
              | outgrown => exact (h3 he).elim)
          | exact Rows.mono hr (fun _ _ he => h1 _ _ he)
    | halt x w' => cases x <;> simp only [Oper.upon] at hr ⊢ <;> exact (h2 _ _ _ hr).elim
  · rename_i hw
    rw [if_neg hw] at hr
    exact h1 _ _ hr

def readyIs (l : List Oper) (dn rs : List Nat) : Bool := (Region.ready .any l.toArray (mk l.length dn) == rs) && Nat.blt dn.length l.length

/-- only operation i may come up -/
theorem D.act (i : Nat) {o : Oper} (hi : l[i]? = some o) (hc : readyIs l dn [i] = true) (k : R P l.toArray (BackQ P l Q S h dn i) [o] n g w) : D P l Q S h dn n g w := fun a f fuel hfu => by
  simp only [readyIs, Bool.and_eq_true, beq_iff_eq] at hc
  have hlt : dn.length < l.length := by simpa [Nat.blt_eq] using hc.2
  cases fuel with
  | zero => omega
  | succ fuel =>
    refine ⟨fun h0 => ?_, fun j hj => ?_⟩
    · rw [hc.1] at h0; cases h0
    · rw [hc.1] at hj
      have : j = i := by simpa using hj
      subst this
      refine wpOp_mono ?_ (wpOp_of_R hi (fun _ _ h => h) (fun _ _ _ h => h) NP.in_ (k a f))
      intro a' w' ⟨h1, h2⟩
      refine ⟨by unfold pendB at h1; rw [mk_snoc] at h1; exact h1, ?_⟩
      have := h2 fuel (by omega)
      rw [mk_snoc] at this
      exact this
/-- one of the operations i, j may come up -/
theorem D.act2 (i j : Nat) {o o' : Oper} (hi : l[i]? = some o) (hj : l[j]? = some o') (hc : readyIs l dn [i, j] = true) (k : R P l.toArray (BackQ P l Q S h dn i) [o] n g w) (k' : R P l.toArray (BackQ P l Q S h dn j) [o'] n g w) : D P l Q S h dn n g w := fun a f fuel hfu => by
  simp only [readyIs, Bool.and_eq_true, beq_iff_eq] at hc
  have hlt : dn.length < l.length := by simpa [Nat.blt_eq] using hc.2
  cases fuel with
  | zero => omega
  | succ fuel =>
    refine ⟨fun h0 => ?_, fun x hx => ?_⟩
    · rw [hc.1] at h0; cases h0
    · rw [hc.1] at hx
      have hx' : x = i ∨ x = j := by simpa using hx
      rcases hx' with rfl | rfl
      · refine wpOp_mono ?_ (wpOp_of_R hi (fun _ _ h => h) (fun _ _ _ h => h) NP.in_ (k a f))
        intro a' w' ⟨h1, h2⟩
        refine ⟨by unfold pendB at h1; rw [mk_snoc] at h1; exact h1, ?_⟩
        have := h2 fuel (by omega)
        rw [mk_snoc] at this
        exact this
      · refine wpOp_mono ?_ (wpOp_of_R hj (fun _ _ h => h) (fun _ _ _ h => h) NP.in_ (k' a f))
        intro a' w' ⟨h1, h2⟩
        refine ⟨by unfold pendB at h1; rw [mk_snoc] at h1; exact h1, ?_⟩
        have := h2 fuel (by omega)
        rw [mk_snoc] at this
        exact this
theorem D.back {ops : Array Oper} (hS : S w) (k : D P l Q S h (dn ++ [i]) n g w) : R P ops (BackQ P l Q S h dn i) [] n g w := fun a f =>
  show (_ → S w) ∧ _ from ⟨fun _ => hS, fun fuel hf => k a f fuel (by simpa using hf)⟩
/-- operation i waits for the whole head: S need not hold behind it -/
theorem D.backT {ops : Array Oper} (ht : pendB l h (dn ++ [i]) = false) (k : D P l Q S h (dn ++ [i]) n g w) : R P ops (BackQ P l Q S h dn i) [] n g w := fun a f =>
  show (_ → S w) ∧ _ from ⟨(fun hh => by rw [ht] at hh; cases hh), fun fuel hf => k a f fuel (by simpa using hf)⟩
theorem D.keep (g' : Env) (s : Sub g' g) (k : D P l Q S h dn n g' w) : D P l Q S h dn n g w := fun a f => k a (f.sub s)
theorem D.split (d : Nat) {b : Bool} (hd : lk g d = some (.bool b)) (h1 : b = true → D P l Q S h dn n ((d, .bool true) :: g) w) (h2 : b = false → D P l Q S h dn n ((d, .bool false) :: g) w) : D P l Q S h dn n g w := by
  cases b
  · exact fun a f => h2 rfl a (f.more hd)
  · exact fun a f => h1 rfl a (f.more hd)
theorem D.done (hl : l.length = dn.length) (hc : Region.ready .any l.toArray (mk l.length dn) = []) (k : X Q .normal n g w) : D P l Q S h dn n g w := fun a f fuel hfu => by
  have : fuel = 0 := by omega
  subst this
  exact ⟨hc, k a f⟩
end rules
end Go.Eng
