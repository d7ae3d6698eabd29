/-
  A small program logic over the kit's Code.wp: partial frames (the known slots alone), one lemma for each operation, applied by refine. Over any program.
-/
import Derived.Calls
import Derived.Tactics
import Derived.Tactics2
import Derived.Below
import Derived.Deep.LoopGhost
import Derived.OrdersHeld
import Derived.OrdersIn
import Derived.TacticsIn
import Derived.Sort.LoopGhostIn
import Derived.RangeFuncRecord
namespace Go.Eng
open Go.RowKit

/-- the known slots -/
abbrev Env := List (Nat × Value)

def lk : Env → Nat → Option Value
  | [], _ => none
  | (i, v) :: g, j => match Nat.beq i j with | true => some v | false => lk g j

/-- a frame's slots and the marks of its loops over functions -/
structure Nn where
  sz : Nat
  dfs : List Deferred := []
/-- the frame a has n slots, its marks, and the known slots -/
structure Fr (n : Nn) (g : Env) (a : Act) : Prop where
  size : a.tmps.size = n.sz
  defers : a.defers = n.dfs
  known : ∀ j v, lk g j = some v → a.tmps[j]? = some v

def look (g : Env) : Operand → Option Value
  | .tmp t => lk g t
  | .const v => some v
  | .global k => some (.pointer (some ⟨k, 0, none⟩))
  | .func f => some (.func (.func f) #[] #[])

theorem Fr.eval {n : Nn} {g : Env} {a : Act} (h : Fr n g a) {x : Operand} {v : Value} (hx : look g x = some v) : a.eval x = v := by
  cases x with
  | tmp t => have := h.known t v hx; simp [Act.eval, this]
  | const c => simpa [look, Act.eval] using hx
  | global k => simpa [look, Act.eval] using hx
  | func f => simpa [look, Act.eval] using hx

theorem Fr.put {n : Nn} {g : Env} {a : Act} (h : Fr n g a) {d : Nat} (hd : Nat.blt d n.sz = true) (v : Value) : Fr n ((d, v) :: g) (a.put (some d) v) := by
  have hlt : d < n.sz := by simpa [Nat.blt_eq] using hd
  refine ⟨by simp [Act.put, h.size], by simp [Act.put, h.defers], ?_⟩
  intro j u hj
  simp only [Act.put]
  unfold lk at hj
  split at hj
  · rename_i hb
    have : d = j := Nat.eq_of_beq_eq_true hb
    subst this
    have hs : d < a.tmps.size := by rw [h.size]; exact hlt
    simp at hj
    simp [hj, Array.getElem?_setIfInBounds_self_of_lt hs]
  · rename_i hb
    have : d ≠ j := Nat.ne_of_beq_eq_false hb
    rw [Array.getElem?_setIfInBounds_ne this]
    exact h.known j u hj

theorem Fr.put_none {n : Nn} {g : Env} {a : Act} (h : Fr n g a) (v : Value) : Fr n g (a.put none v) := h

/-- every listed slot is known in g, with that value -/
def Sub : Env → Env → Prop
  | [], _ => True
  | (i, v) :: h, g => lk g i = some v ∧ Sub h g

theorem Sub.lk {h g : Env} (s : Sub h g) : ∀ j v, lk h j = some v → lk g j = some v := by
  induction h with
  | nil => intro j v hj; simp [Eng.lk] at hj
  | cons p h ih =>
    obtain ⟨i, u⟩ := p
    intro j v hj
    unfold Eng.lk at hj
    split at hj
    · rename_i hb
      have : i = j := Nat.eq_of_beq_eq_true hb
      subst this
      simp at hj
      subst hj
      exact s.1
    · exact ih s.2 j v hj

theorem Fr.sub {n : Nn} {g h : Env} {a : Act} (f : Fr n g a) (s : Sub h g) : Fr n h a := ⟨f.size, f.defers, fun j v hj => f.known j v (s.lk j v hj)⟩

/-- what is asked behind; rd: in a round of which loop over a function -/
structure Post where
  rd : Option Nat
  q : Exit → Act → World → Prop
/-- the fence: every function; the round -/
def fen (rd : Option Nat) : Fence := { Fence.wide with round := rd }
abbrev Post.F (Q : Post) : Fence := fen Q.rd

/-- a code, from every frame with the known slots -/
def C (P : Program) (c : Code) (Q : Post) (n : Nn) (g : Env) (w : World) : Prop := ∀ a, Fr n g a → c.wpIn Q.F 0 P Q.q a w
/-- a post, of every frame with the known slots -/
def X (Q : Post) (e : Exit) (n : Nn) (g : Env) (w : World) : Prop := ∀ a, Fr n g a → Q.q e a w
/-- the operations that are left of a region -/
def NP (Q : Post) : Exit → Act → World → Prop := fun e a w => match e with | .normal => Q.q .normal a w | _ => False
theorem NP.out {Q : Post} : ∀ (e : Exit) (a : Act) (w : World), NP Q e a w → Q.q e a w := fun e a w h => by
  cases e <;> first | exact h | exact (h : False).elim
theorem NP.in_ {Q : Post} : ¬ LetsOut (NP Q) := fun ⟨_, _, h⟩ => h
def R (P : Program) (ops : Array Oper) (Q : Post) (l : List Oper) (n : Nn) (g : Env) (w : World) : Prop := ∀ a, Fr n g a → wpList P ops (NP Q) l a w
/-- an operation yields a value and leaves the world as it is -/
def Ev (P : Program) (n : Nn) (g : Env) (o : Oper) (w : World) (v : Value) : Prop := ∀ a, Fr n g a → (execOp a.eval o).run P w = .ok (.value v) w
/-- an operation leaves a value (none: no value) and a world -/
def Ac (P : Program) (n : Nn) (g : Env) (o : Oper) (w : World) (v : Option Value) (w' : World) : Prop :=
  ∀ a, Fr n g a → (execOp a.eval o).run P w = .ok (match v with | some v => .value v | none => .skip) w'

/-- a call that returns -/
def Ret (P : Program) (f : FuncId) (args : Array Value) (w : World) (F : Value → World → Prop) : Prop :=
  Calls P f args w fun e w' => ∃ v, e = .returned v ∧ F v w'

theorem Ret.mono {P : Program} {f : FuncId} {args : Array Value} {w : World} {F G : Value → World → Prop} (h : Ret P f args w F) (k : ∀ v w', F v w' → G v w') : Ret P f args w G :=
  Calls.mono h fun _ _ ⟨v, he, hF⟩ => ⟨v, he, k v _ hF⟩

section control
variable {P : Program} {Q : Post} {n : Nn} {g : Env} {w : World}

theorem C.keep {c : Code} (h : Env) (s : Sub h g) (k : C P c Q n h w) : C P c Q n g w := fun a f => k a (f.sub s)
def seqP (P : Program) (y : Code) (Q : Post) : Post := ⟨Q.rd, Exit.then (y.wpIn Q.F 0 P Q.q) Q.q⟩
def blkP (i : Nat) (Q : Post) : Post := ⟨Q.rd, Exit.inBlock i Q.q⟩
theorem C.skip (h : X Q .normal n g w) : C P .skip Q n g w := fun a f => wpIn_skip (h a f)
theorem C.exit {i : Nat} (h : X Q (.exit i) n g w) : C P (.exit i) Q n g w := fun a f => wpIn_exit (h a f)
theorem C.ret (h : X Q .ret n g w) : C P .ret Q n g w := fun a f => wpIn_ret (h a f)
theorem C.seq {x y : Code} (h : C P x (seqP P y Q) n g w) : C P (.seq x y) Q n g w := fun a f => wpIn_seq (h a f)
theorem C.block {i : Nat} {c : Code} (h : C P c (blkP i Q) n g w) : C P (.block i c) Q n g w := fun a f => wpIn_block (h a f)
theorem C.ctrue {c : Operand} {x y : Code} (hc : look g c = some (.bool true)) (h : C P x Q n g w) : C P (.cond c x y) Q n g w := fun a f => wpIn_cond_true (f.eval hc) (h a f)
theorem C.cfalse {c : Operand} {x y : Code} (hc : look g c = some (.bool false)) (h : C P y Q n g w) : C P (.cond c x y) Q n g w := fun a f => wpIn_cond_false (f.eval hc) (h a f)
theorem C.cbool {c : Operand} {x y : Code} {b : Bool} (hc : look g c = some (.bool b)) (h1 : b = true → C P x Q n g w) (h2 : b = false → C P y Q n g w) : C P (.cond c x y) Q n g w := by
  cases b
  · exact C.cfalse hc (h2 rfl)
  · exact C.ctrue hc (h1 rfl)
theorem C.cdec {c : Operand} {x y : Code} {p : Prop} [Decidable p] (hc : look g c = some (.bool (decide p))) (h1 : p → C P x Q n g w) (h2 : ¬ p → C P y Q n g w) : C P (.cond c x y) Q n g w :=
  C.cbool hc (fun h => h1 (of_decide_eq_true h)) (fun h => h2 (of_decide_eq_false h))
/-- a slot whose value is known under another name -/
theorem Fr.more {n : Nn} {g : Env} {a : Act} (f : Fr n g a) {d : Nat} {v : Value} (hd : lk g d = some v) : Fr n ((d, v) :: g) a := by
  refine ⟨f.size, f.defers, ?_⟩
  intro j u hj
  unfold lk at hj
  split at hj
  · rename_i hb
    have : d = j := Nat.eq_of_beq_eq_true hb
    subst this
    simp at hj
    subst hj
    exact f.known d v hd
  · exact f.known j u hj
theorem C.slot {c : Code} (d : Nat) {v : Value} (u : Value) (hc : lk g d = some v) (hb : v = u) (h : C P c Q n ((d, u) :: g) w) : C P c Q n g w := by
  subst hb
  exact fun a f => h a (f.more hc)
theorem R.slot {ops : Array Oper} {l : List Oper} (d : Nat) {v : Value} (u : Value) (hc : lk g d = some v) (hb : v = u) (h : R P ops Q l n ((d, u) :: g) w) : R P ops Q l n g w := by
  subst hb
  exact fun a f => h a (f.more hc)
theorem R.keep {ops : Array Oper} {l : List Oper} (h : Env) (s : Sub h g) (k : R P ops Q l n h w) : R P ops Q l n g w := fun a f => k a (f.sub s)
theorem X.keep {e : Exit} (h : Env) (s : Sub h g) (k : X Q e n h w) : X Q e n g w := fun a f => k a (f.sub s)

/-! posts -/
theorem X.next {y : Code} (h : C P y Q n g w) : X (seqP P y Q) .normal n g w := h
theorem X.thenExit {y : Code} {i : Nat} (h : X Q (.exit i) n g w) : X (seqP P y Q) (.exit i) n g w := h
theorem X.thenRet {y : Code} (h : X Q .ret n g w) : X (seqP P y Q) .ret n g w := h
theorem X.blockNormal {i : Nat} (h : X Q .normal n g w) : X (blkP i Q) .normal n g w := h
theorem X.blockRet {i : Nat} (h : X Q .ret n g w) : X (blkP i Q) .ret n g w := h
theorem X.blockExit {i : Nat} (h : X Q .normal n g w) : X (blkP i Q) (.exit i) n g w := fun a f => by
  show (if i = i then _ else _)
  rw [if_pos rfl]; exact h a f
theorem X.blockOther {i j : Nat} (hij : Nat.beq j i = false) (h : X Q (.exit j) n g w) : X (blkP i Q) (.exit j) n g w := fun a f => by
  show (if j = i then _ else _)
  rw [if_neg (Nat.ne_of_beq_eq_false hij)]; exact h a f

/-! the end of a function -/
def RetQ (F : Value → World → Prop) : Ending → World → Prop := fun e w' => ∃ v, e = .returned v ∧ F v w'
def BodyQ (P : Program) (fn : Func) (F : Value → World → Prop) : Post := ⟨none, bodyPostM (fen none) 0 P fn (RetQ F)⟩
theorem X.bodyNormal {fn : Func} {F : Value → World → Prop} (h : X (BodyQ P fn F) .ret n g w) : X (BodyQ P fn F) .normal n g w := h
/-- the marks come to an end: each block hands nothing over -/
def Marks (P : Program) : List Deferred → World → (World → Prop) → Prop
  | [], w, K => K w
  | d :: ds, w, K => ∃ r w', d.target = .collected r ∧ (Instr.takeDeferred r).run P w = .ok [] w' ∧ Marks P ds w' K
theorem Marks.leave {fn : Func} {tmps : Array Value} {F : Value → World → Prop} : ∀ {ds : List Deferred} {w : World}, Marks P ds w (fun w' => ∃ v, (results fn tmps).run P w' = .ok v w' ∧ F v w') → LeavesInM (fen none) 0 P fn tmps (RetQ F) ds .returning w
  | [], w, ⟨v, h1, h2⟩ => ⟨v, h1, v, rfl, h2⟩
  | d :: ds, w, ⟨r, w', h1, h2, h3⟩ => ⟨by simp, .inl ⟨r, w', h1, h2, Marks.leave h3⟩⟩
theorem X.leave {fn : Func} {F : Value → World → Prop} (h : Marks P n.dfs w fun w' => ∀ a, Fr n g a → ∃ v, (results fn a.tmps).run P w' = .ok v w' ∧ F v w') : X (BodyQ P fn F) .ret n g w := fun a f => by
  show LeavesInM _ _ _ _ _ _ a.defers _ _
  rw [f.defers]
  refine Marks.leave ?_
  have : ∀ (ds : List Deferred) (w : World) (K K' : World → Prop), (∀ w, K w → K' w) → Marks P ds w K → Marks P ds w K' := by
    intro ds
    induction ds with
    | nil => exact fun w K K' hk h => hk w h
    | cons d ds ih => exact fun w K K' hk ⟨r, w', h1, h2, h3⟩ => ⟨r, w', h1, h2, ih w' K K' hk h3⟩
  exact this _ _ _ _ (fun w' hw => hw a f) h
theorem X.leave0 {fn : Func} {F : Value → World → Prop} (hn : n.dfs = []) (h : ∀ a, Fr n g a → ∃ v, (results fn a.tmps).run P w = .ok v w ∧ F v w) : X (BodyQ P fn F) .ret n g w := by
  refine X.leave ?_
  rw [hn]; exact h
theorem X.ret0 {fn : Func} {F : Value → World → Prop} (hr : fn.results = #[]) (h : F (.tuple #[]) w) (hn : n.dfs = [] := by rfl) : X (BodyQ P fn F) .ret n g w :=
  X.leave0 hn fun a _ => ⟨_, results_none hr a.tmps P w, h⟩
theorem Fr.getD {a : Act} (f : Fr n g a) {t : Nat} {v : Value} (h : lk g t = some v) : a.tmps.getD t undef = v := by
  have := f.known t v h
  simp [this]
theorem X.ret1 {fn : Func} {F : Value → World → Prop} {t : Nat} {v : Value} (hr : fn.results = #[.tmp t]) (hv : lk g t = some v) (h : F v w) (hn : n.dfs = [] := by rfl) : X (BodyQ P fn F) .ret n g w :=
  X.leave0 hn fun a f => ⟨_, results_tmp hr a.tmps P w, by rw [f.getD hv]; exact h⟩
theorem X.ret2 {fn : Func} {F : Value → World → Prop} {t u : Nat} {v v2 : Value} (hr : fn.results = #[.tmp t, .tmp u]) (hv : lk g t = some v) (hu : lk g u = some v2) (h : F (.tuple #[v, v2]) w) (hn : n.dfs = [] := by rfl) : X (BodyQ P fn F) .ret n g w :=
  X.leave0 hn fun a f => ⟨_, results_tmp2 hr a.tmps P w, by rw [f.getD hv, f.getD hu]; exact h⟩
theorem X.ret3 {fn : Func} {F : Value → World → Prop} {t u x : Nat} {v v2 v3 : Value} (hr : fn.results = #[.tmp t, .tmp u, .tmp x]) (hv : lk g t = some v) (hu : lk g u = some v2) (hx : lk g x = some v3) (h : F (.tuple #[v, v2, v3]) w) (hn : n.dfs = [] := by rfl) : X (BodyQ P fn F) .ret n g w :=
  X.leave0 hn fun a f => ⟨.tuple #[a.tmps.getD t undef, a.tmps.getD u undef, a.tmps.getD x undef], by simp [results, hr], by rw [f.getD hv, f.getD hu, f.getD hx]; exact h⟩

/-! a loop: ghost x, the slots I x, what holds of the world J x, a measure -/
def LoopQ (n : Nn) {T : Type} (g0 : Env) (I : T → Env) (J : T → World → Prop) (m : T → Nat) (x : T) (Q : Post) : Post := ⟨Q.rd, Exit.then (fun a' w' => ∃ y, Fr n (I y ++ g0) a' ∧ J y w' ∧ m y < m x) Q.q⟩
theorem C.loop {c : Code} {T : Type} (g0 : Env) (I : T → Env) (J : T → World → Prop) (m : T → Nat) (x : T) (s : Sub (I x ++ g0) g) (hJ : J x w)
    (round : ∀ x w, J x w → C P c (LoopQ n g0 I J m x Q) n (I x ++ g0) w) : C P (.loop c) Q n g w := by
  intro a f
  refine wpIn_loop_ghost (fun k a w => ∃ x, m x = k ∧ Fr n (I x ++ g0) a ∧ J x w) (m x) ⟨x, rfl, f.sub s, hJ⟩ ?_
  rintro k a w ⟨x, rfl, hf, hj⟩
  refine wpIn_mono (round x w hj a hf) ?_
  intro e a' w' hq
  cases e with
  | normal =>
    obtain ⟨y, h1, h2, h3⟩ := hq
    exact ⟨m y, h3, y, rfl, h1, h2⟩
  | _ => exact hq
theorem X.again {T : Type} {g0 : Env} {I : T → Env} {J : T → World → Prop} {m : T → Nat} {x : T} (y : T) (s : Sub (I y ++ g0) g) (hJ : J y w) (hm : m y < m x) :
    X (LoopQ n g0 I J m x Q) .normal n g w := fun _ f => show ∃ _y, _ from ⟨y, f.sub s, hJ, hm⟩
theorem X.loopExit {T : Type} {g0 : Env} {I : T → Env} {J : T → World → Prop} {m : T → Nat} {x : T} {i : Nat} (h : X Q (.exit i) n g w) : X (LoopQ n g0 I J m x Q) (.exit i) n g w := h
theorem X.loopRet {T : Type} {g0 : Env} {I : T → Env} {J : T → World → Prop} {m : T → Nat} {x : T} (h : X Q .ret n g w) : X (LoopQ n g0 I J m x Q) .ret n g w := h

/-! ways that meet again -/
def CutQ (n : Nn) {T : Type} (g0 : Env) (G : T → Env) (J : T → World → Prop) (Q : Post) : Post := ⟨Q.rd, Exit.then (fun a' w' => ∃ y, Fr n (G y ++ g0) a' ∧ J y w') Q.q⟩
theorem C.cut {c : Code} {T : Type} (g0 : Env) (G : T → Env) (J : T → World → Prop) (_s : Sub g0 g) (h1 : C P c (CutQ n g0 G J Q) n g w) (h2 : ∀ y w', J y w' → X Q .normal n (G y ++ g0) w') : C P c Q n g w := by
  intro a f
  refine wpIn_mono (h1 a f) ?_
  intro e a' w' hq
  cases e with
  | normal =>
    obtain ⟨y, hf, hj⟩ := hq
    exact h2 y w' hj a' hf
  | _ => exact hq
theorem X.cut {T : Type} {g0 : Env} {G : T → Env} {J : T → World → Prop} (y : T) (s : Sub (G y ++ g0) g) (hJ : J y w) : X (CutQ n g0 G J Q) .normal n g w := fun _ f => show ∃ _y, _ from ⟨y, f.sub s, hJ⟩
theorem X.cutExit {T : Type} {g0 : Env} {G : T → Env} {J : T → World → Prop} {i : Nat} (h : X Q (.exit i) n g w) : X (CutQ n g0 G J Q) (.exit i) n g w := h
theorem X.cutRet {T : Type} {g0 : Env} {G : T → Env} {J : T → World → Prop} (h : X Q .ret n g w) : X (CutQ n g0 G J Q) .ret n g w := h
theorem lkV {d : Nat} {v u : Value} (h : lk g d = some v) (e : v = u) : lk g d = some u := e ▸ h

/-! regions: walked as in a function's own frame; no operation defers a call -/
def notDefer (o : Oper) : Bool := match o.op with | .defer _ => false | _ => true
theorem notDefer_ne {o : Oper} (h : notDefer o = true) : ∀ c, o.op ≠ .defer c := fun c e => by simp [notDefer, e] at h
theorem callsIn_fen {rd : Option Nat} {m : Nat} {f : FuncId} {args : Array Value} {R : Ending → World → Prop} (h : Calls P f args w R) : CallsIn (fen rd) m P f args w R :=
  (callsIn_wide (n := m)).2 h
theorem calls_fen {rd : Option Nat} {m : Nat} {f : FuncId} {args : Array Value} {R : Ending → World → Prop} (h : CallsIn (fen rd) m P f args w R) : Calls P f args w R :=
  (callsIn_wide (n := m)).1 h
theorem rowsIn_fen {rd : Option Nat} {m : Nat} {row : String} {args : Array Value} {R : Value → World → Prop} (h : Rows P row args w R) : RowsIn (fen rd) m P row args w R := fun c cs _ =>
  let ⟨v, w', r, s⟩ := h c cs
  ⟨v, w', r, stepsIn_wide.2 s⟩
theorem wpIn_fen {rd : Option Nat} {m : Nat} {o : Oper} (hn : notDefer o = true) {a : Act} {K : Act → World → Prop} {Q : Exit → Act → World → Prop} (h : o.wp P a w K Q) : o.wpIn (fen rd) m P a w K Q := by
  refine ⟨fun _ _ => trivial, ?_⟩
  rw [Oper.semAt_eq _ _ _ (notDefer_ne hn)]
  unfold Oper.wp at h
  generalize (execOp a.eval o).run P w = r at h
  cases r with
  | ok x w' =>
    cases x with
    | value v => exact h
    | skip => exact h
    | defer d => exact h
    | enter f args => exact ⟨(fun h0 => nomatch h0), callsIn_fen h⟩
    | row row args => exact ⟨(fun h0 => nomatch h0), rowsIn_fen h⟩
    | _ => exact (h : False).elim
  | halt x w' => cases x <;> exact h
theorem wpListIn_fen {rd : Option Nat} {m : Nat} {ops : Array Oper} {Q : Exit → Act → World → Prop} (hq : ¬ LetsOut Q) : ∀ {l : List Oper} {a : Act} {w : World}, l.all notDefer = true → wpList P ops Q l a w → wpListIn (fen rd) m P ops Q l a w
  | [], _, _, _, h => h
  | o :: l, a, w, hn, h => by
    rw [List.all_cons, Bool.and_eq_true] at hn
    unfold wpList at h
    unfold wpListIn
    split
    · rename_i hw
      rw [if_pos hw] at h
      exact Oper.wpIn_mono (fun a' w' h' => wpListIn_fen hq hn.2 h') (wpIn_fen hn.1 (h.resolve_right fun h2 => hq h2.2))
    · rename_i hw
      rw [if_neg hw] at h
      exact ⟨fun _ _ => trivial, wpListIn_fen hq hn.2 h⟩
theorem C.region {i : Nat} {l : List Oper} (h : R P l.toArray Q l n g w) (hn : l.all notDefer = true := by rfl) : C P (.region i l.toArray false) Q n g w := fun a f => wpIn_mono (wpIn_region_lit (wpListIn_fen NP.in_ hn (h a f))) NP.out
theorem R.done {ops : Array Oper} (h : X Q .normal n g w) : R P ops Q [] n g w := fun a f => wpList_nil (h a f)

theorem R.ev {ops : Array Oper} {rest : List Oper} {d : Nat} {v : Value} {op : Op} {ty : TypeId} {pos : String} {af : Array Edge} (hd : Nat.blt d n.sz = true)
    (h : Ev P n g ⟨some d, op, ty, pos, af, none⟩ w v) (k : R P ops Q rest n ((d, v) :: g) w) : R P ops Q (⟨some d, op, ty, pos, af, none⟩ :: rest) n g w := fun a f => by
  refine wpList_plain rfl fun K hK => ?_
  unfold Oper.wp
  rw [h a f]
  exact hK _ _ (k _ (f.put hd v))
/-- the slot's old value is not needed any more -/
theorem R.ac {ops : Array Oper} {rest : List Oper} {d : Nat} {v : Value} {w' : World} {op : Op} {ty : TypeId} {pos : String} {af : Array Edge} (hd : Nat.blt d n.sz = true)
    (h : Ac P n g ⟨some d, op, ty, pos, af, none⟩ w (some v) w') (k : R P ops Q rest n ((d, v) :: g) w') : R P ops Q (⟨some d, op, ty, pos, af, none⟩ :: rest) n g w := fun a f => by
  refine wpList_plain rfl fun K hK => ?_
  unfold Oper.wp
  rw [h a f]
  exact hK _ _ (k _ (f.put hd v))
theorem R.ac0 {ops : Array Oper} {rest : List Oper} {w' : World} {op : Op} {ty : TypeId} {pos : String} {af : Array Edge}
    (h : Ac P n g ⟨none, op, ty, pos, af, none⟩ w none w') (k : R P ops Q rest n g w') : R P ops Q (⟨none, op, ty, pos, af, none⟩ :: rest) n g w := fun a f => by
  refine wpList_plain rfl fun K hK => ?_
  unfold Oper.wp
  rw [h a f]
  exact hK _ _ (k _ f)

/-! guards: an operation that runs only if an earlier operation gave a Bool -/
def gd (ops : Array Oper) (g : Env) (j : Nat) : Option Value := (ops[j]?).bind fun o => o.dst.bind fun d => lk g d

theorem wanted_gd {ops : Array Oper} {a : Act} (f : Fr n g a) {o : Oper} {j : Nat} {want b : Bool} (ho : o.guard = some (j, want)) (hg : gd ops g j = some (.bool b)) :
    Region.wanted o (yielded ops a.tmps) = (b == want) := by
  unfold gd at hg
  cases h1 : ops[j]? with
  | none => simp [h1] at hg
  | some oj =>
    cases h2 : oj.dst with
    | none => simp [h1, h2] at hg
    | some d =>
      simp [h1, h2] at hg
      have := f.getD hg
      have h3 := f.known d _ hg
      simp [Region.wanted, ho, yielded, h1, h2, h3]
theorem wanted_undef {ops : Array Oper} {a : Act} (f : Fr n g a) {o : Oper} {j : Nat} {want : Bool} (ho : o.guard = some (j, want)) (hg : gd ops g j = some undef) :
    Region.wanted o (yielded ops a.tmps) = false := by
  unfold gd at hg
  cases h1 : ops[j]? with
  | none => simp [h1] at hg
  | some oj =>
    cases h2 : oj.dst with
    | none => simp [h1, h2] at hg
    | some d =>
      simp [h1, h2] at hg
      have h3 := f.known d _ hg
      simp [Region.wanted, ho, yielded, h1, h2, h3, undef]

/-- the guard says no -/
theorem R.gskip {ops : Array Oper} {rest : List Oper} {d : Nat} {op : Op} {ty : TypeId} {pos : String} {af : Array Edge} {j : Nat} {want b : Bool} (hg : gd ops g j = some (.bool b)) (hb : (b == want) = false) (hd : Nat.blt d n.sz = true)
    (k : R P ops Q rest n ((d, undef) :: g) w) : R P ops Q (⟨some d, op, ty, pos, af, some (j, want)⟩ :: rest) n g w := fun a f => by
  refine wpList_skip ?_ (k _ (f.put hd undef))
  rw [wanted_gd f rfl hg]; exact hb
theorem R.gundef {ops : Array Oper} {rest : List Oper} {d : Nat} {op : Op} {ty : TypeId} {pos : String} {af : Array Edge} {j : Nat} {want : Bool} (hg : gd ops g j = some undef) (hd : Nat.blt d n.sz = true)
    (k : R P ops Q rest n ((d, undef) :: g) w) : R P ops Q (⟨some d, op, ty, pos, af, some (j, want)⟩ :: rest) n g w := fun a f => by
  refine wpList_skip ?_ (k _ (f.put hd undef))
  exact wanted_undef f rfl hg
/-- the guard says yes: as without it -/
theorem R.gyes {ops : Array Oper} {rest : List Oper} {dst : Option Nat} {op : Op} {ty : TypeId} {pos : String} {af : Array Edge} {j : Nat} {want b : Bool} (hg : gd ops g j = some (.bool b)) (hb : (b == want) = true)
    (k : R P ops Q (⟨dst, op, ty, pos, af, none⟩ :: rest) n g w) : R P ops Q (⟨dst, op, ty, pos, af, some (j, want)⟩ :: rest) n g w := fun a f => by
  have h := k a f
  unfold wpList at h ⊢
  rw [wanted_gd f rfl hg, hb]
  exact h

/-- a Bool in a slot is decided -/
theorem R.split {ops : Array Oper} {l : List Oper} (d : Nat) {b : Bool} (hd : lk g d = some (.bool b)) (h1 : b = true → R P ops Q l n ((d, .bool true) :: g) w) (h2 : b = false → R P ops Q l n ((d, .bool false) :: g) w) : R P ops Q l n g w := by
  cases b
  · exact R.slot d _ hd rfl (h2 rfl)
  · exact R.slot d _ hd rfl (h1 rfl)

/-! entering a function -/
def argsEnv : Nat → List Value → Env
  | _, [] => []
  | i, v :: l => (i, v) :: argsEnv (i + 1) l
theorem lk_argsEnv : ∀ (l : List Value) (i j : Nat) (v : Value), lk (argsEnv i l) j = some v → i ≤ j ∧ l[j - i]? = some v
  | [], i, j, v, h => by simp [argsEnv, lk] at h
  | x :: l, i, j, v, h => by
    unfold argsEnv lk at h
    split at h
    · rename_i hb
      have : i = j := Nat.eq_of_beq_eq_true hb
      subst this
      simpa using h
    · rename_i hb
      have hne : i ≠ j := Nat.ne_of_beq_eq_false hb
      obtain ⟨h1, h2⟩ := lk_argsEnv l (i + 1) j v h
      refine ⟨by omega, ?_⟩
      have : j - i = (j - (i + 1)) + 1 := by omega
      rw [this]
      simpa using h2
theorem Fr.enter (args : List Value) (k n : Nat) (hn : args.length + k = n) : Fr ⟨n, []⟩ (argsEnv 0 args) ⟨args.toArray ++ Array.replicate k undef, []⟩ := by
  refine ⟨by simp [hn], rfl, ?_⟩
  intro j v h
  obtain ⟨_, h2⟩ := lk_argsEnv args 0 j v h
  simp at h2
  have hlt : j < args.length := by
    rcases Nat.lt_or_ge j args.length with h' | h'
    · exact h'
    · simp [List.getElem?_eq_none h'] at h2
  rw [Array.getElem?_append_left (by simpa using hlt)]
  simpa using h2
theorem Ret.enter {f : FuncId} {fn : Func} {c : Code} {args : List Value} {F : Value → World → Prop} {n : Nat} (hf : P.funcs[f]? = some fn) (hb : fn.body = some c) (hn : args.length + (fn.ntmps - args.length) = n)
    (h : C P c (BodyQ P fn F) ⟨n, []⟩ (argsEnv 0 args) w) : Ret P f args.toArray w F :=
  calls_fen (rd := none) (m := 0) (callsIn_of_wp_marks hf hb trivial (h _ (Fr.enter args _ n (by simpa using hn))))

/-! calls -/
def lookAll (g : Env) : List Operand → Option (List Value)
  | [] => some []
  | x :: l => match look g x with | none => none | some v => match lookAll g l with | none => none | some vs => some (v :: vs)
theorem Fr.evalAll {a : Act} (f : Fr n g a) : ∀ {l : List Operand} {vs : List Value}, lookAll g l = some vs → l.map a.eval = vs
  | [], vs, h => by simp [lookAll] at h; simp [h]
  | x :: l, vs, h => by
    unfold lookAll at h
    split at h
    · cases h
    · rename_i v hv
      split at h
      · cases h
      · rename_i us hus
        simp at h
        subst h
        simp [f.eval hv, f.evalAll hus]
/-- a function of the program with a body -/
def Callable (P : Program) (f : FuncId) : Prop := ∃ fn c, P.funcs[f]? = some fn ∧ fn.body = some c ∧ (fn.name == "runtime.NumGoroutine") = false
theorem R.call {ops : Array Oper} {rest : List Oper} {d : Nat} {fid : FuncId} {args : List Operand} {vs : List Value} {tys : Array TypeId} {ty : TypeId} {pos : String} {af : Array Edge} {F : Value → World → Prop}
    (hf : Callable P fid) (ha : lookAll g args = some vs) (hd : Nat.blt d n.sz = true)
    (hc : Ret P fid vs.toArray w F) (k : ∀ v w', F v w' → R P ops Q rest n ((d, v) :: g) w') :
    R P ops Q (⟨some d, .call ⟨.value (.func fid), args.toArray, tys⟩, ty, pos, af, none⟩ :: rest) n g w := fun a f => by
  refine wpList_plain rfl fun K hK => ?_
  unfold Oper.wp
  obtain ⟨fn, c, hf, hb, hnm⟩ := hf
  have hnm' : ¬ fn.name = "runtime.NumGoroutine" := by simpa using hnm
  have : (execOp a.eval ⟨some d, .call ⟨.value (.func fid), args.toArray, tys⟩, ty, pos, af, none⟩).run P w = .ok (.enter fid vs.toArray) w := by
    simp [execOp, resolve, Act.eval, Deferred.ofValue, invoke, callFunc, hf, hb, hnm', f.evalAll ha]
  rw [this, Oper.upon_enter]
  refine Calls.mono hc ?_
  rintro e w' ⟨v, rfl, hF⟩
  exact hK _ _ (k v w' hF _ (f.put hd v))
end control
end Go.Eng
