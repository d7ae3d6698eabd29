/-
  Loops over functions (for x := range seq): the loop's record and the block of its mark as pieces, calls of a function value that may be a loop's yield, the statement (over any program).
-/
import Derived.Test.YtifghjeapfijkaaGreatDoorRet
namespace Go.Eng
open Go.RowKit

/-- a call of a function value: a function of the program, or the next round of a loop -/
def CallsV (P : Program) (fv : Value) (args : List Value) (w : World) (F : Value → World → Prop) : Prop :=
  match fv with
  | .func (.func fid) first cap => Callable P fid ∧ Ret P fid (first.toList ++ args ++ cap.toList).toArray w F
  | .func (.yield l) first cap => first = #[] ∧ cap = #[] ∧ ∃ r : Loop, w.heap[l]? = some (.loop r) ∧ args.length = r.params.size ∧
      RoundIn (fen none) 0 P l r.fn ((r.params.zip args.toArray).foldl (fun tmps (t, a) => tmps.setIfInBounds t a) r.tmps) r.assign r.body w (RetQ F)
  | _ => False
/-- operations of a region, of which one may be a call of such a value -/
def RY (P : Program) (ops : Array Oper) (Q : Post) (l : List Oper) (n : Nn) (g : Env) (w : World) : Prop := ∀ a, Fr n g a → wpListIn (fen none) 0 P ops (NP Q) l a w
/-- a loop's record, but for its state -/
structure LpC where
  fn : FuncId
  tmps : Array Value
  ps : Array Tmp
  assign : Code
  body : Code
  D : Nat
def LpC.r (c : LpC) (st : LoopState) (pd : Option Code) : Loop := ⟨st, pd, c.fn, c.tmps, c.ps, c.assign, c.body, c.D⟩
def lpP (l : Nat) (c : LpC) (st : LoopState) (pd : Option Code) : Hl := [(l, .loop (c.r st pd))]
def dfP (D : Nat) (o : Option (List Deferred)) : Hl := [(D, .deferred o)]
def mkD (D : Nat) : Deferred := { target := .collected D, args := #[] }

section
variable {P : Program} {Q : Post} {n : Nn} {g : Env} {w : World} {ty : TypeId} {pos : String} {af : Array Edge} {ops : Array Oper} {rest : List Oper} {d : Nat} {x : Operand}
variable {K : Kn} {Hs Rs : List Hl} {C0 : Hl → List Hl}

theorem C.regionY {i : Nat} {l : List Oper} (hq : Q.rd = none) (h : RY P l.toArray Q l n g w) : C P (.region i l.toArray false) Q n g w := fun a f => by
  show Code.wpIn (fen Q.rd) _ _ _ _ _ _
  rw [hq]
  exact wpIn_mono (wpIn_region_lit (h a f)) NP.out
theorem RY.of {l : List Oper} (h : R P ops Q l n g w) (hn : l.all notDefer = true := by rfl) : RY P ops Q l n g w := fun a f => wpListIn_fen NP.in_ hn (h a f)
theorem RY.ev {v : Value} {op : Op} (hd : Nat.blt d n.sz = true) (h : Ev P n g ⟨some d, op, ty, pos, af, none⟩ w v) (k : RY P ops Q rest n ((d, v) :: g) w) (hn : notDefer ⟨some d, op, ty, pos, af, none⟩ = true := by rfl) : RY P ops Q (⟨some d, op, ty, pos, af, none⟩ :: rest) n g w := fun a f => by
  refine wpListIn_plain rfl fun K hK => wpIn_fen hn ?_
  unfold Oper.wp
  rw [h a f]
  exact hK _ _ (k _ (f.put hd v))
theorem RY.callV {args : List Operand} {vs : List Value} {fv : Value} {tys : Array TypeId} {F : Value → World → Prop} (hx : look g x = some fv) (ha : lookAll g args = some vs) (hd : Nat.blt d n.sz = true) (hc : CallsV P fv vs w F) (k : ∀ v w', F v w' → RY P ops Q rest n ((d, v) :: g) w') :
    RY P ops Q (⟨some d, .call ⟨.value x, args.toArray, tys⟩, ty, pos, af, none⟩ :: rest) n g w := fun a f => by
  refine wpListIn_plain rfl fun K hK => ⟨fun _ _ => trivial, ?_⟩
  rw [Oper.semAt_eq _ _ _ (notDefer_ne rfl)]
  unfold CallsV at hc
  split at hc
  · rename_i fid first cap
    obtain ⟨⟨fn, c, hf, hb, hnm⟩, hc⟩ := hc
    have hnm' : ¬ fn.name = "runtime.NumGoroutine" := by simpa using hnm
    have : (execOp a.eval ⟨some d, .call ⟨.value x, args.toArray, tys⟩, ty, pos, af, none⟩).run P w = .ok (.enter fid (first.toList ++ vs ++ cap.toList).toArray) w := by
      have e : (first.toList ++ vs ++ cap.toList).toArray = first ++ vs.toArray ++ cap := by apply Array.ext'; simp
      rw [e]
      simp [execOp, resolve, f.eval hx, Deferred.ofValue, invoke, callFunc, hf, hb, hnm', f.evalAll ha]
    rw [this, Oper.uponIn_enter]
    refine ⟨(fun h0 => nomatch h0), callsIn_fen (Calls.mono hc ?_)⟩
    rintro e w' ⟨v, rfl, hF⟩
    exact hK _ _ (k v w' hF _ (f.put hd v))
  · rename_i l first cap
    obtain ⟨rfl, rfl, r, hr, hsz, hc⟩ := hc
    have : (execOp a.eval ⟨some d, .call ⟨.value x, args.toArray, tys⟩, ty, pos, af, none⟩).run P w = .ok (.round l r.fn ((r.params.zip vs.toArray).foldl (fun tmps (t, a) => tmps.setIfInBounds t a) r.tmps) r.assign r.body) w := by
      have hy := run_yield (P := P) (args := vs.toArray) hr (by simpa using hsz)
      simp [execOp, resolve, f.eval hx, Deferred.ofValue, invoke, f.evalAll ha, hy]
    rw [this, Oper.uponIn_round]
    refine ⟨(fun h0 => nomatch h0), RoundIn.mono hc ?_⟩
    rintro e w' ⟨v, rfl, hF⟩
    exact hK _ _ (k v w' hF _ (f.put hd v))
  · exact hc.elim

/-! one round -/
def RndQ (P : Program) (l : Nat) (F : Value → World → Prop) : Post := ⟨some l, roundPost P l (RetQ F)⟩
def AsgQ (P : Program) (l : Nat) (body : Code) (F : Value → World → Prop) : Post :=
  ⟨some l, Exit.then (fun a₁ w₁ => ∃ w₂, (Instr.beginRound l).run P w₁ = .ok () w₂ ∧ body.wpIn (fen (some l)) 0 P (roundPost P l (RetQ F)) a₁ w₂) (fun _ _ _ => False)⟩
theorem Fr.bare {a : Act} (f : Fr n g a) : Fr ⟨n.sz, []⟩ g ⟨a.tmps, []⟩ := ⟨f.size, rfl, f.known⟩
theorem CallsV.round {l p : Nat} {c : LpC} {v : Value} {F : Value → World → Prop} (hs : Sat K w (lpP l c .ready none :: Hs)) (hc : c.ps = #[p]) (hf : Fr ⟨n.sz, []⟩ g ⟨c.tmps, []⟩) (hp : Nat.blt p n.sz = true)
    (h : C P c.assign (AsgQ P l c.body F) ⟨n.sz, []⟩ ((p, v) :: g) w) : CallsV P (.func (.yield l) #[] #[]) [v] w F := by
  refine ⟨rfl, rfl, c.r .ready none, hs.o0, by simp [LpC.r, hc], ?_⟩
  refine roundIn_of_wpIn (F := fen none) trivial ?_
  have := h _ (hf.put (d := p) hp v)
  have e : (((c.r .ready none).params.zip [v].toArray).foldl (fun tmps (t, a) => tmps.setIfInBounds t a) (c.r .ready none).tmps) = c.tmps.setIfInBounds p v := by simp [LpC.r, hc]
  rw [e]
  exact this
theorem Mod.alloc (o : Obj) : Mod [] w (w.alloc o) := ⟨rfl, rfl, rfl, by rw [World.size_alloc]; omega, fun k hk _ => by
  show (w.heap.push o)[k]? = _
  rw [Array.getElem?_push, if_neg (Nat.ne_of_lt hk)]⟩
theorem Sat.alloc {o : Obj} (h : Sat K w Hs) : Sat K (w.alloc o) ([(w.heap.size, o)] :: Hs) :=
  h.nil.upd ((Mod.alloc o).mono (by simp)) (by simp) (fun p hp => by rw [List.mem_singleton] at hp; subst hp; exact World.alloc_heap_new _ _) (fun p hp => by rw [List.mem_singleton] at hp; subst hp; exact .inr (Nat.le_refl _))
theorem Mod.putObj {b : Nat} {o : Obj} : Mod [b] w (w.putObj b o) := ⟨rfl, rfl, rfl, by simp, fun k _ hb => World.putObj_heap_other (by simpa using hb)⟩
theorem Sat.putO {b : Nat} {o o' : Obj} (h : Sat K w ([(b, o)] :: Rs)) : Sat K (w.putObj b o') ([(b, o')] :: Rs) :=
  h.upd (Mod.putObj.mono (by simp)) (by simp) (fun p hp => by simp at hp; subst hp; exact World.putObj_heap_same (blk_lt h.o0)) (fun p hp => by simp at hp; subst hp; exact .inl (by simp))
theorem X.begin_ {l : Nat} {c : LpC} {body : Code} {F : Value → World → Prop} {pd : Option Code} (hs : Sat K w Hs) [x : Ctx (lpP l c .ready pd) Hs C0 Rs] (k : ∀ w', Sat K w' (C0 (lpP l c .busy pd)) → C P body (RndQ P l F) n g w') : X (AsgQ P l body F) .normal n g w := fun a f => by
  have h1 := hs.front (F := lpP l c .ready pd)
  exact ⟨_, run_beginRound h1.o0 rfl, k _ (hs.back (F := lpP l c .ready pd) h1.putO) a f⟩
theorem X.rndEnd {l : Nat} {c : LpC} {F : Value → World → Prop} {st : LoopState} {pd : Option Code} (hs : Sat K w Hs) [x : Ctx (lpP l c st pd) Hs C0 Rs] (k : ∀ w', Sat K w' (C0 (lpP l c .ready none)) → F (.bool true) w') : X (RndQ P l F) .normal n g w := fun a f => by
  have h1 := hs.front (F := lpP l c st pd)
  exact ⟨_, _, run_endRound none h1.o0, _, rfl, k _ (hs.back (F := lpP l c st pd) h1.putO)⟩
theorem X.rndRet {l : Nat} {c : LpC} {F : Value → World → Prop} {st : LoopState} {pd : Option Code} (hs : Sat K w Hs) [x : Ctx (lpP l c st pd) Hs C0 Rs] (k : ∀ w', Sat K w' (C0 (lpP l c .done (some .ret))) → F (.bool false) w') : X (RndQ P l F) .ret n g w := fun a f => by
  have h1 := hs.front (F := lpP l c st pd)
  exact ⟨_, _, run_endRound (some .ret) h1.o0, _, rfl, k _ (hs.back (F := lpP l c st pd) h1.putO)⟩
theorem X.rndExit {l i : Nat} {c : LpC} {F : Value → World → Prop} {st : LoopState} {pd : Option Code} (hs : Sat K w Hs) [x : Ctx (lpP l c st pd) Hs C0 Rs] (k : ∀ w', Sat K w' (C0 (lpP l c .done (some (.exit i)))) → F (.bool false) w') : X (RndQ P l F) (.exit i) n g w := fun a f => by
  have h1 := hs.front (F := lpP l c st pd)
  exact ⟨_, _, run_endRound (some (.exit i)) h1.o0, _, rfl, k _ (hs.back (F := lpP l c st pd) h1.putO)⟩

/-! the statement -/
/-- how the activation goes on -/
def JumpX (Q : Post) (j : Option Code) (n : Nn) (g : Env) (w : World) : Prop := match j with
  | none => X Q .normal n g w
  | some .ret => X Q .ret n g w
  | some (.exit i) => X Q (.exit i) n g w
  | _ => False
theorem C.rangeFunc {fid : FuncId} {first cap : List Value} {ps : Array Tmp} {assign body : Code} (hq : Q.rd = none) (hx : look g x = some (.func (.func fid) first.toArray cap.toArray)) (hf : Callable P fid) (hs : Sat K w Hs)
    (h : ∀ (c : LpC) (l : Nat) (w1 : World), c.ps = ps → c.assign = assign → c.body = body → Fr ⟨n.sz, []⟩ g ⟨c.tmps, []⟩ → Sat K w1 (lpP l c .ready none :: dfP c.D (some []) :: Hs) →
      Ret P fid (first ++ [Value.func (.yield l) #[] #[]] ++ cap).toArray w1 fun _ w2 => ∃ st pd Rs', st ≠ .busy ∧ Sat K w2 (lpP l c st pd :: Rs') ∧ ∀ w3, Sat K w3 Rs' → JumpX Q pd ⟨n.sz, mkD c.D :: n.dfs⟩ g w3) :
    C P (.rangeFunc x ps assign body) Q n g w := fun a f => by
  have hfen : fen Q.rd = fen none := by rw [hq]
  show Code.wpIn (fen Q.rd) _ _ _ _ _ _
  refine wpIn_rangeFunc fun fn _ => ?_
  obtain ⟨fn', cc, hf1, hb, hnm⟩ := hf
  have hnm' : ¬ fn'.name = "runtime.NumGoroutine" := by simpa using hnm
  let c : LpC := ⟨fn, a.tmps, ps, assign, body, w.heap.size⟩
  have s1 : Sat K (w.alloc (.deferred (some []))) (dfP w.heap.size (some []) :: Hs) := hs.alloc
  have s2 : Sat K ((w.alloc (.deferred (some []))).alloc (.loop (c.r .ready none))) (lpP (w.heap.size + 1) c .ready none :: dfP c.D (some []) :: Hs) := by
    have := s1.alloc (o := .loop (c.r .ready none))
    rw [World.size_alloc] at this
    exact this
  have hcall := h c (w.heap.size + 1) _ rfl rfl rfl f.bare s2
  have he : (Instr.enterLoop fn a.tmps ps assign body (fen Q.rd).round).run P w = .ok (w.heap.size + 1, [mkD w.heap.size]) ((w.alloc (.deferred (some []))).alloc (.loop (c.r .ready none))) := by
    show (Instr.enterLoop fn a.tmps ps assign body Q.rd).run P w = _
    rw [hq]
    exact run_enterLoop_outer fn a.tmps ps assign body
  have hres : (resolve a.eval (rangeCall x (w.heap.size + 1)) 0).run P ((w.alloc (.deferred (some []))).alloc (.loop (c.r .ready none))) = .ok ⟨.fn (.func fid) cap.toArray, (first ++ [Value.func (.yield (w.heap.size + 1)) #[] #[]]).toArray⟩ ((w.alloc (.deferred (some []))).alloc (.loop (c.r .ready none))) := by
    have hcst : ∀ v, a.eval (.const v) = v := fun _ => rfl
    simp [resolve, f.eval hx, Deferred.ofValue, hcst]
  have hinv : (invoke (.fn (.func fid) cap.toArray) (first ++ [Value.func (.yield (w.heap.size + 1)) #[] #[]]).toArray).run P ((w.alloc (.deferred (some []))).alloc (.loop (c.r .ready none))) = .ok (.enter fid (first ++ [Value.func (.yield (w.heap.size + 1)) #[] #[]] ++ cap).toArray) ((w.alloc (.deferred (some []))).alloc (.loop (c.r .ready none))) := by
    simp [invoke, callFunc, hf1, hb, hnm']
  refine ⟨_, _, _, _, _, _, _, _, he, hres, fun _ _ => trivial, hinv, (fun h0 => nomatch h0), callsIn_fen (Calls.mono hcall ?_)⟩
  · rintro e w2 ⟨v, rfl, st, pd, Rs', hst, hs2, hk⟩
    refine ⟨pd, _, run_endLoop hs2.o0 hst, ?_⟩
    have h3 := hk (w2.putObj (w.heap.size + 1) (.loop { (c.r st pd) with state := .exhausted })) (hs2.putO (o' := .loop { (c.r st pd) with state := .exhausted })).drop
    have hfr : Fr ⟨n.sz, mkD c.D :: n.dfs⟩ g { a with defers := [mkD w.heap.size] ++ a.defers } := ⟨f.size, by simp [c, f.defers], f.known⟩
    unfold JumpX at h3
    split at h3
    · exact h3 _ hfr
    · exact wpIn_ret (h3 _ hfr)
    · exact wpIn_exit (h3 _ hfr)
    · exact h3.elim
/-- a mark is come to: its block hands nothing over -/
theorem X.mark {D k : Nat} {ds : List Deferred} {fn : Func} {F : Value → World → Prop} (hs : Sat K w Hs) [x : Ctx (dfP D (some [])) Hs C0 Rs] (h : ∀ w', Sat K w' (C0 (dfP D none)) → X (BodyQ P fn F) .ret ⟨k, ds⟩ g w') : X (BodyQ P fn F) .ret ⟨k, mkD D :: ds⟩ g w := fun a f => by
  have h1 := hs.front (F := dfP D (some []))
  show LeavesInM _ _ _ _ _ _ a.defers _ _
  rw [f.defers]
  refine ⟨by simp, .inl ⟨D, _, rfl, run_takeDeferred h1.o0, ?_⟩⟩
  have := h _ (hs.back (F := dfP D (some [])) h1.putO) ⟨a.tmps, ds⟩ ⟨f.size, rfl, f.known⟩
  exact this
/-- what ends a round's body normally ends the function's statement -/
theorem JumpX.none_ (h : X Q .normal n g w) : JumpX Q none n g w := h

/-! over a list -/
def runO {σ α : Type} (step : σ → α → σ) (ok : σ → Bool) : σ → List α → σ
  | s, [] => s
  | s, a :: l => if ok (step s a) then runO step ok (step s a) l else step s a
def SubF (Hs Gs : List Hl) : Prop := ∀ q ∈ Hs.flatten, q ∈ Gs.flatten
/-- a function that hands the values of a list to another one, one after the other, until that one says no -/
def Iter {α : Type} (P : Program) (K : Kn) (fid : FuncId) (first cap : List Value) (ev : α → Value) (L : List α) (Hs : List Hl) : Prop :=
  ∀ {σ : Type} (yv : Value) (Pc : σ → Hl → Prop) (step : σ → α → σ) (ok : σ → Bool) (s0 : σ) (F : Hl) (Rs : List Hl) (w : World), SubF Hs (F :: Rs) →
    (∀ s1 F1 R1 pre a post w1, L = pre ++ a :: post → s1 = pre.foldl step s0 → ok s1 = true → Pc s1 F1 → Sat K w1 (F1 :: R1) → CallsV P yv [ev a] w1 fun r w2 => r = .bool (ok (step s1 a)) ∧ ∃ F2, Pc (step s1 a) F2 ∧ Sat K w2 (F2 :: R1)) →
    ok s0 = true → Pc s0 F → Sat K w (F :: Rs) → Ret P fid (first ++ [yv] ++ cap).toArray w fun _ w2 => ∃ F2, Pc (runO step ok s0 L) F2 ∧ Sat K w2 (F2 :: Rs)
theorem C.rangeL {α σ : Type} {ev : α → Value} {fid : FuncId} {first cap : List Value} {p : Nat} {assign body : Code} {L : List α} {G0 : Hl} (Pb : σ → Hl → Prop) (step : σ → α → σ) (jump : σ → Option Code) (s0 : σ)
    (hq : Q.rd = none) (hx : look g x = some (.func (.func fid) first.toArray cap.toArray)) (hf : Callable P fid) (hp : Nat.blt p n.sz = true) (hit : Iter P K fid first cap ev L (G0 :: Rs)) (hs : Sat K w (G0 :: Rs)) (h0 : Pb s0 G0) (hj : jump s0 = none)
    (round : ∀ (l : Nat) (c : LpC) (s1 : σ) (G1 : Hl) (R1 : List Hl) (pre : List α) (a : α) (post : List α) (w1 : World), L = pre ++ a :: post → s1 = pre.foldl step s0 → jump s1 = none → Pb s1 G1 → Sat K w1 (lpP l c .ready none :: G1 :: R1) →
      C P assign (AsgQ P l body fun r w2 => r = .bool (jump (step s1 a)).isNone ∧ ∃ G2, Pb (step s1 a) G2 ∧ Sat K w2 (lpP l c (if (jump (step s1 a)).isNone then .ready else .done) (jump (step s1 a)) :: G2 :: R1)) ⟨n.sz, []⟩ ((p, ev a) :: g) w1)
    (fin : ∀ (D : Nat) (G2 : Hl) (w2 : World), Pb (runO step (fun s => (jump s).isNone) s0 L) G2 → Sat K w2 (G2 :: dfP D (some []) :: Rs) → JumpX Q (jump (runO step (fun s => (jump s).isNone) s0 L)) ⟨n.sz, mkD D :: n.dfs⟩ g w2) :
    C P (.rangeFunc x #[p] assign body) Q n g w := by
  refine C.rangeFunc hq hx hf hs fun c l w1 hc1 hc2 hc3 hfr hs1 => ?_
  let Pc : σ → Hl → Prop := fun s F => ∃ G, F = lpP l c (if (jump s).isNone then .ready else .done) (jump s) ++ G ∧ Pb s G
  refine Ret.mono (hit (.func (.yield l) #[] #[]) Pc step (fun s => (jump s).isNone) s0 (lpP l c .ready none ++ G0) (dfP c.D (some []) :: Rs) w1 ?_ ?_ (by simp [hj]) ⟨G0, by simp [hj], h0⟩ (hs1.perm (by simp only [List.flatten_cons, List.append_assoc]; exact List.Perm.append_left _ (by rw [← List.append_assoc, ← List.append_assoc]; exact List.Perm.append_right _ List.perm_append_comm)))) ?_
  · intro q hq
    simp only [List.flatten_cons, List.mem_append] at hq ⊢
    rcases hq with hq | hq
    · exact .inl (.inr hq)
    · exact .inr (.inr hq)
  · rintro s1 F1 R1 pre a post w2 ha hsp hok ⟨G1, rfl, hb⟩ hs2
    have hj1 : jump s1 = none := by simpa using hok
    rw [hj1] at hs2
    have hs2 : Sat K w2 (lpP l c .ready none :: G1 :: R1) := hs2.cut
    refine CallsV.round (n := n) (g := g) hs2 hc1 hfr hp ?_
    rw [hc2, hc3]
    have hr := round l c s1 G1 R1 pre a post w2 ha hsp hj1 hb hs2
    refine fun a' f' => ?_
    refine wpIn_mono (hr a' f') ?_
    intro e a2 w3 hq2
    have key : ∀ e w, RetQ (fun r w2 => r = .bool (jump (step s1 a)).isNone ∧ ∃ G2, Pb (step s1 a) G2 ∧ Sat K w2 (lpP l c (if (jump (step s1 a)).isNone then .ready else .done) (jump (step s1 a)) :: G2 :: R1)) e w → RetQ (fun r w2 => r = .bool (jump (step s1 a)).isNone ∧ ∃ F2, Pc (step s1 a) F2 ∧ Sat K w2 (F2 :: R1)) e w := by
      rintro e w ⟨v, rfl, h1, G2, h2, h3⟩
      exact ⟨v, rfl, h1, _, ⟨G2, rfl, h2⟩, h3.join⟩
    cases e with
    | normal =>
      obtain ⟨w4, h1, h2⟩ := hq2
      refine ⟨w4, h1, wpIn_mono h2 ?_⟩
      intro e a3 w5 h3
      cases e <;> first | (obtain ⟨v, w6, h4, h5⟩ := h3; exact ⟨v, w6, h4, key _ _ h5⟩) | exact h3
    | _ => exact hq2
  · rintro v w2 ⟨F2, ⟨G2, rfl, hb⟩, hs2⟩
    refine ⟨_, _, G2 :: dfP c.D (some []) :: Rs, ?_, hs2.cut, fun w3 hs3 => fin c.D G2 w3 hb hs3⟩
    split <;> simp
end
end Go.Eng
