/-
  Maps as pieces of the heap: look-ups, updates, deletions, ranging (over any program).
-/
import Derived.Test.YtifghjeapfijkaaGreatDoorMap
namespace Go.Eng
open Go.RowKit

/-- the map behind a value: its pairs, the piece it owns -/
class MapL {κ ν : outParam Type} (ek : outParam (κ → Value)) (ev : outParam (ν → Value)) (v : Value) (M : outParam (List (κ × ν))) (F : outParam Hl) : Prop where
  ex : ∃ b es clock, v = .map (some b) ∧ F = [(b, .map es clock)] ∧ MapRep ek ev M es clock
class MapIn {κ ν : outParam Type} (ek : outParam (κ → Value)) (ev : outParam (ν → Value)) (v : Value) (M : outParam (List (κ × ν))) (Hs : List Hl) : Prop where
  ex : ∃ F, MapL ek ev v M F ∧ FIn F Hs
instance {κ ν : Type} {ek : κ → Value} {ev : ν → Value} {v : Value} {M : List (κ × ν)} {A : Hl} {Hs : List Hl} [h : MapIn ek ev v M Hs] : MapIn ek ev v M (A :: Hs) := ⟨by
  obtain ⟨F, h1, h2⟩ := h.ex
  exact ⟨F, h1, inferInstance⟩⟩
instance {κ ν : Type} {ek : κ → Value} {ev : ν → Value} {v : Value} {M : List (κ × ν)} {F : Hl} {Hs : List Hl} [h : MapL ek ev v M F] [k : FIn F Hs] : MapIn ek ev v M Hs := ⟨⟨F, h, k⟩⟩
instance {κ ν : Type} {ek : κ → Value} {ev : ν → Value} {v : Value} {M : List (κ × ν)} {F : Hl} [h : MapL ek ev v M F] : OneC v := ⟨by
  obtain ⟨b, _, _, rfl, _⟩ := h.ex; rfl⟩
/-- the value of a key, else the zero value -/
@[reducible] def valOr {ν : Type} (ev : ν → Value) (z : Value) : Option ν → Value
  | some x => ev x
  | none => z

section
variable {P : Program} {Q : Post} {n : Nn} {g : Env} {w : World} {dst : Option Nat} {ty : TypeId} {pos : String} {af : Array Edge} {gu : Option (Nat × Bool)} {ops : Array Oper} {rest : List Oper} {d : Nat}
variable {t kt et : TypeId} {x y z : Operand} {K : Kn} {Hs Rs : List Hl} {F : Hl} {C : Hl → List Hl} {κ ν : Type} [DecidableEq κ] {ek : κ → Value} {ev : ν → Value} {M : List (κ × ν)} {v kv vv zv : Value}

theorem run_getMap {b : Nat} {es : Array MapEntry} {clock : Nat} (h : w.heap[b]? = some (.map es clock)) : (getObj b).run P w = .ok (.map es clock) w := by
  simp [getObj, Sem.run, h]
omit [DecidableEq κ] in
theorem MapIn.get (h : MapIn ek ev v M Hs) (hs : Sat K w Hs) : ∃ b es clock, v = .map (some b) ∧ w.heap[b]? = some (.map es clock) ∧ MapRep ek ev M es clock := by
  obtain ⟨F, h1, h2⟩ := h.ex
  obtain ⟨b, es, clock, rfl, rfl, hr⟩ := h1.ex
  exact ⟨b, es, clock, rfl, hs.obj (b, _) (h2.sub _ (by simp)), hr⟩
theorem run_lookup [ke : KeyEnc P kt ek] (hs : Sat K w Hs) [h : MapIn ek ev v M Hs] (k : κ) (hu : P.underlying t = some (.map kt et)) (hz : zeroOf P et = some zv) (ok : Bool) :
    (Instr.lookup t v (ek k) ok).run P w = .ok (if ok then .tuple #[valOr ev zv (lkM M k), .bool (lkM M k).isSome] else valOr ev zv (lkM M k)) w := by
  obtain ⟨b, es, clock, rfl, hb, hr⟩ := h.get hs
  have hf := run_findM (P := P) (kt := kt) (w := w) k hr
  simp only [Instr.lookup, Sem.run_bind, run_underlying hu, run_getMap hb, Result.andThen_ok, ke.check, hf, Sem.run_pure]
  unfold lkM
  cases findM k M 0 with
  | none => cases ok <;> simp [run_zeroOf hz, valOr]
  | some p => cases ok <;> simp [valOr]
theorem E.lookupM (hs : Sat K w Hs) (hx : look g x = some v) (hy : look g y = some kv) (hu : P.underlying t = some (.map kt et)) (hz : zeroOf P et = some zv) [ke : KeyEnc P kt ek] [h : MapIn ek ev v M Hs] (k : κ) (hk : kv = ek k) :
    Ev P n g ⟨dst, .lookup t x y false, ty, pos, af, gu⟩ w (valOr ev zv (lkM M k)) := fun a f => by
  subst hk
  have := run_lookup (P := P) (kt := kt) hs k hu hz false (v := v) (ev := ev) (M := M)
  simp [execOp, f.eval hx, f.eval hy, this]
theorem E.lookupOk (hs : Sat K w Hs) (hx : look g x = some v) (hy : look g y = some kv) (hu : P.underlying t = some (.map kt et)) (hz : zeroOf P et = some zv) [ke : KeyEnc P kt ek] [h : MapIn ek ev v M Hs] (k : κ) (hk : kv = ek k) :
    Ev P n g ⟨dst, .lookup t x y true, ty, pos, af, gu⟩ w (.tuple #[valOr ev zv (lkM M k), .bool (lkM M k).isSome]) := fun a f => by
  subst hk
  have := run_lookup (P := P) (kt := kt) hs k hu hz true (v := v) (ev := ev) (M := M)
  simp [execOp, f.eval hx, f.eval hy, this]
/-- the zero value of an element's type -/
class ZeroEnc (P : Program) (et : TypeId) {ν : Type} (ev : ν → Value) (z0 : outParam ν) : Prop where
  eq : zeroOf P et = some (ev z0)
theorem valOr_getD {ν : Type} (ev : ν → Value) (z0 : ν) (o : Option ν) : valOr ev (ev z0) o = ev (o.getD z0) := by cases o <;> rfl
theorem E.lookupD {z0 : ν} (hs : Sat K w Hs) (hx : look g x = some v) (hy : look g y = some kv) (hu : P.underlying t = some (.map kt et)) [ke : KeyEnc P kt ek] [h : MapIn ek ev v M Hs] [hz : ZeroEnc P et ev z0] (k : κ) (hk : kv = ek k) :
    Ev P n g ⟨dst, .lookup t x y false, ty, pos, af, gu⟩ w (ev ((lkM M k).getD z0)) := (E.lookupM hs hx hy hu hz.eq k hk).as (valOr_getD _ _ _)
theorem E.lookupDok {z0 : ν} (hs : Sat K w Hs) (hx : look g x = some v) (hy : look g y = some kv) (hu : P.underlying t = some (.map kt et)) [ke : KeyEnc P kt ek] [h : MapIn ek ev v M Hs] [hz : ZeroEnc P et ev z0] (k : κ) (hk : kv = ek k) :
    Ev P n g ⟨dst, .lookup t x y true, ty, pos, af, gu⟩ w (.tuple #[ev ((lkM M k).getD z0), .bool (lkM M k).isSome]) := (E.lookupOk hs hx hy hu hz.eq k hk).as (by rw [valOr_getD])
omit [DecidableEq κ] in
theorem E.lenM (hs : Sat K w Hs) (hx : look g x = some v) (hu : P.underlying t = some (.map kt et)) [h : MapIn ek ev v M Hs] :
    Ev P n g ⟨dst, .call ⟨.builtin .len, #[x], #[t]⟩, ty, pos, af, gu⟩ w (.int .i64 M.length) := fun a f => by
  obtain ⟨b, es, clock, rfl, hb, hr⟩ := h.get hs
  simp [execOp, resolve, invoke, builtin, f.eval hx, Builtin.len_, run_underlying hu, run_getMap hb, goInt, hr.len]
/-- a piece that is one object is replaced -/
theorem Sat.setObj {b : Nat} {o o' : Obj} (hs : Sat K w ([(b, o)] :: Rs)) : Sat K { w with heap := w.heap.setIfInBounds b o' } ([(b, o')] :: Rs) := by
  have hb : w.heap[b]? = some o := hs.obj (b, o) (by simp)
  have hlt := blk_lt hb
  refine hs.upd (w' := { w with heap := w.heap.setIfInBounds b o' }) ⟨rfl, rfl, rfl, by simp, fun k hk hn => ?_⟩ (by simp) (fun p hp => ?_) (fun p hp => ?_)
  · have : k ≠ b := by simpa using hn
    simp [Array.getElem?_setIfInBounds_ne (Ne.symm this)]
  · simp at hp; subst hp; simp [hlt]
  · simp at hp; subst hp; exact .inl (by simp)
theorem R.cmake (hs : Sat K w Hs) (hu : P.underlying t = some (.map kt et)) [ke : KeyEnc P kt ek] (ev : ν → Value) (hd : Nat.blt d n.sz = true) (k : ∀ v w' F, MapL ek ev v ([] : List (κ × ν)) F → Sat K w' (F :: Hs) → R P ops Q rest n ((d, v) :: g) w') :
    R P ops Q (⟨some d, .makeMap t none, ty, pos, af, none⟩ :: rest) n g w := by
  have hsat : Sat K (w.alloc (.map #[] 0)) ([(w.heap.size, .map #[] 0)] :: Hs) := by
    refine hs.nil.upd ⟨rfl, rfl, rfl, by simp, fun i hi _ => Below.heap_alloc w _ i hi⟩ (by simp) (fun p hp => ?_) (fun p hp => ?_)
    · simp at hp; subst hp; exact heap_alloc_new w _
    · simp at hp; subst hp; exact .inr (Nat.le_refl _)
  refine R.ac (w' := w.alloc (.map #[] 0)) (v := .map (some w.heap.size)) hd (fun a f => ?_) (k _ _ _ ⟨w.heap.size, #[], 0, rfl, rfl, ⟨rfl, by simp, by simp, by simp⟩⟩ hsat)
  simp [execOp, Instr.makeMap, newObj]
  rfl
theorem R.cmakeN {i : Int} {kk : IntKind} (hs : Sat K w Hs) (hx : look g x = some (.int kk i)) (hu : P.underlying t = some (.map kt et)) [ke : KeyEnc P kt ek] (ev : ν → Value) (hd : Nat.blt d n.sz = true) (k : ∀ v w' F, MapL ek ev v ([] : List (κ × ν)) F → Sat K w' (F :: Hs) → R P ops Q rest n ((d, v) :: g) w') :
    R P ops Q (⟨some d, .makeMap t (some x), ty, pos, af, none⟩ :: rest) n g w := by
  have hsat : Sat K (w.alloc (.map #[] 0)) ([(w.heap.size, .map #[] 0)] :: Hs) := by
    refine hs.nil.upd ⟨rfl, rfl, rfl, by simp, fun i hi _ => Below.heap_alloc w _ i hi⟩ (by simp) (fun p hp => ?_) (fun p hp => ?_)
    · simp at hp; subst hp; exact heap_alloc_new w _
    · simp at hp; subst hp; exact .inr (Nat.le_refl _)
  refine R.ac (w' := w.alloc (.map #[] 0)) (v := .map (some w.heap.size)) hd (fun a f => ?_) (k _ _ _ ⟨w.heap.size, #[], 0, rfl, rfl, ⟨rfl, by simp, by simp, by simp⟩⟩ hsat)
  simp [execOp, f.eval hx, Instr.makeMap, newObj, run_underlying hu, asInt]
  rfl
theorem run_update [ke : KeyEnc P kt ek] (hs : Sat K w (F :: Rs)) (h : MapL ek ev v M F) (k : κ) (u : ν) (hu : P.underlying t = some (.map kt et)) :
    ∃ w' F', (Instr.mapUpdate t v (ek k) (ev u)).run P w = .ok () w' ∧ MapL ek ev v (putM k u M) F' ∧ Sat K w' (F' :: Rs) := by
  obtain ⟨b, es, clock, rfl, rfl, hr⟩ := h.ex
  have hb : w.heap[b]? = some (.map es clock) := hs.obj (b, _) (by simp)
  have hf := run_findM (P := P) (kt := kt) (w := w) k hr
  have hp := hr.put k u
  simp only [Instr.mapUpdate, Sem.run_bind, run_underlying hu, run_getMap hb, Result.andThen_ok, ke.check, hf]
  have hq := findM_put (k := k) (v := u) M 0
  cases hfm : findM k M 0 with
  | none =>
    rw [hfm] at hp
    refine ⟨_, [(b, .map (es.push { key := ek k, val := ev u, born := clock }) (clock + 1))], ?_, ⟨b, _, _, rfl, rfl, hp⟩, hs.setObj⟩
    simp [setObj, Sem.run, hb]
  | some p =>
    obtain ⟨j, u0⟩ := p
    rw [hfm] at hp hq
    simp only [Nat.sub_zero] at hq
    have hkey : ((es[j]?).map (·.key)).getD (ek k) = ek k := by
      have h1 := congrArg (fun l => l[j]?) hr.eq
      simp only [List.getElem?_map, Array.getElem?_toList, hq.2.1, Option.map_some] at h1
      obtain ⟨e, he, h2⟩ := Option.map_eq_some_iff.1 h1
      simp only [Prod.mk.injEq] at h2
      rw [he]; simpa using h2.1
    refine ⟨_, [(b, .map (es.modify j fun e => { e with key := ek k, val := ev u }) clock)], ?_, ⟨b, _, _, rfl, rfl, hp⟩, hs.setObj⟩
    simp [hkey, Instr.keyThatStays, ke.bits, setObj, Sem.run, hb]
theorem R.cput (k : κ) (u : ν) (hs : Sat K w Hs) (hx : look g x = some v) (hy : look g y = some kv) (hz : look g z = some vv) (hu : P.underlying t = some (.map kt et)) [ke : KeyEnc P kt ek] [h : MapL ek ev v M F] [c : Ctx F Hs C Rs] (hk : kv = ek k) (hv : vv = ev u)
    (cont : ∀ w' F', MapL ek ev v (putM k u M) F' → Sat K w' (C F') → R P ops Q rest n g w') :
    R P ops Q (⟨none, .mapUpdate t x y z, ty, pos, af, none⟩ :: rest) n g w := by
  subst hk hv
  obtain ⟨w', F', h1, h2, h3⟩ := run_update (P := P) (t := t) (hs.front (F := F)) h k u hu
  refine R.ac0 (w' := w') (fun a f => ?_) (cont w' F' h2 (hs.back (F := F) h3))
  simp [execOp, f.eval hx, f.eval hy, f.eval hz, h1]
theorem R.cins (k : κ) (u : ν) (hs : Sat K w Hs) (hx : look g x = some v) (hy : look g y = some kv) (hz : look g z = some vv) (hu : P.underlying t = some (.map kt et)) [ke : KeyEnc P kt ek] [h : MapL ek ev v M F] [c : Ctx F Hs C Rs] (hk : kv = ek k) (hv : vv = ev u)
    (cont : ∀ w' F', MapL ek ev v (putM k u M) F' → Sat K w' (C F') → R P ops Q rest n g w') :
    R P ops Q (⟨none, .insert t x y z, ty, pos, af, none⟩ :: rest) n g w := by
  subst hk hv
  obtain ⟨w', F', h1, h2, h3⟩ := run_update (P := P) (t := t) (hs.front (F := F)) h k u hu
  refine R.ac0 (w' := w') (fun a f => ?_) (cont w' F' h2 (hs.back (F := F) h3))
  simp [execOp, f.eval hx, f.eval hy, f.eval hz, h1]
theorem R.cdel [Inhabited ν] (k : κ) (hs : Sat K w Hs) (hx : look g x = some v) (hy : look g y = some kv) (hu : P.underlying t = some (.map kt et)) [ke : KeyEnc P kt ek] [h : MapL ek ev v M F] [c : Ctx F Hs C Rs] {t2 : TypeId} (hk : kv = ek k)
    (cont : ∀ w' F', MapL ek ev v (delM k M) F' → Sat K w' (C F') → R P ops Q rest n g w') :
    R P ops Q (⟨none, .call ⟨.builtin .delete, #[x, y], #[t, t2]⟩, ty, pos, af, none⟩ :: rest) n g w := by
  subst hk
  obtain ⟨b, es, clock, rfl, rfl, hr⟩ := h.ex
  have hf0 := hs.front (F := [(b, .map es clock)])
  have hb : w.heap[b]? = some (.map es clock) := hf0.obj (b, _) (by simp)
  have hf := run_findM (P := P) (kt := kt) (w := w) k hr
  have hp := hr.del k default
  cases hfm : findM k M 0 with
  | none =>
    rw [hfm] at hp hf
    refine R.ac0v (v := .tuple #[]) (w' := { w with heap := w.heap.setIfInBounds b (.map es clock) }) (fun a f => ?_) (cont _ [(b, .map es clock)] ⟨b, _, _, rfl, rfl, hp⟩ (hs.back (F := [(b, .map es clock)]) hf0.setObj))
    simp [execOp, resolve, invoke, builtin, f.eval hx, f.eval hy, Builtin.delete_, run_underlying hu, run_getMap hb, ke.check, hf, Go.setObj, Sem.run, hb]
  | some p =>
    obtain ⟨j, u0⟩ := p
    rw [hfm] at hp hf
    refine R.ac0v (v := .tuple #[]) (w' := { w with heap := w.heap.setIfInBounds b (.map (es.eraseIdxIfInBounds j) clock) }) (fun a f => ?_) (cont _ [(b, .map (es.eraseIdxIfInBounds j) clock)] ⟨b, _, _, rfl, rfl, hp⟩ (hs.back (F := [(b, .map es clock)]) hf0.setObj))
    simp [execOp, resolve, invoke, builtin, f.eval hx, f.eval hy, Builtin.delete_, run_underlying hu, run_getMap hb, ke.check, hf, Go.setObj, Sem.run, hb]

/-! ranging over a map that is not written meanwhile -/
/-- the iterator in block r over the map in block b: what is left to come -/
def ItP (ek : κ → Value) (ev : ν → Value) (r b : Nat) (es : Array MapEntry) (clock : Nat) (L : List (κ × ν)) (F : Hl) : Prop :=
  ∃ seen, F = [(r, .mapIter (some b) clock seen clock)] ∧ ((leftOf es seen).toList.map (fun e => (e.key, e.val))).Perm (L.map fun p => (ek p.1, ev p.2))
omit [DecidableEq κ] in
theorem R.crange {b : Nat} {es : Array MapEntry} {clock : Nat} (hs : Sat K w Hs) (hx : look g x = some (.map (some b))) (hu : P.underlying t = some (.map kt et)) (hr : MapRep ek ev M es clock) [i : InH b (.map es clock) Hs] (hd : Nat.blt d n.sz = true)
    (cont : ∀ r w' F, ItP ek ev r b es clock M F → Sat K w' (F :: Hs) → R P ops Q rest n ((d, .pointer (some ⟨r, 0, none⟩)) :: g) w') :
    R P ops Q (⟨some d, .range t x, ty, pos, af, none⟩ :: rest) n g w := by
  have hb : w.heap[b]? = some (.map es clock) := hs.objIn
  have hrun := run_range_map (P := P) w t kt et b es clock hu hb
  have hsat : Sat K (w.alloc (.mapIter (some b) clock #[] clock)) ([(w.heap.size, .mapIter (some b) clock #[] clock)] :: Hs) := by
    refine hs.nil.upd ⟨rfl, rfl, rfl, by simp, fun i hi _ => Below.heap_alloc w _ i hi⟩ (by simp) (fun p hp => ?_) (fun p hp => ?_)
    · simp at hp; subst hp; exact heap_alloc_new w _
    · simp at hp; subst hp; exact .inr (Nat.le_refl _)
  refine R.ac (w' := w.alloc (.mapIter (some b) clock #[] clock)) (v := .pointer (some ⟨w.heap.size, 0, none⟩)) hd (fun a f => ?_) (cont _ _ _ ⟨#[], rfl, ?_⟩ hsat)
  · simp [execOp, f.eval hx, hrun]
  · have : (leftOf es #[]).toList = es.toList := by simp [leftOf]
    rw [this, hr.eq]
theorem left_push {es : Array MapEntry} {seen : Array Nat} {e : MapEntry} (hn : (es.toList.map (·.born)).Nodup) (he : e ∈ (leftOf es seen).toList) : (leftOf es seen).toList.Perm (e :: (leftOf es (seen.push e.born)).toList) := by
  have key : ∀ (l : List MapEntry), (l.map (·.born)).Nodup → e ∈ l.filter (fun x => !seen.contains x.born) → (l.filter (fun x => !seen.contains x.born)).Perm (e :: l.filter (fun x => !(seen.push e.born).contains x.born)) := by
    intro l
    induction l with
    | nil => intro _ h; simp at h
    | cons a l ih =>
      intro hn he
      simp only [List.map_cons, List.nodup_cons] at hn
      by_cases hae : a = e
      · subst hae
        have ha : (!seen.contains a.born) = true := by
          simpa using (List.mem_filter.1 he).2
        rw [List.filter_cons_of_pos (p := fun x : MapEntry => !seen.contains x.born) ha, List.filter_cons_of_neg (p := fun x : MapEntry => !(seen.push a.born).contains x.born) (by simp)]
        have : l.filter (fun x => !seen.contains x.born) = l.filter (fun x => !(seen.push a.born).contains x.born) := by
          apply List.filter_congr
          intro x hx
          have : x.born ≠ a.born := fun h => hn.1 (List.mem_map.2 ⟨x, hx, h⟩)
          simp [this]
        rw [this]
      · have he' : e ∈ l.filter (fun x => !seen.contains x.born) := by
          rcases List.mem_filter.1 he with ⟨h1, h2⟩
          rcases List.mem_cons.1 h1 with h1 | h1
          · exact absurd h1.symm hae
          · exact List.mem_filter.2 ⟨h1, h2⟩
        have ih' := ih hn.2 he'
        have hne : a.born ≠ e.born := fun h => hn.1 (List.mem_map.2 ⟨e, (List.mem_filter.1 he').1, h.symm⟩)
        by_cases ha : (!seen.contains a.born) = true
        · have ha2 : (!(seen.push e.born).contains a.born) = true := by simpa [hne] using ha
          rw [List.filter_cons_of_pos (p := fun x : MapEntry => !seen.contains x.born) ha, List.filter_cons_of_pos (p := fun x : MapEntry => !(seen.push e.born).contains x.born) ha2]
          exact (ih'.cons a).trans (List.Perm.swap _ _ _)
        · have ha2 : ¬ (!(seen.push e.born).contains a.born) = true := by simpa [hne] using ha
          rw [List.filter_cons_of_neg (p := fun x : MapEntry => !seen.contains x.born) ha, List.filter_cons_of_neg (p := fun x : MapEntry => !(seen.push e.born).contains x.born) ha2]
          exact ih'
  have h1 : (leftOf es seen).toList = es.toList.filter (fun x => !seen.contains x.born) := by simp [leftOf]
  have h2 : (leftOf es (seen.push e.born)).toList = es.toList.filter (fun x => !(seen.push e.born).contains x.born) := by simp [leftOf]
  rw [h1] at he ⊢
  rw [h2]
  exact key es.toList hn he
omit [DecidableEq κ] in
theorem R.cnext {b r : Nat} {es : Array MapEntry} {clock : Nat} {L : List (κ × ν)} (hs : Sat K w Hs) (hx : look g x = some (.pointer (some ⟨r, 0, none⟩))) (hr : MapRep ek ev M es clock) (hi : ItP ek ev r b es clock L F) [i : InH b (.map es clock) Hs] [c : Ctx F Hs C Rs] (hd : Nat.blt d n.sz = true)
    (over : L = [] → R P ops Q rest n ((d, .tuple #[.bool false]) :: g) w)
    (cont : ∀ p L' w' F', L.Perm (p :: L') → p ∈ L → ItP ek ev r b es clock L' F' → Sat K w' (C F') → (∀ w'', Sat K w'' (C F') → (Instr.entry (.pointer (some ⟨r, 0, none⟩))).run P w'' = .ok (.tuple #[ek p.1, ev p.2]) w'') → R P ops Q rest n ((d, .tuple #[.bool true, ek p.1, ev p.2]) :: g) w') :
    R P ops Q (⟨some d, .next x false, ty, pos, af, none⟩ :: rest) n g w := by
  obtain ⟨seen, rfl, hp⟩ := hi
  have hf0 := hs.front (F := [(r, .mapIter (some b) clock seen clock)])
  have hir : w.heap[r]? = some (.mapIter (some b) clock seen clock) := hf0.obj (r, _) (by simp)
  have hb : w.heap[b]? = some (.map es clock) := hs.objIn
  rcases run_next_at (P := P) w ty r b clock clock seen es clock hir hb hr.old (Nat.le_refl _) with ⟨h0, hrun⟩ | ⟨e, he, w1, hw1, hrun⟩
  · have hL : L = [] := by
      have := hp.length_eq
      simp [h0] at this
      exact List.length_eq_zero_iff.1 this.symm
    refine R.ac (w' := w) (v := .tuple #[.bool false]) hd (fun a f => ?_) (over hL)
    simp [execOp, f.eval hx, hrun]
  · have hs1 : Sat K w1 Hs := by
      rcases hw1 with rfl | rfl
      · exact hs
      · exact hs.drew
    have hset : Go.ChangeMaps.setBlock w1 r (.mapIter (some b) clock (seen.push e.born) clock) = { w1 with heap := w1.heap.setIfInBounds r (.mapIter (some b) clock (seen.push e.born) clock) } := rfl
    have hs2 := hs1.back (F := [(r, .mapIter (some b) clock seen clock)]) ((hs1.front (F := [(r, .mapIter (some b) clock seen clock)])).setObj (o' := .mapIter (some b) clock (seen.push e.born) clock))
    have hmem : (e.key, e.val) ∈ (leftOf es seen).toList.map (fun e => (e.key, e.val)) := List.mem_map.2 ⟨e, he, rfl⟩
    have hm2 := hp.mem_iff.1 hmem
    obtain ⟨p, hpL, hpe⟩ := List.mem_map.1 hm2
    simp only [Prod.mk.injEq] at hpe
    obtain ⟨L1, L2, rfl⟩ := List.append_of_mem hpL
    have hperm : (L1 ++ p :: L2).Perm (p :: (L1 ++ L2)) := List.perm_middle
    have hleft := left_push hr.born he
    have hmap : ((leftOf es (seen.push e.born)).toList.map (fun e => (e.key, e.val))).Perm ((L1 ++ L2).map fun p => (ek p.1, ev p.2)) := by
      have h1 : ((e.key, e.val) :: (leftOf es (seen.push e.born)).toList.map (fun e => (e.key, e.val))).Perm ((ek p.1, ev p.2) :: (L1 ++ L2).map fun p => (ek p.1, ev p.2)) :=
        ((hleft.map (fun e : MapEntry => (e.key, e.val))).symm.trans hp).trans (hperm.map _)
      rw [← hpe.1, ← hpe.2] at h1
      exact List.Perm.cons_inv h1
    have hes : e ∈ es.toList := by
      have : (leftOf es seen).toList = es.toList.filter (fun x => !seen.contains x.born) := by simp [leftOf]
      rw [this] at he; exact (List.mem_filter.1 he).1
    refine R.ac (w' := Go.ChangeMaps.setBlock w1 r (.mapIter (some b) clock (seen.push e.born) clock)) (v := .tuple #[.bool true, ek p.1, ev p.2]) hd (fun a f => ?_) (cont p (L1 ++ L2) _ [(r, .mapIter (some b) clock (seen.push e.born) clock)] hperm hpL ⟨_, rfl, hmap⟩ (by rw [hset]; exact hs2) ?_)
    · simp [execOp, f.eval hx, hrun, hpe.1, hpe.2]
    · intro w'' hs''
      have hf1 := hs''.perm ((c.perm [(r, .mapIter (some b) clock (seen.push e.born) clock)]).symm)
      have hir' : w''.heap[r]? = some (.mapIter (some b) clock (seen.push e.born) clock) := hf1.obj (r, _) (by simp)
      have hrb : b ≠ r := by
        intro e0; subst e0; rw [hb] at hir; cases hir
      have hb'' : w''.heap[b]? = some (.map es clock) := by
        have h1 := i.mem
        have h2 := c.perm [(r, .mapIter (some b) clock seen clock)]
        rw [← c.eq] at h2
        have h3 := h2.mem_iff.1 h1
        simp only [List.flatten_cons, List.mem_append, List.mem_cons, List.not_mem_nil, or_false, Prod.mk.injEq] at h3
        rcases h3 with h3 | h3
        · exact absurd h3.1 hrb
        · exact hf1.obj (b, _) (by simp only [List.flatten_cons, List.mem_append]; exact .inr h3)
      have := run_entry_at (P := P) w'' r b clock seen es clock e hir' hb'' hes hr.born
      rw [this, hpe.1, hpe.2]
theorem E.entryC {u : Value} (hx : look g x = some v) (h : (Instr.entry v).run P w = .ok u w) : Ev P n g ⟨dst, .entry x, ty, pos, af, gu⟩ w u := fun a f => by
  simp [execOp, f.eval hx, h]
end
end Go.Eng
