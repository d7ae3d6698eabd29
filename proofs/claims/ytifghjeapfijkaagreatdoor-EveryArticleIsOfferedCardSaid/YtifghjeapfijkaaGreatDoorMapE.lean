/-
  m[k] = f(m[k]): the entry is found once and stored into by its stamp (over any program).
-/
import Derived.Test.YtifghjeapfijkaaGreatDoorMapOps
namespace Go.Eng
open Go.RowKit
section
variable {P : Program} {Q : Post} {n : Nn} {g : Env} {w : World} {ty : TypeId} {pos : String} {af : Array Edge} {ops : Array Oper} {rest : List Oper} {d : Nat}
variable {t kt et : TypeId} {x y z : Operand} {K : Kn} {Hs Rs : List Hl} {F : Hl} {C : Hl → List Hl} {κ ν : Type} [DecidableEq κ] {ek : κ → Value} {ev : ν → Value} {M : List (κ × ν)} {v kv : Value}
/-- the entry of k bears the stamp s -/
class Stamp (ek : κ → Value) (ev : ν → Value) (v : Value) (M : List (κ × ν)) (k : κ) (s : Nat) (F : Hl) : Prop where
  ex : ∃ b es clock j u e, v = .map (some b) ∧ F = [(b, .map es clock)] ∧ MapRep ek ev M es clock ∧ findM k M 0 = some (j, u) ∧ es[j]? = some e ∧ e.key = ek k ∧ e.born = s
theorem Stamp.map {k : κ} {s : Nat} (h : Stamp ek ev v M k s F) : MapL ek ev v M F := by
  obtain ⟨b, es, clock, j, u, e, h1, h2, h3, _⟩ := h.ex
  exact ⟨b, es, clock, h1, h2, h3⟩
theorem findM_putM {k : κ} {u : ν} (M : List (κ × ν)) : ∃ j, findM k (putM k u M) 0 = some (j, u) ∧ match findM k M 0 with | some (i, _) => j = i | none => j = M.length := by
  have key : ∀ (M : List (κ × ν)) (i : Nat), ∃ j, findM k (putM k u M) i = some (j, u) ∧ match findM k M i with | some (p, _) => j = p | none => j = i + M.length := by
    intro M
    induction M with
    | nil => intro i; exact ⟨i, by simp [putM, findM], by simp [findM]⟩
    | cons q M ih =>
      intro i
      obtain ⟨a, y⟩ := q
      by_cases h : k = a
      · subst h
        exact ⟨i, by rw [putM, if_pos rfl, findM, if_pos rfl], by simp [findM]⟩
      · obtain ⟨j, h1, h2⟩ := ih (i + 1)
        refine ⟨j, by rw [putM, if_neg h, findM, if_neg h]; exact h1, ?_⟩
        rw [findM, if_neg h]
        split at h2
        · exact h2
        · simp only [List.length_cons] at h2 ⊢; omega
  obtain ⟨j, h1, h2⟩ := key M 0
  refine ⟨j, h1, ?_⟩
  split at h2
  · exact h2
  · simpa using h2
theorem R.centry {z0 : ν} (k : κ) (hs : Sat K w Hs) (hx : look g x = some v) (hy : look g y = some kv) (hu : P.underlying t = some (.map kt et)) [ke : KeyEnc P kt ek] [hz : ZeroEnc P et ev z0] [h : MapL ek ev v M F] [c : Ctx F Hs C Rs] (hk : kv = ek k) (hd : Nat.blt d n.sz = true)
    (cont : ∀ s w' F', Stamp ek ev v (putM k ((lkM M k).getD z0) M) k s F' → Sat K w' (C F') → R P ops Q rest n ((d, .tuple #[ev ((lkM M k).getD z0), .int .i64 ((s : Nat) : Int)]) :: g) w') :
    R P ops Q (⟨some d, .mapEntry t x y, ty, pos, af, none⟩ :: rest) n g w := by
  subst hk
  obtain ⟨b, es, clock, rfl, rfl, hr⟩ := h.ex
  have hf0 := hs.front (F := [(b, .map es clock)])
  have hb : w.heap[b]? = some (.map es clock) := hf0.obj (b, _) (by simp)
  have hf := run_findM (P := P) (kt := kt) (w := w) k hr
  have hp := hr.put k ((lkM M k).getD z0)
  obtain ⟨j', hj1, hj2⟩ := findM_putM (k := k) (u := (lkM M k).getD z0) M
  cases hfm : findM k M 0 with
  | none =>
    rw [hfm] at hp hf hj2
    have hlk : lkM M k = none := by simp [lkM, hfm]
    rw [hlk] at hp hj1 cont
    simp only [Option.getD_none] at hp hj1 cont
    simp only at hj2
    have hlen : M.length = es.size := hr.len.symm
    refine R.ac (w' := { w with heap := w.heap.setIfInBounds b (.map (es.push { key := ek k, val := ev z0, born := clock }) (clock + 1)) }) (v := .tuple #[ev z0, .int .i64 ((clock : Nat) : Int)]) hd (fun a f => ?_)
      (cont clock _ [(b, .map (es.push { key := ek k, val := ev z0, born := clock }) (clock + 1))] ⟨b, _, _, j', z0, { key := ek k, val := ev z0, born := clock }, rfl, rfl, hp, hj1, by rw [hj2, hlen]; simp, rfl, rfl⟩ (hs.back (F := [(b, .map es clock)]) hf0.setObj))
    simp [execOp, f.eval hx, f.eval hy, Instr.mapEntry, run_underlying hu, run_getMap hb, ke.check, hf, run_zeroOf hz.eq, Go.setObj, Sem.run, hb, goInt]
  | some p =>
    obtain ⟨j, u0⟩ := p
    rw [hfm] at hp hf hj2
    have hlk : lkM M k = some u0 := by simp [lkM, hfm]
    rw [hlk] at hp hj1 cont
    simp only [Option.getD_some] at hp hj1 cont
    simp only at hj2
    subst hj2
    have hq := findM_put (k := k) (v := u0) M 0
    rw [hfm] at hq
    simp only [Nat.sub_zero] at hq
    obtain ⟨e, he, hkv⟩ : ∃ e, es[j']? = some e ∧ (e.key, e.val) = (ek k, ev u0) := by
      have h1 := congrArg (fun l => l[j']?) hr.eq
      simp only [List.getElem?_map, Array.getElem?_toList, hq.2.1, Option.map_some] at h1
      exact Option.map_eq_some_iff.1 h1
    simp only [Prod.mk.injEq] at hkv
    have hes : es.modify j' (fun e => { e with key := ek k, val := ev u0 }) = es.modify j' (fun e => { e with key := ek k }) := by
      apply Array.ext_getElem?
      intro i
      rw [Array.getElem?_modify, Array.getElem?_modify]
      split
      · rename_i hi; subst hi; rw [he]; simp [hkv.2]
      · rfl
    rw [hes] at hp
    refine R.ac (w' := { w with heap := w.heap.setIfInBounds b (.map (es.modify j' fun e => { e with key := ek k }) clock) }) (v := .tuple #[ev u0, .int .i64 ((e.born : Nat) : Int)]) hd (fun a f => ?_)
      (cont e.born _ [(b, .map (es.modify j' fun e => { e with key := ek k }) clock)] ⟨b, _, _, j', u0, { e with key := ek k }, rfl, rfl, hp, hj1, by rw [Array.getElem?_modify, if_pos rfl, he]; rfl, rfl, rfl⟩ (hs.back (F := [(b, .map es clock)]) hf0.setObj))
    simp [execOp, f.eval hx, f.eval hy, Instr.mapEntry, run_underlying hu, run_getMap hb, ke.check, hf, he, hkv.1, Instr.keyThatStays, ke.bits, Go.setObj, Sem.run, hb, goInt]
theorem R.cstamp {k : κ} {s : Nat} (u : ν) {vv : Value} (hs : Sat K w Hs) (hx : look g x = some v) (hy : look g y = some (.int .i64 ((s : Nat) : Int))) (hz : look g z = some vv) [h : Stamp ek ev v M k s F] [c : Ctx F Hs C Rs] (hv : vv = ev u)
    (cont : ∀ w' F', MapL ek ev v (putM k u M) F' → Sat K w' (C F') → R P ops Q rest n g w') :
    R P ops Q (⟨none, .entryStore t x y z, ty, pos, af, none⟩ :: rest) n g w := by
  subst hv
  obtain ⟨b, es, clock, j, u0, e, rfl, rfl, hr, hfm, he, hek, rfl⟩ := h.ex
  have hf0 := hs.front (F := [(b, .map es clock)])
  have hb : w.heap[b]? = some (.map es clock) := hf0.obj (b, _) (by simp)
  have hp := hr.put k u
  rw [hfm] at hp
  have hes : es.modify j (fun e => { e with key := ek k, val := ev u }) = es.modify j (fun e => { e with val := ev u }) := by
    apply Array.ext_getElem?
    intro i
    rw [Array.getElem?_modify, Array.getElem?_modify]
    split
    · rename_i hi; subst hi; rw [he]; simp [hek]
    · rfl
  simp only at hp
  rw [hes] at hp
  have hidx : es.findIdx? (fun e' => (e'.born : Int) == (e.born : Int)) = some j := by
    rw [Array.findIdx?_eq_some_iff_getElem]
    obtain ⟨hj, hje⟩ := Array.getElem?_eq_some_iff.1 he
    refine ⟨hj, by rw [hje]; simp, fun i hi => ?_⟩
    intro hbe
    have hi2 : i < es.size := by omega
    have h1 := hr.born
    rw [List.nodup_iff_pairwise_ne, List.pairwise_iff_getElem] at h1
    have := h1 i j (by simpa using hi2) (by simpa using hj) hi
    simp only [List.getElem_map, Array.getElem_toList] at this
    rw [hje] at this
    simp at hbe
    exact this (by omega)
  refine R.ac0 (w' := { w with heap := w.heap.setIfInBounds b (.map (es.modify j fun e => { e with val := ev u }) clock) }) (fun a f => ?_) (cont _ [(b, .map (es.modify j fun e => { e with val := ev u }) clock)] ⟨b, _, _, rfl, rfl, hp⟩ (hs.back (F := [(b, .map es clock)]) hf0.setObj))
  simp [execOp, f.eval hx, f.eval hy, f.eval hz, Instr.entryStore, run_getMap hb, asInt, asIntOf, hidx, Go.setObj, Sem.run, hb]
end
end Go.Eng
