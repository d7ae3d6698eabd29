/-
  Rows that the call owns, as blocks: prefixes, append in place, clear, stores (over any program).
-/
import Derived.Test.YtifghjeapfijkaaGreatDoorSlice
import Derived.Laws.OwnMore
import Derived.Laws.Pointers
import Derived.Lib.SliceRun
namespace Go.Eng
open Go.RowKit

theorem own_blk {w : World} {base : Nat} {e : TypeId} {sz : Nat} {v : Value} {n : Nat} {xs : List Value} (h : w.ownsRow base e sz v n xs) :
    (v = .slice none 0 0 ∧ n = 0 ∧ xs = []) ∨ ∃ g cap cur, v = .slice (some ⟨g, 0, none⟩) n cap ∧ base ≤ g ∧ Blk w g e (xs ++ cur) ∧ n ≤ cap ∧ cap ≤ maxLen ∧ (xs ++ cur).length = cap * sz := by
  rcases h.2 with ⟨rfl, h0⟩ | ⟨g, cap, cur, rfl, hb, hg, hk, hcm, hsz, ht⟩
  · refine .inl ⟨rfl, h0, ?_⟩
    have := h.1; rw [h0] at this; simpa using this
  · refine .inr ⟨g, cap, cur.toList.drop (n * sz), rfl, hb, ?_, hk, hcm, ?_⟩
    · rw [← ht, List.take_append_drop]; exact hg
    · rw [← ht, List.take_append_drop]; simpa using hsz
theorem own_mk {w : World} {base : Nat} {e : TypeId} {sz g n cap : Nat} {xs cur : List Value} (hx : xs.length = n * sz) (hb : base ≤ g) (hg : Blk w g e (xs ++ cur)) (hk : n ≤ cap) (hcm : cap ≤ maxLen) (hl : (xs ++ cur).length = cap * sz) :
    w.ownsRow base e sz (.slice (some ⟨g, 0, none⟩) n cap) n xs :=
  ⟨hx, .inr ⟨g, cap, (xs ++ cur).toArray, rfl, hb, hg, hk, hcm, by simpa using hl, by rw [← hx]; simp⟩⟩
theorem own_pre {w : World} {base : Nat} {e : TypeId} {sz g n cap i : Nat} {xs : List Value} (h : w.ownsRow base e sz (.slice (some ⟨g, 0, none⟩) n cap) n xs) (hi : i ≤ n) :
    w.ownsRow base e sz (.slice (some ⟨g, 0, none⟩) i cap) i (xs.take (i * sz)) := by
  have hx := h.1
  rcases own_blk h with ⟨h0, _⟩ | ⟨g', cap', cur, he, hb, hg, hk, hcm, hl⟩
  · simp at h0
  · simp only [Value.slice.injEq, Option.some.injEq, Addr.mk.injEq, and_true, true_and] at he
    obtain ⟨rfl, rfl⟩ := he
    have hm : i * sz ≤ n * sz := Nat.mul_le_mul_right _ hi
    refine own_mk (cur := xs.drop (i * sz) ++ cur) (by simp; omega) hb (by rw [← List.append_assoc, List.take_append_drop]; exact hg) (by omega) hcm (by rw [← List.append_assoc, List.take_append_drop]; exact hl)

section ops
variable {P : Program} {Q : Post} {n : Nn} {g : Env} {w : World} {dst : Option Nat} {ty : TypeId} {pos : String} {af : Array Edge} {gu : Option (Nat × Bool)} {ops : Array Oper} {rest : List Oper} {d : Nat}
variable {t t' : TypeId} {x y z : Operand}

/-- append in place -/
theorem R.appendFits {s : Operand} {e : TypeId} {zv : Value} {sz by_ : Nat} {base gk k cap : Nat} {xs : List Value} {bk off m c : Nat} {news : List Value}
    (hs : look g s = some (.slice (some ⟨gk, 0, none⟩) k cap)) (hx : look g x = some (.slice (some ⟨bk, off, none⟩) m c)) (hu : P.underlying t = some (.slice e)) (hi : byOf P e = some (zv, sz, by_)) (hd : Nat.blt d n.sz = true)
    (hown : w.ownsRow base e sz (.slice (some ⟨gk, 0, none⟩) k cap) k xs) (hn : At w bk off news) (hl : news.length = m * sz) (h1 : ∀ u ∈ news, u.oneCell' = true) (hroom : k + m ≤ cap)
    (cont : ∀ w', w'.ownsRow base e sz (.slice (some ⟨gk, 0, none⟩) (k + m) cap) (k + m) (xs ++ news) → Mod [gk] w w' → R P ops Q rest n ((d, .slice (some ⟨gk, 0, none⟩) (k + m) cap) :: g) w') :
    R P ops Q (⟨some d, .call ⟨.builtin .append, #[s, x], #[t, t]⟩, ty, pos, af, none⟩ :: rest) n g w := by
  obtain ⟨i, hi, hz0, hz1, hz2⟩ := byOf_parts hi
  obtain ⟨w', hr, h2, h3⟩ := run_append_fits (P := P) w base t ty e i sz hu hi hz1 gk k cap xs hown ⟨bk, off, none⟩ m c news hl (fun j u hj => by rw [add_at]; exact hn j u hj) h1 hroom
  refine R.ac (w' := w') (v := .slice (some ⟨gk, 0, none⟩) (k + m) cap) hd (fun a f => ?_) (cont w' h2 (by have := grown_mod (v := .slice (some ⟨gk, 0, none⟩) 0 0) h3; simpa [Value.ownBlock] using this))
  simp [execOp, resolve, invoke, builtin, f.eval hs, f.eval hx, hr]
/-- an operation for its effect alone -/
theorem R.ac0v {v : Value} {w' : World} {op : Op} (h : Ac P n g ⟨none, op, ty, pos, af, none⟩ w (some v) w') (k : R P ops Q rest n g w') : R P ops Q (⟨none, op, ty, pos, af, none⟩ :: rest) n g w := fun a f => by
  refine wpList_plain rfl fun K hK => ?_
  unfold Oper.wp
  rw [h a f]
  exact hK _ _ (k _ f)
theorem R.clear0 {ad : Option Addr} {c : Nat} {td : TypeDesc} (hx : look g x = some (.slice ad 0 c)) (hu : P.underlying t = some td) (k : R P ops Q rest n g w) :
    R P ops Q (⟨none, .call ⟨.builtin .clear, #[x], #[t]⟩, ty, pos, af, none⟩ :: rest) n g w := by
  refine R.ac0v (v := .tuple #[]) (w' := w) (fun a f => ?_) k
  cases ad <;> simp [execOp, resolve, invoke, builtin, f.eval hx, Builtin.clear_, run_underlying hu]
theorem R.clear {b off m c sz : Nat} {e : TypeId} {zv : Value} {l : List Value} (hx : look g x = some (.slice (some ⟨b, off, none⟩) m c)) (hu : P.underlying t = some (.slice e)) (hz : zeroOf P e = some zv) (hs : zv.cells.size = sz) (h1 : zv.cells.toList.all (·.oneCell') = true)
    {bt : TypeId} (hb : Blk w b bt l) (hfit : off + m * sz ≤ l.length) (hsz : 0 < sz)
    (k : ∀ w' zs, zs.length = m * sz → Blk w' b bt (l.take off ++ zs ++ l.drop (off + m * sz)) → Mod [b] w w' → w'.heap.size = w.heap.size → R P ops Q rest n g w') :
    R P ops Q (⟨none, .call ⟨.builtin .clear, #[x], #[t]⟩, ty, pos, af, none⟩ :: rest) n g w := by
  subst hs
  rcases Nat.eq_zero_or_pos m with rfl | hm
  · refine R.clear0 hx hu (k w [] (by simp) (by simpa using hb) (Mod.refl _ _) rfl)
  · have hlen : (Builtin.zeroCells zv.cells m).toList.length = m * zv.cells.size := by simp [Builtin.zeroCells]
    have hone : ∀ u ∈ (Builtin.zeroCells zv.cells m).toList, u.oneCell' = true := by
      intro u hu
      simp only [Builtin.zeroCells, Array.toList_map, List.mem_map] at hu
      obtain ⟨i, _, rfl⟩ := hu
      have hlt : i % zv.cells.size < zv.cells.size := Nat.mod_lt _ hsz
      rw [getElem!_pos zv.cells _ hlt]
      exact List.all_eq_true.1 h1 _ (by simp)
    have hst := run_storeCells_at (P := P) b off bt (Builtin.zeroCells zv.cells m).toList 0 l.toArray w hb (by rw [hlen]; simpa using hfit) hone
    simp only [Nat.add_zero] at hst
    obtain ⟨m', rfl⟩ : ∃ m', m = m' + 1 := ⟨m - 1, by omega⟩
    refine R.ac0v (v := .tuple #[]) (w' := w.setRow b (l.take off ++ (Builtin.zeroCells zv.cells (m' + 1)).toList ++ l.drop (off + (m' + 1) * zv.cells.size)).toArray) (fun a f => ?_) (k _ _ hlen (blk_setRow hb _) (mod_setRow _) (by simp))
    rw [hlen] at hst
    simp [execOp, resolve, invoke, builtin, f.eval hx, Builtin.clear_, run_underlying hu, run_zeroOf hz, hst]
/-! compared with nil -/
theorem E.eqlNil {p : Option Addr} {e : TypeId} (hx : look g x = some (.pointer p)) (hy : look g y = some (.pointer none)) (hu : P.underlying t = some (.pointer e)) : Ev P n g ⟨dst, .binOp .eql t x y t', ty, pos, af, gu⟩ w (.bool p.isNone) := fun a f => by
  have hp : P.underlying t = some (.pointer (P.pointee t)) := by simp [Program.pointee, hu]
  simp [execOp, f.eval hx, f.eval hy, eqGuard, run_eql_pointer_nil _ t p hp]
theorem E.eqlNilS {p : Option Addr} {e : TypeId} {m c m' c' : Nat} (hx : look g x = some (.slice p m c)) (hy : look g y = some (.slice none m' c')) (hu : P.underlying t = some (.slice e)) : Ev P n g ⟨dst, .binOp .eql t x y t', ty, pos, af, gu⟩ w (.bool p.isNone) := fun a f => by
  simp [execOp, f.eval hx, f.eval hy, eqGuard, Lib.run_eql_slice_nil _ t e p m c m' c' hu]
theorem E.eqlNilF {ad : Addr} {e : TypeId} (hx : look g x = some (.pointer (some ad))) (hy : look g y = some (.pointer none)) (hu : P.underlying t = some (.pointer e)) : Ev P n g ⟨dst, .binOp .eql t x y t', ty, pos, af, gu⟩ w (.bool false) := E.eqlNil hx hy hu
theorem E.eqlNilT {e : TypeId} (hx : look g x = some (.pointer none)) (hy : look g y = some (.pointer none)) (hu : P.underlying t = some (.pointer e)) : Ev P n g ⟨dst, .binOp .eql t x y t', ty, pos, af, gu⟩ w (.bool true) := E.eqlNil hx hy hu
end ops
end Go.Eng
