/-
  package history: Count.
-/
import Derived.Test.YtobhhnfckhbeeaaPlay
namespace Go.Proofs.Ytobhhnfckhbeeaa
open Go.Eng Go.RowKit Go.Sort
variable {K : Kn} {Hs Rs : List Hl} {F : Hl} {w : World} {p : Nat} {s : Hi} {L : List HEnt}
def stIs (st : Int) (x : HEnt) : Bool := decide (x.state = st)
theorem count1_any {b : Nat} {st : Int} (x : HEnt) (hs : Sat K w Hs) [i : InH b (.cells [.int .i64 st].toArray 3 (0, 0)) Hs] : Ret Try.prog 51 #[evH x, ptr b] w fun r w' => r = .bool (stIs st x) ∧ Sat K w' Hs := by
  refine Ret.enter (n := 8) (args := [evH x, ptr b]) Try.func51 rfl rfl ?_
  refine C.keep [(0, _), (1, _)] ⟨rfl, rfl, trivial⟩ ?_
  refine C.seq ?_
  refine C.region ?_
  refine R.sboxA hs rfl rfl ?_
  intro b2 w2 hs
  refine R.ev rfl (E.assign rfl) ?_
  refine R.done ?_
  refine X.keep [(1, _), (2, _)] ⟨rfl, rfl, trivial⟩ ?_
  refine X.next ?_
  refine C.seq ?_
  refine C.region ?_
  first | refine R.ev rfl (E.fieldAddr0 34 rfl Try.underlying29 rfl Try.sz3 rfl) ?_ | refine R.ev rfl (E.fieldAddrN 34 rfl Try.underlying29 rfl Try.sz3 rfl) ?_
  refine R.ev rfl (E.load1 rfl Try.underlying3 rfl (by first | exact hs.ldc | exact hs.ld rfl | exact hs.ld (by assumption) | exact by assumption | exact At.cellC (by assumption))) ?_
  refine R.ev rfl (E.load1 rfl Try.underlying3 rfl (by first | exact hs.ldc | exact hs.ld rfl | exact hs.ld (by assumption) | exact by assumption | exact At.cellC (by assumption))) ?_
  refine R.ev rfl (E.eql rfl rfl) ?_
  refine R.ev rfl (E.assign rfl) ?_
  refine R.done ?_
  refine X.keep [(3, _)] ⟨rfl, trivial⟩ ?_
  refine X.next ?_
  refine C.ret ?_
  refine X.ret1 rfl rfl ?_
  exact ⟨rfl, hs.to⟩
theorem Ord.filter (h : Ord s L) {L' : List HEnt} {acc : HEnt → Bool} (hss : SS ltH L') (hm : ∀ x, x ∈ L' ↔ x ∈ s.M.map (·.2) ∧ acc x = true) : L' = L.filter acc :=
  ss_ext ltH_swo hss (List.Pairwise.sublist List.filter_sublist h.ss) fun x => by rw [hm, List.mem_filter, h.mem]
theorem count_any (st : Int) (ho : Ord s L) (hs : Sat K w Hs) [hw : HiIn p s Hs] : Ret Try.prog 31 #[ptr p, .int .i64 st] w fun r w' => r = .int .i64 (L.filter (stIs st)).length ∧ Sat K w' Hs := by
  refine Ret.enter (n := 9) (args := [ptr p, .int .i64 st]) Try.func31 rfl rfl ?_
  refine C.keep [(0, _), (1, _)] ⟨rfl, rfl, trivial⟩ ?_
  refine C.seq ?_
  refine C.region ?_
  refine R.sbox1 hs rfl rfl rfl ?_
  intro b3 w3 hs
  refine R.ev rfl (E.assign rfl) ?_
  refine R.done ?_
  refine X.keep [(0, _), (3, _)] ⟨rfl, rfl, trivial⟩ ?_
  refine X.next ?_
  refine C.seq ?_
  refine C.region ?_
  refine R.ev rfl (E.move rfl) ?_
  refine R.ev rfl (E.makeFunc rfl rfl) ?_
  refine R.call ⟨_, _, Try.func49, rfl, by kernel_rfl⟩ rfl rfl (sorted_any (first := []) (cap := [ptr b3]) (stIs st) ⟨_, _, Try.func51, rfl, by kernel_rfl⟩ ho.ok hs (fun x w1 Hs1 hsub h1 => by have : InH b3 (.cells [.int .i64 st].toArray 3 (0, 0)) Hs1 := InH.sub inferInstance hsub; exact count1_any x h1)) ?_
  rintro v6 w6 ⟨L2, F2, r2, hss, hmem, hl2, hs⟩
  obtain rfl := ho.filter hss hmem
  obtain ⟨ad, cap, rfl, _⟩ := r2.val
  refine R.ev rfl (E.lenSl rfl Try.underlying65) ?_
  refine R.ev rfl (E.assign rfl) ?_
  refine R.done ?_
  refine X.keep [(4, _)] ⟨rfl, trivial⟩ ?_
  refine X.next ?_
  refine C.ret ?_
  refine X.ret1 rfl rfl ?_
  exact ⟨rfl, hs.to⟩
theorem filter_snoc {q : HEnt → Bool} {k : Nat} {y : HEnt} (h : L[k]? = some y) : ((L.take (k + 1)).filter q).length = ((L.take k).filter q).length + if q y then 1 else 0 := by
  rw [take_snoc h, List.filter_append, List.length_append]
  cases hq : q y <;> simp [hq]
end Go.Proofs.Ytobhhnfckhbeeaa
