/-
  package history: Encode.
-/
import Derived.Test.YtobhhnfckhbeeaaHisB
namespace Go.Proofs.Ytobhhnfckhbeeaa
open Go.Eng Go.RowKit Go.Sort
variable {K : Kn} {Hs Rs : List Hl} {F G : Hl} {w : World} {p : Nat} {s : Hi} {L : List HEnt} {v : Value}
theorem num4_get (n : Int) : ∀ k, k < 4 → (num4 n)[k]? = some (byteAt n (24 - 8 * k))
  | 0, _ => rfl
  | 1, _ => rfl
  | 2, _ => rfl
  | 3, _ => rfl
  | k + 4, h => by omega
theorem appMin_any (n : Int) {B : List UInt8} (hs : Sat K w (G :: Rs)) [hr : RowL 5 encB 1 v B G] (hB : B.length ≤ 100000000) : Ret Try.prog 64 #[v, .int .i64 n] w fun r w' => ∃ G', RowL 5 encB 1 r (B ++ num4 n) G' ∧ Sat K w' (G' :: Rs) := by
  refine Ret.enter (n := 19) (args := [v, .int .i64 n]) Try.func64 rfl rfl ?_
  refine C.keep [(0, _), (1, _)] ⟨rfl, rfl, trivial⟩ ?_
  refine C.seq ?_
  refine C.region ?_
  refine R.ev rfl (E.assign rfl) ?_
  refine R.done ?_
  refine X.keep [(0, _), (1, _)] ⟨rfl, rfl, trivial⟩ ?_
  refine X.next ?_
  refine C.seq ?_
  refine C.seq ?_
  refine C.region ?_
  refine R.ev rfl (E.assign rfl) ?_
  refine R.done ?_
  refine X.keep [(0, _), (1, _), (5, _)] ⟨rfl, rfl, rfl, trivial⟩ ?_
  refine X.next ?_
  refine C.block ?_
  refine C.loop (T := Nat × Value × Hl) [(1, _)] (fun (k, v, _) => [(0, v), (5, .int .i64 (3 - (k : Int)))]) (fun (k, v, G) w' => k ≤ 4 ∧ RowL 5 encB 1 v (B ++ (num4 n).take k) G ∧ Sat K w' (G :: Rs)) (fun (k, _) => 4 - k) ((0, v, G)) ⟨rfl, rfl, rfl, trivial⟩ ⟨by omega, by simpa using hr, hs⟩ ?_
  rintro ⟨k, v1, G1⟩ w1 ⟨hk, r1, hs⟩
  have hlen : (B ++ (num4 n).take k).length = B.length + k := by rw [List.length_append, List.length_take, num4_len]; omega
  have o1 : OneC v1 := ⟨RowL.oneC⟩
  refine C.keep [(0, _), (1, _), (5, _)] ⟨rfl, rfl, rfl, trivial⟩ ?_
  refine C.seq ?_
  refine C.seq ?_
  refine C.region ?_
  refine R.ev rfl (E.move rfl) ?_
  refine R.ev rfl (E.geq rfl rfl) ?_
  refine R.done ?_
  refine X.keep [(0, _), (1, _), (5, _), (7, _)] ⟨rfl, rfl, rfl, rfl, trivial⟩ ?_
  refine X.next ?_
  refine C.cdec rfl (fun h7 => ?_) (fun h7 => ?_)
  · refine C.skip ?_
    refine X.next ?_
    refine C.seq ?_
    refine C.block ?_
    refine C.region ?_
    refine R.ev rfl (E.move rfl) ?_
    refine R.ev rfl (E.move rfl) ?_
    refine R.ev rfl (E.move rfl) ?_
    refine R.ev rfl (E.mul rfl rfl (by omega) (by omega)) ?_
    refine R.ev rfl (E.shr rfl rfl (by omega)) ?_
    refine R.ev rfl ((E.conv rfl Try.underlying3 Try.underlying5).as (u := ub (byteAt n (24 - 8 * k))) (by rw [show (8 * (3 - (k : Int))).toNat = 24 - 8 * k by omega]; exact byteAt_wrap n _ (by omega))) ?_
    refine R.buildSlice1 (parts := [(0, .tmp 15)]) (vs := [_]) rfl rfl rfl Try.underlying69 Try.sz5 Try.zr5 rfl (by simp [Value.oneCell']) (by decide) ?_
    intro b16 w16 n16
    have hs := hs.new n16
    refine R.capp1 (byteAt n (24 - 8 * k)) hs rfl rfl Try.underlying69 Try.by5 (by rfl) rfl (by first | exact hs.ldA | exact hs.ldP rfl | exact by assumption) (by decide) (by first | omega | (simp only [List.length_append, List.length_cons, List.length_nil] at *; omega)) (by first | omega | (simp only [List.length_append, List.length_cons, List.length_nil] at *; omega)) ?_
    intro v17 w17 F17 r17 hs
    refine R.ev rfl (E.assign rfl) ?_
    refine R.done ?_
    refine X.keep [(0, _), (1, _), (5, _)] ⟨rfl, rfl, rfl, trivial⟩ ?_
    refine X.blockNormal ?_
    refine X.next ?_
    refine C.region ?_
    refine R.ev rfl (E.move rfl) ?_
    refine R.ev rfl ((E.sub rfl rfl (by omega) (by omega)).isI (c := 3 - ((k + 1 : Nat) : Int)) (by omega)) ?_
    refine R.ev rfl (E.assign rfl) ?_
    refine R.done ?_
    refine X.keep [(0, _), (1, _), (5, _)] ⟨rfl, rfl, rfl, trivial⟩ ?_
    exact X.again (k + 1, v17, F17) ⟨rfl, rfl, rfl, trivial⟩ ⟨by omega, by rw [take_snoc (num4_get n k (by omega)), ← List.append_assoc]; exact r17, hs.to⟩ (by show _ - _ < _ - _; omega)
  · refine C.exit ?_
    refine X.thenExit ?_
    refine X.loopExit ?_
    refine X.blockExit ?_
    refine X.next ?_
    refine C.seq ?_
    refine C.region ?_
    refine R.ev rfl (E.move rfl) ?_
    refine R.ev rfl (E.assign rfl) ?_
    refine R.done ?_
    refine X.keep [(4, _)] ⟨rfl, trivial⟩ ?_
    refine X.next ?_
    refine C.ret ?_
    refine X.ret1 rfl rfl ?_
    exact ⟨G1, by rwa [show k = 4 by omega, List.take_of_length_le (by rw [num4_len]; omega)] at r1, hs.to⟩
theorem bytes_fold (c : Int) : ∀ (L : List HEnt) (l : List UInt8), L.foldl (fun l x => l ++ entH x) l = l ++ L.flatMap entH
  | [], l => by simp
  | x :: L, l => by rw [List.foldl_cons, bytes_fold c L]; simp
theorem encode_any (ho : Ord s L) (hc : ∀ x ∈ L, x.check = 0) (hl : L.length ≤ 1000) (hs : Sat K w Hs) [hw : HiIn p s Hs] : Ret Try.prog 38 #[ptr p] w fun r w' => ∃ F', RowL 5 encB 1 r (bytesH s.cut L) F' ∧ Sat K w' (F' :: Hs) := by
  have hw0 := hw
  obtain ⟨m, G, _, hm, _⟩ := hw.ex
  refine Ret.enter (n := 40) (args := [ptr p]) Try.func38 rfl rfl ?_
  refine C.keep [(0, _)] ⟨rfl, trivial⟩ ?_
  refine C.seq ?_
  refine C.region ?_
  refine R.ev rfl (E.assign rfl) ?_
  refine R.done ?_
  refine X.keep [(0, _)] ⟨rfl, trivial⟩ ?_
  refine X.next ?_
  refine C.seq ?_
  refine C.seq ?_
  refine C.region ?_
  refine R.ev rfl (E.move rfl) ?_
  refine R.ev rfl (E.eqlNilF rfl rfl Try.underlying35) ?_
  refine R.done ?_
  refine X.keep [(0, _), (7, _)] ⟨rfl, rfl, trivial⟩ ?_
  refine X.next ?_
  refine C.cfalse rfl ?_
  refine C.skip ?_
  refine X.next ?_
  refine C.seq ?_
  refine C.region ?_
  refine R.ev rfl (E.move rfl) ?_
  refine R.ev rfl (E.nilCheck rfl) ?_
  first | refine R.ev rfl (E.fieldAddr0 1 rfl Try.underlying88 rfl Try.sz3 rfl) ?_ | refine R.ev rfl (E.fieldAddrN 1 rfl Try.underlying88 rfl Try.sz3 rfl) ?_
  refine R.ev rfl (E.load1 rfl Try.underlying3 rfl (by first | exact hs.ldc | exact hs.ld rfl | exact hs.ld (by assumption) | exact by assumption | exact At.cellC (by assumption))) ?_
  have r0 : RowL 5 encB 1 (.slice none 0 0) ([] : List UInt8) [] := RowL.nil _ _ _
  refine R.call ⟨_, _, Try.func64, rfl, by kernel_rfl⟩ rfl rfl (appMin_any (B := []) s.cut hs.nil (by simp)) ?_
  rintro v12 w12 ⟨G12, r12, hs⟩
  have o12 : OneC v12 := ⟨RowL.oneC⟩
  refine R.salloc1 hs Try.zr69 rfl rfl ?_
  intro b3 w3 hs
  refine R.cstore1 hs rfl rfl Try.sz69 (by first | decide | simp [*]) (by first | rfl | exact OneC.one | exact KRow.oneC' (by assumption)) ?_
  intro w3_6 hs
  try simp only [List.set_cons_zero, List.set_cons_succ] at hs
  refine R.done ?_
  refine X.keep [(0, _), (3, _)] ⟨rfl, rfl, trivial⟩ ?_
  refine X.next ?_
  refine C.seq ?_
  refine C.seq ?_
  refine C.region ?_
  refine R.ev rfl (E.move rfl) ?_
  refine R.call ⟨_, _, Try.func23, rfl, by kernel_rfl⟩ rfl rfl (all_any (ptr p) rfl hs) ?_
  rintro _ w4 ⟨bA, rfl, hs⟩
  refine R.done ?_
  refine X.keep [(3, _), (14, _)] ⟨rfl, rfl, trivial⟩ ?_
  refine X.next ?_
  refine C.block ?_
  refine C.rangeL (σ := List UInt8) (fun l G => ∃ v F1, G = row b3 69 [v] ++ F1 ∧ RowL 5 encB 1 v l F1) (fun l x => l ++ entH x) (fun _ => none) ([] ++ num4 s.cut) rfl rfl ⟨_, _, Try.func48, rfl, by kernel_rfl⟩ rfl (all1_iter (Hs := (row b3 69 [v12] ++ G12) :: row bA 35 [ptr p] :: Hs) ho inferInstance inferInstance) (hs.to) (⟨_, G12, rfl, r12⟩) rfl ?_ ?_
  · rintro l c B G1 R1 pre x post w1 hx hB _ ⟨v, F1, rfl, r1⟩ hs
    have hBl : B.length ≤ 1000000 := by
      rw [hB, bytes_fold s.cut, List.length_append, entsH_len]
      rw [hx] at hl; simp at hl
      have := num4_len s.cut
      simp only [List.nil_append]
      omega
    obtain ⟨_, _, hst⟩ := check0 (hc x (by rw [hx]; simp))
    have hs : Sat K w1 (lpP l c .ready none :: row b3 69 [v] :: F1 :: R1) := hs.perm (by simp [List.append_assoc])
    have o1 : OneC v := ⟨RowL.oneC⟩
    have hxl := x.id.2
    have n1 := num4_len x.arr
    have n2 := num4_len x.date
    refine C.keep [(3, _), (15, _)] ⟨rfl, rfl, trivial⟩ ?_
    refine C.region ?_
    refine R.sallocA hs Try.zr29 rfl ?_
    intro b4 w4 hs
    first | refine R.cstoreAll hs rfl rfl Try.sz29 (by first | rfl | assumption | exact encV_len _ | exact Enc.len _ | exact len_ub (by assumption) | simp [*]) (by first | rfl | assumption | exact encV_len _ | exact Enc.len _ | exact len_ub (by assumption) | simp [*]) (by first | assumption | exact OneL.all | exact Enc.one _ | exact ub_all _ | (repeat' (first | refine List.forall_mem_cons.2 ⟨?_, ?_⟩ | exact List.forall_mem_nil _ | rfl | exact OneC.one | exact KRow.oneC' (by assumption)))) ?_ | refine R.cstore hs rfl rfl Try.sz29 (by first | rfl | assumption | exact encV_len _ | exact Enc.len _ | exact len_ub (by assumption) | simp [*]) (by simp [*]) (by first | assumption | exact OneL.all | exact Enc.one _ | exact ub_all _ | (repeat' (first | refine List.forall_mem_cons.2 ⟨?_, ?_⟩ | exact List.forall_mem_nil _ | rfl | exact OneC.one | exact KRow.oneC' (by assumption)))) ?_
    intro w5_1 hs
    try simp only [List.set_cons_zero, List.set_cons_succ] at hs
    refine R.done ?_
    refine X.keep [(3, _), (4, _)] ⟨rfl, rfl, trivial⟩ ?_
    refine X.begin_ (c := c) (pd := none) hs ?_
    intro wb0 hs
    refine C.keep [(3, _), (4, _)] ⟨rfl, rfl, trivial⟩ ?_
    refine C.block ?_
    refine C.seq ?_
    refine C.drawn (SatS hs) ([0], [1, 2]) (by kernel_rfl) ?_
    have hs := hs.drew
    first | refine D.evP 1 rfl (by kernel_rfl) rfl (fun _ => hs.to) (fun _ => E.fieldAddr0 0 rfl Try.underlying29 rfl Try.sz27 rfl) ?_ | refine D.evP 1 rfl (by kernel_rfl) rfl (fun _ => hs.to) (fun _ => E.fieldAddrN 0 rfl Try.underlying29 rfl Try.sz27 rfl) ?_
    refine D.evP 2 rfl (by kernel_rfl) rfl (fun _ => hs.to) (fun _ => (E.sliceA rfl Try.underlying27 Try.sz5).as (u := .slice (some ⟨b4, 0, none⟩) 32 32) rfl) ?_
    refine D.ev 0 rfl (by kernel_rfl) rfl hs.to (fun _ hS => E.load1 rfl Try.underlying69 rfl (by first | exact hS.ldc | exact hS.ld rfl | exact hS.ld (by assumption) | exact by assumption | exact At.cellC (by assumption) | exact At.cellC ((by assumption : ∀ w', Sat _ w' _ → At w' _ _ _) _ hS) | exact (by assumption : ∀ w', Sat _ w' _ → World.cell? w' _ = some _) _ hS)) ?_
    have hrd : Rd encB 1 K (row b4 29 (encH x) :: lpP l c .busy none :: row b3 69 [v] :: F1 :: R1) (.slice (some ⟨b4, 0, none⟩) 32 32) x.id.1 := Rd.bytes (c1 := []) rfl rfl x.id.2 (by omega)
    refine D.act 3 rfl (by kernel_rfl) ?_
    refine R.cappSl hs rfl rfl Try.underlying69 Try.by5 (by rfl) rfl (by decide) (by first | omega | (simp only [List.length_append, List.length_cons, List.length_nil] at *; omega)) (by first | omega | (simp only [List.length_append, List.length_cons, List.length_nil] at *; omega)) ?_
    intro v19 w19 F19 r19 hs
    have o19 : OneC v19 := ⟨RowL.oneC⟩
    refine D.backT (by kernel_rfl) ?_
    refine D.act 4 rfl (by kernel_rfl) ?_
    refine R.cstore1 hs rfl rfl Try.sz69 (by first | decide | simp [*]) (by first | rfl | exact OneC.one | exact KRow.oneC' (by assumption)) ?_
    intro w6_4 hs
    try simp only [List.set_cons_zero, List.set_cons_succ] at hs
    refine D.backT (by kernel_rfl) ?_
    refine D.done rfl (by kernel_rfl) ?_
    refine X.keep [(3, _), (4, _)] ⟨rfl, rfl, trivial⟩ ?_
    refine X.next ?_
    refine C.seq ?_
    refine C.region ?_
    refine R.ev rfl (E.load1 rfl Try.underlying69 rfl (by first | exact hs.ldc | exact hs.ld rfl | exact hs.ld (by assumption) | exact by assumption | exact At.cellC (by assumption))) ?_
    first | refine R.ev rfl (E.fieldAddr0 32 rfl Try.underlying29 rfl Try.sz3 rfl) ?_ | refine R.ev rfl (E.fieldAddrN 32 rfl Try.underlying29 rfl Try.sz3 rfl) ?_
    refine R.ev rfl (E.load1 rfl Try.underlying3 rfl (by first | exact hs.ldc | exact hs.ld rfl | exact hs.ld (by assumption) | exact by assumption | exact At.cellC (by assumption))) ?_
    refine R.call ⟨_, _, Try.func64, rfl, by kernel_rfl⟩ rfl rfl (appMin_any x.arr (hs.front (F := F19)) (by simp; omega)) ?_
    rintro v23 w23 ⟨G23, r23, hs1⟩
    have hs := hs.back (F := F19) hs1
    have o23 : OneC v23 := ⟨RowL.oneC⟩
    refine R.cstore1 hs rfl rfl Try.sz69 (by first | decide | simp [*]) (by first | rfl | exact OneC.one | exact KRow.oneC' (by assumption)) ?_
    intro w7_4 hs
    try simp only [List.set_cons_zero, List.set_cons_succ] at hs
    refine R.done ?_
    refine X.keep [(3, _), (4, _)] ⟨rfl, rfl, trivial⟩ ?_
    refine X.next ?_
    refine C.seq ?_
    refine C.region ?_
    refine R.ev rfl (E.load1 rfl Try.underlying69 rfl (by first | exact hs.ldc | exact hs.ld rfl | exact hs.ld (by assumption) | exact by assumption | exact At.cellC (by assumption))) ?_
    first | refine R.ev rfl (E.fieldAddr0 33 rfl Try.underlying29 rfl Try.sz3 rfl) ?_ | refine R.ev rfl (E.fieldAddrN 33 rfl Try.underlying29 rfl Try.sz3 rfl) ?_
    refine R.ev rfl (E.load1 rfl Try.underlying3 rfl (by first | exact hs.ldc | exact hs.ld rfl | exact hs.ld (by assumption) | exact by assumption | exact At.cellC (by assumption))) ?_
    refine R.call ⟨_, _, Try.func64, rfl, by kernel_rfl⟩ rfl rfl (appMin_any x.date (hs.front (F := G23)) (by simp [num4_len]; omega)) ?_
    rintro v27 w27 ⟨G27, r27, hs1⟩
    have hs := hs.back (F := G23) hs1
    have o27 : OneC v27 := ⟨RowL.oneC⟩
    refine R.cstore1 hs rfl rfl Try.sz69 (by first | decide | simp [*]) (by first | rfl | exact OneC.one | exact KRow.oneC' (by assumption)) ?_
    intro w8_4 hs
    try simp only [List.set_cons_zero, List.set_cons_succ] at hs
    refine R.done ?_
    refine X.keep [(3, _), (4, _)] ⟨rfl, rfl, trivial⟩ ?_
    refine X.next ?_
    refine C.seq ?_
    refine C.region ?_
    first | refine R.ev rfl (E.fieldAddr0 34 rfl Try.underlying29 rfl Try.sz3 rfl) ?_ | refine R.ev rfl (E.fieldAddrN 34 rfl Try.underlying29 rfl Try.sz3 rfl) ?_
    refine R.ev rfl (E.load1 rfl Try.underlying3 rfl (by first | exact hs.ldc | exact hs.ld rfl | exact hs.ld (by assumption) | exact by assumption | exact At.cellC (by assumption))) ?_
    refine R.ev rfl (E.assign rfl) ?_
    refine R.done ?_
    refine X.keep [(3, _), (4, _), (5, _)] ⟨rfl, rfl, rfl, trivial⟩ ?_
    refine X.next ?_
    refine C.seq ?_
    refine C.seq ?_
    refine C.region ?_
    first | refine R.ev rfl (E.fieldAddr0 35 rfl Try.underlying29 rfl Try.sz4 rfl) ?_ | refine R.ev rfl (E.fieldAddrN 35 rfl Try.underlying29 rfl Try.sz4 rfl) ?_
    refine R.ev rfl (E.load1 rfl Try.underlying4 rfl (by first | exact hs.ldc | exact hs.ld rfl | exact hs.ld (by assumption) | exact by assumption | exact At.cellC (by assumption))) ?_
    refine R.done ?_
    refine X.keep [(3, _), (5, _), (31, _)] ⟨rfl, rfl, rfl, trivial⟩ ?_
    refine X.next ?_
    refine C.cut [(3, _)] (fun (_ : Unit) => [(5, .int .i64 (flagI x))]) (fun _ w' => Sat K w' (row b4 29 (encH x) :: lpP l c .busy none :: row b3 69 [v27] :: G27 :: R1)) ⟨rfl, trivial⟩ ?_ ?_
    · refine C.cbool rfl (fun h31 => ?_) (fun h31 => ?_)
      · have hfl : x.state + 2 = flagI x := by rw [flagI, h31]; rfl
        refine C.region ?_
        refine R.ev rfl (E.move rfl) ?_
        refine R.ev rfl ((E.add rfl rfl (by omega) (by omega)).isI (c := flagI x) hfl) ?_
        refine R.ev rfl (E.assign rfl) ?_
        refine R.done ?_
        refine X.keep [(3, _), (5, _)] ⟨rfl, rfl, trivial⟩ ?_
        first
          | exact X.cut (()) ⟨lkV rfl rfl, rfl, trivial⟩ hs.to
          | (rw [hfl]; exact X.cut (()) ⟨lkV rfl rfl, rfl, trivial⟩ hs.to)
      · have hfl : x.state = flagI x := by rw [flagI, h31]; simp
        refine C.skip ?_
        first
          | exact X.cut (()) ⟨lkV rfl rfl, rfl, trivial⟩ hs.to
          | (rw [hfl]; exact X.cut (()) ⟨lkV rfl rfl, rfl, trivial⟩ hs.to)
    · rintro _ w31 hs
      refine X.keep [(3, _), (5, _)] ⟨rfl, rfl, trivial⟩ ?_
      refine X.next ?_
      refine C.region ?_
      refine R.ev rfl (E.load1 rfl Try.underlying69 rfl (by first | exact hs.ldc | exact hs.ld rfl | exact hs.ld (by assumption) | exact by assumption | exact At.cellC (by assumption))) ?_
      refine R.ev rfl (E.move rfl) ?_
      refine R.ev rfl ((E.conv rfl Try.underlying3 Try.underlying5).as (u := ub (byteAt (flagI x) 0)) (wrapU8 _)) ?_
      refine R.buildSlice1 (parts := [(0, .tmp 36)]) (vs := [_]) rfl rfl rfl Try.underlying69 Try.sz5 Try.zr5 rfl (by simp [Value.oneCell']) (by decide) ?_
      intro b37 w37 n37
      have hs := hs.new n37
      refine R.capp1 (byteAt (flagI x) 0) hs rfl rfl Try.underlying69 Try.by5 (by rfl) rfl (by first | exact hs.ldA | exact hs.ldP rfl | exact by assumption) (by decide) (by first | omega | (simp only [List.length_append, List.length_cons, List.length_nil] at *; omega)) (by first | omega | (simp only [List.length_append, List.length_cons, List.length_nil] at *; omega)) ?_
      intro v38 w38 F38 r38 hs
      have o38 : OneC v38 := ⟨RowL.oneC⟩
      refine R.cstore1 hs rfl rfl Try.sz69 (by first | decide | simp [*]) (by first | rfl | exact OneC.one | exact KRow.oneC' (by assumption)) ?_
      intro w12_5 hs
      try simp only [List.set_cons_zero, List.set_cons_succ] at hs
      refine R.done ?_
      refine X.keep [(3, _)] ⟨rfl, trivial⟩ ?_
      refine X.blockNormal ?_
      refine X.rndEnd (c := c) (st := .busy) (pd := none) hs ?_
      intro we0 hs
      exact ⟨rfl, _, ⟨v38, F38, rfl, by simpa [entH, List.append_assoc] using r38⟩, show Sat K _ (lpP l c .ready none :: _ :: R1) from hs.to⟩
  · rintro D0 G2 w2 hb2 hs
    rw [runO_all (fun _ _ => rfl), bytes_fold s.cut, List.nil_append] at hb2
    obtain ⟨v5, F5, rfl, r5⟩ := hb2
    show X _ .normal _ _ _
    have hs : Sat K w2 (row b3 69 [v5] :: F5 :: dfP D0 (some []) :: Hs) := (hs.perm (Hs' := row b3 69 [v5] :: F5 :: dfP D0 (some []) :: row bA 35 [ptr p] :: Hs) (by simp [List.append_assoc])).to
    have o5 : OneC v5 := ⟨RowL.oneC⟩
    refine X.keep [(3, _)] ⟨rfl, trivial⟩ ?_
    refine X.blockNormal ?_
    refine X.next ?_
    refine C.seq ?_
    refine C.region ?_
    refine R.ev rfl (E.load1 rfl Try.underlying69 rfl (by first | exact hs.ldc | exact hs.ld rfl | exact hs.ld (by assumption) | exact by assumption | exact At.cellC (by assumption))) ?_
    refine R.ev rfl (E.assign rfl) ?_
    refine R.done ?_
    refine X.keep [(2, _)] ⟨rfl, trivial⟩ ?_
    refine X.next ?_
    refine C.ret ?_
    refine X.mark (D := D0) hs ?_
    intro wm0 hs
    refine X.ret1 rfl rfl ?_
    exact ⟨F5, r5, hs.to⟩
end Go.Proofs.Ytobhhnfckhbeeaa
