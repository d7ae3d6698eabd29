/-
  SupersedeOrder returns true for every input. No condition.
-/
import Derived.Test.YtmjmichghfepkaaRows
import Derived.Test.YtmjmichghfepkaaSupK
namespace Go.Proofs.Ytmjmichghfepkaa
open Go.Eng Go.RowKit Go.Sort

theorem mod_inj {a b n : Nat} (h : a % n = b % n) (h1 : a < b + n) (h2 : b < a + n) : a = b := by
  have ea := Nat.div_add_mod a n
  have eb := Nat.div_add_mod b n
  rw [h] at ea
  rcases Nat.lt_trichotomy (a / n) (b / n) with hq | hq | hq
  · have := Nat.mul_le_mul_left n (show a / n + 1 ≤ b / n from hq)
    rw [Nat.mul_add, Nat.mul_one] at this
    omega
  · rw [hq] at ea; omega
  · have := Nat.mul_le_mul_left n (show b / n + 1 ≤ a / n from hq)
    rw [Nat.mul_add, Nat.mul_one] at this
    omega
def turnF (n t i : Nat) : Nat := (n - 1 - i + t) % n
theorem turn_perm (n t : Nat) : ((List.range n).map (turnF n t)).Perm (List.range n) := by
  have hnd : ((List.range n).map (turnF n t)).Nodup := by
    rw [List.Nodup, List.pairwise_map]
    refine List.Pairwise.imp_of_mem ?_ List.nodup_range
    intro i j hi hj hne he
    rw [List.mem_range] at hi hj
    exact hne (by have := mod_inj he (by omega) (by omega); omega)
  have hsub : ∀ x ∈ (List.range n).map (turnF n t), x ∈ List.range n := fun x hx => by
    obtain ⟨i, hi, rfl⟩ := List.mem_map.1 hx
    rw [List.mem_range] at hi ⊢
    exact Nat.mod_lt _ (by omega)
  refine (List.perm_ext_iff_of_nodup hnd List.nodup_range).2 fun x => ⟨hsub x, fun hx => ?_⟩
  by_cases hm : x ∈ (List.range n).map (turnF n t)
  · exact hm
  · have := nodup_len (List.nodup_cons.2 ⟨hm, hnd⟩) (m := List.range n) (fun y hy => by
      rcases List.mem_cons.1 hy with rfl | hy
      · exact hx
      · exact hsub y hy)
    simp at this
    omega
def gA (A : List RA) (i : Nat) : RA := (A[i]?).getD az
theorem range_gA (A : List RA) : (List.range A.length).map (gA A) = A := by
  apply List.ext_getElem?
  intro i
  rw [List.getElem?_map]
  rcases Nat.lt_or_ge i A.length with h | h
  · rw [List.getElem?_range h, Option.map_some, gA, List.getElem?_eq_getElem h]; rfl
  · rw [List.getElem?_eq_none (by simpa using h), List.getElem?_eq_none h]; rfl
def turnL (A : List RA) (t k : Nat) : List RA := (List.range k).map fun i => gA A (turnF A.length t i)
theorem turnL_perm (A : List RA) (t : Nat) : (turnL A t A.length).Perm A := by
  have h := (turn_perm A.length t).map (gA A)
  rw [range_gA, List.map_map] at h
  exact h
theorem turnL_succ (A : List RA) (t k : Nat) : turnL A t (k + 1) = turnL A t k ++ [gA A (turnF A.length t k)] := by
  rw [turnL, turnL, List.range_succ, List.map_append]; rfl
theorem chk_perm {L L' : List RR} (h : L.Perm L') : (chk L).2 = 0 ↔ (chk L').2 = 0 := by
  rw [chk_ok, chk_ok, (h.map RR.id).nodup_iff]
  constructor
  · exact fun h1 => ⟨fun x hx => h1.1 x (h.mem_iff.2 hx), h1.2⟩
  · exact fun h1 => ⟨fun x hx => h1.1 x (h.mem_iff.1 hx), h1.2⟩
theorem chosen_perm {L L' : List RR} (h : L.Perm L') (b : Bool) (a : Vec 32) : a ∈ chosen L b ↔ a ∈ chosen L' b := by
  unfold chosen
  have hw : ∀ x, wd L x = wd L' x := fun x => wd_perm fun y => h.mem_iff
  simp only [List.mem_map, List.mem_filter, hw, h.mem_iff]
theorem order_walk (w : World) (v0 : Value) (a0 : ArgV Try.prog w 22 v0) (v1 : Value) (a1 : ArgV Try.prog w 5 v1) : Ret Try.prog 5 #[v0, v1] w fun r w' => r = .bool true ∧ Mod [] w w' := by
  obtain ⟨ad, cap, L, rfl, hc, hcm, hr⟩ := argv_rs a0
  obtain ⟨t, rfl⟩ := argv_u8 a1 Try.underlying5
  unfold maxLen at hcm
  have ht := t.toNat_lt
  have hs := Sat.start w
  refine Ret.enter (n := 80) (args := [.slice ad L.length cap, ub t]) Try.func5 rfl rfl ?_
  refine C.keep [(0, _), (1, _)] ⟨rfl, rfl, trivial⟩ ?_
  refine C.seq ?_
  refine C.region ?_
  refine R.ev rfl (E.assign rfl) ?_
  refine R.done ?_
  refine X.keep [(0, _), (1, _)] ⟨rfl, rfl, trivial⟩ ?_
  refine X.next ?_
  refine C.seq ?_
  refine C.region ?_
  refine R.ev rfl (E.move rfl) ?_
  refine R.call ⟨_, _, Try.func13, rfl, by kernel_rfl⟩ rfl rfl (rows_any (L := L) hs (by omega)) ?_
  rintro _ w1 ⟨K1, v1, F1, A, rfl, hk1, r1, hA, hG, hs⟩
  have hAl : A.length ≤ 24 := by have := congrArg List.length hA; rw [List.length_map, List.length_take] at this; omega
  obtain ⟨ad1, cap1, rfl, _⟩ := r1.val
  refine R.ev rfl (E.move rfl) ?_
  refine R.ev rfl (E.extract rfl rfl) ?_
  refine R.ev rfl (E.extract rfl rfl) ?_
  refine R.ev rfl (E.assign rfl) ?_
  refine R.ev rfl (E.assign rfl) ?_
  refine R.done ?_
  refine X.keep [(1, _), (5, _)] ⟨rfl, rfl, trivial⟩ ?_
  refine X.next ?_
  refine C.seq ?_
  refine C.region ?_
  refine R.ev rfl (E.move rfl) ?_
  refine R.ev rfl (E.lenSl rfl Try.underlying27) ?_
  refine R.ev rfl (E.assign rfl) ?_
  refine R.done ?_
  refine X.keep [(1, _), (5, _), (7, _)] ⟨rfl, rfl, rfl, trivial⟩ ?_
  refine X.next ?_
  refine C.seq ?_
  refine C.region ?_
  refine R.ev rfl (E.assign rfl) ?_
  refine R.done ?_
  refine X.keep [(1, _), (5, _), (7, _), (8, _)] ⟨rfl, rfl, rfl, rfl, trivial⟩ ?_
  refine X.next ?_
  refine C.seq ?_
  refine C.seq ?_
  refine C.region ?_
  refine R.ev rfl (E.assign rfl) ?_
  refine R.done ?_
  refine X.keep [(1, _), (5, _), (7, _), (8, _), (9, _)] ⟨rfl, rfl, rfl, rfl, rfl, trivial⟩ ?_
  refine X.next ?_
  refine C.block ?_
  refine C.loop (T := Nat × Value × Hl) [(1, _), (5, _), (7, _)] (fun (k, v, _) => [(8, v), (9, .int .i64 (k : Nat))]) (fun (k, v, F2) w' => k ≤ A.length ∧ RowL 42 encA 83 v (turnL A t.toNat k) F2 ∧ Sat K1 w' (F2 :: F1 :: [])) (fun (k, _) => A.length - k) ((0, .slice none 0 0, [])) ⟨rfl, rfl, rfl, rfl, rfl, trivial⟩ ⟨Nat.zero_le _, RowL.nil _ _ _, hs.nil⟩ ?_
  rintro ⟨k, v2, F2⟩ w2 ⟨hk, r2, hs⟩
  have htl : (turnL A t.toNat k).length = k := by simp [turnL]
  refine C.keep [(1, _), (5, _), (7, _), (8, _), (9, _)] ⟨rfl, rfl, rfl, rfl, rfl, trivial⟩ ?_
  refine C.seq ?_
  refine C.seq ?_
  refine C.region ?_
  refine R.ev rfl (E.move rfl) ?_
  refine R.ev rfl (E.move rfl) ?_
  refine R.ev rfl (E.lss rfl rfl) ?_
  refine R.done ?_
  refine X.keep [(1, _), (5, _), (7, _), (8, _), (9, _), (24, _)] ⟨rfl, rfl, rfl, rfl, rfl, rfl, trivial⟩ ?_
  refine X.next ?_
  refine C.cdec rfl (fun h24 => ?_) (fun h24 => ?_)
  · have hlt : turnF A.length t.toNat k < A.length := Nat.mod_lt _ (by omega)
    obtain ⟨y, bk_y, of_y, hy, my, ly, rfl, Ay⟩ := hs.el (i := turnF A.length t.toNat k) (ad := ad1) (n := A.length) (c := cap1) hlt
    have ay := Ay _ hs
    have hgy : gA A (turnF A.length t.toNat k) = y := by rw [gA, hy]; rfl
    refine C.skip ?_
    refine X.next ?_
    refine C.seq ?_
    refine C.block ?_
    refine C.region ?_
    refine R.ev rfl (E.move rfl) ?_
    refine R.ev rfl (E.move rfl) ?_
    refine R.ev rfl (E.move rfl) ?_
    refine R.ev rfl (E.sub rfl rfl (by omega) (by omega)) ?_
    refine R.ev rfl (E.move rfl) ?_
    refine R.ev rfl (E.sub rfl rfl (by omega) (by omega)) ?_
    refine R.ev rfl (E.move rfl) ?_
    refine R.ev rfl ((E.conv rfl Try.underlying5 Try.underlying3).isI (c := (t.toNat : Int)) (wrap_i64 (by omega) (by omega))) ?_
    refine R.ev rfl ((E.add rfl rfl (by omega) (by omega)).isI (c := ((A.length - 1 - k + t.toNat : Nat) : Int)) (by omega)) ?_
    refine R.ev rfl (E.move rfl) ?_
    refine R.ev rfl ((E.rem rfl rfl (by omega) (by omega)).isI (c := ((turnF A.length t.toNat k : Nat) : Int)) (Int.natCast_emod _ _).symm) ?_
    refine R.ev rfl (E.indexAddr (i := turnF A.length t.toNat k) rfl rfl Try.underlying27 Try.sz42 rfl (by omega)) ?_
    refine R.ev rfl (E.loadRowC rfl Try.underlying42 rfl Try.sz42 (by first | exact ⟨hs.ldA, by first | rfl | assumption | exact encV_len _ | exact Enc.len _ | exact len_ub (by assumption)⟩ | exact ⟨hs.ldP rfl, by first | rfl | assumption | exact encV_len _ | exact Enc.len _ | exact len_ub (by assumption)⟩ | exact ⟨hs.ldM rfl rfl, by first | rfl | assumption | exact encV_len _ | exact Enc.len _ | exact len_ub (by assumption)⟩ | exact ⟨hs.ldM (by assumption) (by first | rfl | assumption), by first | rfl | assumption | exact encV_len _ | exact Enc.len _ | exact len_ub (by assumption)⟩ | exact ⟨by assumption, by first | rfl | assumption | exact encV_len _ | exact Enc.len _ | exact len_ub (by assumption)⟩ | exact hs.ldp | exact At.partC (by assumption))) ?_
    refine R.buildSliceA rfl Try.underlying27 Try.sz42 Try.zr42 rfl (by first | rfl | assumption | exact encV_len _ | exact Enc.len _ | simp [*]) (by decide) (by decide) ?_
    intro b40 w40 n40
    have hs := hs.new n40
    refine R.capp1 (y) hs rfl rfl Try.underlying27 Try.by42 (by rfl) rfl (by first | exact hs.ldA | exact hs.ldP rfl | exact by assumption) (by decide) (by first | omega | (simp only [List.length_append, List.length_cons, List.length_nil] at *; omega)) (by first | omega | (simp only [List.length_append, List.length_cons, List.length_nil] at *; omega)) ?_
    intro v41 w41 F41 r41 hs
    refine R.ev rfl (E.assign rfl) ?_
    refine R.done ?_
    refine X.keep [(1, _), (5, _), (7, _), (8, _), (9, _)] ⟨rfl, rfl, rfl, rfl, rfl, trivial⟩ ?_
    refine X.blockNormal ?_
    refine X.next ?_
    refine C.region ?_
    refine R.ev rfl (E.move rfl) ?_
    refine R.ev rfl (E.add rfl rfl (by omega) (by omega)) ?_
    refine R.ev rfl (E.assign rfl) ?_
    refine R.done ?_
    refine X.keep [(1, _), (5, _), (7, _), (8, _), (9, _)] ⟨rfl, rfl, rfl, rfl, rfl, trivial⟩ ?_
    exact X.again (k + 1, v41, F41) ⟨rfl, rfl, rfl, rfl, rfl, trivial⟩ ⟨by omega, by rw [turnL_succ, hgy]; exact r41, hs.to⟩ (by show _ - _ < _ - _; omega)
  · refine C.exit ?_
    refine X.thenExit ?_
    refine X.loopExit ?_
    refine X.blockExit ?_
    refine X.next ?_
    refine C.seq ?_
    refine C.region ?_
    obtain rfl : k = A.length := by omega
    have hpm := turnL_perm A t.toNat
    have hG2 : GL K1 (turnL A t.toNat A.length) := fun y hy => hG y (hpm.mem_iff.1 hy)
    generalize turnL A t.toNat A.length = B at r2 hpm hG2 htl
    have hpx := hpm.map RA.x
    refine R.ev rfl (E.move rfl) ?_
    refine R.call ⟨_, _, Try.func22, rfl, by kernel_rfl⟩ rfl rfl (ends_any (A := A) hs hG (by omega)) ?_
    rintro _ w8 ⟨v8, I8, F8, rfl, r8, h8, h8', hs⟩
    refine R.ev rfl (E.move rfl) ?_
    refine R.ev rfl (E.extract rfl rfl) ?_
    refine R.ev rfl (E.extract rfl rfl) ?_
    refine R.ev rfl (E.assign rfl) ?_
    refine R.ev rfl (E.assign rfl) ?_
    refine R.done ?_
    refine X.keep [(8, _), (10, _), (11, _)] ⟨rfl, rfl, rfl, trivial⟩ ?_
    refine X.next ?_
    refine C.seq ?_
    refine C.region ?_
    refine R.ev rfl (E.move rfl) ?_
    refine R.call ⟨_, _, Try.func22, rfl, by kernel_rfl⟩ rfl rfl (ends_any (A := B) hs hG2 (by omega)) ?_
    rintro _ w9 ⟨v9, I9, F9, rfl, r9, h9, h9', hs⟩
    have hcc := chk_perm hpx
    have hII : I8 = I9 := by
      by_cases hc0 : (chk (A.map RA.x)).2 = 0
      · obtain ⟨s8, p8⟩ := h8' hc0
        obtain ⟨s9, p9⟩ := h9' (hcc.2 hc0)
        exact ss_ext ltV_swo s8 s9 fun a => by rw [p8.mem_iff, p9.mem_iff, chosen_perm hpx]
      · rw [h8 hc0, h9 (fun h => hc0 (hcc.1 h))]
    subst hII
    obtain ⟨ad8, cap8, rfl, hc8, hcm8, _⟩ := r8.val
    obtain ⟨ad9, cap9, rfl, _⟩ := r9.val
    unfold maxLen at hcm8
    refine R.ev rfl (E.move rfl) ?_
    refine R.ev rfl (E.extract rfl rfl) ?_
    refine R.ev rfl (E.extract rfl rfl) ?_
    refine R.ev rfl (E.assign rfl) ?_
    refine R.ev rfl (E.assign rfl) ?_
    refine R.done ?_
    refine X.keep [(10, _), (11, _), (12, _), (13, _)] ⟨rfl, rfl, rfl, rfl, trivial⟩ ?_
    refine X.next ?_
    refine C.seq ?_
    refine C.seq ?_
    refine C.region ?_
    refine R.ev rfl (E.move rfl) ?_
    refine R.ev rfl (E.eql rfl rfl) ?_
    refine R.ev rfl (E.move rfl) ?_
    refine R.ev rfl (E.eql rfl rfl) ?_
    refine R.ev rfl ((E.neqB rfl rfl Try.underlying4).isB (c := false) (by rw [bne_eq_false_iff_eq, decide_eq_decide]; exact hcc.symm)) ?_
    refine R.ev rfl (E.move rfl) ?_
    refine R.gyes rfl rfl ?_
    refine R.ev rfl (E.move rfl) ?_
    refine R.gyes rfl rfl ?_
    refine R.ev rfl (E.lenSl rfl Try.underlying40) ?_
    refine R.gyes rfl rfl ?_
    refine R.ev rfl (E.move rfl) ?_
    refine R.gyes rfl rfl ?_
    refine R.ev rfl (E.lenSl rfl Try.underlying40) ?_
    refine R.gyes rfl rfl ?_
    refine R.ev rfl ((E.neq rfl rfl).isF (fun h => h rfl)) ?_
    refine R.ev rfl (E.pickF rfl rfl) ?_
    refine R.done ?_
    refine X.keep [(10, _), (12, _), (63, _)] ⟨rfl, rfl, rfl, trivial⟩ ?_
    refine X.next ?_
    refine C.cfalse rfl ?_
    refine C.skip ?_
    refine X.next ?_
    refine C.seq ?_
    refine C.seq ?_
    refine C.region ?_
    refine R.ev rfl (E.assign rfl) ?_
    refine R.done ?_
    refine X.keep [(10, _), (12, _), (14, _)] ⟨rfl, rfl, rfl, trivial⟩ ?_
    refine X.next ?_
    refine C.block ?_
    refine C.loop  [(10, _), (12, _)] (fun j => [(14, .int .i64 (j : Nat))]) (fun j w' => j ≤ I8.length ∧ Sat K1 w' (F9 :: F8 :: [])) (fun j => I8.length - j) (0) ⟨rfl, rfl, rfl, trivial⟩ ⟨Nat.zero_le _, hs.to⟩ ?_
    rintro j w10 ⟨hj, hs⟩
    refine C.keep [(10, _), (12, _), (14, _)] ⟨rfl, rfl, rfl, trivial⟩ ?_
    refine C.seq ?_
    refine C.seq ?_
    refine C.region ?_
    refine R.ev rfl (E.move rfl) ?_
    refine R.ev rfl (E.move rfl) ?_
    refine R.ev rfl (E.lenSl rfl Try.underlying40) ?_
    refine R.ev rfl (E.lss rfl rfl) ?_
    refine R.done ?_
    refine X.keep [(10, _), (12, _), (14, _), (67, _)] ⟨rfl, rfl, rfl, rfl, trivial⟩ ?_
    refine X.next ?_
    refine C.cdec rfl (fun h67 => ?_) (fun h67 => ?_)
    · obtain ⟨y, bk_y, of_y, hy, my, ly, rfl, Ay⟩ := hs.el (i := j) (ad := ad8) (n := I8.length) (c := cap8) (by omega)
      have ay := Ay _ hs
      obtain ⟨z, bk_z, of_z, hz, mz, lz, rfl, Az⟩ := hs.el (i := j) (ad := ad9) (n := I8.length) (c := cap9) (by omega)
      have az := Az _ hs
      obtain rfl : y = z := by rw [hy] at hz; simpa using hz
      refine C.skip ?_
      refine X.next ?_
      refine C.seq ?_
      refine C.block ?_
      refine C.seq ?_
      refine C.drawn (SatS hs) ([3, 7], [0, 1, 2, 4, 5, 6, 8]) (by kernel_rfl) ?_
      have hs := hs.drew
      refine D.evP 0 rfl (by kernel_rfl) rfl (fun _ => hs.to) (fun _ => E.move rfl) ?_
      refine D.evP 1 rfl (by kernel_rfl) rfl (fun _ => hs.to) (fun _ => E.move rfl) ?_
      refine D.evP 2 rfl (by kernel_rfl) rfl (fun _ => hs.to) (fun _ => E.indexAddr rfl rfl Try.underlying40 Try.sz37 rfl (by first | omega | decide)) ?_
      refine D.evP 4 rfl (by kernel_rfl) rfl (fun _ => hs.to) (fun _ => E.move rfl) ?_
      refine D.evP 5 rfl (by kernel_rfl) rfl (fun _ => hs.to) (fun _ => E.move rfl) ?_
      refine D.evP 6 rfl (by kernel_rfl) rfl (fun _ => hs.to) (fun _ => E.indexAddr rfl rfl Try.underlying40 Try.sz37 rfl (by first | omega | decide)) ?_
      refine D.ev 3 rfl (by kernel_rfl) rfl hs.to (fun _ hS => E.loadRow rfl Try.underlying37 rfl Try.sz37 (Ay _ hS) ly) ?_
      refine D.ev 7 rfl (by kernel_rfl) rfl hs.to (fun _ hS => E.loadRow rfl Try.underlying37 rfl Try.sz37 (Az _ hS) lz) ?_
      first | refine D.evP 8 rfl (by kernel_rfl) rfl (fun _ => hs.to) (fun _ => (E.neV 10 rfl rfl Try.lv37 rfl Try.underlying37 rfl Try.gd37).isF (fun h => h rfl)) ?_ | refine D.evP 8 rfl (by kernel_rfl) rfl (fun _ => hs.to) (fun _ => (E.neId 10 32 rfl rfl Try.lv37 rfl Try.underlying37 rfl Try.gd37 (by assumption) (by assumption)).isF (fun h => h rfl)) ?_
      refine D.done rfl (by kernel_rfl) ?_
      refine X.keep [(10, _), (12, _), (14, _), (78, _)] ⟨rfl, rfl, rfl, rfl, trivial⟩ ?_
      refine X.next ?_
      refine C.cfalse rfl ?_
      refine C.skip ?_
      refine X.blockNormal ?_
      refine X.next ?_
      refine C.region ?_
      refine R.ev rfl (E.move rfl) ?_
      refine R.ev rfl (E.add rfl rfl (by omega) (by omega)) ?_
      refine R.ev rfl (E.assign rfl) ?_
      refine R.done ?_
      refine X.keep [(10, _), (12, _), (14, _)] ⟨rfl, rfl, rfl, trivial⟩ ?_
      exact X.again (j + 1) ⟨rfl, rfl, rfl, trivial⟩ ⟨by omega, hs.to⟩ (by omega)
    · refine C.exit ?_
      refine X.thenExit ?_
      refine X.loopExit ?_
      refine X.blockExit ?_
      refine X.next ?_
      refine C.seq ?_
      refine C.region ?_
      refine R.call ⟨_, _, Try.func16, rfl, by kernel_rfl⟩ rfl rfl (known_any hs) ?_
      rintro _ w17 ⟨rfl, hs⟩
      refine R.ev rfl (E.assign rfl) ?_
      refine R.done ?_
      refine X.keep [(4, _)] ⟨rfl, trivial⟩ ?_
      refine X.next ?_
      refine C.ret ?_
      refine X.ret1 rfl rfl ?_
      exact ⟨rfl, (hs.less hk1.le).mod⟩

namespace supersedeOrder
open Go.ChangeShapes Go.WideShapes Go.ChangeAt Go.RowKit
open Go.ChangeMaps (open_string shut_string)
set_option linter.unusedVariables false

theorem own : ownKnob Try.prog.godebug = none := by kernel_rfl
theorem laidOut : laidOutB Try.prog = true := by kernel_rfl
set_option maxRecDepth 100000 in
theorem lifted (os : Os) (started : os.Started) (H : Type) (enc : TypeId × Value → H) :
    ReturnsInHanded {} Try.checked os 5 .any (Rows.supersedeOrderSpec.pre6 enc Try.prog Try.f5 Rows.supersedeOrderRow.domain false) (Rows.supersedeOrderSpec.post enc Try.prog Try.f5 false true false false) := by
  refine returnsInHanded_of_change (C := Try.checked) own started (by kernel_rfl) Try.func5
    (ChangeSpec.witness6 (enc := enc) (C := Try.checked) false ⟨#[], #[.slice none 0 0, .int .u8 0], []⟩ 8 (by kernel_rfl) (by kernel_rfl) (by kernel_rfl) (by kernel_rfl)) ?_
  intro W base args ds gs before hval0 hW hcnd _
  have hval : ∀ (j : Nat) t v, Try.f5.params[j]? = some t → args[j]? = some v → Value.okWide Try.prog W .any base t v := hval0
  have hW' := hW
  obtain ⟨p, q, hA0, hV, rfl, hfz, hnd⟩ := hW
  have hA : DataW.TrodAll enc Try.prog W 0 (fun _ => true) true Try.f5.params.toList args.toList ds p := hA0
  rw [Try.params5] at hA hval
  obtain ⟨v0, vs0, d0, ds0, p0, q0, hargs, rfl, rfl, h0, r0⟩ := trodAll_cons hA
  obtain ⟨v1, vs1, d1, ds1, p1, q1, rfl, rfl, rfl, h1, r1⟩ := trodAll_cons r0
  obtain ⟨rfl, rfl, rfl⟩ := trodAll_nil r1
  obtain rfl : args = #[v0, v1] := by cases args; simp_all
  obtain ⟨rfl, rfl⟩ := trodVars_none hV
  have lt0 : ∀ x ∈ p0, x.block < W.heap.size := by obtain ⟨m, hm⟩ := h0; exact DataW.trod_lt m _ _ _ hm
  have a0 := Eng.argv_of (hval 0 22 v0 rfl rfl) h0
  have lt1 : ∀ x ∈ p1, x.block < W.heap.size := by obtain ⟨m, hm⟩ := h1; exact DataW.trod_lt m _ _ _ hm
  have a1 := Eng.argv_of (hval 1 5 v1 rfl rfl) h1
  clear hA0 hval0
  refine Calls.mono (order_walk W v0 a0 v1 a1) fun e W' ⟨v, he, hv, hm⟩ => ?_
  subst he
  subst hv
  have bel := hm.below
  exact ⟨_, rfl, _, _, _, [], _, [], hW', trodAll_mk1 (shut_bool Try.underlying4 _), (trodAll_cons_mk (Below.trod laidOut (by kernel_rfl) (of_decide_eq_true (by kernel_rfl)) h0 bel lt0) (trodAll_cons_mk (Below.trod laidOut (by kernel_rfl) (of_decide_eq_true (by kernel_rfl)) h1 bel lt1) trodAll_mk0)), rfl, bel.frame _, fun h => by cases h⟩

theorem over : Rows.supersedeOrderRow.holds Try.pinned (OpenSpec.ofChange Rows.supersedeOrderSpec) :=
  OpenClaim.holds_of_wide 5 Try.f5 rfl rfl rfl rfl rfl rfl rfl ⟨rfl, rfl, rfl, rfl, rfl⟩ rfl rfl rfl rfl rfl (by kernel_rfl) Try.func5 (by kernel_rfl)
    (of_decide_eq_true (by kernel_rfl)) (by unfold Func.isWrapper; first | (rw [if_pos (by decide +kernel)]; kernel_rfl) | (rw [if_neg (by decide +kernel)]; exact ⟨rfl, rfl⟩))
    (fun os started H enc _ => lifted os started H enc)
end supersedeOrder
/-- the statement -/
theorem supersedeOrder_holds : Rows.SupersedeOrderSaid := supersedeOrder.over
#print axioms supersedeOrder_holds
end Go.Proofs.Ytmjmichghfepkaa
