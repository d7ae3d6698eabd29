/-
  SupersedeAlone returns true for every input. No condition.
-/
import Derived.Test.YtmjmichghfepkaaRows
import Derived.Test.YtmjmichghfepkaaSupK
namespace Go.Proofs.Ytmjmichghfepkaa
open Go.Eng Go.RowKit Go.Sort

theorem encR_sup (x : RR) (a : Vec 32) : (encR x).take 49 ++ a.1.map ub ++ (encR x).drop (49 + 32) = encR { x with sup := a } := by
  have e : encR x = (x.id.1.map ub ++ (x.au.1.map ub ++ [.int .i64 x.date])) ++ (x.sup.1.map ub ++ [ub x.g]) := by simp [encR]
  have h1 : (x.id.1.map ub ++ (x.au.1.map ub ++ [Value.int .i64 x.date])).length = 49 := by simp [x.id.2, x.au.2]
  have h2 : (x.sup.1.map ub).length = 32 := encV_len _
  rw [e, List.take_left' h1, ← List.drop_drop, List.drop_left' h1, List.drop_left' h2]
  simp [encR]
theorem alone_end {L : List RR} {x : RR} (hx : x.sup = vz) (h : ∀ y ∈ L, y.sup ≠ x.id) : x.id ∈ chosen (L ++ [x]) false := by
  unfold chosen
  refine List.mem_map.2 ⟨x, List.mem_filter.2 ⟨by simp, ?_⟩, rfl⟩
  have : wd (L ++ [x]) x = false := by
    rw [Bool.eq_false_iff, Ne, wd_iff]
    rintro ⟨y, hy, h1 | h1⟩
    · have hv := valid_iff.1 h1
      rcases List.mem_append.1 hy with hy | hy
      · exact h y hy hv.2.1
      · simp at hy; subst hy; exact hv.2.2.1 rfl
    · have ho := outd_iff.1 h1
      exact ho.2.1 (by rw [ho.2.2.2.1, hx])
  rw [this]; rfl
theorem alone_walk (w : World) (v0 : Value) (a0 : ArgV Try.prog w 22 v0) (v1 : Value) (a1 : ArgV Try.prog w 26 v1) : Ret Try.prog 6 #[v0, v1] w fun r w' => r = .bool true ∧ Mod [] w w' := by
  obtain ⟨ad, cap, L, rfl, hc, hcm, hr⟩ := argv_rs a0
  obtain ⟨x, rfl⟩ := argv_r a1
  unfold maxLen at hcm
  have hs := Sat.start w
  refine Ret.enter (n := 81) (args := [.slice ad L.length cap, .agg (encR x).toArray]) Try.func6 rfl rfl ?_
  refine C.keep [(0, _), (1, _)] ⟨rfl, rfl, trivial⟩ ?_
  refine C.seq ?_
  refine C.region ?_
  refine R.sboxA hs rfl rfl ?_
  intro b3 w3 hs
  refine R.ev rfl (E.assign rfl) ?_
  refine R.done ?_
  refine X.keep [(0, _), (3, _)] ⟨rfl, rfl, trivial⟩ ?_
  refine X.next ?_
  refine C.seq ?_
  refine C.region ?_
  refine R.ev rfl (E.move rfl) ?_
  refine R.call ⟨_, _, Try.func13, rfl, by kernel_rfl⟩ rfl rfl (rows_any (L := L) hs (by omega)) ?_
  rintro _ w1 ⟨K1, v1, F1, A, rfl, hk1, r1, hA, hG, hs⟩
  have hAl : A.length ≤ 24 := by have := congrArg List.length hA; rw [List.length_map, List.length_take] at this; omega
  obtain ⟨ad1, cap1, rfl, _⟩ := r1.val
  refine R.ev rfl (E.move rfl) ?_
  refine R.ev rfl (E.extract rfl rfl) ?_
  refine R.ev rfl (E.extract rfl rfl) ?_
  refine R.ev rfl (E.assign rfl) ?_
  refine R.ev rfl (E.assign rfl) ?_
  refine R.done ?_
  refine X.keep [(3, _), (5, _)] ⟨rfl, rfl, trivial⟩ ?_
  refine X.next ?_
  refine C.seq ?_
  refine C.region ?_
  refine R.ev rfl ((E.buildA rfl Try.underlying23 Try.zr23 Try.sz5 rfl).as (u := .agg (encV vz).toArray) (by rfl)) ?_
  first | refine R.ev rfl (E.fieldAddr0 49 rfl Try.underlying26 rfl Try.sz23 rfl) ?_ | refine R.ev rfl (E.fieldAddrN 49 rfl Try.underlying26 rfl Try.sz23 rfl) ?_
  refine R.cstore (cs := encV vz) hs rfl rfl Try.sz23 (encV_len _) (by rw [Enc.len]; decide) (encV_one _) ?_
  intro w22 hs
  rw [encR_sup] at hs
  generalize hx' : ({ x with sup := vz } : RR) = x' at hs
  have hxs : x'.sup = vz := by rw [← hx']
  refine R.done ?_
  refine X.keep [(3, _), (5, _)] ⟨rfl, rfl, trivial⟩ ?_
  refine X.next ?_
  refine C.seq ?_
  refine C.seq ?_
  refine C.region ?_
  refine R.ev rfl (E.assign rfl) ?_
  refine R.done ?_
  refine X.keep [(3, _), (5, _), (7, _)] ⟨rfl, rfl, rfl, trivial⟩ ?_
  refine X.next ?_
  refine C.block ?_
  refine C.loop  [(3, _), (5, _)] (fun k => [(7, .int .i64 (k : Nat))]) (fun k w' => k ≤ A.length ∧ (∀ y ∈ A.take k, y.x.sup ≠ x'.id) ∧ Sat K1 w' (F1 :: row b3 26 (encR x') :: [])) (fun k => A.length - k) (0) ⟨rfl, rfl, rfl, trivial⟩ ⟨Nat.zero_le _, by simp, hs.to⟩ ?_
  rintro k w2 ⟨hk, hno, hs⟩
  refine C.keep [(3, _), (5, _), (7, _)] ⟨rfl, rfl, rfl, trivial⟩ ?_
  refine C.seq ?_
  refine C.seq ?_
  refine C.region ?_
  refine R.ev rfl (E.move rfl) ?_
  refine R.ev rfl (E.move rfl) ?_
  refine R.ev rfl (E.lenSl rfl Try.underlying27) ?_
  refine R.ev rfl (E.lss rfl rfl) ?_
  refine R.done ?_
  refine X.keep [(3, _), (5, _), (7, _), (22, _)] ⟨rfl, rfl, rfl, rfl, trivial⟩ ?_
  refine X.next ?_
  refine C.cdec rfl (fun h22 => ?_) (fun h22 => ?_)
  · obtain ⟨y, bk_y, of_y, hy, my, ly, rfl, Ay⟩ := hs.el (i := k) (ad := ad1) (n := A.length) (c := cap1) (by omega)
    have ay := Ay _ hs
    refine C.skip ?_
    refine X.next ?_
    refine C.seq ?_
    refine C.block ?_
    refine C.seq ?_
    refine C.drawn (SatS hs) ([4, 6, 13, 15], [0, 1, 2, 3, 5, 7, 8, 9, 10, 11, 12, 14, 16, 17]) (by kernel_rfl) ?_
    have hs := hs.drew
    refine D.evP 0 rfl (by kernel_rfl) rfl (fun _ => hs.to) (fun _ => E.move rfl) ?_
    refine D.evP 1 rfl (by kernel_rfl) rfl (fun _ => hs.to) (fun _ => E.move rfl) ?_
    refine D.evP 2 rfl (by kernel_rfl) rfl (fun _ => hs.to) (fun _ => E.indexAddr (i := k) rfl rfl Try.underlying27 Try.sz42 rfl (by omega)) ?_
    first | refine D.evP 3 rfl (by kernel_rfl) rfl (fun _ => hs.to) (fun _ => E.fieldAddr0 51 rfl Try.underlying42 rfl Try.sz37 rfl) ?_ | refine D.evP 3 rfl (by kernel_rfl) rfl (fun _ => hs.to) (fun _ => E.fieldAddrN 51 rfl Try.underlying42 rfl Try.sz37 rfl) ?_
    first | refine D.evP 5 rfl (by kernel_rfl) rfl (fun _ => hs.to) (fun _ => E.fieldAddr0 0 rfl Try.underlying26 rfl Try.sz23 rfl) ?_ | refine D.evP 5 rfl (by kernel_rfl) rfl (fun _ => hs.to) (fun _ => E.fieldAddrN 0 rfl Try.underlying26 rfl Try.sz23 rfl) ?_
    refine D.ev 4 rfl (by kernel_rfl) rfl hs.to (fun _ hS => E.loadRowC rfl Try.underlying37 rfl Try.sz37 (At.partC (Ay _ hS))) ?_
    refine D.ev 6 rfl (by kernel_rfl) rfl hs.to (fun _ hS => E.loadRowC rfl Try.underlying23 rfl Try.sz23 (by first | exact ⟨hS.ldA, by first | rfl | assumption | exact encV_len _ | exact Enc.len _ | exact len_ub (by assumption)⟩ | exact ⟨hS.ldP rfl, by first | rfl | assumption | exact encV_len _ | exact Enc.len _ | exact len_ub (by assumption)⟩ | exact ⟨hS.ldM rfl rfl, by first | rfl | assumption | exact encV_len _ | exact Enc.len _ | exact len_ub (by assumption)⟩ | exact ⟨hS.ldM (by assumption) (by first | rfl | assumption), by first | rfl | assumption | exact encV_len _ | exact Enc.len _ | exact len_ub (by assumption)⟩ | exact ⟨by assumption, by first | rfl | assumption | exact encV_len _ | exact Enc.len _ | exact len_ub (by assumption)⟩ | exact ⟨(by assumption : ∀ w', Sat _ w' _ → At w' _ _ _) _ hS, by first | rfl | assumption | exact encV_len _ | exact Enc.len _ | exact len_ub (by assumption)⟩ | exact hS.ldp | exact At.partC (by assumption) | exact At.partC ((by assumption : ∀ w', Sat _ w' _ → At w' _ _ _) _ hS))) ?_
    first | refine D.evP 7 rfl (by kernel_rfl) rfl (fun _ => hs.to) (fun _ => E.eqV 10 rfl rfl Try.lv37 rfl Try.underlying37 rfl Try.gd37) ?_ | refine D.evP 7 rfl (by kernel_rfl) rfl (fun _ => hs.to) (fun _ => E.eqId 10 32 rfl rfl Try.lv37 rfl Try.underlying37 rfl Try.gd37 (by assumption) (by assumption)) ?_
    refine D.evP 8 rfl (by kernel_rfl) rfl (fun _ => hs.to) (fun _ => E.move rfl) ?_
    refine D.split 33 rfl (fun h33 => ?_) (fun h33 => ?_)
    · refine D.skipP 9 rfl (by kernel_rfl) rfl rfl rfl (fun _ => hs.to) ?_
      refine D.skipP 10 rfl (by kernel_rfl) rfl rfl rfl (fun _ => hs.to) ?_
      refine D.skipP 11 rfl (by kernel_rfl) rfl rfl rfl (fun _ => hs.to) ?_
      refine D.skipP 12 rfl (by kernel_rfl) rfl rfl rfl (fun _ => hs.to) ?_
      refine D.skipP 14 rfl (by kernel_rfl) rfl rfl rfl (fun _ => hs.to) ?_
      refine D.skip 13 rfl (by kernel_rfl) rfl rfl rfl hs.to ?_
      refine D.skip 15 rfl (by kernel_rfl) rfl rfl rfl hs.to ?_
      refine D.skipP 16 rfl (by kernel_rfl) rfl rfl rfl (fun _ => hs.to) ?_
      refine D.evP 17 rfl (by kernel_rfl) rfl (fun _ => hs.to) (fun _ => E.pickT rfl rfl) ?_
      refine D.done rfl (by kernel_rfl) ?_
      refine X.keep [(3, _), (5, _), (7, _), (42, _)] ⟨rfl, rfl, rfl, rfl, trivial⟩ ?_
      refine X.next ?_
      refine C.ctrue rfl ?_
      refine C.seq ?_
      refine C.region ?_
      refine R.call ⟨_, _, Try.func16, rfl, by kernel_rfl⟩ rfl rfl (known_any hs) ?_
      rintro _ w7 ⟨rfl, hs⟩
      refine R.ev rfl (E.assign rfl) ?_
      refine R.done ?_
      refine X.keep [(4, _)] ⟨rfl, trivial⟩ ?_
      refine X.next ?_
      refine C.ret ?_
      refine X.blockRet ?_
      refine X.thenRet ?_
      refine X.loopRet ?_
      refine X.blockRet ?_
      refine X.thenRet ?_
      refine X.ret1 rfl rfl ?_
      exact ⟨rfl, (hs.less hk1.le).mod⟩
    · refine D.evPG 9 rfl (by kernel_rfl) rfl rfl rfl (fun _ => hs.to) (fun _ => E.move rfl) ?_
      refine D.evPG 10 rfl (by kernel_rfl) rfl rfl rfl (fun _ => hs.to) (fun _ => E.move rfl) ?_
      refine D.evPG 11 rfl (by kernel_rfl) rfl rfl rfl (fun _ => hs.to) (fun _ => E.indexAddr (i := k) rfl rfl Try.underlying27 Try.sz42 rfl (by omega)) ?_
      first | refine D.evPG 12 rfl (by kernel_rfl) rfl rfl rfl (fun _ => hs.to) (fun _ => E.fieldAddr0 0 rfl Try.underlying42 rfl Try.sz37 rfl) ?_ | refine D.evPG 12 rfl (by kernel_rfl) rfl rfl rfl (fun _ => hs.to) (fun _ => E.fieldAddrN 0 rfl Try.underlying42 rfl Try.sz37 rfl) ?_
      first | refine D.evPG 14 rfl (by kernel_rfl) rfl rfl rfl (fun _ => hs.to) (fun _ => E.fieldAddr0 0 rfl Try.underlying26 rfl Try.sz23 rfl) ?_ | refine D.evPG 14 rfl (by kernel_rfl) rfl rfl rfl (fun _ => hs.to) (fun _ => E.fieldAddrN 0 rfl Try.underlying26 rfl Try.sz23 rfl) ?_
      refine D.evG 13 rfl (by kernel_rfl) rfl rfl rfl hs.to (fun _ hS => E.loadRowC rfl Try.underlying37 rfl Try.sz37 (At.partC (Ay _ hS))) ?_
      refine D.evG 15 rfl (by kernel_rfl) rfl rfl rfl hs.to (fun _ hS => E.loadRowC rfl Try.underlying23 rfl Try.sz23 (by first | exact ⟨hS.ldA, by first | rfl | assumption | exact encV_len _ | exact Enc.len _ | exact len_ub (by assumption)⟩ | exact ⟨hS.ldP rfl, by first | rfl | assumption | exact encV_len _ | exact Enc.len _ | exact len_ub (by assumption)⟩ | exact ⟨hS.ldM rfl rfl, by first | rfl | assumption | exact encV_len _ | exact Enc.len _ | exact len_ub (by assumption)⟩ | exact ⟨hS.ldM (by assumption) (by first | rfl | assumption), by first | rfl | assumption | exact encV_len _ | exact Enc.len _ | exact len_ub (by assumption)⟩ | exact ⟨by assumption, by first | rfl | assumption | exact encV_len _ | exact Enc.len _ | exact len_ub (by assumption)⟩ | exact ⟨(by assumption : ∀ w', Sat _ w' _ → At w' _ _ _) _ hS, by first | rfl | assumption | exact encV_len _ | exact Enc.len _ | exact len_ub (by assumption)⟩ | exact hS.ldp | exact At.partC (by assumption) | exact At.partC ((by assumption : ∀ w', Sat _ w' _ → At w' _ _ _) _ hS))) ?_
      first | refine D.evPG 16 rfl (by kernel_rfl) rfl rfl rfl (fun _ => hs.to) (fun _ => E.eqV 10 rfl rfl Try.lv37 rfl Try.underlying37 rfl Try.gd37) ?_ | refine D.evPG 16 rfl (by kernel_rfl) rfl rfl rfl (fun _ => hs.to) (fun _ => E.eqId 10 32 rfl rfl Try.lv37 rfl Try.underlying37 rfl Try.gd37 (by assumption) (by assumption)) ?_
      refine D.evP 17 rfl (by kernel_rfl) rfl (fun _ => hs.to) (fun _ => E.pickF rfl rfl) ?_
      refine D.done rfl (by kernel_rfl) ?_
      refine X.keep [(3, _), (5, _), (7, _), (42, _)] ⟨rfl, rfl, rfl, rfl, trivial⟩ ?_
      refine X.next ?_
      refine C.cbool rfl (fun h42 => ?_) (fun h42 => ?_)
      · refine C.seq ?_
        refine C.region ?_
        refine R.call ⟨_, _, Try.func16, rfl, by kernel_rfl⟩ rfl rfl (known_any hs) ?_
        rintro _ w7 ⟨rfl, hs⟩
        refine R.ev rfl (E.assign rfl) ?_
        refine R.done ?_
        refine X.keep [(4, _)] ⟨rfl, trivial⟩ ?_
        refine X.next ?_
        refine C.ret ?_
        refine X.blockRet ?_
        refine X.thenRet ?_
        refine X.loopRet ?_
        refine X.blockRet ?_
        refine X.thenRet ?_
        refine X.ret1 rfl rfl ?_
        exact ⟨rfl, (hs.less hk1.le).mod⟩
      · refine C.skip ?_
        refine X.blockNormal ?_
        refine X.next ?_
        refine C.region ?_
        refine R.ev rfl (E.move rfl) ?_
        refine R.ev rfl (E.add rfl rfl (by omega) (by omega)) ?_
        refine R.ev rfl (E.assign rfl) ?_
        refine R.done ?_
        refine X.keep [(3, _), (5, _), (7, _)] ⟨rfl, rfl, rfl, trivial⟩ ?_
        exact X.again (k + 1) ⟨rfl, rfl, rfl, trivial⟩ ⟨by omega, fun z hz => by
        rw [take_snoc hy] at hz
        rcases List.mem_append.1 hz with hz | hz
        · exact hno z hz
        · simp at hz; subst hz; exact of_decide_eq_false h33, hs.to⟩ (by omega)
  · refine C.exit ?_
    refine X.thenExit ?_
    refine X.loopExit ?_
    refine X.blockExit ?_
    refine X.next ?_
    refine C.seq ?_
    refine C.region ?_
    refine R.ev rfl (E.move rfl) ?_
    refine R.ev rfl (E.loadRowC rfl Try.underlying26 rfl Try.sz26 (by first | exact ⟨hs.ldA, by first | rfl | assumption | exact encV_len _ | exact Enc.len _ | exact len_ub (by assumption)⟩ | exact ⟨hs.ldP rfl, by first | rfl | assumption | exact encV_len _ | exact Enc.len _ | exact len_ub (by assumption)⟩ | exact ⟨hs.ldM rfl rfl, by first | rfl | assumption | exact encV_len _ | exact Enc.len _ | exact len_ub (by assumption)⟩ | exact ⟨hs.ldM (by assumption) (by first | rfl | assumption), by first | rfl | assumption | exact encV_len _ | exact Enc.len _ | exact len_ub (by assumption)⟩ | exact ⟨by assumption, by first | rfl | assumption | exact encV_len _ | exact Enc.len _ | exact len_ub (by assumption)⟩ | exact hs.ldp | exact At.partC (by assumption))) ?_
    refine R.call ⟨_, _, Try.func18, rfl, by kernel_rfl⟩ rfl rfl (to_any x' hs) ?_
    rintro _ w8 ⟨K2, z, rfl, hz, hk2, gz, hs⟩
    refine R.buildSliceA rfl Try.underlying27 Try.sz42 Try.zr42 rfl (by first | rfl | assumption | exact encV_len _ | exact Enc.len _ | simp [*]) (by decide) (by decide) ?_
    intro b48 w48 n48
    have hs := hs.new n48
    refine R.capp1 (z) hs rfl rfl Try.underlying27 Try.by42 (by rfl) rfl (by first | exact hs.ldA | exact hs.ldP rfl | exact by assumption) (by decide) (by first | omega | (simp only [List.length_append, List.length_cons, List.length_nil] at *; omega)) (by first | omega | (simp only [List.length_append, List.length_cons, List.length_nil] at *; omega)) ?_
    intro v49 w49 F49 r49 hs
    obtain ⟨ad49, cap49, rfl, _⟩ := r49.val
    have hG2 : GL K2 (A ++ [z]) := fun u hu => by
      rcases List.mem_append.1 hu with hu | hu
      · exact (hG u hu).mono hk2
      · simp at hu; subst hu; exact gz
    refine R.call ⟨_, _, Try.func22, rfl, by kernel_rfl⟩ rfl rfl (ends_any (A := A ++ [z]) hs hG2 (by simp; omega)) ?_
    rintro _ w85 ⟨v85, I85, F85, rfl, r85, h85, h85', hs⟩
    obtain ⟨ad85, cap85, rfl, hc85, hcm85, _⟩ := r85.val
    unfold maxLen at hcm85
    refine R.ev rfl (E.move rfl) ?_
    refine R.ev rfl (E.extract rfl rfl) ?_
    refine R.ev rfl (E.extract rfl rfl) ?_
    refine R.ev rfl (E.assign rfl) ?_
    refine R.ev rfl (E.assign rfl) ?_
    refine R.done ?_
    refine X.keep [(3, _), (8, _), (9, _)] ⟨rfl, rfl, rfl, trivial⟩ ?_
    refine X.next ?_
    refine C.seq ?_
    refine C.seq ?_
    refine C.region ?_
    refine R.ev rfl (E.move rfl) ?_
    refine R.ev rfl (E.neq rfl rfl) ?_
    refine R.done ?_
    refine X.keep [(3, _), (8, _), (54, _)] ⟨rfl, rfl, rfl, trivial⟩ ?_
    refine X.next ?_
    refine C.cdec rfl (fun h54 => ?_) (fun h54 => ?_)
    · refine C.seq ?_
      refine C.region ?_
      refine R.call ⟨_, _, Try.func16, rfl, by kernel_rfl⟩ rfl rfl (known_any hs) ?_
      rintro _ w10 ⟨rfl, hs⟩
      refine R.ev rfl (E.move rfl) ?_
      refine R.gyes rfl rfl ?_
      refine R.ev rfl (E.move rfl) ?_
      refine R.gyes rfl rfl ?_
      refine R.ev rfl (E.lenSl rfl Try.underlying40) ?_
      refine R.gyes rfl rfl ?_
      refine R.ev rfl ((E.eql rfl rfl).isT (by rw [h85 h54]; rfl)) ?_
      refine R.ev rfl (E.pickT rfl rfl) ?_
      refine R.ev rfl (E.assign rfl) ?_
      refine R.done ?_
      refine X.keep [(4, _)] ⟨rfl, trivial⟩ ?_
      refine X.next ?_
      refine C.ret ?_
      refine X.thenRet ?_
      refine X.ret1 rfl rfl ?_
      exact ⟨rfl, (hs.less (hk1.trans hk2).le).mod⟩
    · refine C.skip ?_
      refine X.next ?_
      refine C.seq ?_
      refine C.region ?_
      obtain ⟨s85, p85⟩ := h85' (Decidable.not_not.1 h54)
      have hin : x'.id ∈ I85 := by
        rw [p85.mem_iff, List.map_append, List.map_cons, hz]
        refine alone_end hxs fun y hy => ?_
        obtain ⟨u, hu, rfl⟩ := List.mem_map.1 hy
        exact hno u (by rw [List.take_of_length_le (by omega)]; exact hu)
      refine R.ev rfl ((E.assign rfl).as (u := .bool (decide (x'.id ∈ I85.take 0))) (by simp)) ?_
      refine R.done ?_
      refine X.keep [(3, _), (8, _), (10, _)] ⟨rfl, rfl, rfl, trivial⟩ ?_
      refine X.next ?_
      refine C.seq ?_
      refine C.seq ?_
      refine C.region ?_
      refine R.ev rfl (E.assign rfl) ?_
      refine R.done ?_
      refine X.keep [(3, _), (8, _), (10, _), (11, _)] ⟨rfl, rfl, rfl, rfl, trivial⟩ ?_
      refine X.next ?_
      refine C.block ?_
      refine C.loop  [(3, _), (8, _)] (fun j => [(10, .bool (decide (x'.id ∈ I85.take j))), (11, .int .i64 (j : Nat))]) (fun j w' => j ≤ I85.length ∧ Sat K2 w' (F85 :: row b3 26 (encR x') :: [])) (fun j => I85.length - j) (0) ⟨rfl, rfl, rfl, rfl, trivial⟩ ⟨Nat.zero_le _, hs.to⟩ ?_
      rintro j w11 ⟨hj, hs⟩
      refine C.keep [(3, _), (8, _), (10, _), (11, _)] ⟨rfl, rfl, rfl, rfl, trivial⟩ ?_
      refine C.seq ?_
      refine C.seq ?_
      refine C.region ?_
      refine R.ev rfl (E.move rfl) ?_
      refine R.ev rfl (E.move rfl) ?_
      refine R.ev rfl (E.lenSl rfl Try.underlying40) ?_
      refine R.ev rfl (E.lss rfl rfl) ?_
      refine R.done ?_
      refine X.keep [(3, _), (8, _), (10, _), (11, _), (64, _)] ⟨rfl, rfl, rfl, rfl, rfl, trivial⟩ ?_
      refine X.next ?_
      refine C.cdec rfl (fun h64 => ?_) (fun h64 => ?_)
      · obtain ⟨u, bk_u, of_u, hu, mu, lu, rfl, Au⟩ := hs.el (i := j) (ad := ad85) (n := I85.length) (c := cap85) (by omega)
        have au := Au _ hs
        refine C.skip ?_
        refine X.next ?_
        refine C.seq ?_
        refine C.block ?_
        refine C.drawn (SatS hs) ([5, 7], [0, 1, 2, 3, 4, 6, 8, 9, 10]) (by kernel_rfl) ?_
        have hs := hs.drew
        refine D.evP 0 rfl (by kernel_rfl) rfl (fun _ => hs.to) (fun _ => E.move rfl) ?_
        refine D.evP 1 rfl (by kernel_rfl) rfl (fun _ => hs.to) (fun _ => E.move rfl) ?_
        refine D.split 68 rfl (fun h68 => ?_) (fun h68 => ?_)
        · refine D.skipP 2 rfl (by kernel_rfl) rfl rfl rfl (fun _ => hs.to) ?_
          refine D.skipP 3 rfl (by kernel_rfl) rfl rfl rfl (fun _ => hs.to) ?_
          refine D.skipP 4 rfl (by kernel_rfl) rfl rfl rfl (fun _ => hs.to) ?_
          refine D.skipP 6 rfl (by kernel_rfl) rfl rfl rfl (fun _ => hs.to) ?_
          refine D.skip 5 rfl (by kernel_rfl) rfl rfl rfl hs.to ?_
          refine D.skip 7 rfl (by kernel_rfl) rfl rfl rfl hs.to ?_
          refine D.skipP 8 rfl (by kernel_rfl) rfl rfl rfl (fun _ => hs.to) ?_
          refine D.evP 9 rfl (by kernel_rfl) rfl (fun _ => hs.to) (fun _ => E.pickT rfl rfl) ?_
          refine D.evP 10 rfl (by kernel_rfl) rfl (fun _ => hs.to) (fun _ => (E.assign rfl).as (u := .bool (decide (x'.id ∈ I85.take (j + 1)))) (by rw [take_snoc hu]; first | (have := of_decide_eq_true h68; simp [this]; done) | (have := of_decide_eq_false h68; simp [this, eq_comm]; done))) ?_
          refine D.done rfl (by kernel_rfl) ?_
          refine X.keep [(3, _), (8, _), (10, _), (11, _)] ⟨rfl, rfl, rfl, rfl, trivial⟩ ?_
          refine X.blockNormal ?_
          refine X.next ?_
          refine C.region ?_
          refine R.ev rfl (E.move rfl) ?_
          refine R.ev rfl (E.add rfl rfl (by omega) (by omega)) ?_
          refine R.ev rfl (E.assign rfl) ?_
          refine R.done ?_
          refine X.keep [(3, _), (8, _), (10, _), (11, _)] ⟨rfl, rfl, rfl, rfl, trivial⟩ ?_
          exact X.again (j + 1) ⟨rfl, rfl, rfl, rfl, trivial⟩ ⟨by omega, hs.to⟩ (by omega)
        · refine D.evPG 2 rfl (by kernel_rfl) rfl rfl rfl (fun _ => hs.to) (fun _ => E.move rfl) ?_
          refine D.evPG 3 rfl (by kernel_rfl) rfl rfl rfl (fun _ => hs.to) (fun _ => E.move rfl) ?_
          refine D.evPG 4 rfl (by kernel_rfl) rfl rfl rfl (fun _ => hs.to) (fun _ => E.indexAddr (i := j) rfl rfl Try.underlying40 Try.sz37 rfl (by omega)) ?_
          first | refine D.evPG 6 rfl (by kernel_rfl) rfl rfl rfl (fun _ => hs.to) (fun _ => E.fieldAddr0 0 rfl Try.underlying26 rfl Try.sz23 rfl) ?_ | refine D.evPG 6 rfl (by kernel_rfl) rfl rfl rfl (fun _ => hs.to) (fun _ => E.fieldAddrN 0 rfl Try.underlying26 rfl Try.sz23 rfl) ?_
          refine D.evG 5 rfl (by kernel_rfl) rfl rfl rfl hs.to (fun _ hS => E.loadRow rfl Try.underlying37 rfl Try.sz37 (Au _ hS) lu) ?_
          refine D.evG 7 rfl (by kernel_rfl) rfl rfl rfl hs.to (fun _ hS => E.loadRowC rfl Try.underlying23 rfl Try.sz23 (by first | exact ⟨hS.ldA, by first | rfl | assumption | exact encV_len _ | exact Enc.len _ | exact len_ub (by assumption)⟩ | exact ⟨hS.ldP rfl, by first | rfl | assumption | exact encV_len _ | exact Enc.len _ | exact len_ub (by assumption)⟩ | exact ⟨hS.ldM rfl rfl, by first | rfl | assumption | exact encV_len _ | exact Enc.len _ | exact len_ub (by assumption)⟩ | exact ⟨hS.ldM (by assumption) (by first | rfl | assumption), by first | rfl | assumption | exact encV_len _ | exact Enc.len _ | exact len_ub (by assumption)⟩ | exact ⟨by assumption, by first | rfl | assumption | exact encV_len _ | exact Enc.len _ | exact len_ub (by assumption)⟩ | exact ⟨(by assumption : ∀ w', Sat _ w' _ → At w' _ _ _) _ hS, by first | rfl | assumption | exact encV_len _ | exact Enc.len _ | exact len_ub (by assumption)⟩ | exact hS.ldp | exact At.partC (by assumption) | exact At.partC ((by assumption : ∀ w', Sat _ w' _ → At w' _ _ _) _ hS))) ?_
          first | refine D.evPG 8 rfl (by kernel_rfl) rfl rfl rfl (fun _ => hs.to) (fun _ => E.eqV 10 rfl rfl Try.lv37 rfl Try.underlying37 rfl Try.gd37) ?_ | refine D.evPG 8 rfl (by kernel_rfl) rfl rfl rfl (fun _ => hs.to) (fun _ => E.eqId 10 32 rfl rfl Try.lv37 rfl Try.underlying37 rfl Try.gd37 (by assumption) (by assumption)) ?_
          refine D.evP 9 rfl (by kernel_rfl) rfl (fun _ => hs.to) (fun _ => E.pickF rfl rfl) ?_
          refine D.evP 10 rfl (by kernel_rfl) rfl (fun _ => hs.to) (fun _ => (E.assign rfl).as (u := .bool (decide (x'.id ∈ I85.take (j + 1)))) (by rw [take_snoc hu]; first | (have := of_decide_eq_true h68; simp [this]; done) | (have := of_decide_eq_false h68; simp [this, eq_comm]; done))) ?_
          refine D.done rfl (by kernel_rfl) ?_
          refine X.keep [(3, _), (8, _), (10, _), (11, _)] ⟨rfl, rfl, rfl, rfl, trivial⟩ ?_
          refine X.blockNormal ?_
          refine X.next ?_
          refine C.region ?_
          refine R.ev rfl (E.move rfl) ?_
          refine R.ev rfl (E.add rfl rfl (by omega) (by omega)) ?_
          refine R.ev rfl (E.assign rfl) ?_
          refine R.done ?_
          refine X.keep [(3, _), (8, _), (10, _), (11, _)] ⟨rfl, rfl, rfl, rfl, trivial⟩ ?_
          exact X.again (j + 1) ⟨rfl, rfl, rfl, rfl, trivial⟩ ⟨by omega, hs.to⟩ (by omega)
      · refine C.exit ?_
        refine X.thenExit ?_
        refine X.loopExit ?_
        refine X.blockExit ?_
        refine X.next ?_
        refine C.seq ?_
        refine C.region ?_
        rw [List.take_of_length_le (show I85.length ≤ j by omega), decide_eq_true hin]
        refine R.call ⟨_, _, Try.func16, rfl, by kernel_rfl⟩ rfl rfl (known_any hs) ?_
        rintro _ w16 ⟨rfl, hs⟩
        refine R.ev rfl (E.move rfl) ?_
        refine R.gyes rfl rfl ?_
        refine R.ev rfl (E.move rfl) ?_
        refine R.ev rfl (E.pickT rfl rfl) ?_
        refine R.ev rfl (E.assign rfl) ?_
        refine R.done ?_
        refine X.keep [(4, _)] ⟨rfl, trivial⟩ ?_
        refine X.next ?_
        refine C.ret ?_
        refine X.ret1 rfl rfl ?_
        exact ⟨rfl, (hs.less (hk1.trans hk2).le).mod⟩

namespace supersedeAlone
open Go.ChangeShapes Go.WideShapes Go.ChangeAt Go.RowKit
open Go.ChangeMaps (open_string shut_string)
set_option linter.unusedVariables false

theorem own : ownKnob Try.prog.godebug = none := by kernel_rfl
theorem laidOut : laidOutB Try.prog = true := by kernel_rfl
set_option maxRecDepth 100000 in
theorem lifted (os : Os) (started : os.Started) (H : Type) (enc : TypeId × Value → H) :
    ReturnsInHanded {} Try.checked os 6 .any (Rows.supersedeAloneSpec.pre6 enc Try.prog Try.f6 Rows.supersedeAloneRow.domain false) (Rows.supersedeAloneSpec.post enc Try.prog Try.f6 false true false false) := by
  refine returnsInHanded_of_change (C := Try.checked) own started (by kernel_rfl) Try.func6
    (ChangeSpec.witness6 (enc := enc) (C := Try.checked) false ⟨#[], #[.slice none 0 0, .agg #[.int .u8 0, .int .u8 0, .int .u8 0, .int .u8 0, .int .u8 0, .int .u8 0, .int .u8 0, .int .u8 0, .int .u8 0, .int .u8 0, .int .u8 0, .int .u8 0, .int .u8 0, .int .u8 0, .int .u8 0, .int .u8 0, .int .u8 0, .int .u8 0, .int .u8 0, .int .u8 0, .int .u8 0, .int .u8 0, .int .u8 0, .int .u8 0, .int .u8 0, .int .u8 0, .int .u8 0, .int .u8 0, .int .u8 0, .int .u8 0, .int .u8 0, .int .u8 0, .int .u8 0, .int .u8 0, .int .u8 0, .int .u8 0, .int .u8 0, .int .u8 0, .int .u8 0, .int .u8 0, .int .u8 0, .int .u8 0, .int .u8 0, .int .u8 0, .int .u8 0, .int .u8 0, .int .u8 0, .int .u8 0, .int .i64 0, .int .u8 0, .int .u8 0, .int .u8 0, .int .u8 0, .int .u8 0, .int .u8 0, .int .u8 0, .int .u8 0, .int .u8 0, .int .u8 0, .int .u8 0, .int .u8 0, .int .u8 0, .int .u8 0, .int .u8 0, .int .u8 0, .int .u8 0, .int .u8 0, .int .u8 0, .int .u8 0, .int .u8 0, .int .u8 0, .int .u8 0, .int .u8 0, .int .u8 0, .int .u8 0, .int .u8 0, .int .u8 0, .int .u8 0, .int .u8 0, .int .u8 0, .int .u8 0, .int .u8 0]], []⟩ 8 (by kernel_rfl) (by kernel_rfl) (by kernel_rfl) (by kernel_rfl)) ?_
  intro W base args ds gs before hval0 hW hcnd _
  have hval : ∀ (j : Nat) t v, Try.f6.params[j]? = some t → args[j]? = some v → Value.okWide Try.prog W .any base t v := hval0
  have hW' := hW
  obtain ⟨p, q, hA0, hV, rfl, hfz, hnd⟩ := hW
  have hA : DataW.TrodAll enc Try.prog W 0 (fun _ => true) true Try.f6.params.toList args.toList ds p := hA0
  rw [Try.params6] at hA hval
  obtain ⟨v0, vs0, d0, ds0, p0, q0, hargs, rfl, rfl, h0, r0⟩ := trodAll_cons hA
  obtain ⟨v1, vs1, d1, ds1, p1, q1, rfl, rfl, rfl, h1, r1⟩ := trodAll_cons r0
  obtain ⟨rfl, rfl, rfl⟩ := trodAll_nil r1
  obtain rfl : args = #[v0, v1] := by cases args; simp_all
  obtain ⟨rfl, rfl⟩ := trodVars_none hV
  have lt0 : ∀ x ∈ p0, x.block < W.heap.size := by obtain ⟨m, hm⟩ := h0; exact DataW.trod_lt m _ _ _ hm
  have a0 := Eng.argv_of (hval 0 22 v0 rfl rfl) h0
  have lt1 : ∀ x ∈ p1, x.block < W.heap.size := by obtain ⟨m, hm⟩ := h1; exact DataW.trod_lt m _ _ _ hm
  have a1 := Eng.argv_of (hval 1 26 v1 rfl rfl) h1
  clear hA0 hval0
  refine Calls.mono (alone_walk W v0 a0 v1 a1) fun e W' ⟨v, he, hv, hm⟩ => ?_
  subst he
  subst hv
  have bel := hm.below
  exact ⟨_, rfl, _, _, _, [], _, [], hW', trodAll_mk1 (shut_bool Try.underlying4 _), (trodAll_cons_mk (Below.trod laidOut (by kernel_rfl) (of_decide_eq_true (by kernel_rfl)) h0 bel lt0) (trodAll_cons_mk (Below.trod laidOut (by kernel_rfl) (of_decide_eq_true (by kernel_rfl)) h1 bel lt1) trodAll_mk0)), rfl, bel.frame _, fun h => by cases h⟩

theorem over : Rows.supersedeAloneRow.holds Try.pinned (OpenSpec.ofChange Rows.supersedeAloneSpec) :=
  OpenClaim.holds_of_wide 6 Try.f6 rfl rfl rfl rfl rfl rfl rfl ⟨rfl, rfl, rfl, rfl, rfl⟩ rfl rfl rfl rfl rfl (by kernel_rfl) Try.func6 (by kernel_rfl)
    (of_decide_eq_true (by kernel_rfl)) (by unfold Func.isWrapper; first | (rw [if_pos (by decide +kernel)]; kernel_rfl) | (rw [if_neg (by decide +kernel)]; exact ⟨rfl, rfl⟩))
    (fun os started H enc _ => lifted os started H enc)
end supersedeAlone
/-- the statement -/
theorem supersedeAlone_holds : Rows.SupersedeAloneSaid := supersedeAlone.over
#print axioms supersedeAlone_holds
end Go.Proofs.Ytmjmichghfepkaa
