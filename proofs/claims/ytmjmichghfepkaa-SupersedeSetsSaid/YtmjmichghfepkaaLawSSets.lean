/-
  SupersedeSets returns true for every input. No condition.
-/
import Derived.Test.YtmjmichghfepkaaRows
import Derived.Test.YtmjmichghfepkaaSupZ
namespace Go.Proofs.Ytmjmichghfepkaa
open Go.Eng Go.RowKit Go.Sort

theorem PathI.no {L : List RR} {a : Vec 32} {I : List (Vec 32)} (h0 : hasId a L = false) (h : PathI L a I) : I = [] := by
  rcases h with ⟨_, h⟩ | ⟨x, hx, hxa, _⟩
  · exact h
  · exact absurd (List.mem_map.2 ⟨x, hx, hxa⟩) (hasId_false.1 h0)
theorem SuccI.no {L : List RR} {a : Vec 32} {I : List (Vec 32)} (h0 : hasId a L = false) (h : SuccI L a I) : I = [] := by
  rcases h with ⟨_, h⟩ | ⟨x, hx, hxa, _⟩
  · exact h
  · exact absurd (List.mem_map.2 ⟨x, hx, hxa⟩) (hasId_false.1 h0)
theorem PathI.ofR {L : List RR} {x : RR} (hx : x ∈ L) {J : List Nat} (h : (PathR L x (rowsOf L J)) ∨ ((∀ q, ¬ PathR L x q) ∧ J = [])) : PathI L x.id ((rowsOf L J).map RR.id) :=
  .inr ⟨x, hx, rfl, by
    rcases h with h | ⟨h, rfl⟩
    · exact .inl ⟨_, h, rfl⟩
    · exact .inr ⟨h, rfl⟩⟩
theorem sets_walk (w : World) (v0 : Value) (a0 : ArgV Try.prog w 58 v0) (v1 : Value) (a1 : ArgV Try.prog w 23 v1) : Ret Try.prog 11 #[v0, v1] w fun r w' => r = .bool true ∧ Mod [] w w' := by
  obtain ⟨ad, cap, ops, rfl, hc, hcm, hr⟩ := argv_o a0
  obtain ⟨a, rfl⟩ := argv_vec a1 Try.underlying23 Try.underlying5 (by kernel_rfl) (by kernel_rfl)
  unfold maxLen at hcm
  have e1 := encV_len a
  have hs := Sat.start w
  refine Ret.enter (n := 148) (args := [.slice ad ops.length cap, idV a.1]) Try.func11 rfl rfl ?_
  refine C.keep [(0, _), (1, _)] ⟨rfl, rfl, trivial⟩ ?_
  refine C.seq ?_
  refine C.region ?_
  refine R.sboxA hs rfl rfl ?_
  intro b3 w3 hs
  refine R.ev rfl (E.assign rfl) ?_
  refine R.done ?_
  refine X.keep [(0, _), (3, _)] ⟨rfl, rfl, trivial⟩ ?_
  refine X.next ?_
  refine C.seq ?_
  refine C.seq ?_
  refine C.region ?_
  refine R.call ⟨_, _, Try.func16, rfl, by kernel_rfl⟩ rfl rfl (known_any hs) ?_
  rintro _ w1 ⟨rfl, hs⟩
  refine R.ev rfl (E.notT rfl) ?_
  refine R.done ?_
  refine X.keep [(0, _), (3, _), (15, _)] ⟨rfl, rfl, rfl, trivial⟩ ?_
  refine X.next ?_
  refine C.cfalse rfl ?_
  refine C.skip ?_
  refine X.next ?_
  refine C.seq ?_
  refine C.region ?_
  refine R.ev rfl (E.move rfl) ?_
  refine R.call ⟨_, _, Try.func28, rfl, by kernel_rfl⟩ rfl rfl (play_any hs (by omega)) ?_
  rintro _ w3 ⟨K3, p, M, L, v3, F3, rfl, hk3, hr3, hI, hG, hLl, hw3, hs⟩
  have o3 : OneC v3 := ⟨KRow.oneC' hr3⟩
  obtain ⟨ad3, cap3, rfl, hsl3, hc3⟩ := hr3.ex
  have hlen := hI.len
  refine R.ev rfl (E.move rfl) ?_
  refine R.ev rfl (E.extract rfl rfl) ?_
  refine R.ev rfl (E.extract rfl rfl) ?_
  refine R.ev rfl (E.extract rfl rfl) ?_
  refine R.ev rfl (E.assign rfl) ?_
  refine R.ev rfl (E.assign rfl) ?_
  refine R.ev rfl (E.assign rfl) ?_
  refine R.done ?_
  refine X.keep [(3, _), (5, _), (6, _), (7, _)] ⟨rfl, rfl, rfl, rfl, trivial⟩ ?_
  refine X.next ?_
  refine C.seq ?_
  refine C.seq ?_
  refine C.region ?_
  refine R.ev rfl (E.move rfl) ?_
  refine R.ev rfl (E.notT rfl) ?_
  refine R.ev rfl (E.move rfl) ?_
  refine R.gyes rfl rfl ?_
  refine R.ev rfl (E.move rfl) ?_
  refine R.gyes rfl rfl ?_
  refine R.call ⟨_, _, Try.func36, rfl, by kernel_rfl⟩ rfl rfl (len_any hs) ?_
  rintro _ w4 ⟨rfl, hs⟩
  refine R.gyes rfl rfl ?_
  refine R.ev rfl (E.move rfl) ?_
  refine R.gyes rfl rfl ?_
  refine R.ev rfl (E.lenSl rfl Try.underlying22) ?_
  refine R.gyes rfl rfl ?_
  refine R.ev rfl ((E.neq rfl rfl).isF (by omega)) ?_
  refine R.ev rfl (E.pickF rfl rfl) ?_
  refine R.done ?_
  refine X.keep [(3, _), (5, _), (6, _), (30, _)] ⟨rfl, rfl, rfl, rfl, trivial⟩ ?_
  refine X.next ?_
  refine C.cfalse rfl ?_
  refine C.skip ?_
  refine X.next ?_
  refine C.seq ?_
  refine C.region ?_
  refine R.ev rfl (E.move rfl) ?_
  refine R.ev rfl (E.loadRowC rfl Try.underlying23 rfl Try.sz23 (by first | exact ⟨hs.ldA, by first | rfl | assumption | exact encV_len _ | exact Enc.len _ | exact len_ub (by assumption)⟩ | exact ⟨hs.ldP rfl, by first | rfl | assumption | exact encV_len _ | exact Enc.len _ | exact len_ub (by assumption)⟩ | exact ⟨hs.ldM rfl rfl, by first | rfl | assumption | exact encV_len _ | exact Enc.len _ | exact len_ub (by assumption)⟩ | exact ⟨hs.ldM (by assumption) (by first | rfl | assumption), by first | rfl | assumption | exact encV_len _ | exact Enc.len _ | exact len_ub (by assumption)⟩ | exact ⟨by assumption, by first | rfl | assumption | exact encV_len _ | exact Enc.len _ | exact len_ub (by assumption)⟩ | exact hs.ldp | exact At.partC (by assumption))) ?_
  refine R.call ⟨_, _, Try.func37, rfl, by kernel_rfl⟩ rfl rfl (rfind_any (L := L) a hs (by omega)) ?_
  rintro _ w6 ⟨rfl, hs⟩
  refine R.ev rfl (E.assign rfl) ?_
  refine R.done ?_
  refine X.keep [(3, _), (5, _), (6, _), (8, _)] ⟨rfl, rfl, rfl, rfl, trivial⟩ ?_
  refine X.next ?_
  refine C.seq ?_
  refine C.seq ?_
  refine C.region ?_
  refine R.ev rfl (E.move rfl) ?_
  refine R.ev rfl (E.lss rfl rfl) ?_
  refine R.done ?_
  refine X.keep [(3, _), (5, _), (6, _), (8, _), (35, _)] ⟨rfl, rfl, rfl, rfl, rfl, trivial⟩ ?_
  refine X.next ?_
  refine C.cdec rfl (fun h35 => ?_) (fun h35 => ?_)
  · have hno : hasId a L = false := hasId_false.2 fun h => by
      obtain ⟨z, hz, hzi⟩ := List.mem_map.1 h
      have := idxP_neg (idxP_lt h35) z hz
      rw [show rIs a z = true from decide_eq_true hzi] at this; cases this
    refine C.seq ?_
    refine C.region ?_
    refine R.ev rfl (E.move rfl) ?_
    refine R.ev rfl (E.loadRowC rfl Try.underlying23 rfl Try.sz23 (by first | exact ⟨hs.ldA, by first | rfl | assumption | exact encV_len _ | exact Enc.len _ | exact len_ub (by assumption)⟩ | exact ⟨hs.ldP rfl, by first | rfl | assumption | exact encV_len _ | exact Enc.len _ | exact len_ub (by assumption)⟩ | exact ⟨hs.ldM rfl rfl, by first | rfl | assumption | exact encV_len _ | exact Enc.len _ | exact len_ub (by assumption)⟩ | exact ⟨hs.ldM (by assumption) (by first | rfl | assumption), by first | rfl | assumption | exact encV_len _ | exact Enc.len _ | exact len_ub (by assumption)⟩ | exact ⟨by assumption, by first | rfl | assumption | exact encV_len _ | exact Enc.len _ | exact len_ub (by assumption)⟩ | exact hs.ldp | exact At.partC (by assumption))) ?_
    refine R.call ⟨_, _, Try.func34, rfl, by kernel_rfl⟩ rfl rfl (end_any (a := a) hI hG (by omega) hs) ?_
    rintro _ w8 ⟨K8, I, rfl, hk8, hP, hs⟩
    obtain rfl := hP.no hno
    have hG := hG.mono hk8
    refine R.ev rfl (E.move rfl) ?_
    refine R.ev rfl (E.extract rfl rfl) ?_
    refine R.ev rfl (E.extract rfl rfl) ?_
    refine R.sallocA hs Try.zr37 rfl ?_
    intro b9 w9 hs
    first | refine R.cstoreAll hs rfl rfl Try.sz37 (by first | rfl | assumption | exact encV_len _ | exact Enc.len _ | exact len_ub (by assumption) | simp [*]) (by first | rfl | assumption | exact encV_len _ | exact Enc.len _ | exact len_ub (by assumption) | simp [*]) (by first | assumption | exact OneL.all | exact Enc.one _ | exact ub_all _ | (repeat' (first | refine List.forall_mem_cons.2 ⟨?_, ?_⟩ | exact List.forall_mem_nil _ | rfl | exact OneC.one | exact KRow.oneC' (by assumption)))) ?_ | refine R.cstore hs rfl rfl Try.sz37 (by first | rfl | assumption | exact encV_len _ | exact Enc.len _ | exact len_ub (by assumption) | simp [*]) (by simp [*]) (by first | assumption | exact OneL.all | exact Enc.one _ | exact ub_all _ | (repeat' (first | refine List.forall_mem_cons.2 ⟨?_, ?_⟩ | exact List.forall_mem_nil _ | rfl | exact OneC.one | exact KRow.oneC' (by assumption)))) ?_
    intro w8_7 hs
    try simp only [List.set_cons_zero, List.set_cons_succ] at hs
    refine R.ev rfl (E.assign rfl) ?_
    refine R.done ?_
    refine X.keep [(3, _), (5, _), (9, _), (10, _)] ⟨rfl, rfl, rfl, rfl, trivial⟩ ?_
    refine X.next ?_
    refine C.seq ?_
    refine C.region ?_
    refine R.ev rfl (E.move rfl) ?_
    refine R.ev rfl (E.loadRowC rfl Try.underlying23 rfl Try.sz23 (by first | exact ⟨hs.ldA, by first | rfl | assumption | exact encV_len _ | exact Enc.len _ | exact len_ub (by assumption)⟩ | exact ⟨hs.ldP rfl, by first | rfl | assumption | exact encV_len _ | exact Enc.len _ | exact len_ub (by assumption)⟩ | exact ⟨hs.ldM rfl rfl, by first | rfl | assumption | exact encV_len _ | exact Enc.len _ | exact len_ub (by assumption)⟩ | exact ⟨hs.ldM (by assumption) (by first | rfl | assumption), by first | rfl | assumption | exact encV_len _ | exact Enc.len _ | exact len_ub (by assumption)⟩ | exact ⟨by assumption, by first | rfl | assumption | exact encV_len _ | exact Enc.len _ | exact len_ub (by assumption)⟩ | exact hs.ldp | exact At.partC (by assumption))) ?_
    refine R.call ⟨_, _, Try.func32, rfl, by kernel_rfl⟩ rfl rfl (has_any (p := p) a hs) ?_
    rintro _ w9 ⟨rfl, hs⟩
    rw [hI.has, hno]
    refine R.ev rfl ((E.not rfl).isB (c := true) rfl) ?_
    refine R.ev rfl (E.move rfl) ?_
    refine R.gyes rfl rfl ?_
    refine R.ev rfl (E.move rfl) ?_
    refine R.gyes rfl rfl ?_
    refine R.ev rfl (E.loadRowC rfl Try.underlying23 rfl Try.sz23 (by first | exact ⟨hs.ldA, by first | rfl | assumption | exact encV_len _ | exact Enc.len _ | exact len_ub (by assumption)⟩ | exact ⟨hs.ldP rfl, by first | rfl | assumption | exact encV_len _ | exact Enc.len _ | exact len_ub (by assumption)⟩ | exact ⟨hs.ldM rfl rfl, by first | rfl | assumption | exact encV_len _ | exact Enc.len _ | exact len_ub (by assumption)⟩ | exact ⟨hs.ldM (by assumption) (by first | rfl | assumption), by first | rfl | assumption | exact encV_len _ | exact Enc.len _ | exact len_ub (by assumption)⟩ | exact ⟨by assumption, by first | rfl | assumption | exact encV_len _ | exact Enc.len _ | exact len_ub (by assumption)⟩ | exact hs.ldp | exact At.partC (by assumption))) ?_
    refine R.gyes rfl rfl ?_
    refine R.call ⟨_, _, Try.func27, rfl, by kernel_rfl⟩ rfl rfl (isWd_any (p := p) a hI hG hs) ?_
    rintro _ w97 ⟨rfl, hs⟩
    rw [wdId, findN hno]
    refine R.gyes rfl rfl ?_
    refine R.ev rfl ((E.not rfl).isB (c := true) rfl) ?_
    refine R.ev rfl (E.pickT rfl rfl) ?_
    refine R.ev rfl (E.move rfl) ?_
    refine R.gyes rfl rfl ?_
    refine R.ev rfl (E.loadRowC rfl Try.underlying37 rfl Try.sz37 (by first | exact ⟨hs.ldA, by first | rfl | assumption | exact encV_len _ | exact Enc.len _ | exact len_ub (by assumption)⟩ | exact ⟨hs.ldP rfl, by first | rfl | assumption | exact encV_len _ | exact Enc.len _ | exact len_ub (by assumption)⟩ | exact ⟨hs.ldM rfl rfl, by first | rfl | assumption | exact encV_len _ | exact Enc.len _ | exact len_ub (by assumption)⟩ | exact ⟨hs.ldM (by assumption) (by first | rfl | assumption), by first | rfl | assumption | exact encV_len _ | exact Enc.len _ | exact len_ub (by assumption)⟩ | exact ⟨by assumption, by first | rfl | assumption | exact encV_len _ | exact Enc.len _ | exact len_ub (by assumption)⟩ | exact hs.ldp | exact At.partC (by assumption))) ?_
    refine R.gyes rfl rfl ?_
    refine R.ev rfl ((E.buildA rfl Try.underlying37 Try.zr37 Try.sz5 rfl).as (u := .agg (encV vz).toArray) (by rfl)) ?_
    refine R.gyes rfl rfl ?_
    first | refine R.ev rfl ((E.eqV 10 rfl rfl Try.lv37 rfl Try.underlying37 rfl Try.gd37).isT rfl) ?_ | refine R.ev rfl ((E.eqId 10 32 rfl rfl Try.lv37 rfl Try.underlying37 rfl Try.gd37 (by assumption) (by assumption)).isT rfl) ?_
    refine R.ev rfl (E.pickT rfl rfl) ?_
    refine R.ev rfl (E.move rfl) ?_
    refine R.gyes rfl rfl ?_
    refine R.ev rfl (E.move rfl) ?_
    refine R.gyes rfl rfl ?_
    refine R.ev rfl ((E.not rfl).isB (c := true) rfl) ?_
    refine R.ev rfl (E.pickT rfl rfl) ?_
    refine R.ev rfl (E.move rfl) ?_
    refine R.gyes rfl rfl ?_
    refine R.ev rfl (E.move rfl) ?_
    refine R.gyes rfl rfl ?_
    refine R.ev rfl (E.loadRowC rfl Try.underlying23 rfl Try.sz23 (by first | exact ⟨hs.ldA, by first | rfl | assumption | exact encV_len _ | exact Enc.len _ | exact len_ub (by assumption)⟩ | exact ⟨hs.ldP rfl, by first | rfl | assumption | exact encV_len _ | exact Enc.len _ | exact len_ub (by assumption)⟩ | exact ⟨hs.ldM rfl rfl, by first | rfl | assumption | exact encV_len _ | exact Enc.len _ | exact len_ub (by assumption)⟩ | exact ⟨hs.ldM (by assumption) (by first | rfl | assumption), by first | rfl | assumption | exact encV_len _ | exact Enc.len _ | exact len_ub (by assumption)⟩ | exact ⟨by assumption, by first | rfl | assumption | exact encV_len _ | exact Enc.len _ | exact len_ub (by assumption)⟩ | exact hs.ldp | exact At.partC (by assumption))) ?_
    refine R.gyes rfl rfl ?_
    refine R.call ⟨_, _, Try.func33, rfl, by kernel_rfl⟩ rfl rfl (path_any (p := p) (a := a) hI hG (by omega) hs) ?_
    rintro v922 w922 ⟨K9, I, hk9, r9, hP9, hs⟩
    obtain rfl := hP9.no hno
    obtain ⟨ad9, cap9, rfl, hsl9, hc9⟩ := r9.ex
    have hG := hG.mono hk9
    refine R.gyes rfl rfl ?_
    refine R.ev rfl (E.lenSl rfl Try.underlying40) ?_
    refine R.gyes rfl rfl ?_
    refine R.ev rfl ((E.eql rfl rfl).isT rfl) ?_
    refine R.ev rfl (E.pickT rfl rfl) ?_
    refine R.ev rfl (E.move rfl) ?_
    refine R.gyes rfl rfl ?_
    refine R.ev rfl (E.move rfl) ?_
    refine R.gyes rfl rfl ?_
    refine R.ev rfl (E.loadRowC rfl Try.underlying23 rfl Try.sz23 (by first | exact ⟨hs.ldA, by first | rfl | assumption | exact encV_len _ | exact Enc.len _ | exact len_ub (by assumption)⟩ | exact ⟨hs.ldP rfl, by first | rfl | assumption | exact encV_len _ | exact Enc.len _ | exact len_ub (by assumption)⟩ | exact ⟨hs.ldM rfl rfl, by first | rfl | assumption | exact encV_len _ | exact Enc.len _ | exact len_ub (by assumption)⟩ | exact ⟨hs.ldM (by assumption) (by first | rfl | assumption), by first | rfl | assumption | exact encV_len _ | exact Enc.len _ | exact len_ub (by assumption)⟩ | exact ⟨by assumption, by first | rfl | assumption | exact encV_len _ | exact Enc.len _ | exact len_ub (by assumption)⟩ | exact hs.ldp | exact At.partC (by assumption))) ?_
    refine R.gyes rfl rfl ?_
    refine R.call ⟨_, _, Try.func35, rfl, by kernel_rfl⟩ rfl rfl (succs_any (p := p) (a := a) hI hG (by omega) hs) ?_
    rintro v929 w929 ⟨K10, I, hk10, r10, hP10, hs⟩
    obtain rfl := hP10.no hno
    obtain ⟨ad10, cap10, rfl, hsl10, hc10⟩ := r10.ex
    refine R.gyes rfl rfl ?_
    refine R.ev rfl (E.lenSl rfl Try.underlying40) ?_
    refine R.gyes rfl rfl ?_
    refine R.ev rfl ((E.eql rfl rfl).isT rfl) ?_
    refine R.ev rfl (E.pickT rfl rfl) ?_
    refine R.ev rfl (E.assign rfl) ?_
    refine R.done ?_
    refine X.keep [(4, _)] ⟨rfl, trivial⟩ ?_
    refine X.next ?_
    refine C.ret ?_
    refine X.thenRet ?_
    refine X.ret1 rfl rfl ?_
    exact ⟨rfl, (hs.less (((hk3.trans hk8).trans hk9).trans hk10).le).mod⟩
  · obtain ⟨i, x, hix, hx, hxa, _⟩ := idxP_pos (p := rIs a) (L := L) (by omega)
    have hxa : x.id = a := of_decide_eq_true hxa
    have mx : x ∈ L := List.mem_of_getElem? hx
    have hil := (List.getElem?_eq_some_iff.1 hx).1
    rw [hix]
    refine C.skip ?_
    refine X.next ?_
    refine C.seq ?_
    refine C.region ?_
    refine R.ev rfl (E.move rfl) ?_
    refine R.ev rfl (E.move rfl) ?_
    refine R.call ⟨_, _, Try.func38, rfl, by kernel_rfl⟩ rfl rfl (rpath_any (L := L) hI.nd hx hs (by omega)) ?_
    rintro v10 w10 ⟨K4, J, hk4, rJ, hJ, hPJ, hs⟩
    have o10 : OneC v10 := ⟨KRow.oneC' rJ⟩
    obtain ⟨adJ, capJ, rfl, hslJ, hcJ⟩ := rJ.ex
    have hG := hG.mono hk4
    have hPI := PathI.ofR mx hPJ
    rw [hxa] at hPI
    have hJl := hPI.len hI.nd
    rw [List.length_map, rowsOf, List.length_map] at hJl
    refine R.ev rfl (E.assign rfl) ?_
    refine R.done ?_
    refine X.keep [(3, _), (5, _), (6, _), (8, _), (11, _)] ⟨rfl, rfl, rfl, rfl, rfl, trivial⟩ ?_
    refine X.next ?_
    refine C.seq ?_
    refine C.region ?_
    refine R.ev rfl (E.move rfl) ?_
    refine R.ev rfl (E.loadRowC rfl Try.underlying23 rfl Try.sz23 (by first | exact ⟨hs.ldA, by first | rfl | assumption | exact encV_len _ | exact Enc.len _ | exact len_ub (by assumption)⟩ | exact ⟨hs.ldP rfl, by first | rfl | assumption | exact encV_len _ | exact Enc.len _ | exact len_ub (by assumption)⟩ | exact ⟨hs.ldM rfl rfl, by first | rfl | assumption | exact encV_len _ | exact Enc.len _ | exact len_ub (by assumption)⟩ | exact ⟨hs.ldM (by assumption) (by first | rfl | assumption), by first | rfl | assumption | exact encV_len _ | exact Enc.len _ | exact len_ub (by assumption)⟩ | exact ⟨by assumption, by first | rfl | assumption | exact encV_len _ | exact Enc.len _ | exact len_ub (by assumption)⟩ | exact hs.ldp | exact At.partC (by assumption))) ?_
    refine R.call ⟨_, _, Try.func34, rfl, by kernel_rfl⟩ rfl rfl (end_any (p := p) (a := a) hI hG (by omega) hs) ?_
    rintro _ w11 ⟨K5, I, rfl, hk5, hP, hs⟩
    have hIe := hP.uniq hI.nd hPI
    have hIl : I.length = J.length := by rw [hIe, List.length_map, rowsOf, List.length_map]
    have hG := hG.mono hk5
    have r3 : KRow encR 82 K5 (.slice ad3 L.length cap3) L := KRow.mono (k := hk4.trans hk5) (h := hr3)
    have rJ : KRow encN 1 K5 (.slice adJ J.length capJ) J := KRow.mono (k := hk5) (h := rJ)
    have hen0 : ¬ 0 < I.length → I.getLast?.getD vz = vz := fun h => by rw [List.length_eq_zero_iff.1 (show I.length = 0 by omega)]; rfl
    have hen1 : ∀ j z, J[J.length - 1]? = some j → L[j]? = some z → I.getLast?.getD vz = z.id := fun j z h1 h2 => by
      rw [hIe, List.getLast?_eq_getElem?, List.length_map, rowsOf, List.length_map, List.getElem?_map, List.getElem?_map, h1, Option.map_some, Option.map_some, rowAt_eq h2]; rfl
    generalize I.getLast?.getD vz = en at hen0 hen1 ⊢
    have e2 := encV_len en
    have l2 := en.2
    have l4 := vz.2
    refine R.ev rfl (E.move rfl) ?_
    refine R.ev rfl (E.extract rfl rfl) ?_
    refine R.ev rfl (E.extract rfl rfl) ?_
    refine R.sallocA hs Try.zr37 rfl ?_
    intro b12 w12 hs
    first | refine R.cstoreAll hs rfl rfl Try.sz37 (by first | rfl | assumption | exact encV_len _ | exact Enc.len _ | exact len_ub (by assumption) | simp [*]) (by first | rfl | assumption | exact encV_len _ | exact Enc.len _ | exact len_ub (by assumption) | simp [*]) (by first | assumption | exact OneL.all | exact Enc.one _ | exact ub_all _ | (repeat' (first | refine List.forall_mem_cons.2 ⟨?_, ?_⟩ | exact List.forall_mem_nil _ | rfl | exact OneC.one | exact KRow.oneC' (by assumption)))) ?_ | refine R.cstore hs rfl rfl Try.sz37 (by first | rfl | assumption | exact encV_len _ | exact Enc.len _ | exact len_ub (by assumption) | simp [*]) (by simp [*]) (by first | assumption | exact OneL.all | exact Enc.one _ | exact ub_all _ | (repeat' (first | refine List.forall_mem_cons.2 ⟨?_, ?_⟩ | exact List.forall_mem_nil _ | rfl | exact OneC.one | exact KRow.oneC' (by assumption)))) ?_
    intro w11_7 hs
    try simp only [List.set_cons_zero, List.set_cons_succ] at hs
    refine R.ev rfl (E.assign rfl) ?_
    refine R.done ?_
    refine X.keep [(3, _), (5, _), (6, _), (8, _), (11, _), (12, _), (13, _)] ⟨rfl, rfl, rfl, rfl, rfl, rfl, rfl, trivial⟩ ?_
    refine X.next ?_
    refine C.seq ?_
    refine C.seq ?_
    refine C.drawn (SatS hs) ([8, 15, 18, 26], [0, 1, 2, 3, 4, 5, 6, 7, 9, 10, 11, 12, 13, 14, 16, 17, 19, 20, 21, 22, 23, 24, 25, 27, 28, 29, 30]) (by kernel_rfl) ?_
    have hs := hs.drew
    refine D.evP 0 rfl (by kernel_rfl) rfl (fun _ => hs.to) (fun _ => E.move rfl) ?_
    refine D.evP 1 rfl (by kernel_rfl) rfl (fun _ => hs.to) (fun _ => E.move rfl) ?_
    refine D.evP 2 rfl (by kernel_rfl) rfl (fun _ => hs.to) (fun _ => E.lenSl rfl Try.underlying70) ?_
    refine D.evP 3 rfl (by kernel_rfl) rfl (fun _ => hs.to) (fun _ => E.gtr rfl rfl) ?_
    refine D.evP 4 rfl (by kernel_rfl) rfl (fun _ => hs.to) (fun _ => (E.neqB rfl rfl Try.underlying4).isB (c := false) (by rw [hIl]; simp)) ?_
    refine D.evP 5 rfl (by kernel_rfl) rfl (fun _ => hs.to) (fun _ => E.move rfl) ?_
    refine D.evPG 6 rfl (by kernel_rfl) rfl rfl rfl (fun _ => hs.to) (fun _ => E.move rfl) ?_
    refine D.evPG 7 rfl (by kernel_rfl) rfl rfl rfl (fun _ => hs.to) (fun _ => E.move rfl) ?_
    refine D.split 91 rfl (fun h91 => ?_) (fun h91 => ?_)
    · have hpos : 0 < J.length := by have := of_decide_eq_true h91; omega
      obtain ⟨jz, bk_j, of_j, hj, mj, lj, hadj, Aj⟩ := (hs.to (Hs := [])).el (i := J.length - 1) (ad := adJ) (n := J.length) (c := capJ) (by omega)
      have hjl := hJ jz mj
      obtain ⟨z, bk_z, of_z, hz, mz, lz, hadz, Az⟩ := (hs.to (Hs := [])).el (i := jz) (ad := ad3) (n := L.length) (c := cap3) hjl
      have l3 := z.id.2
      refine D.evPG 9 rfl (by kernel_rfl) rfl rfl rfl (fun _ => hs.to) (fun _ => E.move rfl) ?_
      refine D.evPG 10 rfl (by kernel_rfl) rfl rfl rfl (fun _ => hs.to) (fun _ => E.move rfl) ?_
      refine D.evPG 11 rfl (by kernel_rfl) rfl rfl rfl (fun _ => hs.to) (fun _ => E.move rfl) ?_
      refine D.evPG 12 rfl (by kernel_rfl) rfl rfl rfl (fun _ => hs.to) (fun _ => E.lenSl rfl Try.underlying70) ?_
      refine D.evPG 13 rfl (by kernel_rfl) rfl rfl rfl (fun _ => hs.to) (fun _ => (E.sub rfl rfl (by omega) (by omega)).isI (c := ((J.length - 1 : Nat) : Int)) (by omega)) ?_
      refine D.evPG 14 rfl (by kernel_rfl) rfl rfl rfl (fun _ => hs.to) (fun _ => E.indexAddr (i := J.length - 1) (congrArg (fun a => some (Value.slice a J.length capJ)) hadj) rfl Try.underlying70 Try.sz3 rfl (by omega)) ?_
      refine D.evG 8 rfl (by kernel_rfl) rfl rfl rfl hs.to (fun _ hS => E.loadRowC rfl Try.underlying37 rfl Try.sz37 (by first | exact ⟨hS.ldA, by first | rfl | assumption | exact encV_len _ | exact Enc.len _ | exact len_ub (by assumption)⟩ | exact ⟨hS.ldP rfl, by first | rfl | assumption | exact encV_len _ | exact Enc.len _ | exact len_ub (by assumption)⟩ | exact ⟨hS.ldM rfl rfl, by first | rfl | assumption | exact encV_len _ | exact Enc.len _ | exact len_ub (by assumption)⟩ | exact ⟨hS.ldM (by assumption) (by first | rfl | assumption), by first | rfl | assumption | exact encV_len _ | exact Enc.len _ | exact len_ub (by assumption)⟩ | exact ⟨by assumption, by first | rfl | assumption | exact encV_len _ | exact Enc.len _ | exact len_ub (by assumption)⟩ | exact ⟨(by assumption : ∀ w', Sat _ w' _ → At w' _ _ _) _ hS, by first | rfl | assumption | exact encV_len _ | exact Enc.len _ | exact len_ub (by assumption)⟩ | exact hS.ldp | exact At.partC (by assumption) | exact At.partC ((by assumption : ∀ w', Sat _ w' _ → At w' _ _ _) _ hS))) ?_
      refine D.evG 15 rfl (by kernel_rfl) rfl rfl rfl hs.to (fun _ hS => E.load1 rfl Try.underlying3 rfl (Aj _ hS.to 0 _ rfl)) ?_
      refine D.evPG 16 rfl (by kernel_rfl) rfl rfl rfl (fun _ => hs.to) (fun _ => E.indexAddr (i := jz) (congrArg (fun a => some (Value.slice a L.length cap3)) hadz) rfl Try.underlying22 Try.sz26 rfl (by omega)) ?_
      first | refine D.evPG 17 rfl (by kernel_rfl) rfl rfl rfl (fun _ => hs.to) (fun _ => E.fieldAddr0 0 rfl Try.underlying26 rfl Try.sz23 rfl) ?_ | refine D.evPG 17 rfl (by kernel_rfl) rfl rfl rfl (fun _ => hs.to) (fun _ => E.fieldAddrN 0 rfl Try.underlying26 rfl Try.sz23 rfl) ?_
      refine D.evG 18 rfl (by kernel_rfl) rfl rfl rfl hs.to (fun _ hS => E.loadRow (cs := z.id.1.map ub) rfl Try.underlying23 rfl Try.sz23 (Az _ hS.to).app.1 (encV_len z.id)) ?_
      first | refine D.evPG 19 rfl (by kernel_rfl) rfl rfl rfl (fun _ => hs.to) (fun _ => (E.neV 10 rfl rfl Try.lv23 rfl Try.underlying23 rfl Try.gd23).isF (fun h => h (by rw [hen1 jz z hj hz]))) ?_ | refine D.evPG 19 rfl (by kernel_rfl) rfl rfl rfl (fun _ => hs.to) (fun _ => (E.neId 10 32 rfl rfl Try.lv23 rfl Try.underlying23 rfl Try.gd23 (by assumption) (by assumption)).isF (fun h => h (by rw [hen1 jz z hj hz]))) ?_
      refine D.evPG 20 rfl (by kernel_rfl) rfl rfl rfl (fun _ => hs.to) (fun _ => E.pickT rfl rfl) ?_
      refine D.evP 21 rfl (by kernel_rfl) rfl (fun _ => hs.to) (fun _ => E.pickF rfl rfl) ?_
      refine D.evP 22 rfl (by kernel_rfl) rfl (fun _ => hs.to) (fun _ => E.move rfl) ?_
      refine D.evPG 23 rfl (by kernel_rfl) rfl rfl rfl (fun _ => hs.to) (fun _ => E.move rfl) ?_
      refine D.evPG 24 rfl (by kernel_rfl) rfl rfl rfl (fun _ => hs.to) (fun _ => (E.not rfl).isB (c := !(decide (0 < I.length))) rfl) ?_
      refine D.evPG 25 rfl (by kernel_rfl) rfl rfl rfl (fun _ => hs.to) (fun _ => E.move rfl) ?_
      refine D.split 109 rfl (fun h109 => ?_) (fun h109 => ?_)
      · refine D.evPG 27 rfl (by kernel_rfl) rfl rfl rfl (fun _ => hs.to) (fun _ => (E.buildA rfl Try.underlying37 Try.zr37 Try.sz5 rfl).as (u := .agg (encV vz).toArray) (by rfl)) ?_
        refine D.evG 26 rfl (by kernel_rfl) rfl rfl rfl hs.to (fun _ hS => E.loadRowC rfl Try.underlying37 rfl Try.sz37 (by first | exact ⟨hS.ldA, by first | rfl | assumption | exact encV_len _ | exact Enc.len _ | exact len_ub (by assumption)⟩ | exact ⟨hS.ldP rfl, by first | rfl | assumption | exact encV_len _ | exact Enc.len _ | exact len_ub (by assumption)⟩ | exact ⟨hS.ldM rfl rfl, by first | rfl | assumption | exact encV_len _ | exact Enc.len _ | exact len_ub (by assumption)⟩ | exact ⟨hS.ldM (by assumption) (by first | rfl | assumption), by first | rfl | assumption | exact encV_len _ | exact Enc.len _ | exact len_ub (by assumption)⟩ | exact ⟨by assumption, by first | rfl | assumption | exact encV_len _ | exact Enc.len _ | exact len_ub (by assumption)⟩ | exact ⟨(by assumption : ∀ w', Sat _ w' _ → At w' _ _ _) _ hS, by first | rfl | assumption | exact encV_len _ | exact Enc.len _ | exact len_ub (by assumption)⟩ | exact hS.ldp | exact At.partC (by assumption) | exact At.partC ((by assumption : ∀ w', Sat _ w' _ → At w' _ _ _) _ hS))) ?_
        first | refine D.evPG 28 rfl (by kernel_rfl) rfl rfl rfl (fun _ => hs.to) (fun _ => (E.neV 10 rfl rfl Try.lv37 rfl Try.underlying37 rfl Try.gd37).isF (fun h => h (by rw [hen0 (by simpa using h109)]))) ?_ | refine D.evPG 28 rfl (by kernel_rfl) rfl rfl rfl (fun _ => hs.to) (fun _ => (E.neId 10 32 rfl rfl Try.lv37 rfl Try.underlying37 rfl Try.gd37 (by assumption) (by assumption)).isF (fun h => h (by rw [hen0 (by simpa using h109)]))) ?_
        refine D.evPG 29 rfl (by kernel_rfl) rfl rfl rfl (fun _ => hs.to) (fun _ => E.pickT rfl rfl) ?_
        refine D.evP 30 rfl (by kernel_rfl) rfl (fun _ => hs.to) (fun _ => E.pickF rfl rfl) ?_
        refine D.done rfl (by kernel_rfl) ?_
        refine X.keep [(3, _), (5, _), (6, _), (8, _), (11, _), (114, _)] ⟨rfl, rfl, rfl, rfl, rfl, rfl, trivial⟩ ?_
        refine X.next ?_
        refine C.cfalse rfl ?_
        refine C.skip ?_
        refine X.next ?_
        refine C.seq ?_
        refine C.region ?_
        refine R.ev rfl (E.move rfl) ?_
        refine R.ev rfl (E.loadRowC rfl Try.underlying23 rfl Try.sz23 (by first | exact ⟨hs.ldA, by first | rfl | assumption | exact encV_len _ | exact Enc.len _ | exact len_ub (by assumption)⟩ | exact ⟨hs.ldP rfl, by first | rfl | assumption | exact encV_len _ | exact Enc.len _ | exact len_ub (by assumption)⟩ | exact ⟨hs.ldM rfl rfl, by first | rfl | assumption | exact encV_len _ | exact Enc.len _ | exact len_ub (by assumption)⟩ | exact ⟨hs.ldM (by assumption) (by first | rfl | assumption), by first | rfl | assumption | exact encV_len _ | exact Enc.len _ | exact len_ub (by assumption)⟩ | exact ⟨by assumption, by first | rfl | assumption | exact encV_len _ | exact Enc.len _ | exact len_ub (by assumption)⟩ | exact hs.ldp | exact At.partC (by assumption))) ?_
        refine R.call ⟨_, _, Try.func32, rfl, by kernel_rfl⟩ rfl rfl (has_any (p := p) a hs) ?_
        rintro _ w14 ⟨rfl, hs⟩
        rw [hI.has, hasId_iff.2 (List.mem_map.2 ⟨x, mx, hxa⟩)]
        refine R.ev rfl (E.move rfl) ?_
        refine R.gyes rfl rfl ?_
        refine R.ev rfl (E.move rfl) ?_
        refine R.gyes rfl rfl ?_
        refine R.ev rfl (E.loadRowC rfl Try.underlying23 rfl Try.sz23 (by first | exact ⟨hs.ldA, by first | rfl | assumption | exact encV_len _ | exact Enc.len _ | exact len_ub (by assumption)⟩ | exact ⟨hs.ldP rfl, by first | rfl | assumption | exact encV_len _ | exact Enc.len _ | exact len_ub (by assumption)⟩ | exact ⟨hs.ldM rfl rfl, by first | rfl | assumption | exact encV_len _ | exact Enc.len _ | exact len_ub (by assumption)⟩ | exact ⟨hs.ldM (by assumption) (by first | rfl | assumption), by first | rfl | assumption | exact encV_len _ | exact Enc.len _ | exact len_ub (by assumption)⟩ | exact ⟨by assumption, by first | rfl | assumption | exact encV_len _ | exact Enc.len _ | exact len_ub (by assumption)⟩ | exact hs.ldp | exact At.partC (by assumption))) ?_
        refine R.gyes rfl rfl ?_
        refine R.call ⟨_, _, Try.func27, rfl, by kernel_rfl⟩ rfl rfl (isWd_any (p := p) a hI hG hs) ?_
        rintro _ w146 ⟨rfl, hs⟩
        rw [wdId, findR hI.nd mx hxa]
        refine R.gyes rfl rfl ?_
        refine R.ev rfl (E.move rfl) ?_
        refine R.gyes rfl rfl ?_
        refine R.ev rfl (E.move rfl) ?_
        refine R.gyes rfl rfl ?_
        refine R.call ⟨_, _, Try.func39, rfl, by kernel_rfl⟩ rfl rfl (isEnd_any (L := L) hs hx (by omega)) ?_
        rintro _ w149 ⟨rfl, hs⟩
        refine R.gyes rfl rfl ?_
        refine R.ev rfl ((E.not rfl).isB (c := wd L x) (by simp)) ?_
        refine R.gyes rfl rfl ?_
        refine R.ev rfl ((E.eqlB rfl rfl Try.underlying4).isB (c := true) (by simp)) ?_
        refine R.ev rfl (E.pickT rfl rfl) ?_
        refine R.ev rfl (E.move rfl) ?_
        refine R.gyes rfl rfl ?_
        refine R.ev rfl (E.move rfl) ?_
        refine R.gyes rfl rfl ?_
        refine R.ev rfl (E.loadRowC rfl Try.underlying23 rfl Try.sz23 (by first | exact ⟨hs.ldA, by first | rfl | assumption | exact encV_len _ | exact Enc.len _ | exact len_ub (by assumption)⟩ | exact ⟨hs.ldP rfl, by first | rfl | assumption | exact encV_len _ | exact Enc.len _ | exact len_ub (by assumption)⟩ | exact ⟨hs.ldM rfl rfl, by first | rfl | assumption | exact encV_len _ | exact Enc.len _ | exact len_ub (by assumption)⟩ | exact ⟨hs.ldM (by assumption) (by first | rfl | assumption), by first | rfl | assumption | exact encV_len _ | exact Enc.len _ | exact len_ub (by assumption)⟩ | exact ⟨by assumption, by first | rfl | assumption | exact encV_len _ | exact Enc.len _ | exact len_ub (by assumption)⟩ | exact hs.ldp | exact At.partC (by assumption))) ?_
        refine R.gyes rfl rfl ?_
        refine R.call ⟨_, _, Try.func33, rfl, by kernel_rfl⟩ rfl rfl (path_any (p := p) (a := a) hI hG (by omega) hs) ?_
        rintro v1416 w1416 ⟨K6, I6, hk6, r6, hP6, hs⟩
        obtain rfl := hP6.uniq hI.nd hPI
        have o6 : OneC v1416 := ⟨KRow.oneC' r6⟩
        have hG := hG.mono hk6
        have r36 : KRow encR 82 K6 (.slice ad3 L.length cap3) L := KRow.mono (k := hk6) (h := r3)
        have rJ6 : KRow encN 1 K6 (.slice adJ J.length capJ) J := KRow.mono (k := hk6) (h := rJ)
        refine R.gyes rfl rfl ?_
        refine R.ev rfl (E.move rfl) ?_
        refine R.gyes rfl rfl ?_
        refine R.ev rfl (E.move rfl) ?_
        refine R.gyes rfl rfl ?_
        refine R.call ⟨_, _, Try.func40, rfl, by kernel_rfl⟩ rfl rfl (pick_any (L := L) (J := J) hJ (by omega) hs (by omega)) ?_
        rintro v1419 w1419 ⟨F7, r7, hs⟩
        have o7 : OneC v1419 := ⟨RowL.oneC⟩
        refine R.gyes rfl rfl ?_
        refine R.call ⟨_, _, Try.func24, rfl, by kernel_rfl⟩ rfl rfl (same_any (L := (rowsOf L J).map RR.id) (M := (rowsOf L J).map RR.id) hs (by simp [rowsOf]; omega)) ?_
        rintro _ w1420 ⟨rfl, hs⟩
        rw [decide_eq_true rfl]
        refine R.ev rfl (E.pickT rfl rfl) ?_
        refine R.ev rfl (E.move rfl) ?_
        refine R.gyes rfl rfl ?_
        refine R.ev rfl (E.move rfl) ?_
        refine R.gyes rfl rfl ?_
        refine R.ev rfl (E.loadRowC rfl Try.underlying23 rfl Try.sz23 (by first | exact ⟨hs.ldA, by first | rfl | assumption | exact encV_len _ | exact Enc.len _ | exact len_ub (by assumption)⟩ | exact ⟨hs.ldP rfl, by first | rfl | assumption | exact encV_len _ | exact Enc.len _ | exact len_ub (by assumption)⟩ | exact ⟨hs.ldM rfl rfl, by first | rfl | assumption | exact encV_len _ | exact Enc.len _ | exact len_ub (by assumption)⟩ | exact ⟨hs.ldM (by assumption) (by first | rfl | assumption), by first | rfl | assumption | exact encV_len _ | exact Enc.len _ | exact len_ub (by assumption)⟩ | exact ⟨by assumption, by first | rfl | assumption | exact encV_len _ | exact Enc.len _ | exact len_ub (by assumption)⟩ | exact hs.ldp | exact At.partC (by assumption))) ?_
        refine R.gyes rfl rfl ?_
        refine R.call ⟨_, _, Try.func35, rfl, by kernel_rfl⟩ rfl rfl (succs_any (p := p) (a := a) hI hG (by omega) hs) ?_
        rintro v1425 w1425 ⟨K8, I8, hk8, r8, hP8, hs⟩
        have o8 : OneC v1425 := ⟨KRow.oneC' r8⟩
        have r38 : KRow encR 82 K8 (.slice ad3 L.length cap3) L := KRow.mono (k := hk8) (h := r36)
        refine R.gyes rfl rfl ?_
        refine R.ev rfl (E.move rfl) ?_
        refine R.gyes rfl rfl ?_
        refine R.ev rfl (E.move rfl) ?_
        refine R.gyes rfl rfl ?_
        refine R.ev rfl (E.move rfl) ?_
        refine R.gyes rfl rfl ?_
        refine R.call ⟨_, _, Try.func41, rfl, by kernel_rfl⟩ rfl rfl (rsucc_any (L := L) hI.nd hx hs (by omega)) ?_
        rintro v1429 w1429 ⟨K9, J9, hk9, r9, hJ9, hss9, hm9, hs⟩
        have o9 : OneC v1429 := ⟨KRow.oneC' r9⟩
        have r39 : KRow encR 82 K9 (.slice ad3 L.length cap3) L := KRow.mono (k := hk9) (h := r38)
        have r89 : KRow encV 32 K9 v1425 I8 := KRow.mono (k := hk9) (h := r8)
        have hJl9 : J9.length ≤ 30 := by
          have h1 := nodup_len (hss9.nodup ltB_swo) (m := L) (fun u hu => succs_sub ((hm9 u).1 hu))
          simp [rowsOf] at h1; omega
        obtain rfl : I8 = (rowsOf L J9).map RR.id := hP8.uniq hI.nd (.inr ⟨x, mx, hxa, _, hss9, hm9, rfl⟩)
        refine R.gyes rfl rfl ?_
        refine R.call ⟨_, _, Try.func40, rfl, by kernel_rfl⟩ rfl rfl (pick_any (L := L) (J := J9) hJ9 (by omega) hs (by omega)) ?_
        rintro v1430 w1430 ⟨F10, r10, hs⟩
        have o10 : OneC v1430 := ⟨RowL.oneC⟩
        refine R.gyes rfl rfl ?_
        refine R.call ⟨_, _, Try.func24, rfl, by kernel_rfl⟩ rfl rfl (same_any (L := (rowsOf L J9).map RR.id) (M := (rowsOf L J9).map RR.id) hs (by simp [rowsOf]; omega)) ?_
        rintro _ w1431 ⟨rfl, hs⟩
        rw [decide_eq_true rfl]
        refine R.ev rfl (E.pickT rfl rfl) ?_
        refine R.ev rfl (E.assign rfl) ?_
        refine R.done ?_
        refine X.keep [(4, _)] ⟨rfl, trivial⟩ ?_
        refine X.next ?_
        refine C.ret ?_
        refine X.ret1 rfl rfl ?_
        exact ⟨rfl, (hs.less (((((hk3.trans hk4).trans hk5).trans hk6).trans hk8).trans hk9).le).mod⟩
      · refine D.skipP 27 rfl (by kernel_rfl) rfl rfl rfl (fun _ => hs.to) ?_
        refine D.skip 26 rfl (by kernel_rfl) rfl rfl rfl hs.to ?_
        refine D.skipP 28 rfl (by kernel_rfl) rfl rfl rfl (fun _ => hs.to) ?_
        refine D.evPG 29 rfl (by kernel_rfl) rfl rfl rfl (fun _ => hs.to) (fun _ => E.pickF rfl rfl) ?_
        refine D.evP 30 rfl (by kernel_rfl) rfl (fun _ => hs.to) (fun _ => E.pickF rfl rfl) ?_
        refine D.done rfl (by kernel_rfl) ?_
        refine X.keep [(3, _), (5, _), (6, _), (8, _), (11, _), (114, _)] ⟨rfl, rfl, rfl, rfl, rfl, rfl, trivial⟩ ?_
        refine X.next ?_
        refine C.cfalse rfl ?_
        refine C.skip ?_
        refine X.next ?_
        refine C.seq ?_
        refine C.region ?_
        refine R.ev rfl (E.move rfl) ?_
        refine R.ev rfl (E.loadRowC rfl Try.underlying23 rfl Try.sz23 (by first | exact ⟨hs.ldA, by first | rfl | assumption | exact encV_len _ | exact Enc.len _ | exact len_ub (by assumption)⟩ | exact ⟨hs.ldP rfl, by first | rfl | assumption | exact encV_len _ | exact Enc.len _ | exact len_ub (by assumption)⟩ | exact ⟨hs.ldM rfl rfl, by first | rfl | assumption | exact encV_len _ | exact Enc.len _ | exact len_ub (by assumption)⟩ | exact ⟨hs.ldM (by assumption) (by first | rfl | assumption), by first | rfl | assumption | exact encV_len _ | exact Enc.len _ | exact len_ub (by assumption)⟩ | exact ⟨by assumption, by first | rfl | assumption | exact encV_len _ | exact Enc.len _ | exact len_ub (by assumption)⟩ | exact hs.ldp | exact At.partC (by assumption))) ?_
        refine R.call ⟨_, _, Try.func32, rfl, by kernel_rfl⟩ rfl rfl (has_any (p := p) a hs) ?_
        rintro _ w14 ⟨rfl, hs⟩
        rw [hI.has, hasId_iff.2 (List.mem_map.2 ⟨x, mx, hxa⟩)]
        refine R.ev rfl (E.move rfl) ?_
        refine R.gyes rfl rfl ?_
        refine R.ev rfl (E.move rfl) ?_
        refine R.gyes rfl rfl ?_
        refine R.ev rfl (E.loadRowC rfl Try.underlying23 rfl Try.sz23 (by first | exact ⟨hs.ldA, by first | rfl | assumption | exact encV_len _ | exact Enc.len _ | exact len_ub (by assumption)⟩ | exact ⟨hs.ldP rfl, by first | rfl | assumption | exact encV_len _ | exact Enc.len _ | exact len_ub (by assumption)⟩ | exact ⟨hs.ldM rfl rfl, by first | rfl | assumption | exact encV_len _ | exact Enc.len _ | exact len_ub (by assumption)⟩ | exact ⟨hs.ldM (by assumption) (by first | rfl | assumption), by first | rfl | assumption | exact encV_len _ | exact Enc.len _ | exact len_ub (by assumption)⟩ | exact ⟨by assumption, by first | rfl | assumption | exact encV_len _ | exact Enc.len _ | exact len_ub (by assumption)⟩ | exact hs.ldp | exact At.partC (by assumption))) ?_
        refine R.gyes rfl rfl ?_
        refine R.call ⟨_, _, Try.func27, rfl, by kernel_rfl⟩ rfl rfl (isWd_any (p := p) a hI hG hs) ?_
        rintro _ w146 ⟨rfl, hs⟩
        rw [wdId, findR hI.nd mx hxa]
        refine R.gyes rfl rfl ?_
        refine R.ev rfl (E.move rfl) ?_
        refine R.gyes rfl rfl ?_
        refine R.ev rfl (E.move rfl) ?_
        refine R.gyes rfl rfl ?_
        refine R.call ⟨_, _, Try.func39, rfl, by kernel_rfl⟩ rfl rfl (isEnd_any (L := L) hs hx (by omega)) ?_
        rintro _ w149 ⟨rfl, hs⟩
        refine R.gyes rfl rfl ?_
        refine R.ev rfl ((E.not rfl).isB (c := wd L x) (by simp)) ?_
        refine R.gyes rfl rfl ?_
        refine R.ev rfl ((E.eqlB rfl rfl Try.underlying4).isB (c := true) (by simp)) ?_
        refine R.ev rfl (E.pickT rfl rfl) ?_
        refine R.ev rfl (E.move rfl) ?_
        refine R.gyes rfl rfl ?_
        refine R.ev rfl (E.move rfl) ?_
        refine R.gyes rfl rfl ?_
        refine R.ev rfl (E.loadRowC rfl Try.underlying23 rfl Try.sz23 (by first | exact ⟨hs.ldA, by first | rfl | assumption | exact encV_len _ | exact Enc.len _ | exact len_ub (by assumption)⟩ | exact ⟨hs.ldP rfl, by first | rfl | assumption | exact encV_len _ | exact Enc.len _ | exact len_ub (by assumption)⟩ | exact ⟨hs.ldM rfl rfl, by first | rfl | assumption | exact encV_len _ | exact Enc.len _ | exact len_ub (by assumption)⟩ | exact ⟨hs.ldM (by assumption) (by first | rfl | assumption), by first | rfl | assumption | exact encV_len _ | exact Enc.len _ | exact len_ub (by assumption)⟩ | exact ⟨by assumption, by first | rfl | assumption | exact encV_len _ | exact Enc.len _ | exact len_ub (by assumption)⟩ | exact hs.ldp | exact At.partC (by assumption))) ?_
        refine R.gyes rfl rfl ?_
        refine R.call ⟨_, _, Try.func33, rfl, by kernel_rfl⟩ rfl rfl (path_any (p := p) (a := a) hI hG (by omega) hs) ?_
        rintro v1416 w1416 ⟨K6, I6, hk6, r6, hP6, hs⟩
        obtain rfl := hP6.uniq hI.nd hPI
        have o6 : OneC v1416 := ⟨KRow.oneC' r6⟩
        have hG := hG.mono hk6
        have r36 : KRow encR 82 K6 (.slice ad3 L.length cap3) L := KRow.mono (k := hk6) (h := r3)
        have rJ6 : KRow encN 1 K6 (.slice adJ J.length capJ) J := KRow.mono (k := hk6) (h := rJ)
        refine R.gyes rfl rfl ?_
        refine R.ev rfl (E.move rfl) ?_
        refine R.gyes rfl rfl ?_
        refine R.ev rfl (E.move rfl) ?_
        refine R.gyes rfl rfl ?_
        refine R.call ⟨_, _, Try.func40, rfl, by kernel_rfl⟩ rfl rfl (pick_any (L := L) (J := J) hJ (by omega) hs (by omega)) ?_
        rintro v1419 w1419 ⟨F7, r7, hs⟩
        have o7 : OneC v1419 := ⟨RowL.oneC⟩
        refine R.gyes rfl rfl ?_
        refine R.call ⟨_, _, Try.func24, rfl, by kernel_rfl⟩ rfl rfl (same_any (L := (rowsOf L J).map RR.id) (M := (rowsOf L J).map RR.id) hs (by simp [rowsOf]; omega)) ?_
        rintro _ w1420 ⟨rfl, hs⟩
        rw [decide_eq_true rfl]
        refine R.ev rfl (E.pickT rfl rfl) ?_
        refine R.ev rfl (E.move rfl) ?_
        refine R.gyes rfl rfl ?_
        refine R.ev rfl (E.move rfl) ?_
        refine R.gyes rfl rfl ?_
        refine R.ev rfl (E.loadRowC rfl Try.underlying23 rfl Try.sz23 (by first | exact ⟨hs.ldA, by first | rfl | assumption | exact encV_len _ | exact Enc.len _ | exact len_ub (by assumption)⟩ | exact ⟨hs.ldP rfl, by first | rfl | assumption | exact encV_len _ | exact Enc.len _ | exact len_ub (by assumption)⟩ | exact ⟨hs.ldM rfl rfl, by first | rfl | assumption | exact encV_len _ | exact Enc.len _ | exact len_ub (by assumption)⟩ | exact ⟨hs.ldM (by assumption) (by first | rfl | assumption), by first | rfl | assumption | exact encV_len _ | exact Enc.len _ | exact len_ub (by assumption)⟩ | exact ⟨by assumption, by first | rfl | assumption | exact encV_len _ | exact Enc.len _ | exact len_ub (by assumption)⟩ | exact hs.ldp | exact At.partC (by assumption))) ?_
        refine R.gyes rfl rfl ?_
        refine R.call ⟨_, _, Try.func35, rfl, by kernel_rfl⟩ rfl rfl (succs_any (p := p) (a := a) hI hG (by omega) hs) ?_
        rintro v1425 w1425 ⟨K8, I8, hk8, r8, hP8, hs⟩
        have o8 : OneC v1425 := ⟨KRow.oneC' r8⟩
        have r38 : KRow encR 82 K8 (.slice ad3 L.length cap3) L := KRow.mono (k := hk8) (h := r36)
        refine R.gyes rfl rfl ?_
        refine R.ev rfl (E.move rfl) ?_
        refine R.gyes rfl rfl ?_
        refine R.ev rfl (E.move rfl) ?_
        refine R.gyes rfl rfl ?_
        refine R.ev rfl (E.move rfl) ?_
        refine R.gyes rfl rfl ?_
        refine R.call ⟨_, _, Try.func41, rfl, by kernel_rfl⟩ rfl rfl (rsucc_any (L := L) hI.nd hx hs (by omega)) ?_
        rintro v1429 w1429 ⟨K9, J9, hk9, r9, hJ9, hss9, hm9, hs⟩
        have o9 : OneC v1429 := ⟨KRow.oneC' r9⟩
        have r39 : KRow encR 82 K9 (.slice ad3 L.length cap3) L := KRow.mono (k := hk9) (h := r38)
        have r89 : KRow encV 32 K9 v1425 I8 := KRow.mono (k := hk9) (h := r8)
        have hJl9 : J9.length ≤ 30 := by
          have h1 := nodup_len (hss9.nodup ltB_swo) (m := L) (fun u hu => succs_sub ((hm9 u).1 hu))
          simp [rowsOf] at h1; omega
        obtain rfl : I8 = (rowsOf L J9).map RR.id := hP8.uniq hI.nd (.inr ⟨x, mx, hxa, _, hss9, hm9, rfl⟩)
        refine R.gyes rfl rfl ?_
        refine R.call ⟨_, _, Try.func40, rfl, by kernel_rfl⟩ rfl rfl (pick_any (L := L) (J := J9) hJ9 (by omega) hs (by omega)) ?_
        rintro v1430 w1430 ⟨F10, r10, hs⟩
        have o10 : OneC v1430 := ⟨RowL.oneC⟩
        refine R.gyes rfl rfl ?_
        refine R.call ⟨_, _, Try.func24, rfl, by kernel_rfl⟩ rfl rfl (same_any (L := (rowsOf L J9).map RR.id) (M := (rowsOf L J9).map RR.id) hs (by simp [rowsOf]; omega)) ?_
        rintro _ w1431 ⟨rfl, hs⟩
        rw [decide_eq_true rfl]
        refine R.ev rfl (E.pickT rfl rfl) ?_
        refine R.ev rfl (E.assign rfl) ?_
        refine R.done ?_
        refine X.keep [(4, _)] ⟨rfl, trivial⟩ ?_
        refine X.next ?_
        refine C.ret ?_
        refine X.ret1 rfl rfl ?_
        exact ⟨rfl, (hs.less (((((hk3.trans hk4).trans hk5).trans hk6).trans hk8).trans hk9).le).mod⟩
    · refine D.skipP 9 rfl (by kernel_rfl) rfl rfl rfl (fun _ => hs.to) ?_
      refine D.skipP 10 rfl (by kernel_rfl) rfl rfl rfl (fun _ => hs.to) ?_
      refine D.skipP 11 rfl (by kernel_rfl) rfl rfl rfl (fun _ => hs.to) ?_
      refine D.skipP 12 rfl (by kernel_rfl) rfl rfl rfl (fun _ => hs.to) ?_
      refine D.skipP 13 rfl (by kernel_rfl) rfl rfl rfl (fun _ => hs.to) ?_
      refine D.skipP 14 rfl (by kernel_rfl) rfl rfl rfl (fun _ => hs.to) ?_
      refine D.skip 8 rfl (by kernel_rfl) rfl rfl rfl hs.to ?_
      refine D.skip 15 rfl (by kernel_rfl) rfl rfl rfl hs.to ?_
      refine D.skipP 16 rfl (by kernel_rfl) rfl rfl rfl (fun _ => hs.to) ?_
      refine D.skipP 17 rfl (by kernel_rfl) rfl rfl rfl (fun _ => hs.to) ?_
      refine D.skip 18 rfl (by kernel_rfl) rfl rfl rfl hs.to ?_
      refine D.skipP 19 rfl (by kernel_rfl) rfl rfl rfl (fun _ => hs.to) ?_
      refine D.evPG 20 rfl (by kernel_rfl) rfl rfl rfl (fun _ => hs.to) (fun _ => E.pickF rfl rfl) ?_
      refine D.evP 21 rfl (by kernel_rfl) rfl (fun _ => hs.to) (fun _ => E.pickF rfl rfl) ?_
      refine D.evP 22 rfl (by kernel_rfl) rfl (fun _ => hs.to) (fun _ => E.move rfl) ?_
      refine D.evPG 23 rfl (by kernel_rfl) rfl rfl rfl (fun _ => hs.to) (fun _ => E.move rfl) ?_
      refine D.evPG 24 rfl (by kernel_rfl) rfl rfl rfl (fun _ => hs.to) (fun _ => (E.not rfl).isB (c := !(decide (0 < I.length))) rfl) ?_
      refine D.evPG 25 rfl (by kernel_rfl) rfl rfl rfl (fun _ => hs.to) (fun _ => E.move rfl) ?_
      refine D.split 109 rfl (fun h109 => ?_) (fun h109 => ?_)
      · refine D.evPG 27 rfl (by kernel_rfl) rfl rfl rfl (fun _ => hs.to) (fun _ => (E.buildA rfl Try.underlying37 Try.zr37 Try.sz5 rfl).as (u := .agg (encV vz).toArray) (by rfl)) ?_
        refine D.evG 26 rfl (by kernel_rfl) rfl rfl rfl hs.to (fun _ hS => E.loadRowC rfl Try.underlying37 rfl Try.sz37 (by first | exact ⟨hS.ldA, by first | rfl | assumption | exact encV_len _ | exact Enc.len _ | exact len_ub (by assumption)⟩ | exact ⟨hS.ldP rfl, by first | rfl | assumption | exact encV_len _ | exact Enc.len _ | exact len_ub (by assumption)⟩ | exact ⟨hS.ldM rfl rfl, by first | rfl | assumption | exact encV_len _ | exact Enc.len _ | exact len_ub (by assumption)⟩ | exact ⟨hS.ldM (by assumption) (by first | rfl | assumption), by first | rfl | assumption | exact encV_len _ | exact Enc.len _ | exact len_ub (by assumption)⟩ | exact ⟨by assumption, by first | rfl | assumption | exact encV_len _ | exact Enc.len _ | exact len_ub (by assumption)⟩ | exact ⟨(by assumption : ∀ w', Sat _ w' _ → At w' _ _ _) _ hS, by first | rfl | assumption | exact encV_len _ | exact Enc.len _ | exact len_ub (by assumption)⟩ | exact hS.ldp | exact At.partC (by assumption) | exact At.partC ((by assumption : ∀ w', Sat _ w' _ → At w' _ _ _) _ hS))) ?_
        first | refine D.evPG 28 rfl (by kernel_rfl) rfl rfl rfl (fun _ => hs.to) (fun _ => (E.neV 10 rfl rfl Try.lv37 rfl Try.underlying37 rfl Try.gd37).isF (fun h => h (by rw [hen0 (by simpa using h109)]))) ?_ | refine D.evPG 28 rfl (by kernel_rfl) rfl rfl rfl (fun _ => hs.to) (fun _ => (E.neId 10 32 rfl rfl Try.lv37 rfl Try.underlying37 rfl Try.gd37 (by assumption) (by assumption)).isF (fun h => h (by rw [hen0 (by simpa using h109)]))) ?_
        refine D.evPG 29 rfl (by kernel_rfl) rfl rfl rfl (fun _ => hs.to) (fun _ => E.pickT rfl rfl) ?_
        refine D.evP 30 rfl (by kernel_rfl) rfl (fun _ => hs.to) (fun _ => E.pickF rfl rfl) ?_
        refine D.done rfl (by kernel_rfl) ?_
        refine X.keep [(3, _), (5, _), (6, _), (8, _), (11, _), (114, _)] ⟨rfl, rfl, rfl, rfl, rfl, rfl, trivial⟩ ?_
        refine X.next ?_
        refine C.cfalse rfl ?_
        refine C.skip ?_
        refine X.next ?_
        refine C.seq ?_
        refine C.region ?_
        refine R.ev rfl (E.move rfl) ?_
        refine R.ev rfl (E.loadRowC rfl Try.underlying23 rfl Try.sz23 (by first | exact ⟨hs.ldA, by first | rfl | assumption | exact encV_len _ | exact Enc.len _ | exact len_ub (by assumption)⟩ | exact ⟨hs.ldP rfl, by first | rfl | assumption | exact encV_len _ | exact Enc.len _ | exact len_ub (by assumption)⟩ | exact ⟨hs.ldM rfl rfl, by first | rfl | assumption | exact encV_len _ | exact Enc.len _ | exact len_ub (by assumption)⟩ | exact ⟨hs.ldM (by assumption) (by first | rfl | assumption), by first | rfl | assumption | exact encV_len _ | exact Enc.len _ | exact len_ub (by assumption)⟩ | exact ⟨by assumption, by first | rfl | assumption | exact encV_len _ | exact Enc.len _ | exact len_ub (by assumption)⟩ | exact hs.ldp | exact At.partC (by assumption))) ?_
        refine R.call ⟨_, _, Try.func32, rfl, by kernel_rfl⟩ rfl rfl (has_any (p := p) a hs) ?_
        rintro _ w14 ⟨rfl, hs⟩
        rw [hI.has, hasId_iff.2 (List.mem_map.2 ⟨x, mx, hxa⟩)]
        refine R.ev rfl (E.move rfl) ?_
        refine R.gyes rfl rfl ?_
        refine R.ev rfl (E.move rfl) ?_
        refine R.gyes rfl rfl ?_
        refine R.ev rfl (E.loadRowC rfl Try.underlying23 rfl Try.sz23 (by first | exact ⟨hs.ldA, by first | rfl | assumption | exact encV_len _ | exact Enc.len _ | exact len_ub (by assumption)⟩ | exact ⟨hs.ldP rfl, by first | rfl | assumption | exact encV_len _ | exact Enc.len _ | exact len_ub (by assumption)⟩ | exact ⟨hs.ldM rfl rfl, by first | rfl | assumption | exact encV_len _ | exact Enc.len _ | exact len_ub (by assumption)⟩ | exact ⟨hs.ldM (by assumption) (by first | rfl | assumption), by first | rfl | assumption | exact encV_len _ | exact Enc.len _ | exact len_ub (by assumption)⟩ | exact ⟨by assumption, by first | rfl | assumption | exact encV_len _ | exact Enc.len _ | exact len_ub (by assumption)⟩ | exact hs.ldp | exact At.partC (by assumption))) ?_
        refine R.gyes rfl rfl ?_
        refine R.call ⟨_, _, Try.func27, rfl, by kernel_rfl⟩ rfl rfl (isWd_any (p := p) a hI hG hs) ?_
        rintro _ w146 ⟨rfl, hs⟩
        rw [wdId, findR hI.nd mx hxa]
        refine R.gyes rfl rfl ?_
        refine R.ev rfl (E.move rfl) ?_
        refine R.gyes rfl rfl ?_
        refine R.ev rfl (E.move rfl) ?_
        refine R.gyes rfl rfl ?_
        refine R.call ⟨_, _, Try.func39, rfl, by kernel_rfl⟩ rfl rfl (isEnd_any (L := L) hs hx (by omega)) ?_
        rintro _ w149 ⟨rfl, hs⟩
        refine R.gyes rfl rfl ?_
        refine R.ev rfl ((E.not rfl).isB (c := wd L x) (by simp)) ?_
        refine R.gyes rfl rfl ?_
        refine R.ev rfl ((E.eqlB rfl rfl Try.underlying4).isB (c := true) (by simp)) ?_
        refine R.ev rfl (E.pickT rfl rfl) ?_
        refine R.ev rfl (E.move rfl) ?_
        refine R.gyes rfl rfl ?_
        refine R.ev rfl (E.move rfl) ?_
        refine R.gyes rfl rfl ?_
        refine R.ev rfl (E.loadRowC rfl Try.underlying23 rfl Try.sz23 (by first | exact ⟨hs.ldA, by first | rfl | assumption | exact encV_len _ | exact Enc.len _ | exact len_ub (by assumption)⟩ | exact ⟨hs.ldP rfl, by first | rfl | assumption | exact encV_len _ | exact Enc.len _ | exact len_ub (by assumption)⟩ | exact ⟨hs.ldM rfl rfl, by first | rfl | assumption | exact encV_len _ | exact Enc.len _ | exact len_ub (by assumption)⟩ | exact ⟨hs.ldM (by assumption) (by first | rfl | assumption), by first | rfl | assumption | exact encV_len _ | exact Enc.len _ | exact len_ub (by assumption)⟩ | exact ⟨by assumption, by first | rfl | assumption | exact encV_len _ | exact Enc.len _ | exact len_ub (by assumption)⟩ | exact hs.ldp | exact At.partC (by assumption))) ?_
        refine R.gyes rfl rfl ?_
        refine R.call ⟨_, _, Try.func33, rfl, by kernel_rfl⟩ rfl rfl (path_any (p := p) (a := a) hI hG (by omega) hs) ?_
        rintro v1416 w1416 ⟨K6, I6, hk6, r6, hP6, hs⟩
        obtain rfl := hP6.uniq hI.nd hPI
        have o6 : OneC v1416 := ⟨KRow.oneC' r6⟩
        have hG := hG.mono hk6
        have r36 : KRow encR 82 K6 (.slice ad3 L.length cap3) L := KRow.mono (k := hk6) (h := r3)
        have rJ6 : KRow encN 1 K6 (.slice adJ J.length capJ) J := KRow.mono (k := hk6) (h := rJ)
        refine R.gyes rfl rfl ?_
        refine R.ev rfl (E.move rfl) ?_
        refine R.gyes rfl rfl ?_
        refine R.ev rfl (E.move rfl) ?_
        refine R.gyes rfl rfl ?_
        refine R.call ⟨_, _, Try.func40, rfl, by kernel_rfl⟩ rfl rfl (pick_any (L := L) (J := J) hJ (by omega) hs (by omega)) ?_
        rintro v1419 w1419 ⟨F7, r7, hs⟩
        have o7 : OneC v1419 := ⟨RowL.oneC⟩
        refine R.gyes rfl rfl ?_
        refine R.call ⟨_, _, Try.func24, rfl, by kernel_rfl⟩ rfl rfl (same_any (L := (rowsOf L J).map RR.id) (M := (rowsOf L J).map RR.id) hs (by simp [rowsOf]; omega)) ?_
        rintro _ w1420 ⟨rfl, hs⟩
        rw [decide_eq_true rfl]
        refine R.ev rfl (E.pickT rfl rfl) ?_
        refine R.ev rfl (E.move rfl) ?_
        refine R.gyes rfl rfl ?_
        refine R.ev rfl (E.move rfl) ?_
        refine R.gyes rfl rfl ?_
        refine R.ev rfl (E.loadRowC rfl Try.underlying23 rfl Try.sz23 (by first | exact ⟨hs.ldA, by first | rfl | assumption | exact encV_len _ | exact Enc.len _ | exact len_ub (by assumption)⟩ | exact ⟨hs.ldP rfl, by first | rfl | assumption | exact encV_len _ | exact Enc.len _ | exact len_ub (by assumption)⟩ | exact ⟨hs.ldM rfl rfl, by first | rfl | assumption | exact encV_len _ | exact Enc.len _ | exact len_ub (by assumption)⟩ | exact ⟨hs.ldM (by assumption) (by first | rfl | assumption), by first | rfl | assumption | exact encV_len _ | exact Enc.len _ | exact len_ub (by assumption)⟩ | exact ⟨by assumption, by first | rfl | assumption | exact encV_len _ | exact Enc.len _ | exact len_ub (by assumption)⟩ | exact hs.ldp | exact At.partC (by assumption))) ?_
        refine R.gyes rfl rfl ?_
        refine R.call ⟨_, _, Try.func35, rfl, by kernel_rfl⟩ rfl rfl (succs_any (p := p) (a := a) hI hG (by omega) hs) ?_
        rintro v1425 w1425 ⟨K8, I8, hk8, r8, hP8, hs⟩
        have o8 : OneC v1425 := ⟨KRow.oneC' r8⟩
        have r38 : KRow encR 82 K8 (.slice ad3 L.length cap3) L := KRow.mono (k := hk8) (h := r36)
        refine R.gyes rfl rfl ?_
        refine R.ev rfl (E.move rfl) ?_
        refine R.gyes rfl rfl ?_
        refine R.ev rfl (E.move rfl) ?_
        refine R.gyes rfl rfl ?_
        refine R.ev rfl (E.move rfl) ?_
        refine R.gyes rfl rfl ?_
        refine R.call ⟨_, _, Try.func41, rfl, by kernel_rfl⟩ rfl rfl (rsucc_any (L := L) hI.nd hx hs (by omega)) ?_
        rintro v1429 w1429 ⟨K9, J9, hk9, r9, hJ9, hss9, hm9, hs⟩
        have o9 : OneC v1429 := ⟨KRow.oneC' r9⟩
        have r39 : KRow encR 82 K9 (.slice ad3 L.length cap3) L := KRow.mono (k := hk9) (h := r38)
        have r89 : KRow encV 32 K9 v1425 I8 := KRow.mono (k := hk9) (h := r8)
        have hJl9 : J9.length ≤ 30 := by
          have h1 := nodup_len (hss9.nodup ltB_swo) (m := L) (fun u hu => succs_sub ((hm9 u).1 hu))
          simp [rowsOf] at h1; omega
        obtain rfl : I8 = (rowsOf L J9).map RR.id := hP8.uniq hI.nd (.inr ⟨x, mx, hxa, _, hss9, hm9, rfl⟩)
        refine R.gyes rfl rfl ?_
        refine R.call ⟨_, _, Try.func40, rfl, by kernel_rfl⟩ rfl rfl (pick_any (L := L) (J := J9) hJ9 (by omega) hs (by omega)) ?_
        rintro v1430 w1430 ⟨F10, r10, hs⟩
        have o10 : OneC v1430 := ⟨RowL.oneC⟩
        refine R.gyes rfl rfl ?_
        refine R.call ⟨_, _, Try.func24, rfl, by kernel_rfl⟩ rfl rfl (same_any (L := (rowsOf L J9).map RR.id) (M := (rowsOf L J9).map RR.id) hs (by simp [rowsOf]; omega)) ?_
        rintro _ w1431 ⟨rfl, hs⟩
        rw [decide_eq_true rfl]
        refine R.ev rfl (E.pickT rfl rfl) ?_
        refine R.ev rfl (E.assign rfl) ?_
        refine R.done ?_
        refine X.keep [(4, _)] ⟨rfl, trivial⟩ ?_
        refine X.next ?_
        refine C.ret ?_
        refine X.ret1 rfl rfl ?_
        exact ⟨rfl, (hs.less (((((hk3.trans hk4).trans hk5).trans hk6).trans hk8).trans hk9).le).mod⟩
      · refine D.skipP 27 rfl (by kernel_rfl) rfl rfl rfl (fun _ => hs.to) ?_
        refine D.skip 26 rfl (by kernel_rfl) rfl rfl rfl hs.to ?_
        refine D.skipP 28 rfl (by kernel_rfl) rfl rfl rfl (fun _ => hs.to) ?_
        refine D.evPG 29 rfl (by kernel_rfl) rfl rfl rfl (fun _ => hs.to) (fun _ => E.pickF rfl rfl) ?_
        refine D.evP 30 rfl (by kernel_rfl) rfl (fun _ => hs.to) (fun _ => E.pickF rfl rfl) ?_
        refine D.done rfl (by kernel_rfl) ?_
        refine X.keep [(3, _), (5, _), (6, _), (8, _), (11, _), (114, _)] ⟨rfl, rfl, rfl, rfl, rfl, rfl, trivial⟩ ?_
        refine X.next ?_
        refine C.cfalse rfl ?_
        refine C.skip ?_
        refine X.next ?_
        refine C.seq ?_
        refine C.region ?_
        refine R.ev rfl (E.move rfl) ?_
        refine R.ev rfl (E.loadRowC rfl Try.underlying23 rfl Try.sz23 (by first | exact ⟨hs.ldA, by first | rfl | assumption | exact encV_len _ | exact Enc.len _ | exact len_ub (by assumption)⟩ | exact ⟨hs.ldP rfl, by first | rfl | assumption | exact encV_len _ | exact Enc.len _ | exact len_ub (by assumption)⟩ | exact ⟨hs.ldM rfl rfl, by first | rfl | assumption | exact encV_len _ | exact Enc.len _ | exact len_ub (by assumption)⟩ | exact ⟨hs.ldM (by assumption) (by first | rfl | assumption), by first | rfl | assumption | exact encV_len _ | exact Enc.len _ | exact len_ub (by assumption)⟩ | exact ⟨by assumption, by first | rfl | assumption | exact encV_len _ | exact Enc.len _ | exact len_ub (by assumption)⟩ | exact hs.ldp | exact At.partC (by assumption))) ?_
        refine R.call ⟨_, _, Try.func32, rfl, by kernel_rfl⟩ rfl rfl (has_any (p := p) a hs) ?_
        rintro _ w14 ⟨rfl, hs⟩
        rw [hI.has, hasId_iff.2 (List.mem_map.2 ⟨x, mx, hxa⟩)]
        refine R.ev rfl (E.move rfl) ?_
        refine R.gyes rfl rfl ?_
        refine R.ev rfl (E.move rfl) ?_
        refine R.gyes rfl rfl ?_
        refine R.ev rfl (E.loadRowC rfl Try.underlying23 rfl Try.sz23 (by first | exact ⟨hs.ldA, by first | rfl | assumption | exact encV_len _ | exact Enc.len _ | exact len_ub (by assumption)⟩ | exact ⟨hs.ldP rfl, by first | rfl | assumption | exact encV_len _ | exact Enc.len _ | exact len_ub (by assumption)⟩ | exact ⟨hs.ldM rfl rfl, by first | rfl | assumption | exact encV_len _ | exact Enc.len _ | exact len_ub (by assumption)⟩ | exact ⟨hs.ldM (by assumption) (by first | rfl | assumption), by first | rfl | assumption | exact encV_len _ | exact Enc.len _ | exact len_ub (by assumption)⟩ | exact ⟨by assumption, by first | rfl | assumption | exact encV_len _ | exact Enc.len _ | exact len_ub (by assumption)⟩ | exact hs.ldp | exact At.partC (by assumption))) ?_
        refine R.gyes rfl rfl ?_
        refine R.call ⟨_, _, Try.func27, rfl, by kernel_rfl⟩ rfl rfl (isWd_any (p := p) a hI hG hs) ?_
        rintro _ w146 ⟨rfl, hs⟩
        rw [wdId, findR hI.nd mx hxa]
        refine R.gyes rfl rfl ?_
        refine R.ev rfl (E.move rfl) ?_
        refine R.gyes rfl rfl ?_
        refine R.ev rfl (E.move rfl) ?_
        refine R.gyes rfl rfl ?_
        refine R.call ⟨_, _, Try.func39, rfl, by kernel_rfl⟩ rfl rfl (isEnd_any (L := L) hs hx (by omega)) ?_
        rintro _ w149 ⟨rfl, hs⟩
        refine R.gyes rfl rfl ?_
        refine R.ev rfl ((E.not rfl).isB (c := wd L x) (by simp)) ?_
        refine R.gyes rfl rfl ?_
        refine R.ev rfl ((E.eqlB rfl rfl Try.underlying4).isB (c := true) (by simp)) ?_
        refine R.ev rfl (E.pickT rfl rfl) ?_
        refine R.ev rfl (E.move rfl) ?_
        refine R.gyes rfl rfl ?_
        refine R.ev rfl (E.move rfl) ?_
        refine R.gyes rfl rfl ?_
        refine R.ev rfl (E.loadRowC rfl Try.underlying23 rfl Try.sz23 (by first | exact ⟨hs.ldA, by first | rfl | assumption | exact encV_len _ | exact Enc.len _ | exact len_ub (by assumption)⟩ | exact ⟨hs.ldP rfl, by first | rfl | assumption | exact encV_len _ | exact Enc.len _ | exact len_ub (by assumption)⟩ | exact ⟨hs.ldM rfl rfl, by first | rfl | assumption | exact encV_len _ | exact Enc.len _ | exact len_ub (by assumption)⟩ | exact ⟨hs.ldM (by assumption) (by first | rfl | assumption), by first | rfl | assumption | exact encV_len _ | exact Enc.len _ | exact len_ub (by assumption)⟩ | exact ⟨by assumption, by first | rfl | assumption | exact encV_len _ | exact Enc.len _ | exact len_ub (by assumption)⟩ | exact hs.ldp | exact At.partC (by assumption))) ?_
        refine R.gyes rfl rfl ?_
        refine R.call ⟨_, _, Try.func33, rfl, by kernel_rfl⟩ rfl rfl (path_any (p := p) (a := a) hI hG (by omega) hs) ?_
        rintro v1416 w1416 ⟨K6, I6, hk6, r6, hP6, hs⟩
        obtain rfl := hP6.uniq hI.nd hPI
        have o6 : OneC v1416 := ⟨KRow.oneC' r6⟩
        have hG := hG.mono hk6
        have r36 : KRow encR 82 K6 (.slice ad3 L.length cap3) L := KRow.mono (k := hk6) (h := r3)
        have rJ6 : KRow encN 1 K6 (.slice adJ J.length capJ) J := KRow.mono (k := hk6) (h := rJ)
        refine R.gyes rfl rfl ?_
        refine R.ev rfl (E.move rfl) ?_
        refine R.gyes rfl rfl ?_
        refine R.ev rfl (E.move rfl) ?_
        refine R.gyes rfl rfl ?_
        refine R.call ⟨_, _, Try.func40, rfl, by kernel_rfl⟩ rfl rfl (pick_any (L := L) (J := J) hJ (by omega) hs (by omega)) ?_
        rintro v1419 w1419 ⟨F7, r7, hs⟩
        have o7 : OneC v1419 := ⟨RowL.oneC⟩
        refine R.gyes rfl rfl ?_
        refine R.call ⟨_, _, Try.func24, rfl, by kernel_rfl⟩ rfl rfl (same_any (L := (rowsOf L J).map RR.id) (M := (rowsOf L J).map RR.id) hs (by simp [rowsOf]; omega)) ?_
        rintro _ w1420 ⟨rfl, hs⟩
        rw [decide_eq_true rfl]
        refine R.ev rfl (E.pickT rfl rfl) ?_
        refine R.ev rfl (E.move rfl) ?_
        refine R.gyes rfl rfl ?_
        refine R.ev rfl (E.move rfl) ?_
        refine R.gyes rfl rfl ?_
        refine R.ev rfl (E.loadRowC rfl Try.underlying23 rfl Try.sz23 (by first | exact ⟨hs.ldA, by first | rfl | assumption | exact encV_len _ | exact Enc.len _ | exact len_ub (by assumption)⟩ | exact ⟨hs.ldP rfl, by first | rfl | assumption | exact encV_len _ | exact Enc.len _ | exact len_ub (by assumption)⟩ | exact ⟨hs.ldM rfl rfl, by first | rfl | assumption | exact encV_len _ | exact Enc.len _ | exact len_ub (by assumption)⟩ | exact ⟨hs.ldM (by assumption) (by first | rfl | assumption), by first | rfl | assumption | exact encV_len _ | exact Enc.len _ | exact len_ub (by assumption)⟩ | exact ⟨by assumption, by first | rfl | assumption | exact encV_len _ | exact Enc.len _ | exact len_ub (by assumption)⟩ | exact hs.ldp | exact At.partC (by assumption))) ?_
        refine R.gyes rfl rfl ?_
        refine R.call ⟨_, _, Try.func35, rfl, by kernel_rfl⟩ rfl rfl (succs_any (p := p) (a := a) hI hG (by omega) hs) ?_
        rintro v1425 w1425 ⟨K8, I8, hk8, r8, hP8, hs⟩
        have o8 : OneC v1425 := ⟨KRow.oneC' r8⟩
        have r38 : KRow encR 82 K8 (.slice ad3 L.length cap3) L := KRow.mono (k := hk8) (h := r36)
        refine R.gyes rfl rfl ?_
        refine R.ev rfl (E.move rfl) ?_
        refine R.gyes rfl rfl ?_
        refine R.ev rfl (E.move rfl) ?_
        refine R.gyes rfl rfl ?_
        refine R.ev rfl (E.move rfl) ?_
        refine R.gyes rfl rfl ?_
        refine R.call ⟨_, _, Try.func41, rfl, by kernel_rfl⟩ rfl rfl (rsucc_any (L := L) hI.nd hx hs (by omega)) ?_
        rintro v1429 w1429 ⟨K9, J9, hk9, r9, hJ9, hss9, hm9, hs⟩
        have o9 : OneC v1429 := ⟨KRow.oneC' r9⟩
        have r39 : KRow encR 82 K9 (.slice ad3 L.length cap3) L := KRow.mono (k := hk9) (h := r38)
        have r89 : KRow encV 32 K9 v1425 I8 := KRow.mono (k := hk9) (h := r8)
        have hJl9 : J9.length ≤ 30 := by
          have h1 := nodup_len (hss9.nodup ltB_swo) (m := L) (fun u hu => succs_sub ((hm9 u).1 hu))
          simp [rowsOf] at h1; omega
        obtain rfl : I8 = (rowsOf L J9).map RR.id := hP8.uniq hI.nd (.inr ⟨x, mx, hxa, _, hss9, hm9, rfl⟩)
        refine R.gyes rfl rfl ?_
        refine R.call ⟨_, _, Try.func40, rfl, by kernel_rfl⟩ rfl rfl (pick_any (L := L) (J := J9) hJ9 (by omega) hs (by omega)) ?_
        rintro v1430 w1430 ⟨F10, r10, hs⟩
        have o10 : OneC v1430 := ⟨RowL.oneC⟩
        refine R.gyes rfl rfl ?_
        refine R.call ⟨_, _, Try.func24, rfl, by kernel_rfl⟩ rfl rfl (same_any (L := (rowsOf L J9).map RR.id) (M := (rowsOf L J9).map RR.id) hs (by simp [rowsOf]; omega)) ?_
        rintro _ w1431 ⟨rfl, hs⟩
        rw [decide_eq_true rfl]
        refine R.ev rfl (E.pickT rfl rfl) ?_
        refine R.ev rfl (E.assign rfl) ?_
        refine R.done ?_
        refine X.keep [(4, _)] ⟨rfl, trivial⟩ ?_
        refine X.next ?_
        refine C.ret ?_
        refine X.ret1 rfl rfl ?_
        exact ⟨rfl, (hs.less (((((hk3.trans hk4).trans hk5).trans hk6).trans hk8).trans hk9).le).mod⟩

namespace supersedeSets
open Go.ChangeShapes Go.WideShapes Go.ChangeAt Go.RowKit
open Go.ChangeMaps (open_string shut_string)
set_option linter.unusedVariables false

theorem own : ownKnob Try.prog.godebug = none := by kernel_rfl
theorem laidOut : laidOutB Try.prog = true := by kernel_rfl
set_option maxRecDepth 100000 in
theorem lifted (os : Os) (started : os.Started) (H : Type) (enc : TypeId × Value → H) :
    ReturnsInHanded {} Try.checked os 11 .any (Rows.supersedeSetsSpec.pre6 enc Try.prog Try.f11 Rows.supersedeSetsRow.domain false) (Rows.supersedeSetsSpec.post enc Try.prog Try.f11 false true false false) := by
  refine returnsInHanded_of_change (C := Try.checked) own started (by kernel_rfl) Try.func11
    (ChangeSpec.witness6 (enc := enc) (C := Try.checked) false ⟨#[], #[.slice none 0 0, .agg #[.int .u8 0, .int .u8 0, .int .u8 0, .int .u8 0, .int .u8 0, .int .u8 0, .int .u8 0, .int .u8 0, .int .u8 0, .int .u8 0, .int .u8 0, .int .u8 0, .int .u8 0, .int .u8 0, .int .u8 0, .int .u8 0, .int .u8 0, .int .u8 0, .int .u8 0, .int .u8 0, .int .u8 0, .int .u8 0, .int .u8 0, .int .u8 0, .int .u8 0, .int .u8 0, .int .u8 0, .int .u8 0, .int .u8 0, .int .u8 0, .int .u8 0, .int .u8 0]], []⟩ 8 (by kernel_rfl) (by kernel_rfl) (by kernel_rfl) (by kernel_rfl)) ?_
  intro W base args ds gs before hval0 hW hcnd _
  have hval : ∀ (j : Nat) t v, Try.f11.params[j]? = some t → args[j]? = some v → Value.okWide Try.prog W .any base t v := hval0
  have hW' := hW
  obtain ⟨p, q, hA0, hV, rfl, hfz, hnd⟩ := hW
  have hA : DataW.TrodAll enc Try.prog W 0 (fun _ => true) true Try.f11.params.toList args.toList ds p := hA0
  rw [Try.params11] at hA hval
  obtain ⟨v0, vs0, d0, ds0, p0, q0, hargs, rfl, rfl, h0, r0⟩ := trodAll_cons hA
  obtain ⟨v1, vs1, d1, ds1, p1, q1, rfl, rfl, rfl, h1, r1⟩ := trodAll_cons r0
  obtain ⟨rfl, rfl, rfl⟩ := trodAll_nil r1
  obtain rfl : args = #[v0, v1] := by cases args; simp_all
  obtain ⟨rfl, rfl⟩ := trodVars_none hV
  have lt0 : ∀ x ∈ p0, x.block < W.heap.size := by obtain ⟨m, hm⟩ := h0; exact DataW.trod_lt m _ _ _ hm
  have a0 := Eng.argv_of (hval 0 58 v0 rfl rfl) h0
  have lt1 : ∀ x ∈ p1, x.block < W.heap.size := by obtain ⟨m, hm⟩ := h1; exact DataW.trod_lt m _ _ _ hm
  have a1 := Eng.argv_of (hval 1 23 v1 rfl rfl) h1
  clear hA0 hval0
  refine Calls.mono (sets_walk W v0 a0 v1 a1) fun e W' ⟨v, he, hv, hm⟩ => ?_
  subst he
  subst hv
  have bel := hm.below
  exact ⟨_, rfl, _, _, _, [], _, [], hW', trodAll_mk1 (shut_bool Try.underlying4 _), (trodAll_cons_mk (Below.trod laidOut (by kernel_rfl) (of_decide_eq_true (by kernel_rfl)) h0 bel lt0) (trodAll_cons_mk (Below.trod laidOut (by kernel_rfl) (of_decide_eq_true (by kernel_rfl)) h1 bel lt1) trodAll_mk0)), rfl, bel.frame _, fun h => by cases h⟩

theorem over : Rows.supersedeSetsRow.holds Try.pinned (OpenSpec.ofChange Rows.supersedeSetsSpec) :=
  OpenClaim.holds_of_wide 11 Try.f11 rfl rfl rfl rfl rfl rfl rfl ⟨rfl, rfl, rfl, rfl, rfl⟩ rfl rfl rfl rfl rfl (by kernel_rfl) Try.func11 (by kernel_rfl)
    (of_decide_eq_true (by kernel_rfl)) (by unfold Func.isWrapper; first | (rw [if_pos (by decide +kernel)]; kernel_rfl) | (rw [if_neg (by decide +kernel)]; exact ⟨rfl, rfl⟩))
    (fun os started H enc _ => lifted os started H enc)
end supersedeSets
/-- the statement -/
theorem supersedeSets_holds : Rows.SupersedeSetsSaid := supersedeSets.over
#print axioms supersedeSets_holds
end Go.Proofs.Ytmjmichghfepkaa
