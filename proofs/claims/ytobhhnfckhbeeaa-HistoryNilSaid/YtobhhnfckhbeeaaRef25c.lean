/-
  package bulletinref25: Forget, Same; the entries of a history.
-/
import Derived.Test.YtobhhnfckhbeeaaRef25b
namespace Go.Proofs.Ytobhhnfckhbeeaa
open Go.Eng Go.RowKit Go.Sort
variable {K : Kn} {Hs Rs : List Hl} {F : Hl} {w : World} {v : Value} {L : List HEnt}
def rF (now : Int) (x : HEnt) : Bool := isMin now && fgt now x
def rFIds (now : Int) (L : List HEnt) : List (Vec 32) := (L.filter (rF now)).map HEnt.id
def rFRest (now : Int) (L : List HEnt) : List HEnt := L.filter fun x => !rF now x
def rFCut (now cut : Int) (L : List HEnt) : Int := if (rFIds now L).length = 0 then cut else max cut now
theorem rFIds_snoc {now : Int} {k : Nat} {y : HEnt} (h : L[k]? = some y) : rFIds now (L.take (k + 1)) = rFIds now (L.take k) ++ (if rF now y then [y.id] else []) := by
  rw [take_snoc h, rFIds, rFIds, List.filter_append, List.map_append]
  cases hy : rF now y <;> simp [hy]
theorem rFRest_snoc {now : Int} {k : Nat} {y : HEnt} (h : L[k]? = some y) : rFRest now (L.take (k + 1)) = rFRest now (L.take k) ++ (if rF now y then [] else [y]) := by
  rw [take_snoc h, rFRest, rFRest, List.filter_append]
  cases hy : rF now y <;> simp [hy]
theorem rFCut_snoc {now cut : Int} {k : Nat} {y : HEnt} (h : L[k]? = some y) : rFCut now cut (L.take (k + 1)) = if rF now y then max (rFCut now cut (L.take k)) now else rFCut now cut (L.take k) := by
  unfold rFCut
  rw [rFIds_snoc h]
  cases hy : rF now y
  · simp
  · simp; split <;> omega
theorem rFIds_le (now : Int) (L : List HEnt) : (rFIds now L).length ≤ L.length := by
  unfold rFIds; rw [List.length_map]; exact List.length_filter_le _ _
theorem rFRest_le (now : Int) (L : List HEnt) : (rFRest now L).length ≤ L.length := List.length_filter_le _ _
theorem rforget_any (cut now : Int) (hs : Sat K w Hs) [hr : KRow encH 36 K v L] (hL : L.length ≤ 100000) : Ret Try.prog 45 #[v, .int .i64 cut, .int .i64 now] w fun r w' => ∃ v1 F1, RowL 22 encV 32 v1 (rFIds now L) F1 ∧ XPost K (F1 :: Hs) (rFRest now L) (fun v => .tuple #[v, .int .i64 (rFCut now cut L), v1]) r w' := by
  obtain ⟨ad, cap, rfl, hsl, hc⟩ := hr.ex
  refine Ret.enter (n := 66) (args := [.slice ad L.length cap, .int .i64 cut, .int .i64 now]) Try.func45 rfl rfl ?_
  refine C.keep [(0, _), (1, _), (2, _)] ⟨rfl, rfl, rfl, trivial⟩ ?_
  refine C.seq ?_
  refine C.region ?_
  refine R.ev rfl (E.assign rfl) ?_
  refine R.ev rfl (E.assign rfl) ?_
  refine R.ev rfl (E.assign rfl) ?_
  refine R.done ?_
  refine X.keep [(0, _), (1, _), (2, _)] ⟨rfl, rfl, rfl, trivial⟩ ?_
  refine X.next ?_
  refine C.seq ?_
  refine C.region ?_
  refine R.ev rfl (E.assign rfl) ?_
  refine R.done ?_
  refine X.keep [(0, _), (1, _), (2, _), (9, _)] ⟨rfl, rfl, rfl, rfl, trivial⟩ ?_
  refine X.next ?_
  refine C.seq ?_
  refine C.region ?_
  refine R.ev rfl (E.assign rfl) ?_
  refine R.done ?_
  refine X.keep [(0, _), (1, _), (2, _), (9, _), (10, _)] ⟨rfl, rfl, rfl, rfl, rfl, trivial⟩ ?_
  refine X.next ?_
  refine C.seq ?_
  refine C.seq ?_
  refine C.region ?_
  refine R.ev rfl (E.assign rfl) ?_
  refine R.done ?_
  refine X.keep [(0, _), (1, _), (2, _), (9, _), (10, _), (11, _)] ⟨rfl, rfl, rfl, rfl, rfl, rfl, trivial⟩ ?_
  refine X.next ?_
  refine C.block ?_
  refine C.loop (T := Nat × Value × Hl × Value × Hl) [(0, _), (2, _)] (fun (k, va, _, vb, _) => [(1, .int .i64 (rFCut now cut (L.take k))), (9, va), (10, vb), (11, .int .i64 (k : Nat))]) (fun (k, va, Fa, vb, Fb) w' => k ≤ L.length ∧ RowL 24 encH 36 va (rFRest now (L.take k)) Fa ∧ RowL 22 encV 32 vb (rFIds now (L.take k)) Fb ∧ Sat K w' (Fa :: Fb :: Hs)) (fun (k, _) => L.length - k) ((0, .slice none 0 0, [], .slice none 0 0, [])) ⟨rfl, rfl, rfl, rfl, rfl, rfl, trivial⟩ ⟨Nat.zero_le _, RowL.nil _ _ _, RowL.nil _ _ _, hs.nil.nil⟩ ?_
  rintro ⟨k, va, Fa, vb, Fb⟩ w1 ⟨hk, ra, rb, hs⟩
  have h1 := rFIds_le now (L.take k)
  have h2 := rFRest_le now (L.take k)
  have h3 : (L.take k).length ≤ k := by simp; omega
  refine C.keep [(0, _), (1, _), (2, _), (9, _), (10, _), (11, _)] ⟨rfl, rfl, rfl, rfl, rfl, rfl, trivial⟩ ?_
  refine C.seq ?_
  refine C.seq ?_
  refine C.region ?_
  refine R.ev rfl (E.move rfl) ?_
  refine R.ev rfl (E.move rfl) ?_
  refine R.ev rfl (E.lenSl rfl Try.underlying36) ?_
  refine R.ev rfl (E.lss rfl rfl) ?_
  refine R.done ?_
  refine X.keep [(0, _), (1, _), (2, _), (9, _), (10, _), (11, _), (15, _)] ⟨rfl, rfl, rfl, rfl, rfl, rfl, rfl, trivial⟩ ?_
  refine X.next ?_
  refine C.cdec rfl (fun h15 => ?_) (fun h15 => ?_)
  · obtain ⟨y, bk_y, of_y, hy, my, ly, rfl, Ay⟩ := hs.el (i := k) (ad := ad) (n := L.length) (c := cap) (by omega)
    have ay := Ay _ hs
    refine C.skip ?_
    refine X.next ?_
    refine C.seq ?_
    refine C.block ?_
    refine C.seq ?_
    refine C.region ?_
    refine R.ev rfl (E.move rfl) ?_
    refine R.call ⟨_, _, Try.func42, rfl, by kernel_rfl⟩ rfl rfl (minute_any now _) ?_
    rintro _ _ ⟨rfl, rfl⟩
    refine R.ev rfl (E.move rfl) ?_
    refine R.split 20 rfl (fun h20 => ?_) (fun h20 => ?_)
    · refine R.gyes rfl rfl ?_
      refine R.ev rfl (E.move rfl) ?_
      refine R.gyes rfl rfl ?_
      refine R.ev rfl (E.move rfl) ?_
      refine R.gyes rfl rfl ?_
      refine R.ev rfl (E.indexAddr rfl rfl Try.underlying36 Try.sz24 rfl (by first | omega | decide)) ?_
      refine R.gyes rfl rfl ?_
      first | refine R.ev rfl (E.fieldAddr0 34 rfl Try.underlying24 rfl Try.sz3 rfl) ?_ | refine R.ev rfl (E.fieldAddrN 34 rfl Try.underlying24 rfl Try.sz3 rfl) ?_
      refine R.gyes rfl rfl ?_
      refine R.ev rfl (E.load1 rfl Try.underlying3 rfl (by first | exact hs.ldc | exact hs.ld rfl | exact hs.ld (by assumption) | exact by assumption | exact At.cellC (by assumption))) ?_
      refine R.gyes rfl rfl ?_
      refine R.ev rfl (E.eql rfl rfl) ?_
      refine R.ev rfl (E.pickT rfl rfl) ?_
      refine R.ev rfl (E.move rfl) ?_
      refine R.split 28 rfl (fun h28 => ?_) (fun h28 => ?_)
      · refine R.gyes rfl rfl ?_
        refine R.ev rfl (E.move rfl) ?_
        refine R.gyes rfl rfl ?_
        refine R.ev rfl (E.move rfl) ?_
        refine R.gyes rfl rfl ?_
        refine R.ev rfl (E.indexAddr rfl rfl Try.underlying36 Try.sz24 rfl (by first | omega | decide)) ?_
        refine R.gyes rfl rfl ?_
        first | refine R.ev rfl (E.fieldAddr0 35 rfl Try.underlying24 rfl Try.sz4 rfl) ?_ | refine R.ev rfl (E.fieldAddrN 35 rfl Try.underlying24 rfl Try.sz4 rfl) ?_
        refine R.gyes rfl rfl ?_
        refine R.ev rfl (E.load1 rfl Try.underlying4 rfl (by first | exact hs.ldc | exact hs.ld rfl | exact hs.ld (by assumption) | exact by assumption | exact At.cellC (by assumption))) ?_
        refine R.gyes rfl rfl ?_
        refine R.ev rfl ((E.not rfl).isB (c := !y.perm) rfl) ?_
        refine R.ev rfl (E.pickT rfl rfl) ?_
        refine R.ev rfl (E.move rfl) ?_
        refine R.split 36 rfl (fun h36 => ?_) (fun h36 => ?_)
        · refine R.gyes rfl rfl ?_
          refine R.ev rfl (E.move rfl) ?_
          refine R.gyes rfl rfl ?_
          refine R.ev rfl (E.move rfl) ?_
          refine R.gyes rfl rfl ?_
          refine R.ev rfl (E.indexAddr rfl rfl Try.underlying36 Try.sz24 rfl (by first | omega | decide)) ?_
          refine R.gyes rfl rfl ?_
          first | refine R.ev rfl (E.fieldAddr0 33 rfl Try.underlying24 rfl Try.sz3 rfl) ?_ | refine R.ev rfl (E.fieldAddrN 33 rfl Try.underlying24 rfl Try.sz3 rfl) ?_
          refine R.gyes rfl rfl ?_
          refine R.ev rfl (E.load1 rfl Try.underlying3 rfl (by first | exact hs.ldc | exact hs.ld rfl | exact hs.ld (by assumption) | exact by assumption | exact At.cellC (by assumption))) ?_
          refine R.gyes rfl rfl ?_
          refine R.ev rfl (E.move rfl) ?_
          refine R.gyes rfl rfl ?_
          have hn : 0 ≤ now ∧ now ≤ 105190559 := by simpa [isMin] using h20
          refine R.call ⟨_, _, Try.func47, rfl, by kernel_rfl⟩ rfl rfl (rold_any y.date now _ (by omega)) ?_
          rintro _ _ ⟨rfl, rfl⟩
          refine R.ev rfl (E.pickT rfl rfl) ?_
          refine R.done ?_
          refine X.keep [(0, _), (1, _), (2, _), (9, _), (10, _), (11, _), (44, _)] ⟨rfl, rfl, rfl, rfl, rfl, rfl, rfl, trivial⟩ ?_
          refine X.next ?_
          refine C.cbool rfl (fun h44 => ?_) (fun h44 => ?_)
          · refine C.seq ?_
            refine C.region ?_
            have hy1 : rF now y = true := by simp_all [rF, fgt]
            refine R.ev rfl (E.move rfl) ?_
            refine R.ev rfl (E.move rfl) ?_
            refine R.ev rfl (E.move rfl) ?_
            refine R.ev rfl (E.indexAddr rfl rfl Try.underlying36 Try.sz24 rfl (by first | omega | decide)) ?_
            first | refine R.ev rfl (E.fieldAddr0 0 rfl Try.underlying24 rfl Try.sz22 rfl) ?_ | refine R.ev rfl (E.fieldAddrN 0 rfl Try.underlying24 rfl Try.sz22 rfl) ?_
            refine R.ev rfl (E.loadRowC rfl Try.underlying22 rfl Try.sz22 (by first | exact ⟨hs.ldA, by first | rfl | assumption | exact encV_len _ | exact Enc.len _ | exact len_ub (by assumption)⟩ | exact ⟨hs.ldP rfl, by first | rfl | assumption | exact encV_len _ | exact Enc.len _ | exact len_ub (by assumption)⟩ | exact ⟨hs.ldM rfl rfl, by first | rfl | assumption | exact encV_len _ | exact Enc.len _ | exact len_ub (by assumption)⟩ | exact ⟨hs.ldM (by assumption) (by first | rfl | assumption), by first | rfl | assumption | exact encV_len _ | exact Enc.len _ | exact len_ub (by assumption)⟩ | exact ⟨by assumption, by first | rfl | assumption | exact encV_len _ | exact Enc.len _ | exact len_ub (by assumption)⟩ | exact hs.ldp | exact At.partC (by assumption))) ?_
            refine R.buildSliceA rfl Try.underlying83 Try.sz22 Try.zr22 rfl (by first | rfl | assumption | exact encV_len _ | exact Enc.len _ | simp [*]) (by decide) (by decide) ?_
            intro b51 w51 n51
            have hs := hs.new n51
            refine R.capp1 (y.id) hs rfl rfl Try.underlying83 Try.by22 (by rfl) rfl (by first | exact hs.ldA | exact hs.ldP rfl | exact by assumption) (by decide) (by first | omega | (simp only [List.length_append, List.length_cons, List.length_nil] at *; omega)) (by first | omega | (simp only [List.length_append, List.length_cons, List.length_nil] at *; omega)) ?_
            intro v52 w52 F52 r52 hs
            refine R.ev rfl (E.assign rfl) ?_
            refine R.done ?_
            refine X.keep [(0, _), (1, _), (2, _), (9, _), (10, _), (11, _)] ⟨rfl, rfl, rfl, rfl, rfl, rfl, trivial⟩ ?_
            refine X.next ?_
            refine C.region ?_
            refine R.ev rfl (E.move rfl) ?_
            refine R.ev rfl (E.move rfl) ?_
            refine R.ev rfl (E.max2 rfl rfl) ?_
            refine R.ev rfl (E.assign rfl) ?_
            refine R.done ?_
            refine X.keep [(0, _), (1, _), (2, _), (9, _), (10, _), (11, _)] ⟨rfl, rfl, rfl, rfl, rfl, rfl, trivial⟩ ?_
            refine X.blockNormal ?_
            refine X.next ?_
            refine C.region ?_
            refine R.ev rfl (E.move rfl) ?_
            refine R.ev rfl (E.add rfl rfl (by omega) (by omega)) ?_
            refine R.ev rfl (E.assign rfl) ?_
            refine R.done ?_
            refine X.keep [(0, _), (1, _), (2, _), (9, _), (10, _), (11, _)] ⟨rfl, rfl, rfl, rfl, rfl, rfl, trivial⟩ ?_
            have c1 := rFCut_snoc (now := now) (cut := cut) hy
            have c2 := rFIds_snoc (now := now) hy
            have c3 := rFRest_snoc (now := now) hy
            rw [hy1] at c1 c2 c3
            simp only [if_true, Bool.false_eq_true, if_false] at c1
            first
              | exact X.again (k + 1, va, Fa, v52, F52) ⟨lkV rfl (congrArg (Value.int .i64) c1.symm), rfl, rfl, rfl, rfl, rfl, trivial⟩ ⟨by omega, by rw [c3]; simpa using ra, by rw [c2]; exact r52, hs.to⟩ (by show _ - _ < _ - _; omega)
              | exact X.again (k + 1, v62, F62, vb, Fb) ⟨lkV rfl (congrArg (Value.int .i64) c1.symm), rfl, rfl, rfl, rfl, rfl, trivial⟩ ⟨by omega, by rw [c3]; exact r62, by rw [c2]; simpa using rb, hs.to⟩ (by show _ - _ < _ - _; omega)
          · refine C.region ?_
            have hy1 : rF now y = false := by simp_all [rF, fgt]
            refine R.ev rfl (E.move rfl) ?_
            refine R.ev rfl (E.move rfl) ?_
            refine R.ev rfl (E.move rfl) ?_
            refine R.ev rfl (E.indexAddr rfl rfl Try.underlying36 Try.sz24 rfl (by first | omega | decide)) ?_
            refine R.ev rfl (E.loadRowC rfl Try.underlying24 rfl Try.sz24 (by first | exact ⟨hs.ldA, by first | rfl | assumption | exact encV_len _ | exact Enc.len _ | exact len_ub (by assumption)⟩ | exact ⟨hs.ldP rfl, by first | rfl | assumption | exact encV_len _ | exact Enc.len _ | exact len_ub (by assumption)⟩ | exact ⟨hs.ldM rfl rfl, by first | rfl | assumption | exact encV_len _ | exact Enc.len _ | exact len_ub (by assumption)⟩ | exact ⟨hs.ldM (by assumption) (by first | rfl | assumption), by first | rfl | assumption | exact encV_len _ | exact Enc.len _ | exact len_ub (by assumption)⟩ | exact ⟨by assumption, by first | rfl | assumption | exact encV_len _ | exact Enc.len _ | exact len_ub (by assumption)⟩ | exact hs.ldp | exact At.partC (by assumption))) ?_
            refine R.buildSliceA rfl Try.underlying36 Try.sz24 Try.zr24 rfl (by first | rfl | assumption | exact encV_len _ | exact Enc.len _ | simp [*]) (by decide) (by decide) ?_
            intro b61 w61 n61
            have hs := hs.new n61
            refine R.capp1 (y) hs rfl rfl Try.underlying36 Try.by24 (by rfl) rfl (by first | exact hs.ldA | exact hs.ldP rfl | exact by assumption) (by decide) (by first | omega | (simp only [List.length_append, List.length_cons, List.length_nil] at *; omega)) (by first | omega | (simp only [List.length_append, List.length_cons, List.length_nil] at *; omega)) ?_
            intro v62 w62 F62 r62 hs
            refine R.ev rfl (E.assign rfl) ?_
            refine R.done ?_
            refine X.keep [(0, _), (1, _), (2, _), (9, _), (10, _), (11, _)] ⟨rfl, rfl, rfl, rfl, rfl, rfl, trivial⟩ ?_
            refine X.blockNormal ?_
            refine X.next ?_
            refine C.region ?_
            refine R.ev rfl (E.move rfl) ?_
            refine R.ev rfl (E.add rfl rfl (by omega) (by omega)) ?_
            refine R.ev rfl (E.assign rfl) ?_
            refine R.done ?_
            refine X.keep [(0, _), (1, _), (2, _), (9, _), (10, _), (11, _)] ⟨rfl, rfl, rfl, rfl, rfl, rfl, trivial⟩ ?_
            have c1 := rFCut_snoc (now := now) (cut := cut) hy
            have c2 := rFIds_snoc (now := now) hy
            have c3 := rFRest_snoc (now := now) hy
            rw [hy1] at c1 c2 c3
            simp only [if_true, Bool.false_eq_true, if_false] at c1
            first
              | exact X.again (k + 1, va, Fa, v52, F52) ⟨lkV rfl (congrArg (Value.int .i64) c1.symm), rfl, rfl, rfl, rfl, rfl, trivial⟩ ⟨by omega, by rw [c3]; simpa using ra, by rw [c2]; exact r52, hs.to⟩ (by show _ - _ < _ - _; omega)
              | exact X.again (k + 1, v62, F62, vb, Fb) ⟨lkV rfl (congrArg (Value.int .i64) c1.symm), rfl, rfl, rfl, rfl, rfl, trivial⟩ ⟨by omega, by rw [c3]; exact r62, by rw [c2]; simpa using rb, hs.to⟩ (by show _ - _ < _ - _; omega)
        · refine R.gskip rfl rfl rfl ?_
          refine R.gskip rfl rfl rfl ?_
          refine R.gskip rfl rfl rfl ?_
          refine R.gskip rfl rfl rfl ?_
          refine R.gskip rfl rfl rfl ?_
          refine R.gskip rfl rfl rfl ?_
          refine R.gskip rfl rfl rfl ?_
          refine R.ev rfl (E.pickF rfl rfl) ?_
          refine R.done ?_
          refine X.keep [(0, _), (1, _), (2, _), (9, _), (10, _), (11, _), (44, _)] ⟨rfl, rfl, rfl, rfl, rfl, rfl, rfl, trivial⟩ ?_
          refine X.next ?_
          refine C.cfalse rfl ?_
          refine C.region ?_
          have hy1 : rF now y = false := by simp_all [rF, fgt]
          refine R.ev rfl (E.move rfl) ?_
          refine R.ev rfl (E.move rfl) ?_
          refine R.ev rfl (E.move rfl) ?_
          refine R.ev rfl (E.indexAddr rfl rfl Try.underlying36 Try.sz24 rfl (by first | omega | decide)) ?_
          refine R.ev rfl (E.loadRowC rfl Try.underlying24 rfl Try.sz24 (by first | exact ⟨hs.ldA, by first | rfl | assumption | exact encV_len _ | exact Enc.len _ | exact len_ub (by assumption)⟩ | exact ⟨hs.ldP rfl, by first | rfl | assumption | exact encV_len _ | exact Enc.len _ | exact len_ub (by assumption)⟩ | exact ⟨hs.ldM rfl rfl, by first | rfl | assumption | exact encV_len _ | exact Enc.len _ | exact len_ub (by assumption)⟩ | exact ⟨hs.ldM (by assumption) (by first | rfl | assumption), by first | rfl | assumption | exact encV_len _ | exact Enc.len _ | exact len_ub (by assumption)⟩ | exact ⟨by assumption, by first | rfl | assumption | exact encV_len _ | exact Enc.len _ | exact len_ub (by assumption)⟩ | exact hs.ldp | exact At.partC (by assumption))) ?_
          refine R.buildSliceA rfl Try.underlying36 Try.sz24 Try.zr24 rfl (by first | rfl | assumption | exact encV_len _ | exact Enc.len _ | simp [*]) (by decide) (by decide) ?_
          intro b61 w61 n61
          have hs := hs.new n61
          refine R.capp1 (y) hs rfl rfl Try.underlying36 Try.by24 (by rfl) rfl (by first | exact hs.ldA | exact hs.ldP rfl | exact by assumption) (by decide) (by first | omega | (simp only [List.length_append, List.length_cons, List.length_nil] at *; omega)) (by first | omega | (simp only [List.length_append, List.length_cons, List.length_nil] at *; omega)) ?_
          intro v62 w62 F62 r62 hs
          refine R.ev rfl (E.assign rfl) ?_
          refine R.done ?_
          refine X.keep [(0, _), (1, _), (2, _), (9, _), (10, _), (11, _)] ⟨rfl, rfl, rfl, rfl, rfl, rfl, trivial⟩ ?_
          refine X.blockNormal ?_
          refine X.next ?_
          refine C.region ?_
          refine R.ev rfl (E.move rfl) ?_
          refine R.ev rfl (E.add rfl rfl (by omega) (by omega)) ?_
          refine R.ev rfl (E.assign rfl) ?_
          refine R.done ?_
          refine X.keep [(0, _), (1, _), (2, _), (9, _), (10, _), (11, _)] ⟨rfl, rfl, rfl, rfl, rfl, rfl, trivial⟩ ?_
          have c1 := rFCut_snoc (now := now) (cut := cut) hy
          have c2 := rFIds_snoc (now := now) hy
          have c3 := rFRest_snoc (now := now) hy
          rw [hy1] at c1 c2 c3
          simp only [if_true, Bool.false_eq_true, if_false] at c1
          first
            | exact X.again (k + 1, va, Fa, v52, F52) ⟨lkV rfl (congrArg (Value.int .i64) c1.symm), rfl, rfl, rfl, rfl, rfl, trivial⟩ ⟨by omega, by rw [c3]; simpa using ra, by rw [c2]; exact r52, hs.to⟩ (by show _ - _ < _ - _; omega)
            | exact X.again (k + 1, v62, F62, vb, Fb) ⟨lkV rfl (congrArg (Value.int .i64) c1.symm), rfl, rfl, rfl, rfl, rfl, trivial⟩ ⟨by omega, by rw [c3]; exact r62, by rw [c2]; simpa using rb, hs.to⟩ (by show _ - _ < _ - _; omega)
      · refine R.gskip rfl rfl rfl ?_
        refine R.gskip rfl rfl rfl ?_
        refine R.gskip rfl rfl rfl ?_
        refine R.gskip rfl rfl rfl ?_
        refine R.gskip rfl rfl rfl ?_
        refine R.gskip rfl rfl rfl ?_
        refine R.ev rfl (E.pickF rfl rfl) ?_
        refine R.ev rfl (E.move rfl) ?_
        refine R.gskip rfl rfl rfl ?_
        refine R.gskip rfl rfl rfl ?_
        refine R.gskip rfl rfl rfl ?_
        refine R.gskip rfl rfl rfl ?_
        refine R.gskip rfl rfl rfl ?_
        refine R.gskip rfl rfl rfl ?_
        refine R.gskip rfl rfl rfl ?_
        refine R.ev rfl (E.pickF rfl rfl) ?_
        refine R.done ?_
        refine X.keep [(0, _), (1, _), (2, _), (9, _), (10, _), (11, _), (44, _)] ⟨rfl, rfl, rfl, rfl, rfl, rfl, rfl, trivial⟩ ?_
        refine X.next ?_
        refine C.cfalse rfl ?_
        refine C.region ?_
        have hy1 : rF now y = false := by simp_all [rF, fgt]
        refine R.ev rfl (E.move rfl) ?_
        refine R.ev rfl (E.move rfl) ?_
        refine R.ev rfl (E.move rfl) ?_
        refine R.ev rfl (E.indexAddr rfl rfl Try.underlying36 Try.sz24 rfl (by first | omega | decide)) ?_
        refine R.ev rfl (E.loadRowC rfl Try.underlying24 rfl Try.sz24 (by first | exact ⟨hs.ldA, by first | rfl | assumption | exact encV_len _ | exact Enc.len _ | exact len_ub (by assumption)⟩ | exact ⟨hs.ldP rfl, by first | rfl | assumption | exact encV_len _ | exact Enc.len _ | exact len_ub (by assumption)⟩ | exact ⟨hs.ldM rfl rfl, by first | rfl | assumption | exact encV_len _ | exact Enc.len _ | exact len_ub (by assumption)⟩ | exact ⟨hs.ldM (by assumption) (by first | rfl | assumption), by first | rfl | assumption | exact encV_len _ | exact Enc.len _ | exact len_ub (by assumption)⟩ | exact ⟨by assumption, by first | rfl | assumption | exact encV_len _ | exact Enc.len _ | exact len_ub (by assumption)⟩ | exact hs.ldp | exact At.partC (by assumption))) ?_
        refine R.buildSliceA rfl Try.underlying36 Try.sz24 Try.zr24 rfl (by first | rfl | assumption | exact encV_len _ | exact Enc.len _ | simp [*]) (by decide) (by decide) ?_
        intro b61 w61 n61
        have hs := hs.new n61
        refine R.capp1 (y) hs rfl rfl Try.underlying36 Try.by24 (by rfl) rfl (by first | exact hs.ldA | exact hs.ldP rfl | exact by assumption) (by decide) (by first | omega | (simp only [List.length_append, List.length_cons, List.length_nil] at *; omega)) (by first | omega | (simp only [List.length_append, List.length_cons, List.length_nil] at *; omega)) ?_
        intro v62 w62 F62 r62 hs
        refine R.ev rfl (E.assign rfl) ?_
        refine R.done ?_
        refine X.keep [(0, _), (1, _), (2, _), (9, _), (10, _), (11, _)] ⟨rfl, rfl, rfl, rfl, rfl, rfl, trivial⟩ ?_
        refine X.blockNormal ?_
        refine X.next ?_
        refine C.region ?_
        refine R.ev rfl (E.move rfl) ?_
        refine R.ev rfl (E.add rfl rfl (by omega) (by omega)) ?_
        refine R.ev rfl (E.assign rfl) ?_
        refine R.done ?_
        refine X.keep [(0, _), (1, _), (2, _), (9, _), (10, _), (11, _)] ⟨rfl, rfl, rfl, rfl, rfl, rfl, trivial⟩ ?_
        have c1 := rFCut_snoc (now := now) (cut := cut) hy
        have c2 := rFIds_snoc (now := now) hy
        have c3 := rFRest_snoc (now := now) hy
        rw [hy1] at c1 c2 c3
        simp only [if_true, Bool.false_eq_true, if_false] at c1
        first
          | exact X.again (k + 1, va, Fa, v52, F52) ⟨lkV rfl (congrArg (Value.int .i64) c1.symm), rfl, rfl, rfl, rfl, rfl, trivial⟩ ⟨by omega, by rw [c3]; simpa using ra, by rw [c2]; exact r52, hs.to⟩ (by show _ - _ < _ - _; omega)
          | exact X.again (k + 1, v62, F62, vb, Fb) ⟨lkV rfl (congrArg (Value.int .i64) c1.symm), rfl, rfl, rfl, rfl, rfl, trivial⟩ ⟨by omega, by rw [c3]; exact r62, by rw [c2]; simpa using rb, hs.to⟩ (by show _ - _ < _ - _; omega)
    · refine R.gskip rfl rfl rfl ?_
      refine R.gskip rfl rfl rfl ?_
      refine R.gskip rfl rfl rfl ?_
      refine R.gskip rfl rfl rfl ?_
      refine R.gskip rfl rfl rfl ?_
      refine R.gskip rfl rfl rfl ?_
      refine R.ev rfl (E.pickF rfl rfl) ?_
      refine R.ev rfl (E.move rfl) ?_
      refine R.gskip rfl rfl rfl ?_
      refine R.gskip rfl rfl rfl ?_
      refine R.gskip rfl rfl rfl ?_
      refine R.gskip rfl rfl rfl ?_
      refine R.gskip rfl rfl rfl ?_
      refine R.gskip rfl rfl rfl ?_
      refine R.ev rfl (E.pickF rfl rfl) ?_
      refine R.ev rfl (E.move rfl) ?_
      refine R.gskip rfl rfl rfl ?_
      refine R.gskip rfl rfl rfl ?_
      refine R.gskip rfl rfl rfl ?_
      refine R.gskip rfl rfl rfl ?_
      refine R.gskip rfl rfl rfl ?_
      refine R.gskip rfl rfl rfl ?_
      refine R.gskip rfl rfl rfl ?_
      refine R.ev rfl (E.pickF rfl rfl) ?_
      refine R.done ?_
      refine X.keep [(0, _), (1, _), (2, _), (9, _), (10, _), (11, _), (44, _)] ⟨rfl, rfl, rfl, rfl, rfl, rfl, rfl, trivial⟩ ?_
      refine X.next ?_
      refine C.cfalse rfl ?_
      refine C.region ?_
      have hy1 : rF now y = false := by simp_all [rF, fgt]
      refine R.ev rfl (E.move rfl) ?_
      refine R.ev rfl (E.move rfl) ?_
      refine R.ev rfl (E.move rfl) ?_
      refine R.ev rfl (E.indexAddr rfl rfl Try.underlying36 Try.sz24 rfl (by first | omega | decide)) ?_
      refine R.ev rfl (E.loadRowC rfl Try.underlying24 rfl Try.sz24 (by first | exact ⟨hs.ldA, by first | rfl | assumption | exact encV_len _ | exact Enc.len _ | exact len_ub (by assumption)⟩ | exact ⟨hs.ldP rfl, by first | rfl | assumption | exact encV_len _ | exact Enc.len _ | exact len_ub (by assumption)⟩ | exact ⟨hs.ldM rfl rfl, by first | rfl | assumption | exact encV_len _ | exact Enc.len _ | exact len_ub (by assumption)⟩ | exact ⟨hs.ldM (by assumption) (by first | rfl | assumption), by first | rfl | assumption | exact encV_len _ | exact Enc.len _ | exact len_ub (by assumption)⟩ | exact ⟨by assumption, by first | rfl | assumption | exact encV_len _ | exact Enc.len _ | exact len_ub (by assumption)⟩ | exact hs.ldp | exact At.partC (by assumption))) ?_
      refine R.buildSliceA rfl Try.underlying36 Try.sz24 Try.zr24 rfl (by first | rfl | assumption | exact encV_len _ | exact Enc.len _ | simp [*]) (by decide) (by decide) ?_
      intro b61 w61 n61
      have hs := hs.new n61
      refine R.capp1 (y) hs rfl rfl Try.underlying36 Try.by24 (by rfl) rfl (by first | exact hs.ldA | exact hs.ldP rfl | exact by assumption) (by decide) (by first | omega | (simp only [List.length_append, List.length_cons, List.length_nil] at *; omega)) (by first | omega | (simp only [List.length_append, List.length_cons, List.length_nil] at *; omega)) ?_
      intro v62 w62 F62 r62 hs
      refine R.ev rfl (E.assign rfl) ?_
      refine R.done ?_
      refine X.keep [(0, _), (1, _), (2, _), (9, _), (10, _), (11, _)] ⟨rfl, rfl, rfl, rfl, rfl, rfl, trivial⟩ ?_
      refine X.blockNormal ?_
      refine X.next ?_
      refine C.region ?_
      refine R.ev rfl (E.move rfl) ?_
      refine R.ev rfl (E.add rfl rfl (by omega) (by omega)) ?_
      refine R.ev rfl (E.assign rfl) ?_
      refine R.done ?_
      refine X.keep [(0, _), (1, _), (2, _), (9, _), (10, _), (11, _)] ⟨rfl, rfl, rfl, rfl, rfl, rfl, trivial⟩ ?_
      have c1 := rFCut_snoc (now := now) (cut := cut) hy
      have c2 := rFIds_snoc (now := now) hy
      have c3 := rFRest_snoc (now := now) hy
      rw [hy1] at c1 c2 c3
      simp only [if_true, Bool.false_eq_true, if_false] at c1
      first
        | exact X.again (k + 1, va, Fa, v52, F52) ⟨lkV rfl (congrArg (Value.int .i64) c1.symm), rfl, rfl, rfl, rfl, rfl, trivial⟩ ⟨by omega, by rw [c3]; simpa using ra, by rw [c2]; exact r52, hs.to⟩ (by show _ - _ < _ - _; omega)
        | exact X.again (k + 1, v62, F62, vb, Fb) ⟨lkV rfl (congrArg (Value.int .i64) c1.symm), rfl, rfl, rfl, rfl, rfl, trivial⟩ ⟨by omega, by rw [c3]; exact r62, by rw [c2]; simpa using rb, hs.to⟩ (by show _ - _ < _ - _; omega)
  · refine C.exit ?_
    refine X.thenExit ?_
    refine X.loopExit ?_
    refine X.blockExit ?_
    refine X.next ?_
    refine C.seq ?_
    refine C.region ?_
    refine R.ev rfl (E.move rfl) ?_
    refine R.ev rfl (E.move rfl) ?_
    refine R.ev rfl (E.move rfl) ?_
    refine R.ev rfl (E.assign rfl) ?_
    refine R.ev rfl (E.assign rfl) ?_
    refine R.ev rfl (E.assign rfl) ?_
    refine R.done ?_
    refine X.keep [(6, _), (7, _), (8, _)] ⟨rfl, rfl, rfl, trivial⟩ ?_
    refine X.next ?_
    refine C.ret ?_
    refine X.ret3 rfl rfl rfl rfl ?_
    have hke : k = L.length := by omega
    rw [hke, List.take_length] at ra rb ⊢
    exact ⟨vb, Fb, rb, XPost.new (f := fun v => .tuple #[v, .int .i64 (rFCut now cut L), vb]) ra hs⟩
end Go.Proofs.Ytobhhnfckhbeeaa
