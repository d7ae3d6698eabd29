/-
  package history: Forget.
-/
import Derived.Test.YtobhhnfckhbeeaaHis4
namespace Go.Proofs.Ytobhhnfckhbeeaa
open Go.Eng Go.RowKit Go.Sort
variable {K : Kn} {Hs Rs : List Hl} {F : Hl} {w : World} {p : Nat} {s : Hi}
/-- what Forget drops -/
def fgt (now : Int) (x : HEnt) : Bool := decide (x.state = 1) && (!x.perm && old x.date now)
def fgStep (now : Int) (l : List (Vec 32)) (x : HEnt) : List (Vec 32) := if fgt now x then l ++ [x.id] else l
def fgIds (now : Int) (L : List HEnt) : List (Vec 32) := (L.filter (fgt now)).map HEnt.id
theorem fg_fold (now : Int) : ∀ (L : List HEnt) (l : List (Vec 32)), L.foldl (fgStep now) l = l ++ fgIds now L
  | [], l => by simp [fgIds]
  | x :: L, l => by
    rw [List.foldl_cons, fg_fold now L, fgStep, fgIds, fgIds]
    by_cases h : fgt now x = true
    · rw [if_pos h, List.filter_cons_of_pos h]; simp
    · rw [if_neg h, List.filter_cons_of_neg h]
theorem fgIds_le (now : Int) (L : List HEnt) : (fgIds now L).length ≤ L.length := by
  unfold fgIds; rw [List.length_map]; exact List.length_filter_le _ _
def delAll (l : List (Vec 32)) (M : HMap) : HMap := l.foldl (fun M a => delM a M) M
def Hi.fgS (s : Hi) (now : Int) (L : List HEnt) : Hi := if isMin now then ⟨delAll (fgIds now L) s.M, if 0 < (fgIds now L).length then max s.cut now else s.cut⟩ else s
def Hi.fgR (now : Int) (L : List HEnt) : List (Vec 32) := if isMin now then fgIds now L else []
theorem delAll_snoc {l : List (Vec 32)} {k : Nat} {a : Vec 32} {M : HMap} (h : l[k]? = some a) : delAll (l.take (k + 1)) M = delM a (delAll (l.take k) M) := by
  rw [take_snoc h, delAll, List.foldl_append]; rfl
theorem forget_any (now : Int) {Lx : List HEnt} (ho : Ord s Lx) (hs : Sat K w (F :: Rs)) [hw : HiL p s F] : Ret Try.prog 22 #[ptr p, .int .i64 now] w fun r w' => ∃ F' G', RowL 27 encV 32 r (Hi.fgR now Lx) G' ∧ HiL p (s.fgS now Lx) F' ∧ Sat K w' (G' :: F' :: Rs) := by
  have hlen : Lx.length ≤ 1048576 := by have := ho.len; have := ho.ok.len; omega
  refine Ret.enter (n := 63) (args := [ptr p, .int .i64 now]) Try.func22 rfl rfl ?_
  refine C.keep [(0, _), (1, _)] ⟨rfl, rfl, trivial⟩ ?_
  refine C.seq ?_
  refine C.region ?_
  refine R.sbox1 hs rfl rfl rfl ?_
  intro b3 w3 hs
  refine R.ev rfl (E.assign rfl) ?_
  refine R.done ?_
  refine X.keep [(0, _), (3, _)] ⟨rfl, rfl, trivial⟩ ?_
  refine X.next ?_
  refine C.seq ?_
  refine C.seq ?_
  refine C.region ?_
  refine R.ev rfl (E.move rfl) ?_
  refine R.ev rfl (E.eqlNilF rfl rfl Try.underlying35) ?_
  refine R.ev rfl (E.move rfl) ?_
  refine R.gyes rfl rfl ?_
  refine R.ev rfl (E.load1 rfl Try.underlying3 rfl (by first | exact hs.ldc | exact hs.ld rfl | exact hs.ld (by assumption) | exact by assumption | exact At.cellC (by assumption))) ?_
  refine R.gyes rfl rfl ?_
  refine R.call ⟨_, _, Try.func41, rfl, by kernel_rfl⟩ rfl rfl (isMinute_any now _) ?_
  rintro _ _ ⟨rfl, rfl⟩
  refine R.gyes rfl rfl ?_
  refine R.ev rfl ((E.not rfl).isB (c := !(isMin now)) rfl) ?_
  refine R.ev rfl (E.pickF rfl rfl) ?_
  refine R.done ?_
  refine X.keep [(0, _), (3, _), (15, _)] ⟨rfl, rfl, rfl, trivial⟩ ?_
  refine X.next ?_
  refine C.cbool rfl (fun h15 => ?_) (fun h15 => ?_)
  · have hmin : ¬ isMin now = true := by simpa using h15
    refine C.seq ?_
    refine C.region ?_
    refine R.ev rfl (E.assign rfl) ?_
    refine R.done ?_
    refine X.keep [(4, _)] ⟨rfl, trivial⟩ ?_
    refine X.next ?_
    refine C.ret ?_
    refine X.thenRet ?_
    refine X.ret1 rfl rfl ?_
    exact ⟨F, [], by rw [Hi.fgR, if_neg hmin]; exact RowL.nil _ _ _, by rw [Hi.fgS, if_neg hmin]; exact hw, hs.nil.to⟩
  · have hmin : isMin now = true := by simpa using h15
    have hn : 0 ≤ now ∧ now ≤ 105190559 := by simpa [isMin] using hmin
    refine C.skip ?_
    refine X.next ?_
    refine C.seq ?_
    refine C.region ?_
    refine R.salloc1 hs Try.zr46 rfl rfl ?_
    intro b5 w5 hs
    refine R.done ?_
    refine X.keep [(0, _), (3, _), (5, _)] ⟨rfl, rfl, rfl, trivial⟩ ?_
    refine X.next ?_
    refine C.seq ?_
    refine C.seq ?_
    refine C.region ?_
    refine R.ev rfl (E.move rfl) ?_
    refine R.call ⟨_, _, Try.func23, rfl, by kernel_rfl⟩ rfl rfl (all_any (ptr p) rfl hs) ?_
    rintro _ w4 ⟨b4, rfl, hs⟩
    refine R.done ?_
    refine X.keep [(0, _), (3, _), (5, _), (17, _)] ⟨rfl, rfl, rfl, rfl, trivial⟩ ?_
    refine X.next ?_
    refine C.block ?_
    refine C.rangeL (σ := List (Vec 32)) (fun l G => ∃ v F1, G = row b5 46 [v] ++ (row b3 3 [.int .i64 now] ++ F1) ∧ RowL 27 encV 32 v l F1) (fgStep now) (fun _ => none) ([]) rfl rfl ⟨_, _, Try.func48, rfl, by kernel_rfl⟩ rfl (all1_iter (Hs := (row b5 46 [.slice none 0 0] ++ (row b3 3 [.int .i64 now] ++ [])) :: row b4 35 [ptr p] :: F :: Rs) ho inferInstance inferInstance) (hs.nil.to) (⟨_, [], rfl, RowL.nil _ _ _⟩) rfl ?_ ?_
    · rintro l c ids G1 R1 pre x post w1 hx hids _ ⟨v, F1, rfl, r1⟩ hs
      have hl1 : ids.length < 1048576 := by
        have h1 := fgIds_le now pre
        rw [hids, fg_fold, List.nil_append]
        rw [hx] at hlen; simp at hlen; omega
      have hs : Sat K w1 (lpP l c .ready none :: row b5 46 [v] :: row b3 3 [.int .i64 now] :: F1 :: R1) := hs.perm (by simp [List.append_assoc])
      obtain ⟨ad1, cap1, rfl, _⟩ := r1.val
      refine C.keep [(0, _), (3, _), (5, _), (18, _)] ⟨rfl, rfl, rfl, rfl, trivial⟩ ?_
      refine C.region ?_
      refine R.sallocA hs Try.zr29 rfl ?_
      intro b6 w6 hs
      first | refine R.cstoreAll hs rfl rfl Try.sz29 (by first | rfl | assumption | exact encV_len _ | exact Enc.len _ | exact len_ub (by assumption) | simp [*]) (by first | rfl | assumption | exact encV_len _ | exact Enc.len _ | exact len_ub (by assumption) | simp [*]) (by first | assumption | exact OneL.all | exact Enc.one _ | exact ub_all _ | (repeat' (first | refine List.forall_mem_cons.2 ⟨?_, ?_⟩ | exact List.forall_mem_nil _ | rfl | exact OneC.one | exact KRow.oneC' (by assumption)))) ?_ | refine R.cstore hs rfl rfl Try.sz29 (by first | rfl | assumption | exact encV_len _ | exact Enc.len _ | exact len_ub (by assumption) | simp [*]) (by simp [*]) (by first | assumption | exact OneL.all | exact Enc.one _ | exact ub_all _ | (repeat' (first | refine List.forall_mem_cons.2 ⟨?_, ?_⟩ | exact List.forall_mem_nil _ | rfl | exact OneC.one | exact KRow.oneC' (by assumption)))) ?_
      intro w5_1 hs
      try simp only [List.set_cons_zero, List.set_cons_succ] at hs
      refine R.done ?_
      refine X.keep [(0, _), (3, _), (5, _), (6, _)] ⟨rfl, rfl, rfl, rfl, trivial⟩ ?_
      refine X.begin_ (c := c) (pd := none) hs ?_
      intro wb0 hs
      refine C.keep [(0, _), (3, _), (5, _), (6, _)] ⟨rfl, rfl, rfl, rfl, trivial⟩ ?_
      refine C.block ?_
      refine C.seq ?_
      refine C.region ?_
      first | refine R.ev rfl (E.fieldAddr0 34 rfl Try.underlying29 rfl Try.sz3 rfl) ?_ | refine R.ev rfl (E.fieldAddrN 34 rfl Try.underlying29 rfl Try.sz3 rfl) ?_
      refine R.ev rfl (E.load1 rfl Try.underlying3 rfl (by first | exact hs.ldc | exact hs.ld rfl | exact hs.ld (by assumption) | exact by assumption | exact At.cellC (by assumption))) ?_
      refine R.ev rfl (E.eql rfl rfl) ?_
      refine R.ev rfl (E.move rfl) ?_
      refine R.split 22 rfl (fun h22 => ?_) (fun h22 => ?_)
      · refine R.gyes rfl rfl ?_
        first | refine R.ev rfl (E.fieldAddr0 35 rfl Try.underlying29 rfl Try.sz4 rfl) ?_ | refine R.ev rfl (E.fieldAddrN 35 rfl Try.underlying29 rfl Try.sz4 rfl) ?_
        refine R.gyes rfl rfl ?_
        refine R.ev rfl (E.load1 rfl Try.underlying4 rfl (by first | exact hs.ldc | exact hs.ld rfl | exact hs.ld (by assumption) | exact by assumption | exact At.cellC (by assumption))) ?_
        refine R.gyes rfl rfl ?_
        refine R.ev rfl ((E.not rfl).isB (c := !x.perm) rfl) ?_
        refine R.ev rfl (E.pickT rfl rfl) ?_
        refine R.ev rfl (E.move rfl) ?_
        refine R.split 27 rfl (fun h27 => ?_) (fun h27 => ?_)
        · refine R.gyes rfl rfl ?_
          first | refine R.ev rfl (E.fieldAddr0 33 rfl Try.underlying29 rfl Try.sz3 rfl) ?_ | refine R.ev rfl (E.fieldAddrN 33 rfl Try.underlying29 rfl Try.sz3 rfl) ?_
          refine R.gyes rfl rfl ?_
          refine R.ev rfl (E.load1 rfl Try.underlying3 rfl (by first | exact hs.ldc | exact hs.ld rfl | exact hs.ld (by assumption) | exact by assumption | exact At.cellC (by assumption))) ?_
          refine R.gyes rfl rfl ?_
          refine R.ev rfl (E.load1 rfl Try.underlying3 rfl (by first | exact hs.ldc | exact hs.ld rfl | exact hs.ld (by assumption) | exact by assumption | exact At.cellC (by assumption))) ?_
          refine R.gyes rfl rfl ?_
          refine R.call ⟨_, _, Try.func46, rfl, by kernel_rfl⟩ rfl rfl (tooOld_any x.date now _ (by omega)) ?_
          rintro _ _ ⟨rfl, rfl⟩
          refine R.ev rfl (E.pickT rfl rfl) ?_
          refine R.done ?_
          refine X.keep [(0, _), (3, _), (5, _), (6, _), (32, _)] ⟨rfl, rfl, rfl, rfl, rfl, trivial⟩ ?_
          refine X.next ?_
          refine C.cbool rfl (fun h32 => ?_) (fun h32 => ?_)
          · refine C.region ?_
            refine R.ev rfl (E.load1 rfl Try.underlying46 rfl (by first | exact hs.ldc | exact hs.ld rfl | exact hs.ld (by assumption) | exact by assumption | exact At.cellC (by assumption))) ?_
            first | refine R.ev rfl (E.fieldAddr0 0 rfl Try.underlying29 rfl Try.sz27 rfl) ?_ | refine R.ev rfl (E.fieldAddrN 0 rfl Try.underlying29 rfl Try.sz27 rfl) ?_
            refine R.ev rfl (E.loadRowC rfl Try.underlying27 rfl Try.sz27 (by first | exact ⟨hs.ldA, by first | rfl | assumption | exact encV_len _ | exact Enc.len _ | exact len_ub (by assumption)⟩ | exact ⟨hs.ldP rfl, by first | rfl | assumption | exact encV_len _ | exact Enc.len _ | exact len_ub (by assumption)⟩ | exact ⟨hs.ldM rfl rfl, by first | rfl | assumption | exact encV_len _ | exact Enc.len _ | exact len_ub (by assumption)⟩ | exact ⟨hs.ldM (by assumption) (by first | rfl | assumption), by first | rfl | assumption | exact encV_len _ | exact Enc.len _ | exact len_ub (by assumption)⟩ | exact ⟨by assumption, by first | rfl | assumption | exact encV_len _ | exact Enc.len _ | exact len_ub (by assumption)⟩ | exact hs.ldp | exact At.partC (by assumption))) ?_
            refine R.buildSliceA rfl Try.underlying46 Try.sz27 Try.zr27 rfl (by first | rfl | assumption | exact encV_len _ | exact Enc.len _ | simp [*]) (by decide) (by decide) ?_
            intro b36 w36 n36
            have hs := hs.new n36
            refine R.capp1 (x.id) hs rfl rfl Try.underlying46 Try.by27 (by rfl) rfl (by first | exact hs.ldA | exact hs.ldP rfl | exact by assumption) (by decide) (by first | omega | (simp only [List.length_append, List.length_cons, List.length_nil] at *; omega)) (by first | omega | (simp only [List.length_append, List.length_cons, List.length_nil] at *; omega)) ?_
            intro v37 w37 F37 r37 hs
            refine R.cstore1 hs rfl rfl Try.sz46 (by first | decide | simp [*]) (by first | rfl | exact OneC.one | exact KRow.oneC' (by assumption)) ?_
            intro w7_5 hs
            try simp only [List.set_cons_zero, List.set_cons_succ] at hs
            refine R.done ?_
            refine X.keep [(0, _), (3, _), (5, _)] ⟨rfl, rfl, rfl, trivial⟩ ?_
            refine X.blockNormal ?_
            refine X.rndEnd (c := c) (st := .busy) (pd := none) hs ?_
            intro we0 hs
            first
              | (have hst : fgStep now ids x = ids ++ [x.id] := by rw [fgStep, if_pos (by simp_all [fgt])]
                 rw [hst]
                 exact ⟨rfl, _, ⟨v37, F37, rfl, r37⟩, show Sat K _ (lpP l c .ready none :: _ :: R1) from hs.to⟩)
              | (have hst : fgStep now ids x = ids := by rw [fgStep, if_neg (by simp_all [fgt])]
                 rw [hst]
                 exact ⟨rfl, _, ⟨_, F1, rfl, r1⟩, show Sat K _ (lpP l c .ready none :: _ :: R1) from hs.to⟩)
          · refine C.skip ?_
            refine X.blockNormal ?_
            refine X.rndEnd (c := c) (st := .busy) (pd := none) hs ?_
            intro we0 hs
            first
              | (have hst : fgStep now ids x = ids ++ [x.id] := by rw [fgStep, if_pos (by simp_all [fgt])]
                 rw [hst]
                 exact ⟨rfl, _, ⟨v37, F37, rfl, r37⟩, show Sat K _ (lpP l c .ready none :: _ :: R1) from hs.to⟩)
              | (have hst : fgStep now ids x = ids := by rw [fgStep, if_neg (by simp_all [fgt])]
                 rw [hst]
                 exact ⟨rfl, _, ⟨_, F1, rfl, r1⟩, show Sat K _ (lpP l c .ready none :: _ :: R1) from hs.to⟩)
        · refine R.gskip rfl rfl rfl ?_
          refine R.gskip rfl rfl rfl ?_
          refine R.gskip rfl rfl rfl ?_
          refine R.gskip rfl rfl rfl ?_
          refine R.ev rfl (E.pickF rfl rfl) ?_
          refine R.done ?_
          refine X.keep [(0, _), (3, _), (5, _), (6, _), (32, _)] ⟨rfl, rfl, rfl, rfl, rfl, trivial⟩ ?_
          refine X.next ?_
          refine C.cfalse rfl ?_
          refine C.skip ?_
          refine X.blockNormal ?_
          refine X.rndEnd (c := c) (st := .busy) (pd := none) hs ?_
          intro we0 hs
          first
            | (have hst : fgStep now ids x = ids ++ [x.id] := by rw [fgStep, if_pos (by simp_all [fgt])]
               rw [hst]
               exact ⟨rfl, _, ⟨v37, F37, rfl, r37⟩, show Sat K _ (lpP l c .ready none :: _ :: R1) from hs.to⟩)
            | (have hst : fgStep now ids x = ids := by rw [fgStep, if_neg (by simp_all [fgt])]
               rw [hst]
               exact ⟨rfl, _, ⟨_, F1, rfl, r1⟩, show Sat K _ (lpP l c .ready none :: _ :: R1) from hs.to⟩)
      · refine R.gskip rfl rfl rfl ?_
        refine R.gskip rfl rfl rfl ?_
        refine R.gskip rfl rfl rfl ?_
        refine R.ev rfl (E.pickF rfl rfl) ?_
        refine R.ev rfl (E.move rfl) ?_
        refine R.gskip rfl rfl rfl ?_
        refine R.gskip rfl rfl rfl ?_
        refine R.gskip rfl rfl rfl ?_
        refine R.gskip rfl rfl rfl ?_
        refine R.ev rfl (E.pickF rfl rfl) ?_
        refine R.done ?_
        refine X.keep [(0, _), (3, _), (5, _), (6, _), (32, _)] ⟨rfl, rfl, rfl, rfl, rfl, trivial⟩ ?_
        refine X.next ?_
        refine C.cfalse rfl ?_
        refine C.skip ?_
        refine X.blockNormal ?_
        refine X.rndEnd (c := c) (st := .busy) (pd := none) hs ?_
        intro we0 hs
        first
          | (have hst : fgStep now ids x = ids ++ [x.id] := by rw [fgStep, if_pos (by simp_all [fgt])]
             rw [hst]
             exact ⟨rfl, _, ⟨v37, F37, rfl, r37⟩, show Sat K _ (lpP l c .ready none :: _ :: R1) from hs.to⟩)
          | (have hst : fgStep now ids x = ids := by rw [fgStep, if_neg (by simp_all [fgt])]
             rw [hst]
             exact ⟨rfl, _, ⟨_, F1, rfl, r1⟩, show Sat K _ (lpP l c .ready none :: _ :: R1) from hs.to⟩)
    · rintro D0 G2 w2 hb2 hs
      rw [runO_all (fun _ _ => rfl), fg_fold, List.nil_append] at hb2
      obtain ⟨v5, F5, rfl, r5⟩ := hb2
      show X _ .normal _ _ _
      have hs : Sat K w2 (row b5 46 [v5] :: row b3 3 [.int .i64 now] :: F5 :: dfP D0 (some []) :: F :: Rs) := (hs.perm (Hs' := row b5 46 [v5] :: row b3 3 [.int .i64 now] :: F5 :: dfP D0 (some []) :: row b4 35 [ptr p] :: F :: Rs) (by simp [List.append_assoc])).to
      obtain ⟨m, G, rfl, hm⟩ := hw.ex
      have hfl := fgIds_le now Lx
      generalize hids : fgIds now Lx = ids at r5 hfl
      obtain ⟨ad5, cap5, rfl, _⟩ := r5.val
      have hs : Sat K w2 (row b5 46 [.slice ad5 ids.length cap5] :: row b3 3 [.int .i64 now] :: F5 :: dfP D0 (some []) :: row p 88 [m, .int .i64 s.cut] :: G :: Rs) := hs.perm (by simp [List.append_assoc])
      refine X.keep [(0, _), (3, _), (5, _)] ⟨rfl, rfl, rfl, trivial⟩ ?_
      refine X.blockNormal ?_
      refine X.next ?_
      refine C.seq ?_
      refine C.seq ?_
      refine C.region ?_
      refine R.ev rfl (E.load1 rfl Try.underlying46 rfl (by first | exact hs.ldc | exact hs.ld rfl | exact hs.ld (by assumption) | exact by assumption | exact At.cellC (by assumption))) ?_
      refine R.ev rfl (E.lenSl rfl Try.underlying46) ?_
      refine R.ev rfl (E.move rfl) ?_
      refine R.done ?_
      refine X.keep [(0, _), (3, _), (5, _), (38, _), (39, _), (40, _)] ⟨rfl, rfl, rfl, rfl, rfl, rfl, trivial⟩ ?_
      refine X.next ?_
      refine C.block ?_
      refine C.loop (T := Nat × Hl) [(0, _), (3, _), (5, _), (38, _), (39, _)] (fun (k, _) => [(40, .int .i64 (k : Nat))]) (fun (k, G') w' => k ≤ ids.length ∧ MapL ekI evH m (delAll (ids.take k) s.M) G' ∧ Sat K w' (row b5 46 [.slice ad5 ids.length cap5] :: row b3 3 [.int .i64 now] :: F5 :: dfP D0 (some []) :: row p 88 [m, .int .i64 s.cut] :: G' :: Rs)) (fun (k, _) => ids.length - k) ((0, G)) ⟨rfl, rfl, rfl, rfl, rfl, rfl, trivial⟩ ⟨Nat.zero_le _, hm, hs⟩ ?_
      rintro ⟨k, G'⟩ w3 ⟨hk, hm3, hs⟩
      refine C.keep [(0, _), (3, _), (5, _), (38, _), (39, _), (40, _)] ⟨rfl, rfl, rfl, rfl, rfl, rfl, trivial⟩ ?_
      refine C.seq ?_
      refine C.region ?_
      refine R.ev rfl (E.lss rfl rfl) ?_
      refine R.done ?_
      refine X.keep [(0, _), (3, _), (5, _), (38, _), (39, _), (40, _), (41, _)] ⟨rfl, rfl, rfl, rfl, rfl, rfl, rfl, trivial⟩ ?_
      refine X.next ?_
      refine C.seq ?_
      refine C.cdec rfl (fun h41 => ?_) (fun h41 => ?_)
      · obtain ⟨y, bk_y, of_y, hy, my, ly, rfl, Ay⟩ := hs.el (i := k) (ad := ad5) (n := ids.length) (c := cap5) (by omega)
        have ay := Ay _ hs
        refine C.skip ?_
        refine X.next ?_
        refine C.seq ?_
        refine C.block ?_
        refine C.seq ?_
        refine C.region ?_
        refine R.ev rfl (E.indexAddr rfl rfl Try.underlying46 Try.sz27 rfl (by first | omega | decide)) ?_
        refine R.ev rfl (E.loadRowC rfl Try.underlying27 rfl Try.sz27 (by first | exact ⟨hs.ldA, by first | rfl | assumption | exact encV_len _ | exact Enc.len _ | exact len_ub (by assumption)⟩ | exact ⟨hs.ldP rfl, by first | rfl | assumption | exact encV_len _ | exact Enc.len _ | exact len_ub (by assumption)⟩ | exact ⟨hs.ldM rfl rfl, by first | rfl | assumption | exact encV_len _ | exact Enc.len _ | exact len_ub (by assumption)⟩ | exact ⟨hs.ldM (by assumption) (by first | rfl | assumption), by first | rfl | assumption | exact encV_len _ | exact Enc.len _ | exact len_ub (by assumption)⟩ | exact ⟨by assumption, by first | rfl | assumption | exact encV_len _ | exact Enc.len _ | exact len_ub (by assumption)⟩ | exact hs.ldp | exact At.partC (by assumption))) ?_
        refine R.sallocA hs Try.zr27 rfl ?_
        intro b8 w8 hs
        first | refine R.cstoreAll hs rfl rfl Try.sz27 (by first | rfl | assumption | exact encV_len _ | exact Enc.len _ | exact len_ub (by assumption) | simp [*]) (by first | rfl | assumption | exact encV_len _ | exact Enc.len _ | exact len_ub (by assumption) | simp [*]) (by first | assumption | exact OneL.all | exact Enc.one _ | exact ub_all _ | (repeat' (first | refine List.forall_mem_cons.2 ⟨?_, ?_⟩ | exact List.forall_mem_nil _ | rfl | exact OneC.one | exact KRow.oneC' (by assumption)))) ?_ | refine R.cstore hs rfl rfl Try.sz27 (by first | rfl | assumption | exact encV_len _ | exact Enc.len _ | exact len_ub (by assumption) | simp [*]) (by simp [*]) (by first | assumption | exact OneL.all | exact Enc.one _ | exact ub_all _ | (repeat' (first | refine List.forall_mem_cons.2 ⟨?_, ?_⟩ | exact List.forall_mem_nil _ | rfl | exact OneC.one | exact KRow.oneC' (by assumption)))) ?_
        intro w10_3 hs
        try simp only [List.set_cons_zero, List.set_cons_succ] at hs
        refine R.done ?_
        refine X.keep [(0, _), (3, _), (5, _), (8, _), (38, _), (39, _), (40, _)] ⟨rfl, rfl, rfl, rfl, rfl, rfl, rfl, trivial⟩ ?_
        refine X.next ?_
        refine C.drawn (SatS hs) ([3, 4], [0, 1, 2]) (by kernel_rfl) ?_
        have hs := hs.drew
        refine D.evP 0 rfl (by kernel_rfl) rfl (fun _ => hs.to) (fun _ => E.move rfl) ?_
        refine D.evP 1 rfl (by kernel_rfl) rfl (fun _ => hs.to) (fun _ => E.nilCheck rfl) ?_
        first | refine D.evP 2 rfl (by kernel_rfl) rfl (fun _ => hs.to) (fun _ => E.fieldAddr0 0 rfl Try.underlying88 rfl Try.sz86 rfl) ?_ | refine D.evP 2 rfl (by kernel_rfl) rfl (fun _ => hs.to) (fun _ => E.fieldAddrN 0 rfl Try.underlying88 rfl Try.sz86 rfl) ?_
        refine D.ev 3 rfl (by kernel_rfl) rfl hs.to (fun _ hS => E.load1 rfl Try.underlying86 rfl (by first | exact hS.ldc | exact hS.ld rfl | exact hS.ld (by assumption) | exact by assumption | exact At.cellC (by assumption) | exact At.cellC ((by assumption : ∀ w', Sat _ w' _ → At w' _ _ _) _ hS) | exact (by assumption : ∀ w', Sat _ w' _ → World.cell? w' _ = some _) _ hS)) ?_
        refine D.ev 4 rfl (by kernel_rfl) rfl hs.to (fun _ hS => E.loadRowC rfl Try.underlying27 rfl Try.sz27 (by first | exact ⟨hS.ldA, by first | rfl | assumption | exact encV_len _ | exact Enc.len _ | exact len_ub (by assumption)⟩ | exact ⟨hS.ldP rfl, by first | rfl | assumption | exact encV_len _ | exact Enc.len _ | exact len_ub (by assumption)⟩ | exact ⟨hS.ldM rfl rfl, by first | rfl | assumption | exact encV_len _ | exact Enc.len _ | exact len_ub (by assumption)⟩ | exact ⟨hS.ldM (by assumption) (by first | rfl | assumption), by first | rfl | assumption | exact encV_len _ | exact Enc.len _ | exact len_ub (by assumption)⟩ | exact ⟨by assumption, by first | rfl | assumption | exact encV_len _ | exact Enc.len _ | exact len_ub (by assumption)⟩ | exact ⟨(by assumption : ∀ w', Sat _ w' _ → At w' _ _ _) _ hS, by first | rfl | assumption | exact encV_len _ | exact Enc.len _ | exact len_ub (by assumption)⟩ | exact hS.ldp | exact At.partC (by assumption) | exact At.partC ((by assumption : ∀ w', Sat _ w' _ → At w' _ _ _) _ hS))) ?_
        refine D.act 5 rfl (by kernel_rfl) ?_
        refine R.cdel (y) hs rfl rfl Try.underlying86 (by rfl) ?_
        intro w11_5 F11_5 m11_5 hs
        refine D.backT (by kernel_rfl) ?_
        refine D.done rfl (by kernel_rfl) ?_
        refine X.keep [(0, _), (3, _), (5, _), (38, _), (39, _), (40, _)] ⟨rfl, rfl, rfl, rfl, rfl, rfl, trivial⟩ ?_
        refine X.blockNormal ?_
        refine X.next ?_
        refine C.region ?_
        refine R.ev rfl (E.add rfl rfl (by omega) (by omega)) ?_
        refine R.ev rfl (E.move rfl) ?_
        refine R.done ?_
        refine X.keep [(0, _), (3, _), (5, _), (38, _), (39, _), (40, _)] ⟨rfl, rfl, rfl, rfl, rfl, rfl, trivial⟩ ?_
        exact X.again (k + 1, F11_5) ⟨rfl, rfl, rfl, rfl, rfl, rfl, trivial⟩ ⟨by omega, by rw [delAll_snoc hy]; exact m11_5, hs.to⟩ (by show _ - _ < _ - _; omega)
      · refine C.exit ?_
        refine X.thenExit ?_
        refine X.loopExit ?_
        refine X.blockExit ?_
        refine X.next ?_
        refine C.seq ?_
        refine C.seq ?_
        refine C.region ?_
        have hke : k = ids.length := by omega
        rw [hke, List.take_length] at hm3
        refine R.ev rfl (E.load1 rfl Try.underlying46 rfl (by first | exact hs.ldc | exact hs.ld rfl | exact hs.ld (by assumption) | exact by assumption | exact At.cellC (by assumption))) ?_
        refine R.ev rfl (E.lenSl rfl Try.underlying46) ?_
        refine R.ev rfl (E.gtr rfl rfl) ?_
        refine R.done ?_
        refine X.keep [(0, _), (3, _), (5, _), (52, _)] ⟨rfl, rfl, rfl, rfl, trivial⟩ ?_
        refine X.next ?_
        refine C.cdec rfl (fun h52 => ?_) (fun h52 => ?_)
        · refine C.drawn (SatS hs) ([4, 5], [0, 1, 2, 3, 6, 7, 8]) (by kernel_rfl) ?_
          have hs := hs.drew
          refine D.evP 0 rfl (by kernel_rfl) rfl (fun _ => hs.to) (fun _ => E.move rfl) ?_
          refine D.evP 1 rfl (by kernel_rfl) rfl (fun _ => hs.to) (fun _ => E.move rfl) ?_
          refine D.evP 2 rfl (by kernel_rfl) rfl (fun _ => hs.to) (fun _ => E.nilCheck rfl) ?_
          first | refine D.evP 3 rfl (by kernel_rfl) rfl (fun _ => hs.to) (fun _ => E.fieldAddr0 1 rfl Try.underlying88 rfl Try.sz3 rfl) ?_ | refine D.evP 3 rfl (by kernel_rfl) rfl (fun _ => hs.to) (fun _ => E.fieldAddrN 1 rfl Try.underlying88 rfl Try.sz3 rfl) ?_
          refine D.ev 4 rfl (by kernel_rfl) rfl hs.to (fun _ hS => E.load1 rfl Try.underlying3 rfl (by first | exact hS.ldc | exact hS.ld rfl | exact hS.ld (by assumption) | exact by assumption | exact At.cellC (by assumption) | exact At.cellC ((by assumption : ∀ w', Sat _ w' _ → At w' _ _ _) _ hS) | exact (by assumption : ∀ w', Sat _ w' _ → World.cell? w' _ = some _) _ hS)) ?_
          refine D.ev 5 rfl (by kernel_rfl) rfl hs.to (fun _ hS => E.load1 rfl Try.underlying3 rfl (by first | exact hS.ldc | exact hS.ld rfl | exact hS.ld (by assumption) | exact by assumption | exact At.cellC (by assumption) | exact At.cellC ((by assumption : ∀ w', Sat _ w' _ → At w' _ _ _) _ hS) | exact (by assumption : ∀ w', Sat _ w' _ → World.cell? w' _ = some _) _ hS)) ?_
          refine D.evP 6 rfl (by kernel_rfl) rfl (fun _ => hs.to) (fun _ => E.max2 rfl rfl) ?_
          refine D.evP 7 rfl (by kernel_rfl) rfl (fun _ => hs.to) (fun _ => E.nilCheck rfl) ?_
          first | refine D.evP 8 rfl (by kernel_rfl) rfl (fun _ => hs.to) (fun _ => E.fieldAddr0 1 rfl Try.underlying88 rfl Try.sz3 rfl) ?_ | refine D.evP 8 rfl (by kernel_rfl) rfl (fun _ => hs.to) (fun _ => E.fieldAddrN 1 rfl Try.underlying88 rfl Try.sz3 rfl) ?_
          refine D.act 9 rfl (by kernel_rfl) ?_
          refine R.cstore1 hs rfl rfl Try.sz3 (by first | decide | simp [*]) (by first | rfl | exact OneC.one | exact KRow.oneC' (by assumption)) ?_
          intro w14_9 hs
          try simp only [List.set_cons_zero, List.set_cons_succ] at hs
          refine D.backT (by kernel_rfl) ?_
          refine D.done rfl (by kernel_rfl) ?_
          refine X.keep [(5, _)] ⟨rfl, trivial⟩ ?_
          refine X.next ?_
          refine C.seq ?_
          refine C.region ?_
          refine R.ev rfl (E.load1 rfl Try.underlying46 rfl (by first | exact hs.ldc | exact hs.ld rfl | exact hs.ld (by assumption) | exact by assumption | exact At.cellC (by assumption))) ?_
          refine R.ev rfl (E.assign rfl) ?_
          refine R.done ?_
          refine X.keep [(4, _)] ⟨rfl, trivial⟩ ?_
          refine X.next ?_
          refine C.ret ?_
          refine X.mark (D := D0) hs ?_
          intro wm0 hs
          refine X.ret1 rfl rfl ?_
          rw [Hi.fgR, Hi.fgS, if_pos hmin, if_pos hmin, hids]
          first
            | exact ⟨_, F5, r5, by rw [if_pos (by omega)]; exact HiL.mk' hm3, hs.to⟩
            | exact ⟨_, F5, r5, by rw [if_neg (by omega)]; exact HiL.mk' hm3, hs.to⟩
        · refine C.skip ?_
          refine X.next ?_
          refine C.seq ?_
          refine C.region ?_
          refine R.ev rfl (E.load1 rfl Try.underlying46 rfl (by first | exact hs.ldc | exact hs.ld rfl | exact hs.ld (by assumption) | exact by assumption | exact At.cellC (by assumption))) ?_
          refine R.ev rfl (E.assign rfl) ?_
          refine R.done ?_
          refine X.keep [(4, _)] ⟨rfl, trivial⟩ ?_
          refine X.next ?_
          refine C.ret ?_
          refine X.mark (D := D0) hs ?_
          intro wm0 hs
          refine X.ret1 rfl rfl ?_
          rw [Hi.fgR, Hi.fgS, if_pos hmin, if_pos hmin, hids]
          first
            | exact ⟨_, F5, r5, by rw [if_pos (by omega)]; exact HiL.mk' hm3, hs.to⟩
            | exact ⟨_, F5, r5, by rw [if_neg (by omega)]; exact HiL.mk' hm3, hs.to⟩
end Go.Proofs.Ytobhhnfckhbeeaa
