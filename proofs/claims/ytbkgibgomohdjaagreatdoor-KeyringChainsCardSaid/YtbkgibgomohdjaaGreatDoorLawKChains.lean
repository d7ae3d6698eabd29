/-
 KeyringChains returns true for every list of roll-overs, every author and every number: the keyring's chain, key and counting identities are the reference's. No condition but the listed table (tied to the program's text).
-/
import Derived.Test.YtbkgibgomohdjaaGreatDoorKrL
import Derived.Test.YtbkgibgomohdjaaGreatDoorKrS
import Derived.Test.YtbkgibgomohdjaaGreatDoorSortB
namespace Go.Proofs.YtbkgibgomohdjaaGreatDoor
open Go.Eng Go.RowKit Go.Sort
section
variable {K : Kn} {Hs Rs : List Hl} {F : Hl} {w : World} {v : Value} {L : List RO} {p : Nat} {MK : MKn} {MR : MRo}
/-- the chains of a list of authors -/
def Chs (L : List RO) : List (Vec 16) → List (List KY) → Prop
 | [], [] => True
 | a :: A, c :: C => ChA L a c ∧ Chs L A C
 | [], _ :: _ => False
 | _ :: _, [] => False
theorem Chs.snoc : ∀ {A : List (Vec 16)} {C : List (List KY)} {a : Vec 16} {c : List KY}, Chs L A C → ChA L a c → Chs L (A ++ [a]) (C ++ [c])
 | [], [], _, _, _, h2 => ⟨h2, trivial⟩
 | _ :: A, _ :: C, _, _, h1, h2 => ⟨h1.1, Chs.snoc h1.2 h2⟩
theorem Chs.det (hi : IdInj L) : ∀ {A : List (Vec 16)} {C C' : List (List KY)}, Chs L A C → Chs L A C' → C = C'
 | [], [], [], _, _ => rfl
 | _ :: A, c :: C, c' :: C', h1, h2 => by rw [ChA.det hi (fun _ _ => Iff.rfl) h1.1 h2.1, Chs.det hi h1.2 h2.2]
/-- the identities that count in a chain -/
def cnt1 (c : List KY) : List (Vec 32) := (c.filter fun k => decide (k.lim ≠ -1)).map KY.nx
theorem cnt1_len (c : List KY) : (cnt1 c).length ≤ c.length := by rw [cnt1, List.length_map]; exact List.length_filter_le _ _
theorem cnt1_snoc {c : List KY} {y : KY} : cnt1 (c ++ [y]) = cnt1 c ++ if y.lim ≠ -1 then [y.nx] else [] := by
 unfold cnt1
 rw [List.filter_append, List.map_append]
 congr 1
 by_cases h : y.lim ≠ -1 <;> simp [h]
def cntA (C : List (List KY)) : List (Vec 32) := C.flatMap cnt1
theorem cntA_snoc {C : List (List KY)} {c : List KY} : cntA (C ++ [c]) = cntA C ++ cnt1 c := by simp [cntA]
/-- what Counting gives: the counting identities of the authors' chains, in order -/
def CntP (L : List RO) (M : List (Vec 32)) : Prop := ∃ A C, AuL L A ∧ Chs L A C ∧ M.Perm (cntA C) ∧ M.Pairwise (fun x y => ltV y x = false)
theorem sorted_eqV : ∀ {M N : List (Vec 32)}, M.Perm N → M.Pairwise (fun x y => ltV y x = false) → N.Pairwise (fun x y => ltV y x = false) → M = N
 | [], N, hp, _, _ => (List.Perm.nil_eq hp)
 | x :: M, [], hp, _, _ => by have := hp.length_eq; simp at this
 | x :: M, y :: N, hp, h1, h2 => by
   have e : x = y := by
     have hx : x ∈ y :: N := hp.mem_iff.1 (by simp)
     have hy : y ∈ x :: M := hp.mem_iff.2 (by simp)
     rcases List.mem_cons.1 hx with rfl | hx
     · rfl
     rcases List.mem_cons.1 hy with rfl | hy
     · rfl
     exact ltV_tot x y ((List.pairwise_cons.1 h2).1 x hx) ((List.pairwise_cons.1 h1).1 y hy)
   subst e
   rw [sorted_eqV (List.Perm.cons_inv hp) (List.pairwise_cons.1 h1).2 (List.pairwise_cons.1 h2).2]
theorem CntP.eq (hi : IdInj L) {M N : List (Vec 32)} (h1 : CntP L M) (h2 : CntP L N) : M = N := by
 obtain ⟨A, C, hA, hC, hp, hs⟩ := h1
 obtain ⟨B, C', hB, hC', hp', hs'⟩ := h2
 obtain rfl := hA.eq hB
 obtain rfl := Chs.det hi hC hC'
 exact sorted_eqV (hp.trans hp'.symm) hs hs'
theorem cmpId_ok : IdS.idCmp K Rs 25 [] [] (ltV (m := 32)) :=
 ⟨⟨_, _, Tryz.func25, rfl, by kernel_rfl⟩, fun x y w1 _ _ hs => (idCmp_any x y hs).mono fun _ _ ⟨e, m⟩ => ⟨_, e, rfl, m⟩⟩
theorem counting_any (hI : KInv MK MR L) (hl : L.length ≤ 1000) (hs : Sat K w Hs) [hw : KrIn p MK MR Hs] : Ret Tryz.prog 10 #[ptr p] w fun r w' => ∃ M F', RowL 37 encV 32 r M F' ∧ CntP L M ∧ Sat K w' (F' :: Hs) := by
 refine Ret.enter (n := 36) (args := [ptr p]) Tryz.func10 rfl rfl ?_
 refine C.keep [(0, _)] ⟨rfl, trivial⟩ (C.seq (C.region (R.ev rfl (E.assign rfl) (R.done (X.keep [(0, _)] ⟨rfl, trivial⟩ (X.next (C.seq (C.region ?_))))))))
 refine R.ev rfl (E.assign rfl) (R.done (X.keep [(0, _), (3, _)] ⟨rfl, rfl, trivial⟩ (X.next (C.seq (C.seq (C.region (R.ev rfl (E.move rfl) ?_)))))))
 refine R.call ⟨_, _, Tryz.func23, rfl, by kernel_rfl⟩ rfl rfl (authors_any hI (by omega) hs) ?_
 rintro v9 w2 ⟨A, F9, r9, hA, hs⟩
 obtain ⟨ad9, cap9, rfl, _⟩ := r9.val
 have hAl := hA.2.2
 refine R.ev rfl (E.lenSl rfl Tryz.underlying58) (R.ev rfl (E.move rfl) (R.done (X.keep [(0, _), (3, _), (9, _), (10, _), (11, _)] ⟨rfl, rfl, rfl, rfl, rfl, trivial⟩ (X.next (C.block ?_)))))
 refine C.loop (T := Nat × List (List KY) × Value × Hl) [(0, _), (9, _), (10, _)] (fun (i, _, v, _) => [(3, v), (11, .int .i64 (i : Nat))]) (fun (i, Cs, v, Fi) w' => i ≤ A.length ∧ Chs L (A.take i) Cs ∧ RowL 37 encV 32 v (cntA Cs) Fi ∧ (cntA Cs).length ≤ i * 1001 ∧ Sat K w' (Fi :: F9 :: Hs)) (fun (i, _) => A.length - i) ((0, [], .slice none 0 0, [])) ⟨rfl, rfl, rfl, rfl, rfl, trivial⟩ ⟨Nat.zero_le _, trivial, RowL.nil _ _ _, by simp [cntA], hs.nil⟩ ?_
 rintro ⟨i, Cs, v3, Fi⟩ w3 ⟨hi, hCs, ri, hil, hs⟩
 refine C.keep [(0, _), (3, _), (9, _), (10, _), (11, _)] ⟨rfl, rfl, rfl, rfl, rfl, trivial⟩ (C.seq (C.region (R.ev rfl (E.lss rfl rfl) (R.done (X.keep [(0, _), (3, _), (9, _), (10, _), (11, _), (12, _)] ⟨rfl, rfl, rfl, rfl, rfl, rfl, trivial⟩ (X.next (C.seq ?_)))))))
 refine C.cdec rfl (fun h12 => ?_) (fun h12 => ?_)
 · obtain ⟨a, bk_a, of_a, ha, ma, la, rfl, Aa⟩ := hs.el (i := i) (ad := ad9) (n := A.length) (c := cap9) (by omega)
   have aa := Aa _ hs
   have q1 := encV_len a
   have hmul : i * 1001 + 1001 ≤ 1001000 := by omega
   refine C.skip (X.next (C.seq (C.block (C.seq (C.region ?_)))))
   refine R.ev rfl (E.indexAddr rfl rfl Tryz.underlying58 Tryz.sz54 rfl (by first | omega | decide)) ?_
   refine R.ev rfl (E.loadRowC rfl Tryz.underlying54 rfl Tryz.sz54 (by first | exact ⟨hs.ldA, by first | rfl | assumption | exact encV_len _ | exact Enc.len _ | exact len_ub (by assumption)⟩ | exact ⟨hs.ldP rfl, by first | rfl | assumption | exact encV_len _ | exact Enc.len _ | exact len_ub (by assumption)⟩ | exact ⟨hs.ldM rfl rfl, by first | rfl | assumption | exact encV_len _ | exact Enc.len _ | exact len_ub (by assumption)⟩ | exact ⟨hs.ldM (by assumption) (by first | rfl | assumption), by first | rfl | assumption | exact encV_len _ | exact Enc.len _ | exact len_ub (by assumption)⟩ | exact ⟨by assumption, by first | rfl | assumption | exact encV_len _ | exact Enc.len _ | exact len_ub (by assumption)⟩ | exact hs.ldp | exact At.partC (by assumption))) ?_
   refine R.sallocA hs Tryz.zr54 rfl ?_
   intro b5 w5 hs
   first | refine R.cstoreAll hs rfl rfl Tryz.sz54 (by first | rfl | assumption | exact encV_len _ | exact Enc.len _ | exact len_ub (by assumption) | simp [*]) (by first | rfl | assumption | exact encV_len _ | exact Enc.len _ | exact len_ub (by assumption) | simp [*]) (by first | assumption | exact OneL.all | exact Enc.one _ | exact ub_all _ | (repeat' (first | refine List.forall_mem_cons.2 ⟨?_, ?_⟩ | exact List.forall_mem_nil _ | rfl | exact OneC.one | exact KRow.oneC' (by assumption)))) ?_ | refine R.cstore hs rfl rfl Tryz.sz54 (by first | rfl | assumption | exact encV_len _ | exact Enc.len _ | exact len_ub (by assumption) | simp [*]) (by simp [*]) (by first | assumption | exact OneL.all | exact Enc.one _ | exact ub_all _ | (repeat' (first | refine List.forall_mem_cons.2 ⟨?_, ?_⟩ | exact List.forall_mem_nil _ | rfl | exact OneC.one | exact KRow.oneC' (by assumption)))) ?_
   intro w4_3 hs
   try simp only [List.set_cons_zero, List.set_cons_succ] at hs
   refine R.done (X.keep [(0, _), (3, _), (5, _), (9, _), (10, _), (11, _)] ⟨rfl, rfl, rfl, rfl, rfl, rfl, trivial⟩ (X.next (C.seq (C.region (R.ev rfl (E.move rfl) ?_)))))
   refine R.ev rfl (E.loadRowC rfl Tryz.underlying54 rfl Tryz.sz54 (by first | exact ⟨hs.ldA, by first | rfl | assumption | exact encV_len _ | exact Enc.len _ | exact len_ub (by assumption)⟩ | exact ⟨hs.ldP rfl, by first | rfl | assumption | exact encV_len _ | exact Enc.len _ | exact len_ub (by assumption)⟩ | exact ⟨hs.ldM rfl rfl, by first | rfl | assumption | exact encV_len _ | exact Enc.len _ | exact len_ub (by assumption)⟩ | exact ⟨hs.ldM (by assumption) (by first | rfl | assumption), by first | rfl | assumption | exact encV_len _ | exact Enc.len _ | exact len_ub (by assumption)⟩ | exact ⟨by assumption, by first | rfl | assumption | exact encV_len _ | exact Enc.len _ | exact len_ub (by assumption)⟩ | exact hs.ldp | exact At.partC (by assumption))) ?_
   refine R.call ⟨_, _, Tryz.func13, rfl, by kernel_rfl⟩ rfl rfl (chain_any a hI (by omega) hs) ?_
   rintro v17 w5 ⟨c, F17, r17, hc, hs⟩
   obtain ⟨ad17, cap17, rfl, _⟩ := r17.val
   have hcl := hc.len
   refine R.ev rfl (E.lenSl rfl Tryz.underlying47) (R.ev rfl (E.move rfl) (R.done (X.keep [(0, _), (3, _), (9, _), (10, _), (11, _), (17, _), (18, _), (19, _)] ⟨rfl, rfl, rfl, rfl, rfl, rfl, rfl, rfl, trivial⟩ (X.next (C.block ?_)))))
   refine C.loop (T := Nat × Value × Hl) [(0, _), (9, _), (10, _), (11, _), (17, _), (18, _)] (fun (k, v, _) => [(3, v), (19, .int .i64 (k : Nat))]) (fun (k, v, F1) w' => k ≤ c.length ∧ RowL 37 encV 32 v (cntA Cs ++ cnt1 (c.take k)) F1 ∧ Sat K w' (F1 :: F17 :: row b5 54 (a.1.map ub) :: F9 :: Hs)) (fun (k, _) => c.length - k) ((0, v3, Fi)) ⟨rfl, rfl, rfl, rfl, rfl, rfl, rfl, rfl, trivial⟩ ⟨Nat.zero_le _, by simpa [cnt1] using ri, hs.to⟩ ?_
   rintro ⟨k, v4, F1⟩ w6 ⟨hk, rk, hs⟩
   have hkl : (cntA Cs ++ cnt1 (c.take k)).length ≤ 1002000 := by rw [List.length_append]; have := cnt1_len (c.take k); rw [List.length_take] at this; omega
   refine C.keep [(0, _), (3, _), (9, _), (10, _), (11, _), (17, _), (18, _), (19, _)] ⟨rfl, rfl, rfl, rfl, rfl, rfl, rfl, rfl, trivial⟩ (C.seq (C.region (R.ev rfl (E.lss rfl rfl) (R.done (X.keep [(0, _), (3, _), (9, _), (10, _), (11, _), (17, _), (18, _), (19, _), (20, _)] ⟨rfl, rfl, rfl, rfl, rfl, rfl, rfl, rfl, rfl, trivial⟩ (X.next (C.seq ?_)))))))
   refine C.cdec rfl (fun h20 => ?_) (fun h20 => ?_)
   · obtain ⟨y, bk_y, of_y, hy, my, ly, rfl, Ay⟩ := hs.el (i := k) (ad := ad17) (n := c.length) (c := cap17) (by omega)
     have ay := Ay _ hs
     have q2 := encK_len y
     have q3 := encV_len y.nx
     refine C.skip (X.next (C.seq (C.block (C.seq (C.region ?_)))))
     refine R.ev rfl (E.indexAddr rfl rfl Tryz.underlying47 Tryz.sz39 rfl (by first | omega | decide)) ?_
     refine R.ev rfl (E.loadRowC rfl Tryz.underlying39 rfl Tryz.sz39 (by first | exact ⟨hs.ldA, by first | rfl | assumption | exact encV_len _ | exact Enc.len _ | exact len_ub (by assumption)⟩ | exact ⟨hs.ldP rfl, by first | rfl | assumption | exact encV_len _ | exact Enc.len _ | exact len_ub (by assumption)⟩ | exact ⟨hs.ldM rfl rfl, by first | rfl | assumption | exact encV_len _ | exact Enc.len _ | exact len_ub (by assumption)⟩ | exact ⟨hs.ldM (by assumption) (by first | rfl | assumption), by first | rfl | assumption | exact encV_len _ | exact Enc.len _ | exact len_ub (by assumption)⟩ | exact ⟨by assumption, by first | rfl | assumption | exact encV_len _ | exact Enc.len _ | exact len_ub (by assumption)⟩ | exact hs.ldp | exact At.partC (by assumption))) ?_
     refine R.sallocA hs Tryz.zr39 rfl ?_
     intro b7 w7 hs
     first | refine R.cstoreAll hs rfl rfl Tryz.sz39 (by first | rfl | assumption | exact encV_len _ | exact Enc.len _ | exact len_ub (by assumption) | simp [*]) (by first | rfl | assumption | exact encV_len _ | exact Enc.len _ | exact len_ub (by assumption) | simp [*]) (by first | assumption | exact OneL.all | exact Enc.one _ | exact ub_all _ | (repeat' (first | refine List.forall_mem_cons.2 ⟨?_, ?_⟩ | exact List.forall_mem_nil _ | rfl | exact OneC.one | exact KRow.oneC' (by assumption)))) ?_ | refine R.cstore hs rfl rfl Tryz.sz39 (by first | rfl | assumption | exact encV_len _ | exact Enc.len _ | exact len_ub (by assumption) | simp [*]) (by simp [*]) (by first | assumption | exact OneL.all | exact Enc.one _ | exact ub_all _ | (repeat' (first | refine List.forall_mem_cons.2 ⟨?_, ?_⟩ | exact List.forall_mem_nil _ | rfl | exact OneC.one | exact KRow.oneC' (by assumption)))) ?_
     intro w7_3 hs
     try simp only [List.set_cons_zero, List.set_cons_succ] at hs
     refine R.done (X.keep [(0, _), (3, _), (7, _), (9, _), (10, _), (11, _), (17, _), (18, _), (19, _)] ⟨rfl, rfl, rfl, rfl, rfl, rfl, rfl, rfl, rfl, trivial⟩ (X.next (C.seq (C.region ?_))))
     first | refine R.ev rfl (E.fieldAddr0 18 rfl Tryz.underlying39 rfl Tryz.sz3 rfl) ?_ | refine R.ev rfl (E.fieldAddrN 18 rfl Tryz.underlying39 rfl Tryz.sz3 rfl) ?_
     refine R.ev rfl (E.load1 rfl Tryz.underlying3 rfl (by first | exact hs.ldc | exact hs.ld rfl | exact hs.ld (by assumption) | exact by assumption | exact At.cellC (by assumption))) ?_
     refine R.ev rfl (E.neq rfl rfl) (R.done (X.keep [(0, _), (3, _), (7, _), (9, _), (10, _), (11, _), (17, _), (18, _), (19, _), (25, _)] ⟨rfl, rfl, rfl, rfl, rfl, rfl, rfl, rfl, rfl, rfl, trivial⟩ (X.next ?_)))
     refine C.cdec rfl (fun h25 => ?_) (fun h25 => ?_)
     · refine C.region ?_
       refine R.ev rfl (E.move rfl) ?_
       first | refine R.ev rfl (E.fieldAddr0 19 rfl Tryz.underlying39 rfl Tryz.sz37 rfl) ?_ | refine R.ev rfl (E.fieldAddrN 19 rfl Tryz.underlying39 rfl Tryz.sz37 rfl) ?_
       refine R.ev rfl (E.loadRowC rfl Tryz.underlying37 rfl Tryz.sz37 (by first | exact ⟨hs.ldA, by first | rfl | assumption | exact encV_len _ | exact Enc.len _ | exact len_ub (by assumption)⟩ | exact ⟨hs.ldP rfl, by first | rfl | assumption | exact encV_len _ | exact Enc.len _ | exact len_ub (by assumption)⟩ | exact ⟨hs.ldM rfl rfl, by first | rfl | assumption | exact encV_len _ | exact Enc.len _ | exact len_ub (by assumption)⟩ | exact ⟨hs.ldM (by assumption) (by first | rfl | assumption), by first | rfl | assumption | exact encV_len _ | exact Enc.len _ | exact len_ub (by assumption)⟩ | exact ⟨by assumption, by first | rfl | assumption | exact encV_len _ | exact Enc.len _ | exact len_ub (by assumption)⟩ | exact hs.ldp | exact At.partC (by assumption))) ?_
       refine R.buildSliceA rfl Tryz.underlying42 Tryz.sz37 Tryz.zr37 rfl (by first | rfl | assumption | exact encV_len _ | exact Enc.len _ | simp [*]) (by decide) (by decide) ?_
       intro b29 w29 n29
       have hs := hs.new n29
       refine R.capp1 (y.nx) hs rfl rfl Tryz.underlying42 Tryz.by37 (by rfl) rfl (by first | exact hs.ldA | exact hs.ldP rfl | exact by assumption) (by decide) (by first | omega | (simp only [List.length_append, List.length_cons, List.length_nil] at *; omega)) (by first | omega | (simp only [List.length_append, List.length_cons, List.length_nil] at *; omega)) ?_
       intro v30 w30 F30 r30 hs
       refine R.ev rfl (E.assign rfl) (R.done (X.keep [(0, _), (3, _), (9, _), (10, _), (11, _), (17, _), (18, _), (19, _)] ⟨rfl, rfl, rfl, rfl, rfl, rfl, rfl, rfl, trivial⟩ (X.blockNormal (X.next (C.region (R.ev rfl (E.add rfl rfl (by omega) (by omega)) (R.ev rfl (E.move rfl) (R.done ?_))))))))
       refine X.keep [(0, _), (3, _), (9, _), (10, _), (11, _), (17, _), (18, _), (19, _)] ⟨rfl, rfl, rfl, rfl, rfl, rfl, rfl, rfl, trivial⟩ ?_
       first
         | exact X.again (k + 1, v30, F30) ⟨rfl, rfl, rfl, rfl, rfl, rfl, rfl, rfl, trivial⟩ ⟨by omega, by rw [take_snoc hy, cnt1_snoc, if_pos h25, ← List.append_assoc]; exact r30, hs.to⟩ (by show _ - _ < _ - _; omega)
         | exact X.again (k + 1, v4, F1) ⟨rfl, rfl, rfl, rfl, rfl, rfl, rfl, rfl, trivial⟩ ⟨by omega, by rw [take_snoc hy, cnt1_snoc, if_neg h25, List.append_nil]; exact rk, hs.to⟩ (by show _ - _ < _ - _; omega)
     · refine C.skip ?_
       refine X.blockNormal (X.next (C.region (R.ev rfl (E.add rfl rfl (by omega) (by omega)) (R.ev rfl (E.move rfl) (R.done (X.keep [(0, _), (3, _), (9, _), (10, _), (11, _), (17, _), (18, _), (19, _)] ⟨rfl, rfl, rfl, rfl, rfl, rfl, rfl, rfl, trivial⟩ ?_))))))
       first
         | exact X.again (k + 1, v30, F30) ⟨rfl, rfl, rfl, rfl, rfl, rfl, rfl, rfl, trivial⟩ ⟨by omega, by rw [take_snoc hy, cnt1_snoc, if_pos h25, ← List.append_assoc]; exact r30, hs.to⟩ (by show _ - _ < _ - _; omega)
         | exact X.again (k + 1, v4, F1) ⟨rfl, rfl, rfl, rfl, rfl, rfl, rfl, rfl, trivial⟩ ⟨by omega, by rw [take_snoc hy, cnt1_snoc, if_neg h25, List.append_nil]; exact rk, hs.to⟩ (by show _ - _ < _ - _; omega)
   · refine C.exit ?_
     refine X.thenExit (X.loopExit (X.blockExit (X.blockNormal (X.next (C.region (R.ev rfl (E.add rfl rfl (by omega) (by omega)) (R.ev rfl (E.move rfl) (R.done ?_))))))))
     refine X.keep [(0, _), (3, _), (9, _), (10, _), (11, _)] ⟨rfl, rfl, rfl, rfl, rfl, trivial⟩ ?_
     rw [List.take_of_length_le (show c.length ≤ k by omega)] at rk
     exact X.again (i + 1, Cs ++ [c], v4, F1) ⟨rfl, rfl, rfl, rfl, rfl, trivial⟩ ⟨by omega, by rw [take_snoc ha]; exact hCs.snoc hc, by rw [cntA_snoc]; exact rk, by rw [cntA_snoc, List.length_append]; have := cnt1_len c; omega, hs.to⟩ (by show _ - _ < _ - _; omega)
 · refine C.exit ?_
   refine X.thenExit (X.loopExit (X.blockExit (X.next (C.seq (C.region ?_)))))
   rw [List.take_of_length_le (show A.length ≤ i by omega)] at hCs
   refine R.ev rfl (E.move rfl) ?_
   refine R.call ⟨_, _, Tryz.func24, rfl, by kernel_rfl⟩ rfl rfl (IdS.idsort_any cmpId_ok ltV_swo (hs.front (F := Fi)) (by omega)) ?_
   rintro _ w12 ⟨L2, F2, r2, hp, hso, hs1⟩
   have hs := hs.back (F := Fi) hs1
   refine R.done (X.keep [(3, _)] ⟨rfl, trivial⟩ (X.next (C.seq (C.region (R.ev rfl (E.move rfl) (R.ev rfl (E.assign rfl) (R.done (X.keep [(2, _)] ⟨rfl, trivial⟩ ?_))))))))
   refine X.next (C.ret (X.ret1 rfl rfl ?_))
   exact ⟨L2, F2, r2, ⟨A, Cs, hA, hCs, hp, hso⟩, hs.to⟩
theorem pw_ins {O : List (Vec 32)} {y : Vec 32} {j : Nat} (h : O.Pairwise (fun x y => ltV y x = false)) (h1 : ∀ i, i < j → ∀ x, O[i]? = some x → ltV x y = true) (h2 : ∀ x, O[j]? = some x → ltV x y = false) : (O.take j ++ [y] ++ O.drop j).Pairwise (fun x y => ltV y x = false) := by
 have h0 := h
 rw [← List.take_append_drop j O, List.pairwise_append] at h0
 obtain ⟨p1, p2, p3⟩ := h0
 have hd : ∀ z ∈ O.drop j, ltV z y = false := by
   intro z hz
   obtain ⟨i, hi⟩ := List.getElem?_of_mem hz
   rw [List.getElem?_drop] at hi
   obtain ⟨u, hu⟩ : ∃ u, O[j]? = some u := ⟨_, List.getElem?_eq_getElem (by have := (List.getElem?_eq_some_iff.1 hi).1; omega)⟩
   have hu2 := h2 u hu
   rcases Nat.eq_zero_or_pos i with rfl | hip
   · rw [Nat.add_zero, hu] at hi; cases hi; exact hu2
   · have hzu : ltV z u = false := by
       obtain ⟨l1, rfl⟩ := List.getElem?_eq_some_iff.1 hu
       obtain ⟨l2, rfl⟩ := List.getElem?_eq_some_iff.1 hi
       exact List.pairwise_iff_getElem.1 h j (j + i) l1 l2 (by omega)
     exact ltV_swo.ntrans z u y hzu hu2
 rw [List.append_assoc, List.pairwise_append]
 refine ⟨p1, ?_, fun z hz u hu => ?_⟩
 · rw [List.singleton_append, List.pairwise_cons]
   exact ⟨hd, p2⟩
 · rw [List.singleton_append, List.mem_cons] at hu
   rcases hu with rfl | hu
   · obtain ⟨i, hi, rfl⟩ := List.getElem_of_mem hz
     have hij : i < j ∧ i < O.length := by rw [List.length_take] at hi; omega
     exact asym ltV_swo (h1 i hij.1 _ (by rw [List.getElem_take]; exact List.getElem?_eq_getElem hij.2))
   · exact p3 z hz u hu
theorem perm_ins {O M : List (Vec 32)} {y : Vec 32} {j : Nat} (h : O.Perm M) : (O.take j ++ [y] ++ O.drop j).Perm (M ++ [y]) := by
 have h1 : (O.take j ++ [y] ++ O.drop j).Perm (O.take j ++ O.drop j ++ [y]) := by
   rw [List.append_assoc, List.append_assoc]
   exact List.Perm.append_left _ List.perm_append_comm
 rw [List.take_append_drop] at h1
 exact h1.trans (h.append_right _)
theorem rcounting_any (hok : LOk L) (hs : Sat K w Hs) [hr : KRow encO 84 K v L] (hL : L.length ≤ 1000) : Ret Tryz.prog 11 #[v] w fun r w' => ∃ M F', RowL 36 encV 32 r M F' ∧ CntP L M ∧ Sat K w' (F' :: Hs) := by
 have o1 : OneC v := ⟨KRow.oneC' hr⟩
 refine Ret.enter (n := 71) (args := [v]) Tryz.func11 rfl rfl ?_
 refine C.keep [(0, _)] ⟨rfl, trivial⟩ (C.seq (C.region (R.ev rfl (E.assign rfl) (R.done (X.keep [(0, _)] ⟨rfl, trivial⟩ (X.next (C.seq (C.region ?_))))))))
 refine R.ev rfl (E.assign rfl) (R.done (X.keep [(0, _), (3, _)] ⟨rfl, rfl, trivial⟩ (X.next (C.seq (C.region (R.ev rfl (E.move rfl) ?_))))))
 refine R.call ⟨_, _, Tryz.func26, rfl, by kernel_rfl⟩ rfl rfl (rauthors_any hs (by omega)) ?_
 rintro v10 w2 ⟨A, F10, r10, hA, hs⟩
 obtain ⟨ad10, cap10, rfl, _⟩ := r10.val
 have hAl := hA.2.2
 refine R.ev rfl (E.assign rfl) (R.done (X.keep [(0, _), (3, _), (4, _)] ⟨rfl, rfl, rfl, trivial⟩ (X.next (C.seq (C.seq (C.region (R.ev rfl (E.assign rfl) (R.done ?_))))))))
 refine X.keep [(0, _), (3, _), (4, _), (5, _)] ⟨rfl, rfl, rfl, rfl, trivial⟩ (X.next (C.block ?_))
 refine C.loop (T := Nat × List (List KY) × List (Vec 32) × Value × Hl) [(0, _), (4, _)] (fun (i, _, _, v, _) => [(3, v), (5, .int .i64 (i : Nat))]) (fun (i, Cs, O, v, Fi) w' => i ≤ A.length ∧ Chs L (A.take i) Cs ∧ RowL 36 encV 32 v O Fi ∧ O.Perm (cntA Cs) ∧ O.Pairwise (fun x y => ltV y x = false) ∧ (cntA Cs).length ≤ i * 1001 ∧ Sat K w' (Fi :: F10 :: Hs)) (fun (i, _) => A.length - i) ((0, [], [], .slice none 0 0, [])) ⟨rfl, rfl, rfl, rfl, trivial⟩ ⟨Nat.zero_le _, trivial, RowL.nil _ _ _, List.Perm.refl _, List.Pairwise.nil, by simp [cntA], hs.nil⟩ ?_
 rintro ⟨i, Cs, O0, v3, Fi⟩ w3 ⟨hi, hCs, ri, hpi, hsi, hil, hs⟩
 refine C.keep [(0, _), (3, _), (4, _), (5, _)] ⟨rfl, rfl, rfl, rfl, trivial⟩ (C.seq (C.seq (C.region (R.ev rfl (E.move rfl) (R.ev rfl (E.move rfl) (R.ev rfl (E.lenSl rfl Tryz.underlying77) (R.ev rfl (E.lss rfl rfl) (R.done ?_))))))))
 refine X.keep [(0, _), (3, _), (4, _), (5, _), (14, _)] ⟨rfl, rfl, rfl, rfl, rfl, trivial⟩ (X.next ?_)
 refine C.cdec rfl (fun h14 => ?_) (fun h14 => ?_)
 · obtain ⟨a, bk_a, of_a, ha, ma, la, rfl, Aa⟩ := hs.el (i := i) (ad := ad10) (n := A.length) (c := cap10) (by omega)
   have aa := Aa _ hs
   have q1 := encV_len a
   have hmul : i * 1001 + 1001 ≤ 1001000 := by omega
   refine C.skip (X.next (C.seq (C.block (C.seq (C.region (R.ev rfl (E.move rfl) (R.ev rfl (E.move rfl) (R.ev rfl (E.move rfl) ?_))))))))
   refine R.ev rfl (E.indexAddr rfl rfl Tryz.underlying77 Tryz.sz28 rfl (by first | omega | decide)) ?_
   refine R.ev rfl (E.loadRowC rfl Tryz.underlying28 rfl Tryz.sz28 ⟨Aa _ hs, Enc.len _⟩) ?_
   refine R.call ⟨_, _, Tryz.func8, rfl, by kernel_rfl⟩ rfl rfl (rchain_any a hs (by omega)) ?_
   rintro v22 w5 ⟨c, F22, r22, hc, hs⟩
   obtain ⟨ad22, cap22, rfl, _⟩ := r22.val
   have hcl := hc.len
   refine R.ev rfl (E.assign rfl) (R.done (X.keep [(0, _), (3, _), (4, _), (5, _), (6, _)] ⟨rfl, rfl, rfl, rfl, rfl, trivial⟩ (X.next (C.seq (C.region (R.ev rfl (E.assign rfl) (R.done (X.keep [(0, _), (3, _), (4, _), (5, _), (6, _), (7, _)] ⟨rfl, rfl, rfl, rfl, rfl, rfl, trivial⟩ ?_))))))))
   refine X.next (C.block ?_)
   refine C.loop (T := Nat × List (Vec 32) × Value × Hl) [(0, _), (4, _), (5, _), (6, _)] (fun (k, _, v, _) => [(3, v), (7, .int .i64 (k : Nat))]) (fun (k, O, v, F1) w' => k ≤ c.length ∧ RowL 36 encV 32 v O F1 ∧ O.Perm (cntA Cs ++ cnt1 (c.take k)) ∧ O.Pairwise (fun x y => ltV y x = false) ∧ Sat K w' (F1 :: F22 :: F10 :: Hs)) (fun (k, _) => c.length - k) ((0, O0, v3, Fi)) ⟨rfl, rfl, rfl, rfl, rfl, rfl, trivial⟩ ⟨Nat.zero_le _, ri, by simpa [cnt1] using hpi, hsi, hs.to⟩ ?_
   rintro ⟨k, O, v4, F1⟩ w6 ⟨hk, r1, hp1, hs1, hs⟩
   have hOl : O.length ≤ 1002000 := by rw [hp1.length_eq, List.length_append]; have := cnt1_len (c.take k); rw [List.length_take] at this; omega
   obtain ⟨ado, co, rfl, hco, _, hado⟩ := r1.val
   refine C.keep [(0, _), (3, _), (4, _), (5, _), (6, _), (7, _)] ⟨rfl, rfl, rfl, rfl, rfl, rfl, trivial⟩ (C.seq (C.seq (C.region (R.ev rfl (E.move rfl) (R.ev rfl (E.move rfl) (R.ev rfl (E.lenSl rfl Tryz.underlying33) (R.ev rfl (E.lss rfl rfl) (R.done ?_))))))))
   refine X.keep [(0, _), (3, _), (4, _), (5, _), (6, _), (7, _), (26, _)] ⟨rfl, rfl, rfl, rfl, rfl, rfl, rfl, trivial⟩ (X.next ?_)
   refine C.cdec rfl (fun h26 => ?_) (fun h26 => ?_)
   · obtain ⟨y, bk_y, of_y, hy, my, ly, rfl, Ay⟩ := hs.el (i := k) (ad := ad22) (n := c.length) (c := cap22) (by omega)
     have ay := Ay _ hs
     have hyl := chA_lim hok hc y my
     have q3 := encV_len y.nx
     have hex : ∀ (bo : Nat), ado = some ⟨bo, 0, none⟩ → ∀ i' z', O[i']? = some z' → ∀ w', Sat K w' (F1 :: F22 :: F10 :: Hs) → At w' bo (0 + i' * 32) (encV z') := fun bo e i' z' h w' hs => by subst e; exact Sat.elAt (Hs := F1 :: F22 :: F10 :: Hs) (b := bo) (off := 0) (n := O.length) co hs h w' hs
     refine C.skip (X.next (C.seq (C.block (C.seq (C.seq (C.region (R.ev rfl (E.move rfl) (R.ev rfl (E.move rfl) ?_))))))))
     refine R.ev rfl (E.indexAddr rfl rfl Tryz.underlying33 Tryz.sz72 rfl (by first | omega | decide)) ?_
     first | refine R.ev rfl (E.fieldAddr0 18 rfl Tryz.underlying72 rfl Tryz.sz3 rfl) ?_ | refine R.ev rfl (E.fieldAddrN 18 rfl Tryz.underlying72 rfl Tryz.sz3 rfl) ?_
     refine R.ev rfl (E.load1 rfl Tryz.underlying3 rfl (by first | exact hs.ldc | exact hs.ld rfl | exact hs.ld (by assumption) | exact by assumption | exact At.cellC (by assumption))) ?_
     refine R.ev rfl (E.lss rfl rfl) (R.done (X.keep [(0, _), (3, _), (4, _), (5, _), (6, _), (7, _), (34, _)] ⟨rfl, rfl, rfl, rfl, rfl, rfl, rfl, trivial⟩ (X.next ?_)))
     refine C.cdec rfl (fun h34 => ?_) (fun h34 => ?_)
     · refine C.exit ?_
       refine X.thenExit (X.blockExit (X.next (C.region (R.ev rfl (E.move rfl) (R.ev rfl (E.add rfl rfl (by omega) (by omega)) (R.ev rfl (E.assign rfl) (R.done (X.keep [(0, _), (3, _), (4, _), (5, _), (6, _), (7, _)] ⟨rfl, rfl, rfl, rfl, rfl, rfl, trivial⟩ ?_))))))))
       first
         | exact X.again (k + 1, _, v69, F69) ⟨rfl, rfl, rfl, rfl, rfl, rfl, trivial⟩ ⟨by omega, r69, by rw [take_snoc hy, cnt1_snoc, if_pos (show y.lim ≠ -1 by omega), ← List.append_assoc]; exact perm_ins hp1, pw_ins hs1 hb1 hstop, hs.to⟩ (by show _ - _ < _ - _; omega)
         | exact X.again (k + 1, O, .slice ado O.length co, F1) ⟨rfl, rfl, rfl, rfl, rfl, rfl, trivial⟩ ⟨by omega, r1, by rw [take_snoc hy, cnt1_snoc, if_neg (show ¬ y.lim ≠ -1 by omega), List.append_nil]; exact hp1, hs1, hs.to⟩ (by show _ - _ < _ - _; omega)
     · refine C.skip ?_
       refine X.next (C.seq (C.region (R.ev rfl (E.assign rfl) (R.done (X.keep [(0, _), (3, _), (4, _), (5, _), (6, _), (7, _), (8, _)] ⟨rfl, rfl, rfl, rfl, rfl, rfl, rfl, trivial⟩ (X.next (C.seq (C.block ?_))))))))
       refine C.loop  [(0, _), (3, _), (4, _), (5, _), (6, _), (7, _)] (fun j => [(8, .int .i64 (j : Nat))]) (fun j w' => j ≤ O.length ∧ (∀ i, i < j → ∀ x, O[i]? = some x → ltV x y.nx = true) ∧ Sat K w' (F1 :: F22 :: F10 :: Hs)) (fun j => O.length - j) (0) ⟨rfl, rfl, rfl, rfl, rfl, rfl, rfl, trivial⟩ ⟨by omega, fun i h => by omega, hs⟩ ?_
       rintro j w7 ⟨hj, hb1, hs⟩
       refine C.keep [(0, _), (3, _), (4, _), (5, _), (6, _), (7, _), (8, _)] ⟨rfl, rfl, rfl, rfl, rfl, rfl, rfl, trivial⟩ (C.seq (C.seq ?_))
       refine C.drawn (SatS hs) ([], [0, 1, 2, 3, 4, 5, 6, 7, 8, 9, 10, 11, 12, 13, 15, 16]) (by kernel_rfl) ?_
       have hs := hs.drew
       refine D.evP 0 rfl (by kernel_rfl) rfl (np (by kernel_rfl)) (fun _ => E.move rfl) (D.evP 1 rfl (by kernel_rfl) rfl (np (by kernel_rfl)) (fun _ => E.move rfl) (D.evP 2 rfl (by kernel_rfl) rfl (np (by kernel_rfl)) (fun _ => E.lenSl rfl Tryz.underlying44) (D.evP 3 rfl (by kernel_rfl) rfl (np (by kernel_rfl)) (fun _ => E.lss rfl rfl) (D.evP 4 rfl (by kernel_rfl) rfl (np (by kernel_rfl)) (fun _ => E.move rfl) ?_))))
       refine D.split 39 rfl (fun h39 => ?_) (fun h39 => ?_)
       · have h39' := of_decide_eq_true h39
         obtain ⟨z, hz⟩ : ∃ z, O[j]? = some z := ⟨_, List.getElem?_eq_getElem (by omega)⟩
         obtain ⟨bo, ebo⟩ := hado (by intro e; rw [e] at hz; simp at hz)
         have Az := hex bo ebo j z hz
         refine D.evPG 5 rfl (by kernel_rfl) rfl rfl rfl (np (by kernel_rfl)) (fun _ => E.move rfl) (D.evPG 6 rfl (by kernel_rfl) rfl rfl rfl (np (by kernel_rfl)) (fun _ => E.move rfl) ?_)
         refine D.evPG 7 rfl (by kernel_rfl) rfl rfl rfl (np (by kernel_rfl)) (fun _ => E.indexAddr (i := j) (b := bo) (off := 0) (len := O.length) (cap := co) (by rw [ebo]; rfl) rfl Tryz.underlying44 Tryz.sz36 rfl (by omega)) ?_
         refine D.evPG 8 rfl (by kernel_rfl) rfl rfl rfl (np (by kernel_rfl)) (fun _ => E.sliceA rfl Tryz.underlying36 Tryz.sz5) (D.evPG 9 rfl (by kernel_rfl) rfl rfl rfl (np (by kernel_rfl)) (fun _ => E.move rfl) (D.evPG 10 rfl (by kernel_rfl) rfl rfl rfl (np (by kernel_rfl)) (fun _ => E.move rfl) ?_))
         refine D.evPG 11 rfl (by kernel_rfl) rfl rfl rfl (np (by kernel_rfl)) (fun _ => E.indexAddr (i := k) rfl rfl Tryz.underlying33 Tryz.sz72 rfl (by omega)) ?_
         first | refine D.evPG 12 rfl (by kernel_rfl) rfl rfl rfl (np (by kernel_rfl)) (fun _ => E.fieldAddr0 19 rfl Tryz.underlying72 rfl Tryz.sz36 rfl) ?_ | refine D.evPG 12 rfl (by kernel_rfl) rfl rfl rfl (np (by kernel_rfl)) (fun _ => E.fieldAddrN 19 rfl Tryz.underlying72 rfl Tryz.sz36 rfl) ?_
         refine D.evPG 13 rfl (by kernel_rfl) rfl rfl rfl (np (by kernel_rfl)) (fun _ => E.sliceA rfl Tryz.underlying36 Tryz.sz5) (D.act 14 rfl (by kernel_rfl) (R.gyes rfl rfl ?_))
         refine R.call ⟨_, _, Tryz.func27, rfl, by kernel_rfl⟩ rfl rfl (rcompare_any z y.nx (by decide) hs Az (fun w' h => (At.partC (i := 19) (m := 32) (Ay w' h)).1)) ?_
         rintro _ w1214 ⟨rfl, hs⟩
         refine D.backT (by kernel_rfl) (D.evPG 15 rfl (by kernel_rfl) rfl rfl rfl (np (by kernel_rfl)) (fun _ => E.lss rfl rfl) (D.evP 16 rfl (by kernel_rfl) rfl (np (by kernel_rfl)) (fun _ => E.pickT rfl rfl) (D.done rfl (by kernel_rfl) (X.keep [(0, _), (3, _), (4, _), (5, _), (6, _), (7, _), (8, _), (51, _)] ⟨rfl, rfl, rfl, rfl, rfl, rfl, rfl, rfl, trivial⟩ (X.next ?_)))))
         refine C.cbool rfl (fun h51 => ?_) (fun h51 => ?_)
         · refine C.skip ?_
           refine X.next (C.block (C.region (R.ev rfl (E.move rfl) ?_)))
           refine R.ev rfl ((E.add rfl rfl (by omega) (by omega)).isI (c := ((j + 1 : Nat) : Int)) (by omega)) ?_
           refine R.ev rfl (E.assign rfl) (R.done (X.keep [(0, _), (3, _), (4, _), (5, _), (6, _), (7, _), (8, _)] ⟨rfl, rfl, rfl, rfl, rfl, rfl, rfl, trivial⟩ (X.blockNormal ?_)))
           exact X.again (j + 1) ⟨rfl, rfl, rfl, rfl, rfl, rfl, rfl, trivial⟩ ⟨by omega, fun i hi x hx => by rcases Nat.lt_or_ge i j with h | h; exact hb1 i h x hx; (rw [show i = j by omega, hz] at hx; simp at hx; rw [← hx]; exact h51), hs⟩ (by omega)
         · refine C.exit ?_
           refine X.thenExit (X.loopExit (X.blockExit (X.next ?_)))
           refine C.drawn (SatS hs) ([9], [1, 2, 3, 5, 6, 7, 8, 12, 13, 14, 16]) (by kernel_rfl) ?_
           have hs := hs.drew
           refine D.evP 1 rfl (by kernel_rfl) rfl (fun _ => hs.to) (fun _ => E.move rfl) (D.evP 2 rfl (by kernel_rfl) rfl (fun _ => hs.to) (fun _ => E.move rfl) (D.evP 3 rfl (by kernel_rfl) rfl (fun _ => hs.to) (fun _ => E.sliceH rfl rfl Tryz.underlying44 Tryz.sz36 rfl (by omega)) (D.evP 5 rfl (by kernel_rfl) rfl (fun _ => hs.to) (fun _ => E.move rfl) (D.evP 6 rfl (by kernel_rfl) rfl (fun _ => hs.to) (fun _ => E.move rfl) ?_))))
           refine D.evP 7 rfl (by kernel_rfl) rfl (fun _ => hs.to) (fun _ => E.indexAddr (i := k) rfl rfl Tryz.underlying33 Tryz.sz72 rfl (by omega)) ?_
           first | refine D.evP 8 rfl (by kernel_rfl) rfl (fun _ => hs.to) (fun _ => E.fieldAddr0 19 rfl Tryz.underlying72 rfl Tryz.sz36 rfl) ?_ | refine D.evP 8 rfl (by kernel_rfl) rfl (fun _ => hs.to) (fun _ => E.fieldAddrN 19 rfl Tryz.underlying72 rfl Tryz.sz36 rfl) ?_
           refine D.evP 12 rfl (by kernel_rfl) rfl (fun _ => hs.to) (fun _ => E.move rfl) (D.evP 13 rfl (by kernel_rfl) rfl (fun _ => hs.to) (fun _ => E.move rfl) ?_)
           refine D.evP 14 rfl (by kernel_rfl) rfl (fun _ => hs.to) (fun _ => E.sliceLs (a := j) rfl rfl Tryz.underlying44 Tryz.sz36 rfl (by omega)) ?_
           refine D.ev 9 rfl (by kernel_rfl) rfl hs.to (fun _ hS => E.loadRowC rfl Tryz.underlying36 rfl Tryz.sz36 (by first | exact ⟨hS.ldA, by first | rfl | assumption | exact encV_len _ | exact Enc.len _ | exact len_ub (by assumption)⟩ | exact ⟨hS.ldP rfl, by first | rfl | assumption | exact encV_len _ | exact Enc.len _ | exact len_ub (by assumption)⟩ | exact ⟨hS.ldM rfl rfl, by first | rfl | assumption | exact encV_len _ | exact Enc.len _ | exact len_ub (by assumption)⟩ | exact ⟨hS.ldM (by assumption) (by first | rfl | assumption), by first | rfl | assumption | exact encV_len _ | exact Enc.len _ | exact len_ub (by assumption)⟩ | exact ⟨by assumption, by first | rfl | assumption | exact encV_len _ | exact Enc.len _ | exact len_ub (by assumption)⟩ | exact ⟨(by assumption : ∀ w', Sat _ w' _ → At w' _ _ _) _ hS, by first | rfl | assumption | exact encV_len _ | exact Enc.len _ | exact len_ub (by assumption)⟩ | exact hS.ldp | exact At.partC (by assumption) | exact At.partC ((by assumption : ∀ w', Sat _ w' _ → At w' _ _ _) _ hS))) ?_
           refine D.act2 0 10 rfl rfl (by kernel_rfl) ?_ ?_
           · have hstop : ∀ x, O[j]? = some x → ltV x y.nx = false := by
               first
                 | exact fun x hx => by rw [hz] at hx; simp at hx; rw [← hx]; exact h51
                 | exact fun x hx => by have := (List.getElem?_eq_some_iff.1 hx).1; have := of_decide_eq_false h39; omega
             have k1 : Rd encV 32 K (F1 :: F22 :: F10 :: Hs) (.slice ado j co) (O.take j) := Rd.preO (m := O.length) hj
             have k2 : Rd encV 32 K (F1 :: F22 :: F10 :: Hs) (.slice (subAd ado co j 32) (O.length - j) (co - j)) (O.drop j) := Rd.sufO (m := O.length) hj
             have hl1 : (O.take j).length = j := by rw [List.length_take]; omega
             have hl2 : (O.drop j).length = O.length - j := List.length_drop
             refine R.sbuild0 (enc := (encV (m := 32))) hs Tryz.underlying44 Tryz.sz36 rfl ?_
             intro v54 w54 F54 r54 nn54 hs
             refine D.back hs.to ?_
             refine D.act2 4 10 rfl rfl (by kernel_rfl) ?_ ?_
             · refine R.cappSl hs rfl rfl Tryz.underlying44 Tryz.by36 (by rfl) rfl (by decide) (by first | omega | (simp only [List.length_append, List.length_cons, List.length_nil] at *; omega)) (by first | omega | (simp only [List.length_append, List.length_cons, List.length_nil] at *; omega)) ?_
               intro v58 w58 F58 r58 hs
               rw [List.nil_append] at r58
               refine D.back hs.to (D.act 10 rfl (by kernel_rfl) ?_)
               refine R.buildSliceA rfl Tryz.underlying44 Tryz.sz36 Tryz.zr36 rfl (by first | rfl | assumption | exact encV_len _ | exact Enc.len _ | simp [*]) (by decide) (by decide) ?_
               intro b64 w64 n64
               have hs := hs.new n64
               refine D.backT (by kernel_rfl) (D.act 11 rfl (by kernel_rfl) ?_)
               refine R.capp1 (y.nx) hs rfl rfl Tryz.underlying44 Tryz.by36 (by rfl) rfl (by first | exact hs.ldA | exact hs.ldP rfl | exact by assumption) (by decide) (by first | omega | (simp only [List.length_append, List.length_cons, List.length_nil] at *; omega)) (by first | omega | (simp only [List.length_append, List.length_cons, List.length_nil] at *; omega)) ?_
               intro v65 w65 F65 r65 hs
               refine D.backT (by kernel_rfl) (D.act 15 rfl (by kernel_rfl) ?_)
               refine R.cappSl hs rfl rfl Tryz.underlying44 Tryz.by36 (by rfl) rfl (by decide) (by first | omega | (simp only [List.length_append, List.length_cons, List.length_nil] at *; omega)) (by first | omega | (simp only [List.length_append, List.length_cons, List.length_nil] at *; omega)) ?_
               intro v69 w69 F69 r69 hs
               refine D.backT (by kernel_rfl) (D.evP 16 rfl (by kernel_rfl) rfl (np (by kernel_rfl)) (fun _ => E.assign rfl) (D.done rfl (by kernel_rfl) (X.keep [(0, _), (3, _), (4, _), (5, _), (6, _), (7, _)] ⟨rfl, rfl, rfl, rfl, rfl, rfl, trivial⟩ (X.blockNormal (X.next (C.region (R.ev rfl (E.move rfl) (R.ev rfl (E.add rfl rfl (by omega) (by omega)) ?_))))))))
               refine R.ev rfl (E.assign rfl) (R.done (X.keep [(0, _), (3, _), (4, _), (5, _), (6, _), (7, _)] ⟨rfl, rfl, rfl, rfl, rfl, rfl, trivial⟩ ?_))
               first
                 | exact X.again (k + 1, _, v69, F69) ⟨rfl, rfl, rfl, rfl, rfl, rfl, trivial⟩ ⟨by omega, r69, by rw [take_snoc hy, cnt1_snoc, if_pos (show y.lim ≠ -1 by omega), ← List.append_assoc]; exact perm_ins hp1, pw_ins hs1 hb1 hstop, hs.to⟩ (by show _ - _ < _ - _; omega)
                 | exact X.again (k + 1, O, .slice ado O.length co, F1) ⟨rfl, rfl, rfl, rfl, rfl, rfl, trivial⟩ ⟨by omega, r1, by rw [take_snoc hy, cnt1_snoc, if_neg (show ¬ y.lim ≠ -1 by omega), List.append_nil]; exact hp1, hs1, hs.to⟩ (by show _ - _ < _ - _; omega)
             · refine R.buildSliceA rfl Tryz.underlying44 Tryz.sz36 Tryz.zr36 rfl (by first | rfl | assumption | exact encV_len _ | exact Enc.len _ | simp [*]) (by decide) (by decide) ?_
               intro b64 w64 n64
               have hs := hs.new n64
               refine D.backT (by kernel_rfl) (D.act 4 rfl (by kernel_rfl) ?_)
               refine R.cappSl hs rfl rfl Tryz.underlying44 Tryz.by36 (by rfl) rfl (by decide) (by first | omega | (simp only [List.length_append, List.length_cons, List.length_nil] at *; omega)) (by first | omega | (simp only [List.length_append, List.length_cons, List.length_nil] at *; omega)) ?_
               intro v58 w58 F58 r58 hs
               rw [List.nil_append] at r58
               refine D.backT (by kernel_rfl) (D.act 11 rfl (by kernel_rfl) ?_)
               refine R.capp1 (y.nx) hs rfl rfl Tryz.underlying44 Tryz.by36 (by rfl) rfl (by first | exact hs.ldA | exact hs.ldP rfl | exact by assumption) (by decide) (by first | omega | (simp only [List.length_append, List.length_cons, List.length_nil] at *; omega)) (by first | omega | (simp only [List.length_append, List.length_cons, List.length_nil] at *; omega)) ?_
               intro v65 w65 F65 r65 hs
               refine D.backT (by kernel_rfl) (D.act 15 rfl (by kernel_rfl) ?_)
               refine R.cappSl hs rfl rfl Tryz.underlying44 Tryz.by36 (by rfl) rfl (by decide) (by first | omega | (simp only [List.length_append, List.length_cons, List.length_nil] at *; omega)) (by first | omega | (simp only [List.length_append, List.length_cons, List.length_nil] at *; omega)) ?_
               intro v69 w69 F69 r69 hs
               refine D.backT (by kernel_rfl) (D.evP 16 rfl (by kernel_rfl) rfl (np (by kernel_rfl)) (fun _ => E.assign rfl) (D.done rfl (by kernel_rfl) (X.keep [(0, _), (3, _), (4, _), (5, _), (6, _), (7, _)] ⟨rfl, rfl, rfl, rfl, rfl, rfl, trivial⟩ (X.blockNormal (X.next (C.region (R.ev rfl (E.move rfl) (R.ev rfl (E.add rfl rfl (by omega) (by omega)) ?_))))))))
               refine R.ev rfl (E.assign rfl) (R.done (X.keep [(0, _), (3, _), (4, _), (5, _), (6, _), (7, _)] ⟨rfl, rfl, rfl, rfl, rfl, rfl, trivial⟩ ?_))
               first
                 | exact X.again (k + 1, _, v69, F69) ⟨rfl, rfl, rfl, rfl, rfl, rfl, trivial⟩ ⟨by omega, r69, by rw [take_snoc hy, cnt1_snoc, if_pos (show y.lim ≠ -1 by omega), ← List.append_assoc]; exact perm_ins hp1, pw_ins hs1 hb1 hstop, hs.to⟩ (by show _ - _ < _ - _; omega)
                 | exact X.again (k + 1, O, .slice ado O.length co, F1) ⟨rfl, rfl, rfl, rfl, rfl, rfl, trivial⟩ ⟨by omega, r1, by rw [take_snoc hy, cnt1_snoc, if_neg (show ¬ y.lim ≠ -1 by omega), List.append_nil]; exact hp1, hs1, hs.to⟩ (by show _ - _ < _ - _; omega)
           · refine R.buildSliceA rfl Tryz.underlying44 Tryz.sz36 Tryz.zr36 rfl (by first | rfl | assumption | exact encV_len _ | exact Enc.len _ | simp [*]) (by decide) (by decide) ?_
             intro b64 w64 n64
             have hs := hs.new n64
             refine D.backT (by kernel_rfl) ?_
             have hstop : ∀ x, O[j]? = some x → ltV x y.nx = false := by
               first
                 | exact fun x hx => by rw [hz] at hx; simp at hx; rw [← hx]; exact h51
                 | exact fun x hx => by have := (List.getElem?_eq_some_iff.1 hx).1; have := of_decide_eq_false h39; omega
             have k1 : Rd encV 32 K (F1 :: F22 :: F10 :: Hs) (.slice ado j co) (O.take j) := Rd.preO (m := O.length) hj
             have k2 : Rd encV 32 K (F1 :: F22 :: F10 :: Hs) (.slice (subAd ado co j 32) (O.length - j) (co - j)) (O.drop j) := Rd.sufO (m := O.length) hj
             have hl1 : (O.take j).length = j := by rw [List.length_take]; omega
             have hl2 : (O.drop j).length = O.length - j := List.length_drop
             refine D.act 0 rfl (by kernel_rfl) ?_
             refine R.sbuild0 (enc := (encV (m := 32))) hs Tryz.underlying44 Tryz.sz36 rfl ?_
             intro v54 w54 F54 r54 nn54 hs
             refine D.backT (by kernel_rfl) (D.act 4 rfl (by kernel_rfl) ?_)
             refine R.cappSl hs rfl rfl Tryz.underlying44 Tryz.by36 (by rfl) rfl (by decide) (by first | omega | (simp only [List.length_append, List.length_cons, List.length_nil] at *; omega)) (by first | omega | (simp only [List.length_append, List.length_cons, List.length_nil] at *; omega)) ?_
             intro v58 w58 F58 r58 hs
             rw [List.nil_append] at r58
             refine D.backT (by kernel_rfl) (D.act 11 rfl (by kernel_rfl) ?_)
             refine R.capp1 (y.nx) hs rfl rfl Tryz.underlying44 Tryz.by36 (by rfl) rfl (by first | exact hs.ldA | exact hs.ldP rfl | exact by assumption) (by decide) (by first | omega | (simp only [List.length_append, List.length_cons, List.length_nil] at *; omega)) (by first | omega | (simp only [List.length_append, List.length_cons, List.length_nil] at *; omega)) ?_
             intro v65 w65 F65 r65 hs
             refine D.backT (by kernel_rfl) (D.act 15 rfl (by kernel_rfl) ?_)
             refine R.cappSl hs rfl rfl Tryz.underlying44 Tryz.by36 (by rfl) rfl (by decide) (by first | omega | (simp only [List.length_append, List.length_cons, List.length_nil] at *; omega)) (by first | omega | (simp only [List.length_append, List.length_cons, List.length_nil] at *; omega)) ?_
             intro v69 w69 F69 r69 hs
             refine D.backT (by kernel_rfl) (D.evP 16 rfl (by kernel_rfl) rfl (np (by kernel_rfl)) (fun _ => E.assign rfl) (D.done rfl (by kernel_rfl) (X.keep [(0, _), (3, _), (4, _), (5, _), (6, _), (7, _)] ⟨rfl, rfl, rfl, rfl, rfl, rfl, trivial⟩ (X.blockNormal (X.next (C.region (R.ev rfl (E.move rfl) (R.ev rfl (E.add rfl rfl (by omega) (by omega)) ?_))))))))
             refine R.ev rfl (E.assign rfl) (R.done (X.keep [(0, _), (3, _), (4, _), (5, _), (6, _), (7, _)] ⟨rfl, rfl, rfl, rfl, rfl, rfl, trivial⟩ ?_))
             first
               | exact X.again (k + 1, _, v69, F69) ⟨rfl, rfl, rfl, rfl, rfl, rfl, trivial⟩ ⟨by omega, r69, by rw [take_snoc hy, cnt1_snoc, if_pos (show y.lim ≠ -1 by omega), ← List.append_assoc]; exact perm_ins hp1, pw_ins hs1 hb1 hstop, hs.to⟩ (by show _ - _ < _ - _; omega)
               | exact X.again (k + 1, O, .slice ado O.length co, F1) ⟨rfl, rfl, rfl, rfl, rfl, rfl, trivial⟩ ⟨by omega, r1, by rw [take_snoc hy, cnt1_snoc, if_neg (show ¬ y.lim ≠ -1 by omega), List.append_nil]; exact hp1, hs1, hs.to⟩ (by show _ - _ < _ - _; omega)
       · refine D.skipP 5 rfl (by kernel_rfl) rfl rfl rfl (np (by kernel_rfl)) ?_
         refine D.skipP 6 rfl (by kernel_rfl) rfl rfl rfl (np (by kernel_rfl)) (D.skipP 7 rfl (by kernel_rfl) rfl rfl rfl (np (by kernel_rfl)) (D.skipP 8 rfl (by kernel_rfl) rfl rfl rfl (np (by kernel_rfl)) (D.skipP 9 rfl (by kernel_rfl) rfl rfl rfl (np (by kernel_rfl)) (D.skipP 10 rfl (by kernel_rfl) rfl rfl rfl (np (by kernel_rfl)) (D.skipP 11 rfl (by kernel_rfl) rfl rfl rfl (np (by kernel_rfl)) (D.skipP 12 rfl (by kernel_rfl) rfl rfl rfl (np (by kernel_rfl)) (D.skipP 13 rfl (by kernel_rfl) rfl rfl rfl (np (by kernel_rfl)) (D.act 14 rfl (by kernel_rfl) ?_))))))))
         refine R.gskip rfl rfl rfl (D.backT (by kernel_rfl) (D.skipP 15 rfl (by kernel_rfl) rfl rfl rfl (np (by kernel_rfl)) (D.evP 16 rfl (by kernel_rfl) rfl (np (by kernel_rfl)) (fun _ => E.pickF rfl rfl) (D.done rfl (by kernel_rfl) (X.keep [(0, _), (3, _), (4, _), (5, _), (6, _), (7, _), (8, _), (51, _)] ⟨rfl, rfl, rfl, rfl, rfl, rfl, rfl, rfl, trivial⟩ (X.next (C.cfalse rfl (C.exit ?_))))))))
         refine X.thenExit (X.loopExit (X.blockExit (X.next ?_)))
         refine C.drawn (SatS hs) ([9], [1, 2, 3, 5, 6, 7, 8, 12, 13, 14, 16]) (by kernel_rfl) ?_
         have hs := hs.drew
         refine D.evP 1 rfl (by kernel_rfl) rfl (fun _ => hs.to) (fun _ => E.move rfl) (D.evP 2 rfl (by kernel_rfl) rfl (fun _ => hs.to) (fun _ => E.move rfl) (D.evP 3 rfl (by kernel_rfl) rfl (fun _ => hs.to) (fun _ => E.sliceH rfl rfl Tryz.underlying44 Tryz.sz36 rfl (by omega)) (D.evP 5 rfl (by kernel_rfl) rfl (fun _ => hs.to) (fun _ => E.move rfl) (D.evP 6 rfl (by kernel_rfl) rfl (fun _ => hs.to) (fun _ => E.move rfl) ?_))))
         refine D.evP 7 rfl (by kernel_rfl) rfl (fun _ => hs.to) (fun _ => E.indexAddr (i := k) rfl rfl Tryz.underlying33 Tryz.sz72 rfl (by omega)) ?_
         first | refine D.evP 8 rfl (by kernel_rfl) rfl (fun _ => hs.to) (fun _ => E.fieldAddr0 19 rfl Tryz.underlying72 rfl Tryz.sz36 rfl) ?_ | refine D.evP 8 rfl (by kernel_rfl) rfl (fun _ => hs.to) (fun _ => E.fieldAddrN 19 rfl Tryz.underlying72 rfl Tryz.sz36 rfl) ?_
         refine D.evP 12 rfl (by kernel_rfl) rfl (fun _ => hs.to) (fun _ => E.move rfl) (D.evP 13 rfl (by kernel_rfl) rfl (fun _ => hs.to) (fun _ => E.move rfl) ?_)
         refine D.evP 14 rfl (by kernel_rfl) rfl (fun _ => hs.to) (fun _ => E.sliceLs (a := j) rfl rfl Tryz.underlying44 Tryz.sz36 rfl (by omega)) ?_
         refine D.ev 9 rfl (by kernel_rfl) rfl hs.to (fun _ hS => E.loadRowC rfl Tryz.underlying36 rfl Tryz.sz36 (by first | exact ⟨hS.ldA, by first | rfl | assumption | exact encV_len _ | exact Enc.len _ | exact len_ub (by assumption)⟩ | exact ⟨hS.ldP rfl, by first | rfl | assumption | exact encV_len _ | exact Enc.len _ | exact len_ub (by assumption)⟩ | exact ⟨hS.ldM rfl rfl, by first | rfl | assumption | exact encV_len _ | exact Enc.len _ | exact len_ub (by assumption)⟩ | exact ⟨hS.ldM (by assumption) (by first | rfl | assumption), by first | rfl | assumption | exact encV_len _ | exact Enc.len _ | exact len_ub (by assumption)⟩ | exact ⟨by assumption, by first | rfl | assumption | exact encV_len _ | exact Enc.len _ | exact len_ub (by assumption)⟩ | exact ⟨(by assumption : ∀ w', Sat _ w' _ → At w' _ _ _) _ hS, by first | rfl | assumption | exact encV_len _ | exact Enc.len _ | exact len_ub (by assumption)⟩ | exact hS.ldp | exact At.partC (by assumption) | exact At.partC ((by assumption : ∀ w', Sat _ w' _ → At w' _ _ _) _ hS))) ?_
         refine D.act2 0 10 rfl rfl (by kernel_rfl) ?_ ?_
         · have hstop : ∀ x, O[j]? = some x → ltV x y.nx = false := by
             first
               | exact fun x hx => by rw [hz] at hx; simp at hx; rw [← hx]; exact h51
               | exact fun x hx => by have := (List.getElem?_eq_some_iff.1 hx).1; have := of_decide_eq_false h39; omega
           have k1 : Rd encV 32 K (F1 :: F22 :: F10 :: Hs) (.slice ado j co) (O.take j) := Rd.preO (m := O.length) hj
           have k2 : Rd encV 32 K (F1 :: F22 :: F10 :: Hs) (.slice (subAd ado co j 32) (O.length - j) (co - j)) (O.drop j) := Rd.sufO (m := O.length) hj
           have hl1 : (O.take j).length = j := by rw [List.length_take]; omega
           have hl2 : (O.drop j).length = O.length - j := List.length_drop
           refine R.sbuild0 (enc := (encV (m := 32))) hs Tryz.underlying44 Tryz.sz36 rfl ?_
           intro v54 w54 F54 r54 nn54 hs
           refine D.back hs.to ?_
           refine D.act2 4 10 rfl rfl (by kernel_rfl) ?_ ?_
           · refine R.cappSl hs rfl rfl Tryz.underlying44 Tryz.by36 (by rfl) rfl (by decide) (by first | omega | (simp only [List.length_append, List.length_cons, List.length_nil] at *; omega)) (by first | omega | (simp only [List.length_append, List.length_cons, List.length_nil] at *; omega)) ?_
             intro v58 w58 F58 r58 hs
             rw [List.nil_append] at r58
             refine D.back hs.to (D.act 10 rfl (by kernel_rfl) ?_)
             refine R.buildSliceA rfl Tryz.underlying44 Tryz.sz36 Tryz.zr36 rfl (by first | rfl | assumption | exact encV_len _ | exact Enc.len _ | simp [*]) (by decide) (by decide) ?_
             intro b64 w64 n64
             have hs := hs.new n64
             refine D.backT (by kernel_rfl) (D.act 11 rfl (by kernel_rfl) ?_)
             refine R.capp1 (y.nx) hs rfl rfl Tryz.underlying44 Tryz.by36 (by rfl) rfl (by first | exact hs.ldA | exact hs.ldP rfl | exact by assumption) (by decide) (by first | omega | (simp only [List.length_append, List.length_cons, List.length_nil] at *; omega)) (by first | omega | (simp only [List.length_append, List.length_cons, List.length_nil] at *; omega)) ?_
             intro v65 w65 F65 r65 hs
             refine D.backT (by kernel_rfl) (D.act 15 rfl (by kernel_rfl) ?_)
             refine R.cappSl hs rfl rfl Tryz.underlying44 Tryz.by36 (by rfl) rfl (by decide) (by first | omega | (simp only [List.length_append, List.length_cons, List.length_nil] at *; omega)) (by first | omega | (simp only [List.length_append, List.length_cons, List.length_nil] at *; omega)) ?_
             intro v69 w69 F69 r69 hs
             refine D.backT (by kernel_rfl) (D.evP 16 rfl (by kernel_rfl) rfl (np (by kernel_rfl)) (fun _ => E.assign rfl) (D.done rfl (by kernel_rfl) (X.keep [(0, _), (3, _), (4, _), (5, _), (6, _), (7, _)] ⟨rfl, rfl, rfl, rfl, rfl, rfl, trivial⟩ (X.blockNormal (X.next (C.region (R.ev rfl (E.move rfl) (R.ev rfl (E.add rfl rfl (by omega) (by omega)) ?_))))))))
             refine R.ev rfl (E.assign rfl) (R.done (X.keep [(0, _), (3, _), (4, _), (5, _), (6, _), (7, _)] ⟨rfl, rfl, rfl, rfl, rfl, rfl, trivial⟩ ?_))
             first
               | exact X.again (k + 1, _, v69, F69) ⟨rfl, rfl, rfl, rfl, rfl, rfl, trivial⟩ ⟨by omega, r69, by rw [take_snoc hy, cnt1_snoc, if_pos (show y.lim ≠ -1 by omega), ← List.append_assoc]; exact perm_ins hp1, pw_ins hs1 hb1 hstop, hs.to⟩ (by show _ - _ < _ - _; omega)
               | exact X.again (k + 1, O, .slice ado O.length co, F1) ⟨rfl, rfl, rfl, rfl, rfl, rfl, trivial⟩ ⟨by omega, r1, by rw [take_snoc hy, cnt1_snoc, if_neg (show ¬ y.lim ≠ -1 by omega), List.append_nil]; exact hp1, hs1, hs.to⟩ (by show _ - _ < _ - _; omega)
           · refine R.buildSliceA rfl Tryz.underlying44 Tryz.sz36 Tryz.zr36 rfl (by first | rfl | assumption | exact encV_len _ | exact Enc.len _ | simp [*]) (by decide) (by decide) ?_
             intro b64 w64 n64
             have hs := hs.new n64
             refine D.backT (by kernel_rfl) (D.act 4 rfl (by kernel_rfl) ?_)
             refine R.cappSl hs rfl rfl Tryz.underlying44 Tryz.by36 (by rfl) rfl (by decide) (by first | omega | (simp only [List.length_append, List.length_cons, List.length_nil] at *; omega)) (by first | omega | (simp only [List.length_append, List.length_cons, List.length_nil] at *; omega)) ?_
             intro v58 w58 F58 r58 hs
             rw [List.nil_append] at r58
             refine D.backT (by kernel_rfl) (D.act 11 rfl (by kernel_rfl) ?_)
             refine R.capp1 (y.nx) hs rfl rfl Tryz.underlying44 Tryz.by36 (by rfl) rfl (by first | exact hs.ldA | exact hs.ldP rfl | exact by assumption) (by decide) (by first | omega | (simp only [List.length_append, List.length_cons, List.length_nil] at *; omega)) (by first | omega | (simp only [List.length_append, List.length_cons, List.length_nil] at *; omega)) ?_
             intro v65 w65 F65 r65 hs
             refine D.backT (by kernel_rfl) (D.act 15 rfl (by kernel_rfl) ?_)
             refine R.cappSl hs rfl rfl Tryz.underlying44 Tryz.by36 (by rfl) rfl (by decide) (by first | omega | (simp only [List.length_append, List.length_cons, List.length_nil] at *; omega)) (by first | omega | (simp only [List.length_append, List.length_cons, List.length_nil] at *; omega)) ?_
             intro v69 w69 F69 r69 hs
             refine D.backT (by kernel_rfl) (D.evP 16 rfl (by kernel_rfl) rfl (np (by kernel_rfl)) (fun _ => E.assign rfl) (D.done rfl (by kernel_rfl) (X.keep [(0, _), (3, _), (4, _), (5, _), (6, _), (7, _)] ⟨rfl, rfl, rfl, rfl, rfl, rfl, trivial⟩ (X.blockNormal (X.next (C.region (R.ev rfl (E.move rfl) (R.ev rfl (E.add rfl rfl (by omega) (by omega)) ?_))))))))
             refine R.ev rfl (E.assign rfl) (R.done (X.keep [(0, _), (3, _), (4, _), (5, _), (6, _), (7, _)] ⟨rfl, rfl, rfl, rfl, rfl, rfl, trivial⟩ ?_))
             first
               | exact X.again (k + 1, _, v69, F69) ⟨rfl, rfl, rfl, rfl, rfl, rfl, trivial⟩ ⟨by omega, r69, by rw [take_snoc hy, cnt1_snoc, if_pos (show y.lim ≠ -1 by omega), ← List.append_assoc]; exact perm_ins hp1, pw_ins hs1 hb1 hstop, hs.to⟩ (by show _ - _ < _ - _; omega)
               | exact X.again (k + 1, O, .slice ado O.length co, F1) ⟨rfl, rfl, rfl, rfl, rfl, rfl, trivial⟩ ⟨by omega, r1, by rw [take_snoc hy, cnt1_snoc, if_neg (show ¬ y.lim ≠ -1 by omega), List.append_nil]; exact hp1, hs1, hs.to⟩ (by show _ - _ < _ - _; omega)
         · refine R.buildSliceA rfl Tryz.underlying44 Tryz.sz36 Tryz.zr36 rfl (by first | rfl | assumption | exact encV_len _ | exact Enc.len _ | simp [*]) (by decide) (by decide) ?_
           intro b64 w64 n64
           have hs := hs.new n64
           refine D.backT (by kernel_rfl) ?_
           have hstop : ∀ x, O[j]? = some x → ltV x y.nx = false := by
             first
               | exact fun x hx => by rw [hz] at hx; simp at hx; rw [← hx]; exact h51
               | exact fun x hx => by have := (List.getElem?_eq_some_iff.1 hx).1; have := of_decide_eq_false h39; omega
           have k1 : Rd encV 32 K (F1 :: F22 :: F10 :: Hs) (.slice ado j co) (O.take j) := Rd.preO (m := O.length) hj
           have k2 : Rd encV 32 K (F1 :: F22 :: F10 :: Hs) (.slice (subAd ado co j 32) (O.length - j) (co - j)) (O.drop j) := Rd.sufO (m := O.length) hj
           have hl1 : (O.take j).length = j := by rw [List.length_take]; omega
           have hl2 : (O.drop j).length = O.length - j := List.length_drop
           refine D.act 0 rfl (by kernel_rfl) ?_
           refine R.sbuild0 (enc := (encV (m := 32))) hs Tryz.underlying44 Tryz.sz36 rfl ?_
           intro v54 w54 F54 r54 nn54 hs
           refine D.backT (by kernel_rfl) (D.act 4 rfl (by kernel_rfl) ?_)
           refine R.cappSl hs rfl rfl Tryz.underlying44 Tryz.by36 (by rfl) rfl (by decide) (by first | omega | (simp only [List.length_append, List.length_cons, List.length_nil] at *; omega)) (by first | omega | (simp only [List.length_append, List.length_cons, List.length_nil] at *; omega)) ?_
           intro v58 w58 F58 r58 hs
           rw [List.nil_append] at r58
           refine D.backT (by kernel_rfl) (D.act 11 rfl (by kernel_rfl) ?_)
           refine R.capp1 (y.nx) hs rfl rfl Tryz.underlying44 Tryz.by36 (by rfl) rfl (by first | exact hs.ldA | exact hs.ldP rfl | exact by assumption) (by decide) (by first | omega | (simp only [List.length_append, List.length_cons, List.length_nil] at *; omega)) (by first | omega | (simp only [List.length_append, List.length_cons, List.length_nil] at *; omega)) ?_
           intro v65 w65 F65 r65 hs
           refine D.backT (by kernel_rfl) (D.act 15 rfl (by kernel_rfl) ?_)
           refine R.cappSl hs rfl rfl Tryz.underlying44 Tryz.by36 (by rfl) rfl (by decide) (by first | omega | (simp only [List.length_append, List.length_cons, List.length_nil] at *; omega)) (by first | omega | (simp only [List.length_append, List.length_cons, List.length_nil] at *; omega)) ?_
           intro v69 w69 F69 r69 hs
           refine D.backT (by kernel_rfl) (D.evP 16 rfl (by kernel_rfl) rfl (np (by kernel_rfl)) (fun _ => E.assign rfl) (D.done rfl (by kernel_rfl) (X.keep [(0, _), (3, _), (4, _), (5, _), (6, _), (7, _)] ⟨rfl, rfl, rfl, rfl, rfl, rfl, trivial⟩ (X.blockNormal (X.next (C.region (R.ev rfl (E.move rfl) (R.ev rfl (E.add rfl rfl (by omega) (by omega)) ?_))))))))
           refine R.ev rfl (E.assign rfl) (R.done (X.keep [(0, _), (3, _), (4, _), (5, _), (6, _), (7, _)] ⟨rfl, rfl, rfl, rfl, rfl, rfl, trivial⟩ ?_))
           first
             | exact X.again (k + 1, _, v69, F69) ⟨rfl, rfl, rfl, rfl, rfl, rfl, trivial⟩ ⟨by omega, r69, by rw [take_snoc hy, cnt1_snoc, if_pos (show y.lim ≠ -1 by omega), ← List.append_assoc]; exact perm_ins hp1, pw_ins hs1 hb1 hstop, hs.to⟩ (by show _ - _ < _ - _; omega)
             | exact X.again (k + 1, O, .slice ado O.length co, F1) ⟨rfl, rfl, rfl, rfl, rfl, rfl, trivial⟩ ⟨by omega, r1, by rw [take_snoc hy, cnt1_snoc, if_neg (show ¬ y.lim ≠ -1 by omega), List.append_nil]; exact hp1, hs1, hs.to⟩ (by show _ - _ < _ - _; omega)
   · refine C.exit ?_
     refine X.thenExit (X.loopExit (X.blockExit (X.blockNormal (X.next (C.region (R.ev rfl (E.move rfl) (R.ev rfl (E.add rfl rfl (by omega) (by omega)) (R.ev rfl (E.assign rfl) ?_))))))))
     refine R.done (X.keep [(0, _), (3, _), (4, _), (5, _)] ⟨rfl, rfl, rfl, rfl, trivial⟩ ?_)
     rw [List.take_of_length_le (show c.length ≤ k by omega)] at hp1
     exact X.again (i + 1, Cs ++ [c], O, .slice ado O.length co, F1) ⟨rfl, rfl, rfl, rfl, trivial⟩ ⟨by omega, by rw [take_snoc ha]; exact hCs.snoc hc, r1, by rw [cntA_snoc]; exact hp1, hs1, by rw [cntA_snoc, List.length_append]; have := cnt1_len c; omega, hs.to⟩ (by show _ - _ < _ - _; omega)
 · refine C.exit ?_
   refine X.thenExit (X.loopExit (X.blockExit (X.next (C.seq (C.region (R.ev rfl (E.move rfl) (R.ev rfl (E.assign rfl) (R.done ?_))))))))
   refine X.keep [(2, _)] ⟨rfl, trivial⟩ (X.next (C.ret (X.ret1 rfl rfl ?_)))
   rw [List.take_of_length_le (show A.length ≤ i by omega)] at hCs
   exact ⟨O0, Fi, ri, ⟨A, Cs, hA, hCs, hpi, hsi⟩, hs.to⟩
end
theorem kchains_walk (w : World) (hkc : HasKc (Kn.of w)) (v1 : Value) (a1 : ArgV Tryz.prog w 22 v1) (v2 : Value) (a2 : ArgV Tryz.prog w 5 v2) (v3 : Value) (a3 : ArgV Tryz.prog w 3 v3) : Ret Tryz.prog 3 #[v1, v2, v3] w fun r w' => r = .bool true ∧ Mod [] w w' := by
 obtain ⟨ad, cap, ms, rfl, hc1, _, hr1⟩ := argv_mvs a1
 obtain ⟨au, rfl⟩ := argv_u8 a2 Tryz.underlying5
 obtain ⟨n, rfl, _⟩ := argv_int a3 Tryz.underlying3
 have hs := Sat.start w
 refine Ret.enter (n := 95) (args := [.slice ad ms.length cap, ub au, .int .i64 n]) Tryz.func3 rfl rfl ?_
 refine C.keep [(0, _), (1, _), (2, _)] ⟨rfl, rfl, rfl, trivial⟩ (C.seq (C.region (R.ev rfl (E.assign rfl) (R.done (X.keep [(0, _), (1, _), (2, _)] ⟨rfl, rfl, rfl, trivial⟩ (X.next (C.seq (C.seq ?_))))))))
 refine C.region ?_
 refine R.call ⟨_, _, Tryz.func4, rfl, by kernel_rfl⟩ rfl rfl (known_any hs) ?_
 rintro _ w1 ⟨rfl, hs⟩
 refine R.ev rfl (E.notT rfl) (R.done (X.keep [(0, _), (1, _), (2, _), (18, _)] ⟨rfl, rfl, rfl, rfl, trivial⟩ (X.next (C.cfalse rfl (C.skip (X.next (C.seq (C.region ?_))))))))
 refine R.ev rfl (E.move rfl) ?_
 refine R.call ⟨_, _, Tryz.func5, rfl, by kernel_rfl⟩ rfl rfl (build_any (ms := ms) (n := 20) (by decide) hs) ?_
 rintro _ w3 ⟨p, K2, v8, MK, MR, F, rfl, hk2, hr8, hI, hw, hs⟩
 have hbl : (bld (ms.take 20)).length ≤ 20 := by have := bld_len (ms.take 20); rw [List.length_take] at this; omega
 have o8 : OneC v8 := ⟨KRow.oneC' hr8⟩
 generalize bld (ms.take 20) = L at hr8 hI hbl
 refine R.ev rfl (E.move rfl) (R.ev rfl (E.extract rfl rfl) (R.ev rfl (E.extract rfl rfl) (R.ev rfl (E.extract rfl rfl) (R.ev rfl (E.assign rfl) (R.ev rfl (E.assign rfl) (R.ev rfl (E.assign rfl) (R.done (X.keep [(1, _), (2, _), (7, _), (8, _)] ⟨rfl, rfl, rfl, rfl, trivial⟩ ?_))))))))
 refine X.next (C.seq (C.region (R.ev rfl (E.move rfl) ?_)))
 refine R.call ⟨_, _, Tryz.func7, rfl, by kernel_rfl⟩ rfl rfl (public_any au hs) ?_
 rintro _ w41 ⟨rfl, hs⟩
 refine R.call ⟨_, _, Tryz.func6, rfl, by kernel_rfl⟩ rfl rfl (rOf_any _ hs) ?_
 rintro _ w42 ⟨rfl, hs⟩
 generalize ofP (pubk au.toNat) = a
 have q2 := encV_len a
 refine R.sallocA hs Tryz.zr28 rfl ?_
 intro b10 w10 hs
 first | refine R.cstoreAll hs rfl rfl Tryz.sz28 (by first | rfl | assumption | exact encV_len _ | exact Enc.len _ | exact len_ub (by assumption) | simp [*]) (by first | rfl | assumption | exact encV_len _ | exact Enc.len _ | exact len_ub (by assumption) | simp [*]) (by first | assumption | exact OneL.all | exact Enc.one _ | exact ub_all _ | (repeat' (first | refine List.forall_mem_cons.2 ⟨?_, ?_⟩ | exact List.forall_mem_nil _ | rfl | exact OneC.one | exact KRow.oneC' (by assumption)))) ?_ | refine R.cstore hs rfl rfl Tryz.sz28 (by first | rfl | assumption | exact encV_len _ | exact Enc.len _ | exact len_ub (by assumption) | simp [*]) (by simp [*]) (by first | assumption | exact OneL.all | exact Enc.one _ | exact ub_all _ | (repeat' (first | refine List.forall_mem_cons.2 ⟨?_, ?_⟩ | exact List.forall_mem_nil _ | rfl | exact OneC.one | exact KRow.oneC' (by assumption)))) ?_
 intro w4_4 hs
 try simp only [List.set_cons_zero, List.set_cons_succ] at hs
 refine R.done (X.keep [(2, _), (7, _), (8, _), (10, _)] ⟨rfl, rfl, rfl, rfl, trivial⟩ (X.next (C.seq (C.region (R.ev rfl (E.move rfl) ?_)))))
 refine R.ev rfl (E.loadRowC rfl Tryz.underlying28 rfl Tryz.sz28 (by first | exact ⟨hs.ldA, by first | rfl | assumption | exact encV_len _ | exact Enc.len _ | exact len_ub (by assumption)⟩ | exact ⟨hs.ldP rfl, by first | rfl | assumption | exact encV_len _ | exact Enc.len _ | exact len_ub (by assumption)⟩ | exact ⟨hs.ldM rfl rfl, by first | rfl | assumption | exact encV_len _ | exact Enc.len _ | exact len_ub (by assumption)⟩ | exact ⟨hs.ldM (by assumption) (by first | rfl | assumption), by first | rfl | assumption | exact encV_len _ | exact Enc.len _ | exact len_ub (by assumption)⟩ | exact ⟨by assumption, by first | rfl | assumption | exact encV_len _ | exact Enc.len _ | exact len_ub (by assumption)⟩ | exact hs.ldp | exact At.partC (by assumption))) ?_
 refine R.call ⟨_, _, Tryz.func8, rfl, by kernel_rfl⟩ rfl rfl (rchain_any a hs (by omega)) ?_
 rintro v30 w30 ⟨c, F30, r30, hc, hs⟩
 have hcl := hc.len
 obtain ⟨ad30, cap30, rfl, hcap30, _, had30⟩ := r30.val
 refine R.ev rfl (E.assign rfl) (R.done (X.keep [(2, _), (7, _), (8, _), (10, _), (11, _)] ⟨rfl, rfl, rfl, rfl, rfl, trivial⟩ (X.next (C.seq (C.region (R.ev rfl (E.move rfl) ?_))))))
 refine R.ev rfl (E.loadRowC rfl Tryz.underlying28 rfl Tryz.sz28 (by first | exact ⟨hs.ldA, by first | rfl | assumption | exact encV_len _ | exact Enc.len _ | exact len_ub (by assumption)⟩ | exact ⟨hs.ldP rfl, by first | rfl | assumption | exact encV_len _ | exact Enc.len _ | exact len_ub (by assumption)⟩ | exact ⟨hs.ldM rfl rfl, by first | rfl | assumption | exact encV_len _ | exact Enc.len _ | exact len_ub (by assumption)⟩ | exact ⟨hs.ldM (by assumption) (by first | rfl | assumption), by first | rfl | assumption | exact encV_len _ | exact Enc.len _ | exact len_ub (by assumption)⟩ | exact ⟨by assumption, by first | rfl | assumption | exact encV_len _ | exact Enc.len _ | exact len_ub (by assumption)⟩ | exact hs.ldp | exact At.partC (by assumption))) ?_
 refine R.ev rfl (E.move rfl) ?_
 refine R.call ⟨_, _, Tryz.func9, rfl, by kernel_rfl⟩ rfl rfl (key_any a n hI (by omega) hs) ?_
 rintro _ w63 ⟨c2, rfl, hc2, hs⟩
 obtain rfl : c = c2 := ChA.det hI.ok.inj (fun _ _ => Iff.rfl) hc hc2
 have q3 := encK_len (kyAt c n)
 refine R.ev rfl (E.move rfl) (R.ev rfl (E.extract rfl rfl) (R.ev rfl (E.extract rfl rfl) ?_))
 refine R.sallocA hs Tryz.zr39 rfl ?_
 intro b12 w12 hs
 first | refine R.cstoreAll hs rfl rfl Tryz.sz39 (by first | rfl | assumption | exact encV_len _ | exact Enc.len _ | exact len_ub (by assumption) | simp [*]) (by first | rfl | assumption | exact encV_len _ | exact Enc.len _ | exact len_ub (by assumption) | simp [*]) (by first | assumption | exact OneL.all | exact Enc.one _ | exact ub_all _ | (repeat' (first | refine List.forall_mem_cons.2 ⟨?_, ?_⟩ | exact List.forall_mem_nil _ | rfl | exact OneC.one | exact KRow.oneC' (by assumption)))) ?_ | refine R.cstore hs rfl rfl Tryz.sz39 (by first | rfl | assumption | exact encV_len _ | exact Enc.len _ | exact len_ub (by assumption) | simp [*]) (by simp [*]) (by first | assumption | exact OneL.all | exact Enc.one _ | exact ub_all _ | (repeat' (first | refine List.forall_mem_cons.2 ⟨?_, ?_⟩ | exact List.forall_mem_nil _ | rfl | exact OneC.one | exact KRow.oneC' (by assumption)))) ?_
 intro w6_8 hs
 try simp only [List.set_cons_zero, List.set_cons_succ] at hs
 refine R.ev rfl (E.assign rfl) (R.done (X.keep [(2, _), (7, _), (8, _), (10, _), (11, _), (12, _), (13, _)] ⟨rfl, rfl, rfl, rfl, rfl, rfl, rfl, trivial⟩ (X.next (C.seq (C.region (R.ev rfl (E.move rfl) ?_))))))
 refine R.call ⟨_, _, Tryz.func10, rfl, by kernel_rfl⟩ rfl rfl (counting_any hI (by omega) hs) ?_
 rintro v39 w7 ⟨M, F39, r39, hM, hs⟩
 obtain ⟨ad39, cap39, rfl, hc39, hcm39, _⟩ := r39.val
 have hMl : M.length ≤ 9223372036854775807 := by unfold maxLen at hcm39; omega
 refine R.ev rfl (E.assign rfl) (R.done (X.keep [(2, _), (7, _), (8, _), (10, _), (11, _), (12, _), (13, _), (14, _)] ⟨rfl, rfl, rfl, rfl, rfl, rfl, rfl, rfl, trivial⟩ (X.next (C.seq (C.region (R.ev rfl (E.move rfl) ?_))))))
 refine R.call ⟨_, _, Tryz.func11, rfl, by kernel_rfl⟩ rfl rfl (rcounting_any hI.ok hs (by omega)) ?_
 rintro v41 w8 ⟨M2, F41, r41, hM2, hs⟩
 obtain rfl := hM.eq hI.ok.inj hM2
 obtain ⟨ad41, cap41, rfl, _⟩ := r41.val
 refine R.ev rfl (E.assign rfl) (R.done (X.keep [(2, _), (7, _), (10, _), (11, _), (12, _), (13, _), (14, _), (15, _)] ⟨rfl, rfl, rfl, rfl, rfl, rfl, rfl, rfl, trivial⟩ (X.next (C.seq (C.seq (C.region (R.ev rfl (E.move rfl) ?_)))))))
 refine R.ev rfl (E.loadRowC rfl Tryz.underlying28 rfl Tryz.sz28 (by first | exact ⟨hs.ldA, by first | rfl | assumption | exact encV_len _ | exact Enc.len _ | exact len_ub (by assumption)⟩ | exact ⟨hs.ldP rfl, by first | rfl | assumption | exact encV_len _ | exact Enc.len _ | exact len_ub (by assumption)⟩ | exact ⟨hs.ldM rfl rfl, by first | rfl | assumption | exact encV_len _ | exact Enc.len _ | exact len_ub (by assumption)⟩ | exact ⟨hs.ldM (by assumption) (by first | rfl | assumption), by first | rfl | assumption | exact encV_len _ | exact Enc.len _ | exact len_ub (by assumption)⟩ | exact ⟨by assumption, by first | rfl | assumption | exact encV_len _ | exact Enc.len _ | exact len_ub (by assumption)⟩ | exact hs.ldp | exact At.partC (by assumption))) ?_
 refine R.call ⟨_, _, Tryz.func13, rfl, by kernel_rfl⟩ rfl rfl (chain_any a hI (by omega) hs) ?_
 rintro v44 w92 ⟨d, F44, r44, hd, hs⟩
 obtain rfl : c = d := ChA.det hI.ok.inj (fun _ _ => Iff.rfl) hc hd
 refine R.ev rfl (E.move rfl) ?_
 refine R.call ⟨_, _, Tryz.func12, rfl, by kernel_rfl⟩ rfl rfl (cmpChain_any (A := c) (B := c) hs (by omega)) ?_
 rintro _ w94 ⟨rfl, hs⟩
 have hT : n ≥ 0 → (inC c n != decide (n < (c.length : Int))) = false := fun h => by
   have : inC c n = decide (n < (c.length : Int)) := by unfold inC; rw [decide_eq_decide]; omega
   rw [this]; simp
 have hF : ¬ n ≥ 0 → (inC c n != false) = false := fun h => by
   have : inC c n = false := decide_eq_false (by omega)
   rw [this]; rfl
 refine R.ev rfl ((E.not rfl).isB (c := false) (by simp)) ?_
 refine R.ev rfl (E.move rfl) (R.gyes rfl rfl (R.ev rfl (E.move rfl) (R.gyes rfl rfl (R.ev rfl (E.move rfl) (R.gyes rfl rfl (R.ev rfl (E.geq rfl rfl) (R.gyes rfl rfl (R.ev rfl (E.move rfl) ?_))))))))
 refine R.split 52 rfl (fun h52 => ?_) (fun h52 => ?_)
 · refine R.gyes rfl rfl ?_
   refine R.ev rfl (E.move rfl) (R.gyes rfl rfl (R.ev rfl (E.move rfl) (R.gyes rfl rfl (R.ev rfl (E.lenSl rfl Tryz.underlying33) (R.gyes rfl rfl (R.ev rfl (E.lss rfl rfl) (R.gyes rfl rfl (R.ev rfl (E.pickT rfl rfl) ?_))))))))
   refine R.gyes rfl rfl ?_
   refine R.ev rfl ((E.neqB rfl rfl Tryz.underlying4).isB (c := false) (by first | exact hT (of_decide_eq_true h52) | exact hF (of_decide_eq_false h52))) ?_
   refine R.ev rfl (E.pickF rfl rfl) (R.ev rfl (E.move rfl) (R.gyes rfl rfl (R.ev rfl (E.move rfl) (R.gyes rfl rfl (R.ev rfl (E.lenSl rfl Tryz.underlying42) (R.gyes rfl rfl (R.ev rfl (E.move rfl) (R.gyes rfl rfl ?_))))))))
   refine R.ev rfl (E.lenSl rfl Tryz.underlying44) (R.gyes rfl rfl ?_)
   refine R.ev rfl ((E.neq rfl rfl).isB (c := false) (by simp)) ?_
   refine R.ev rfl (E.pickF rfl rfl) (R.done (X.keep [(2, _), (11, _), (12, _), (13, _), (14, _), (15, _), (66, _)] ⟨rfl, rfl, rfl, rfl, rfl, rfl, rfl, trivial⟩ (X.next (C.cfalse rfl (C.skip (X.next (C.seq (C.seq ?_))))))))
   refine C.region (R.ev rfl (E.assign rfl) (R.done (X.keep [(2, _), (11, _), (12, _), (13, _), (14, _), (15, _), (16, _)] ⟨rfl, rfl, rfl, rfl, rfl, rfl, rfl, trivial⟩ (X.next (C.block ?_)))))
   refine C.loop  [(2, _), (11, _), (12, _), (13, _), (14, _), (15, _)] (fun k => [(16, .int .i64 (k : Nat))]) (fun k w' => k ≤ M.length ∧ Sat K2 w' (F41 :: F39 :: row b12 39 (encK (kyAt c n)) :: F30 :: [])) (fun k => M.length - k) (0) ⟨rfl, rfl, rfl, rfl, rfl, rfl, rfl, trivial⟩ ⟨Nat.zero_le _, hs.to⟩ ?_
   rintro k w11 ⟨hk, hs⟩
   refine C.keep [(2, _), (11, _), (12, _), (13, _), (14, _), (15, _), (16, _)] ⟨rfl, rfl, rfl, rfl, rfl, rfl, rfl, trivial⟩ (C.seq (C.seq (C.region (R.ev rfl (E.move rfl) (R.ev rfl (E.move rfl) (R.ev rfl (E.lenSl rfl Tryz.underlying42) (R.ev rfl (E.lss rfl rfl) (R.done ?_))))))))
   refine X.keep [(2, _), (11, _), (12, _), (13, _), (14, _), (15, _), (16, _), (70, _)] ⟨rfl, rfl, rfl, rfl, rfl, rfl, rfl, rfl, trivial⟩ (X.next ?_)
   refine C.cdec rfl (fun h70 => ?_) (fun h70 => ?_)
   · obtain ⟨y, hy⟩ : ∃ y, M[k]? = some y := ⟨_, List.getElem?_eq_getElem (by omega)⟩
     obtain ⟨b39, rfl⟩ : ∃ b, ad39 = some ⟨b, 0, none⟩ := by obtain ⟨_, _, e, _, _, h⟩ := r39.val; cases e; exact h (by intro e; rw [e] at hy; simp at hy)
     obtain ⟨b41, rfl⟩ : ∃ b, ad41 = some ⟨b, 0, none⟩ := by obtain ⟨_, _, e, _, _, h⟩ := r41.val; cases e; exact h (by intro e; rw [e] at hy; simp at hy)
     have A1 := Sat.elAt (Hs := F41 :: F39 :: row b12 39 (encK (kyAt c n)) :: F30 :: []) (b := b39) (off := 0) (n := M.length) cap39 hs hy
     have A2 := Sat.elAt (Hs := F41 :: F39 :: row b12 39 (encK (kyAt c n)) :: F30 :: []) (b := b41) (off := 0) (n := M.length) cap41 hs hy
     have e1 := encV_len y
     refine C.skip (X.next (C.seq (C.block (C.seq ?_))))
     refine C.drawn (SatS hs) ([3, 7], [0, 1, 2, 4, 5, 6, 8]) (by kernel_rfl) ?_
     have hs := hs.drew
     refine D.evP 0 rfl (by kernel_rfl) rfl (fun _ => hs.to) (fun _ => E.move rfl) (D.evP 1 rfl (by kernel_rfl) rfl (fun _ => hs.to) (fun _ => E.move rfl) ?_)
     refine D.evP 2 rfl (by kernel_rfl) rfl (fun _ => hs.to) (fun _ => E.indexAddr rfl rfl Tryz.underlying42 Tryz.sz37 rfl (by first | omega | decide)) ?_
     refine D.evP 4 rfl (by kernel_rfl) rfl (fun _ => hs.to) (fun _ => E.move rfl) (D.evP 5 rfl (by kernel_rfl) rfl (fun _ => hs.to) (fun _ => E.move rfl) ?_)
     refine D.evP 6 rfl (by kernel_rfl) rfl (fun _ => hs.to) (fun _ => E.indexAddr rfl rfl Tryz.underlying44 Tryz.sz36 rfl (by first | omega | decide)) ?_
     refine D.ev 3 rfl (by kernel_rfl) rfl hs.to (fun _ hS => E.loadRowC rfl Tryz.underlying37 rfl Tryz.sz37 ⟨A1 _ hS, Enc.len _⟩) (D.ev 7 rfl (by kernel_rfl) rfl hs.to (fun _ hS => E.loadRowC rfl Tryz.underlying36 rfl Tryz.sz36 ⟨A2 _ hS, Enc.len _⟩) ?_)
     refine D.evP 8 rfl (by kernel_rfl) rfl (fun _ => hs.to) (fun _ => (E.neV 10 (a := y) (b := y) rfl rfl Tryz.lv37 rfl Tryz.underlying37 rfl Tryz.gd37).isB (c := false) (by simp)) ?_
     refine D.done rfl (by kernel_rfl) (X.keep [(2, _), (11, _), (12, _), (13, _), (14, _), (15, _), (16, _), (81, _)] ⟨rfl, rfl, rfl, rfl, rfl, rfl, rfl, rfl, trivial⟩ (X.next (C.cfalse rfl (C.skip (X.blockNormal (X.next (C.region (R.ev rfl (E.move rfl) ?_))))))))
     refine R.ev rfl (E.add rfl rfl (by omega) (by omega)) (R.ev rfl (E.assign rfl) (R.done (X.keep [(2, _), (11, _), (12, _), (13, _), (14, _), (15, _), (16, _)] ⟨rfl, rfl, rfl, rfl, rfl, rfl, rfl, trivial⟩ ?_)))
     exact X.again (k + 1) ⟨rfl, rfl, rfl, rfl, rfl, rfl, rfl, trivial⟩ ⟨by omega, hs⟩ (by omega)
   · refine C.exit ?_
     refine X.thenExit (X.loopExit (X.blockExit (X.next (C.seq (C.seq (C.region (R.ev rfl (E.move rfl) ?_)))))))
     refine R.ev rfl ((E.not rfl).isB (c := !(inC c n)) rfl) ?_
     refine R.done (X.keep [(2, _), (11, _), (12, _), (83, _)] ⟨rfl, rfl, rfl, rfl, trivial⟩ (X.next ?_))
     refine C.cbool rfl (fun h83 => ?_) (fun h83 => ?_)
     · have hin : inC c n = false := by simpa using h83
       have hkz : kyAt c n = kz := by rw [kyAt, if_neg (by rw [hin]; decide)]
       refine C.seq (C.region ?_)
       refine R.ev rfl (E.loadRowC rfl Tryz.underlying39 rfl Tryz.sz39 (by first | exact ⟨hs.ldA, by first | rfl | assumption | exact encV_len _ | exact Enc.len _ | exact len_ub (by assumption)⟩ | exact ⟨hs.ldP rfl, by first | rfl | assumption | exact encV_len _ | exact Enc.len _ | exact len_ub (by assumption)⟩ | exact ⟨hs.ldM rfl rfl, by first | rfl | assumption | exact encV_len _ | exact Enc.len _ | exact len_ub (by assumption)⟩ | exact ⟨hs.ldM (by assumption) (by first | rfl | assumption), by first | rfl | assumption | exact encV_len _ | exact Enc.len _ | exact len_ub (by assumption)⟩ | exact ⟨by assumption, by first | rfl | assumption | exact encV_len _ | exact Enc.len _ | exact len_ub (by assumption)⟩ | exact hs.ldp | exact At.partC (by assumption))) ?_
       refine R.ev rfl (E.buildG (r := encK kz) rfl Tryz.underlying39 Tryz.zr39 Tryz.ql39 (by kernel_rfl) (by kernel_rfl) trivial (by first | rfl | simp [setF, fieldsOf, Value.cells])) ?_
       refine R.ev rfl ((E.eqlAgg 10 rfl rfl Tryz.lv39 rfl Tryz.underlying39 rfl Tryz.gd39 (encK_fits (kyAt c n)) (encK_fits kz)).isB (c := true) (by rw [encK_eq]; exact decide_eq_true hkz)) ?_
       refine R.ev rfl (E.assign rfl) (R.done (X.keep [(6, _)] ⟨rfl, trivial⟩ (X.next (C.ret (X.thenRet (X.ret1 rfl rfl ?_))))))
       exact ⟨rfl, (hs.less hk2.le).mod⟩
     · have hin : inC c n = true := by simpa using h83
       have hin2 := of_decide_eq_true hin
       obtain ⟨m, rfl⟩ : ∃ m : Nat, n = m := ⟨n.toNat, by omega⟩
       obtain ⟨y, hy⟩ : ∃ y, c[m]? = some y := ⟨_, List.getElem?_eq_getElem (by omega)⟩
       have hky : kyAt c (m : Int) = y := kyAt_get hin (by rw [Int.toNat_natCast]; exact hy)
       obtain ⟨b30, rfl⟩ := had30 (by intro e; rw [e] at hy; simp at hy)
       have hB : (c.drop m).take 1 = [kyAt c (m : Int)] := by
         obtain ⟨h1, h2⟩ := List.getElem?_eq_some_iff.1 hy
         rw [List.drop_eq_getElem_cons h1, h2, hky]; rfl
       refine C.skip (X.next (C.seq ?_))
       refine C.drawn (SatS hs) ([0], [2, 3, 4, 5, 6, 8]) (by kernel_rfl) ?_
       have hs := hs.drew
       refine D.evP 2 rfl (by kernel_rfl) rfl (fun _ => hs.to) (fun _ => E.move rfl) (D.evP 3 rfl (by kernel_rfl) rfl (fun _ => hs.to) (fun _ => E.move rfl) (D.evP 4 rfl (by kernel_rfl) rfl (fun _ => hs.to) (fun _ => E.move rfl) ?_))
       refine D.evP 5 rfl (by kernel_rfl) rfl (fun _ => hs.to) (fun _ => (E.add rfl rfl (by omega) (by omega)).isI (c := ((m + 1 : Nat) : Int)) (by omega)) ?_
       refine D.evP 6 rfl (by kernel_rfl) rfl (fun _ => hs.to) (fun _ => (E.sliceLH (a := m) (b := m + 1) rfl rfl rfl Tryz.underlying33 Tryz.sz72 rfl rfl (by omega) (by omega)).as (u := .slice (subAd (some ⟨b30, 0, none⟩) cap30 m 51) 1 (cap30 - m)) (by simp only [subAd, Nat.add_sub_cancel_left]; split; rfl; (rw [Option.map_some, add_at]))) ?_
       refine D.ev 0 rfl (by kernel_rfl) rfl hs.to (fun _ hS => E.loadRowC rfl Tryz.underlying39 rfl Tryz.sz39 (by first | exact ⟨hS.ldA, by first | rfl | assumption | exact encV_len _ | exact Enc.len _ | exact len_ub (by assumption)⟩ | exact ⟨hS.ldP rfl, by first | rfl | assumption | exact encV_len _ | exact Enc.len _ | exact len_ub (by assumption)⟩ | exact ⟨hS.ldM rfl rfl, by first | rfl | assumption | exact encV_len _ | exact Enc.len _ | exact len_ub (by assumption)⟩ | exact ⟨hS.ldM (by assumption) (by first | rfl | assumption), by first | rfl | assumption | exact encV_len _ | exact Enc.len _ | exact len_ub (by assumption)⟩ | exact ⟨by assumption, by first | rfl | assumption | exact encV_len _ | exact Enc.len _ | exact len_ub (by assumption)⟩ | exact ⟨(by assumption : ∀ w', Sat _ w' _ → At w' _ _ _) _ hS, by first | rfl | assumption | exact encV_len _ | exact Enc.len _ | exact len_ub (by assumption)⟩ | exact hS.ldp | exact At.partC (by assumption) | exact At.partC ((by assumption : ∀ w', Sat _ w' _ → At w' _ _ _) _ hS))) ?_
       refine D.act 1 rfl (by kernel_rfl) ?_
       refine R.cbuild (enc := encK) [kyAt c (m : Int)] (parts := [(0, .tmp 87)]) hs rfl rfl rfl rfl Tryz.underlying47 Tryz.sz39 Tryz.zr39 rfl (by decide) (by decide) (by decide) ?_
       intro b88 w88 r88 hs
       refine D.backT (by kernel_rfl) ?_
       have k1 : Rd encK 51 K2 (F30 :: []) (.slice (subAd (some ⟨b30, 0, none⟩) cap30 m 51) (c.length - m) (cap30 - m)) (c.drop m) := Rd.sufO (m := c.length) (by omega)
       have k2 : Rd encK 51 K2 (F30 :: []) (.slice (subAd (some ⟨b30, 0, none⟩) cap30 m 51) 1 (cap30 - m)) ((c.drop m).take 1) := Rd.preO (r := k1) (by rw [List.length_drop]; omega)
       rw [hB] at k2
       refine D.act 7 rfl (by kernel_rfl) ?_
       refine R.call ⟨_, _, Tryz.func12, rfl, by kernel_rfl⟩ rfl rfl (cmpChain_any (A := [kyAt c (m : Int)]) (B := [kyAt c (m : Int)]) hs (by simp)) ?_
       rintro _ w187 ⟨rfl, hs⟩
       refine D.backT (by kernel_rfl) (D.evP 8 rfl (by kernel_rfl) rfl (np (by kernel_rfl)) (fun _ => E.assign rfl) (D.done rfl (by kernel_rfl) (X.keep [(6, _)] ⟨rfl, trivial⟩ (X.next (C.ret (X.ret1 rfl rfl ?_))))))
       exact ⟨by simp, (hs.less hk2.le).mod⟩
 · refine R.gskip rfl rfl rfl ?_
   refine R.gskip rfl rfl rfl (R.gskip rfl rfl rfl (R.gskip rfl rfl rfl (R.gyes rfl rfl (R.ev rfl (E.pickF rfl rfl) (R.gyes rfl rfl ?_)))))
   refine R.ev rfl ((E.neqB rfl rfl Tryz.underlying4).isB (c := false) (by first | exact hT (of_decide_eq_true h52) | exact hF (of_decide_eq_false h52))) ?_
   refine R.ev rfl (E.pickF rfl rfl) (R.ev rfl (E.move rfl) (R.gyes rfl rfl (R.ev rfl (E.move rfl) (R.gyes rfl rfl (R.ev rfl (E.lenSl rfl Tryz.underlying42) (R.gyes rfl rfl (R.ev rfl (E.move rfl) (R.gyes rfl rfl ?_))))))))
   refine R.ev rfl (E.lenSl rfl Tryz.underlying44) (R.gyes rfl rfl ?_)
   refine R.ev rfl ((E.neq rfl rfl).isB (c := false) (by simp)) ?_
   refine R.ev rfl (E.pickF rfl rfl) (R.done (X.keep [(2, _), (11, _), (12, _), (13, _), (14, _), (15, _), (66, _)] ⟨rfl, rfl, rfl, rfl, rfl, rfl, rfl, trivial⟩ (X.next (C.cfalse rfl (C.skip (X.next (C.seq (C.seq ?_))))))))
   refine C.region (R.ev rfl (E.assign rfl) (R.done (X.keep [(2, _), (11, _), (12, _), (13, _), (14, _), (15, _), (16, _)] ⟨rfl, rfl, rfl, rfl, rfl, rfl, rfl, trivial⟩ (X.next (C.block ?_)))))
   refine C.loop  [(2, _), (11, _), (12, _), (13, _), (14, _), (15, _)] (fun k => [(16, .int .i64 (k : Nat))]) (fun k w' => k ≤ M.length ∧ Sat K2 w' (F41 :: F39 :: row b12 39 (encK (kyAt c n)) :: F30 :: [])) (fun k => M.length - k) (0) ⟨rfl, rfl, rfl, rfl, rfl, rfl, rfl, trivial⟩ ⟨Nat.zero_le _, hs.to⟩ ?_
   rintro k w11 ⟨hk, hs⟩
   refine C.keep [(2, _), (11, _), (12, _), (13, _), (14, _), (15, _), (16, _)] ⟨rfl, rfl, rfl, rfl, rfl, rfl, rfl, trivial⟩ (C.seq (C.seq (C.region (R.ev rfl (E.move rfl) (R.ev rfl (E.move rfl) (R.ev rfl (E.lenSl rfl Tryz.underlying42) (R.ev rfl (E.lss rfl rfl) (R.done ?_))))))))
   refine X.keep [(2, _), (11, _), (12, _), (13, _), (14, _), (15, _), (16, _), (70, _)] ⟨rfl, rfl, rfl, rfl, rfl, rfl, rfl, rfl, trivial⟩ (X.next ?_)
   refine C.cdec rfl (fun h70 => ?_) (fun h70 => ?_)
   · obtain ⟨y, hy⟩ : ∃ y, M[k]? = some y := ⟨_, List.getElem?_eq_getElem (by omega)⟩
     obtain ⟨b39, rfl⟩ : ∃ b, ad39 = some ⟨b, 0, none⟩ := by obtain ⟨_, _, e, _, _, h⟩ := r39.val; cases e; exact h (by intro e; rw [e] at hy; simp at hy)
     obtain ⟨b41, rfl⟩ : ∃ b, ad41 = some ⟨b, 0, none⟩ := by obtain ⟨_, _, e, _, _, h⟩ := r41.val; cases e; exact h (by intro e; rw [e] at hy; simp at hy)
     have A1 := Sat.elAt (Hs := F41 :: F39 :: row b12 39 (encK (kyAt c n)) :: F30 :: []) (b := b39) (off := 0) (n := M.length) cap39 hs hy
     have A2 := Sat.elAt (Hs := F41 :: F39 :: row b12 39 (encK (kyAt c n)) :: F30 :: []) (b := b41) (off := 0) (n := M.length) cap41 hs hy
     have e1 := encV_len y
     refine C.skip (X.next (C.seq (C.block (C.seq ?_))))
     refine C.drawn (SatS hs) ([3, 7], [0, 1, 2, 4, 5, 6, 8]) (by kernel_rfl) ?_
     have hs := hs.drew
     refine D.evP 0 rfl (by kernel_rfl) rfl (fun _ => hs.to) (fun _ => E.move rfl) (D.evP 1 rfl (by kernel_rfl) rfl (fun _ => hs.to) (fun _ => E.move rfl) ?_)
     refine D.evP 2 rfl (by kernel_rfl) rfl (fun _ => hs.to) (fun _ => E.indexAddr rfl rfl Tryz.underlying42 Tryz.sz37 rfl (by first | omega | decide)) ?_
     refine D.evP 4 rfl (by kernel_rfl) rfl (fun _ => hs.to) (fun _ => E.move rfl) (D.evP 5 rfl (by kernel_rfl) rfl (fun _ => hs.to) (fun _ => E.move rfl) ?_)
     refine D.evP 6 rfl (by kernel_rfl) rfl (fun _ => hs.to) (fun _ => E.indexAddr rfl rfl Tryz.underlying44 Tryz.sz36 rfl (by first | omega | decide)) ?_
     refine D.ev 3 rfl (by kernel_rfl) rfl hs.to (fun _ hS => E.loadRowC rfl Tryz.underlying37 rfl Tryz.sz37 ⟨A1 _ hS, Enc.len _⟩) (D.ev 7 rfl (by kernel_rfl) rfl hs.to (fun _ hS => E.loadRowC rfl Tryz.underlying36 rfl Tryz.sz36 ⟨A2 _ hS, Enc.len _⟩) ?_)
     refine D.evP 8 rfl (by kernel_rfl) rfl (fun _ => hs.to) (fun _ => (E.neV 10 (a := y) (b := y) rfl rfl Tryz.lv37 rfl Tryz.underlying37 rfl Tryz.gd37).isB (c := false) (by simp)) ?_
     refine D.done rfl (by kernel_rfl) (X.keep [(2, _), (11, _), (12, _), (13, _), (14, _), (15, _), (16, _), (81, _)] ⟨rfl, rfl, rfl, rfl, rfl, rfl, rfl, rfl, trivial⟩ (X.next (C.cfalse rfl (C.skip (X.blockNormal (X.next (C.region (R.ev rfl (E.move rfl) ?_))))))))
     refine R.ev rfl (E.add rfl rfl (by omega) (by omega)) (R.ev rfl (E.assign rfl) (R.done (X.keep [(2, _), (11, _), (12, _), (13, _), (14, _), (15, _), (16, _)] ⟨rfl, rfl, rfl, rfl, rfl, rfl, rfl, trivial⟩ ?_)))
     exact X.again (k + 1) ⟨rfl, rfl, rfl, rfl, rfl, rfl, rfl, trivial⟩ ⟨by omega, hs⟩ (by omega)
   · refine C.exit ?_
     refine X.thenExit (X.loopExit (X.blockExit (X.next (C.seq (C.seq (C.region (R.ev rfl (E.move rfl) ?_)))))))
     refine R.ev rfl ((E.not rfl).isB (c := !(inC c n)) rfl) ?_
     refine R.done (X.keep [(2, _), (11, _), (12, _), (83, _)] ⟨rfl, rfl, rfl, rfl, trivial⟩ (X.next ?_))
     refine C.cbool rfl (fun h83 => ?_) (fun h83 => ?_)
     · have hin : inC c n = false := by simpa using h83
       have hkz : kyAt c n = kz := by rw [kyAt, if_neg (by rw [hin]; decide)]
       refine C.seq (C.region ?_)
       refine R.ev rfl (E.loadRowC rfl Tryz.underlying39 rfl Tryz.sz39 (by first | exact ⟨hs.ldA, by first | rfl | assumption | exact encV_len _ | exact Enc.len _ | exact len_ub (by assumption)⟩ | exact ⟨hs.ldP rfl, by first | rfl | assumption | exact encV_len _ | exact Enc.len _ | exact len_ub (by assumption)⟩ | exact ⟨hs.ldM rfl rfl, by first | rfl | assumption | exact encV_len _ | exact Enc.len _ | exact len_ub (by assumption)⟩ | exact ⟨hs.ldM (by assumption) (by first | rfl | assumption), by first | rfl | assumption | exact encV_len _ | exact Enc.len _ | exact len_ub (by assumption)⟩ | exact ⟨by assumption, by first | rfl | assumption | exact encV_len _ | exact Enc.len _ | exact len_ub (by assumption)⟩ | exact hs.ldp | exact At.partC (by assumption))) ?_
       refine R.ev rfl (E.buildG (r := encK kz) rfl Tryz.underlying39 Tryz.zr39 Tryz.ql39 (by kernel_rfl) (by kernel_rfl) trivial (by first | rfl | simp [setF, fieldsOf, Value.cells])) ?_
       refine R.ev rfl ((E.eqlAgg 10 rfl rfl Tryz.lv39 rfl Tryz.underlying39 rfl Tryz.gd39 (encK_fits (kyAt c n)) (encK_fits kz)).isB (c := true) (by rw [encK_eq]; exact decide_eq_true hkz)) ?_
       refine R.ev rfl (E.assign rfl) (R.done (X.keep [(6, _)] ⟨rfl, trivial⟩ (X.next (C.ret (X.thenRet (X.ret1 rfl rfl ?_))))))
       exact ⟨rfl, (hs.less hk2.le).mod⟩
     · have hin : inC c n = true := by simpa using h83
       have hin2 := of_decide_eq_true hin
       obtain ⟨m, rfl⟩ : ∃ m : Nat, n = m := ⟨n.toNat, by omega⟩
       obtain ⟨y, hy⟩ : ∃ y, c[m]? = some y := ⟨_, List.getElem?_eq_getElem (by omega)⟩
       have hky : kyAt c (m : Int) = y := kyAt_get hin (by rw [Int.toNat_natCast]; exact hy)
       obtain ⟨b30, rfl⟩ := had30 (by intro e; rw [e] at hy; simp at hy)
       have hB : (c.drop m).take 1 = [kyAt c (m : Int)] := by
         obtain ⟨h1, h2⟩ := List.getElem?_eq_some_iff.1 hy
         rw [List.drop_eq_getElem_cons h1, h2, hky]; rfl
       refine C.skip (X.next (C.seq ?_))
       refine C.drawn (SatS hs) ([0], [2, 3, 4, 5, 6, 8]) (by kernel_rfl) ?_
       have hs := hs.drew
       refine D.evP 2 rfl (by kernel_rfl) rfl (fun _ => hs.to) (fun _ => E.move rfl) (D.evP 3 rfl (by kernel_rfl) rfl (fun _ => hs.to) (fun _ => E.move rfl) (D.evP 4 rfl (by kernel_rfl) rfl (fun _ => hs.to) (fun _ => E.move rfl) ?_))
       refine D.evP 5 rfl (by kernel_rfl) rfl (fun _ => hs.to) (fun _ => (E.add rfl rfl (by omega) (by omega)).isI (c := ((m + 1 : Nat) : Int)) (by omega)) ?_
       refine D.evP 6 rfl (by kernel_rfl) rfl (fun _ => hs.to) (fun _ => (E.sliceLH (a := m) (b := m + 1) rfl rfl rfl Tryz.underlying33 Tryz.sz72 rfl rfl (by omega) (by omega)).as (u := .slice (subAd (some ⟨b30, 0, none⟩) cap30 m 51) 1 (cap30 - m)) (by simp only [subAd, Nat.add_sub_cancel_left]; split; rfl; (rw [Option.map_some, add_at]))) ?_
       refine D.ev 0 rfl (by kernel_rfl) rfl hs.to (fun _ hS => E.loadRowC rfl Tryz.underlying39 rfl Tryz.sz39 (by first | exact ⟨hS.ldA, by first | rfl | assumption | exact encV_len _ | exact Enc.len _ | exact len_ub (by assumption)⟩ | exact ⟨hS.ldP rfl, by first | rfl | assumption | exact encV_len _ | exact Enc.len _ | exact len_ub (by assumption)⟩ | exact ⟨hS.ldM rfl rfl, by first | rfl | assumption | exact encV_len _ | exact Enc.len _ | exact len_ub (by assumption)⟩ | exact ⟨hS.ldM (by assumption) (by first | rfl | assumption), by first | rfl | assumption | exact encV_len _ | exact Enc.len _ | exact len_ub (by assumption)⟩ | exact ⟨by assumption, by first | rfl | assumption | exact encV_len _ | exact Enc.len _ | exact len_ub (by assumption)⟩ | exact ⟨(by assumption : ∀ w', Sat _ w' _ → At w' _ _ _) _ hS, by first | rfl | assumption | exact encV_len _ | exact Enc.len _ | exact len_ub (by assumption)⟩ | exact hS.ldp | exact At.partC (by assumption) | exact At.partC ((by assumption : ∀ w', Sat _ w' _ → At w' _ _ _) _ hS))) ?_
       refine D.act 1 rfl (by kernel_rfl) ?_
       refine R.cbuild (enc := encK) [kyAt c (m : Int)] (parts := [(0, .tmp 87)]) hs rfl rfl rfl rfl Tryz.underlying47 Tryz.sz39 Tryz.zr39 rfl (by decide) (by decide) (by decide) ?_
       intro b88 w88 r88 hs
       refine D.backT (by kernel_rfl) ?_
       have k1 : Rd encK 51 K2 (F30 :: []) (.slice (subAd (some ⟨b30, 0, none⟩) cap30 m 51) (c.length - m) (cap30 - m)) (c.drop m) := Rd.sufO (m := c.length) (by omega)
       have k2 : Rd encK 51 K2 (F30 :: []) (.slice (subAd (some ⟨b30, 0, none⟩) cap30 m 51) 1 (cap30 - m)) ((c.drop m).take 1) := Rd.preO (r := k1) (by rw [List.length_drop]; omega)
       rw [hB] at k2
       refine D.act 7 rfl (by kernel_rfl) ?_
       refine R.call ⟨_, _, Tryz.func12, rfl, by kernel_rfl⟩ rfl rfl (cmpChain_any (A := [kyAt c (m : Int)]) (B := [kyAt c (m : Int)]) hs (by simp)) ?_
       rintro _ w187 ⟨rfl, hs⟩
       refine D.backT (by kernel_rfl) (D.evP 8 rfl (by kernel_rfl) rfl (np (by kernel_rfl)) (fun _ => E.assign rfl) (D.done rfl (by kernel_rfl) (X.keep [(6, _)] ⟨rfl, trivial⟩ (X.next (C.ret (X.ret1 rfl rfl ?_))))))
       exact ⟨by simp, (hs.less hk2.le).mod⟩

namespace keyringChains
open Go.ChangeShapes Go.WideShapes Go.ChangeAt Go.RowKit
open Go.ChangeMaps (open_string shut_string)
set_option linter.unusedVariables false

theorem own : ownKnob Tryz.prog.godebug = none := by kernel_rfl
theorem laidOut : laidOutB Tryz.prog = true := by kernel_rfl
theorem door_met (os : Os) (args : Array Value) : laidMetH Tryz.prog Rows.keyringChainsRow.laid ((World.doorLaid Tryz.prog 400 os).forCall (fun _ _ => 0) ⟨#[], args, []⟩).memory :=
 laidMetH_of_parts3 (fuel := 8) (laidMet_of_run' 8 (by kernel_rfl) (by kernel_rfl)) (by kernel_rfl) (by kernel_rfl)
set_option maxRecDepth 100000 in
theorem lifted (os : Os) (started : os.Started) (H : Type) (enc : TypeId × Value → H) :
   ReturnsInHanded {} Tryz.checked os 3 .any (fun w args => (Rows.keyringChainsSpec.pre enc Tryz.prog Tryz.f3 [] false w args ∧ laidMetH Tryz.prog Rows.keyringChainsRow.laid w) ∧ sizedMet enc Tryz.prog Tryz.f3 (OpenSpec.ofChange Rows.keyringChainsSpec) false w args)
     (Rows.keyringChainsSpec.post enc Tryz.prog Tryz.f3 false true false false) := by
 refine returnsInHanded_of_change_and (C := Tryz.checked) (X := fun w _ => laidMetH Tryz.prog Rows.keyringChainsRow.laid w) (fun _ _ _ hh h => h.of_heap hh) own started (by kernel_rfl) Tryz.func3
   (ChangeSpec.witness_shaped (enc := enc) (C := Tryz.checked) (os := os) (X := fun w _ => laidMetH Tryz.prog Rows.keyringChainsRow.laid w) false (World.doorLaid Tryz.prog 400 os) #[.slice none 0 0, .int .u8 0, .int .i64 0] 8 rfl (World.shaped_of_RefB (by kernel_rfl) (by kernel_rfl)) (by kernel_rfl) (by kernel_rfl) (by kernel_rfl) (door_met os _)) ?_
 intro W base args ds gs before hval0 hW _ _ hL _
 have hval : ∀ (j : Nat) t v, Tryz.f3.params[j]? = some t → args[j]? = some v → Value.okWide Tryz.prog W .any base t v := hval0
 have hW' := hW
 obtain ⟨p, q, hA0, hV, rfl, hfz, hnd⟩ := hW
 have hA : DataW.TrodAll enc Tryz.prog W 0 (fun _ => true) true Tryz.f3.params.toList args.toList ds p := hA0
 rw [Tryz.params3] at hA hval
 obtain ⟨v0, vs0, d0, ds0, p0, q0, hargs, rfl, rfl, h0, r0⟩ := trodAll_cons hA
 obtain ⟨v1, vs1, d1, ds1, p1, q1, rfl, rfl, rfl, h1, r1⟩ := trodAll_cons r0
 obtain ⟨v2, vs2, d2, ds2, p2, q2, rfl, rfl, rfl, h2, r2⟩ := trodAll_cons r1
 obtain ⟨rfl, rfl, rfl⟩ := trodAll_nil r2
 obtain rfl : args = #[v0, v1, v2] := by cases args; simp_all
 obtain ⟨rfl, rfl⟩ := trodVars_none hV
 have lt0 : ∀ x ∈ p0, x.block < W.heap.size := by obtain ⟨m, hm⟩ := h0; exact DataW.trod_lt m _ _ _ hm
 have a0 := Eng.argv_of (hval 0 22 v0 rfl rfl) h0
 have lt1 : ∀ x ∈ p1, x.block < W.heap.size := by obtain ⟨m, hm⟩ := h1; exact DataW.trod_lt m _ _ _ hm
 have a1 := Eng.argv_of (hval 1 5 v1 rfl rfl) h1
 have lt2 : ∀ x ∈ p2, x.block < W.heap.size := by obtain ⟨m, hm⟩ := h2; exact DataW.trod_lt m _ _ _ hm
 have a2 := Eng.argv_of (hval 2 3 v2 rfl rfl) h2
 clear hA0 hval0
 refine Calls.mono (kchains_walk W (laid_kc hL) v0 a0 v1 a1 v2 a2) fun e W' ⟨v, he, hv, hm⟩ => ?_
 subst he
 subst hv
 have bel := hm.below
 exact ⟨_, rfl, _, _, _, [], _, [], hW', trodAll_mk1 (shut_bool Tryz.underlying4 _), (trodAll_cons_mk (Below.trod laidOut (by kernel_rfl) (of_decide_eq_true (by kernel_rfl)) h0 bel lt0) (trodAll_cons_mk (Below.trod laidOut (by kernel_rfl) (of_decide_eq_true (by kernel_rfl)) h1 bel lt1) (trodAll_cons_mk (Below.trod laidOut (by kernel_rfl) (of_decide_eq_true (by kernel_rfl)) h2 bel lt2) trodAll_mk0))), rfl, bel.frame _, fun h => by cases h⟩

theorem over : Rows.keyringChainsRow.holds Tryz.pinned (OpenSpec.ofChange Rows.keyringChainsSpec) :=
 OpenClaim.holds_of_wide 3 Tryz.f3 rfl rfl rfl rfl rfl rfl rfl ⟨rfl, rfl, rfl, rfl, rfl⟩ rfl rfl rfl rfl rfl (by kernel_rfl) Tryz.func3 (by kernel_rfl)
   (of_decide_eq_true (by kernel_rfl)) (by unfold Func.isWrapper; first | (rw [if_pos (by decide +kernel)]; kernel_rfl) | (rw [if_neg (by decide +kernel)]; exact ⟨rfl, rfl⟩))
   (fun os started H enc _ => lifted os started H enc)
end keyringChains
/-- the statement: the tied card -/
theorem keyringChains_holds : Rows.KeyringChainsCardSaid :=
 Claim7.holds_tied_plain_at .later [] [.data] true (true, "c287fb6215e953f1f4372422b03a84dd7f523311c6ae4810080c711db7c72650") false
   keyringChains.over (fun _ h => by cases h) (by kernel_rfl) (fun _ h => by cases h) keyringChains_row_tie rfl ⟨rfl, rfl⟩ (by kernel_rfl) rfl
   (fun f fn hf hfn => by
     obtain rfl : f = 3 := Option.some.inj ((show Tryz.prog.funcNamed "bulletin/bulletinlaw19.KeyringChains" = some 3 by kernel_rfl).symm.trans hf) |>.symm
     obtain rfl : fn = Tryz.f3 := (Option.some.inj (Tryz.func3.symm.trans hfn)).symm
     exact ⟨by kernel_rfl, fun j t ht => by
       rw [Tryz.params3] at ht
       have ht := List.mem_of_getElem? (by simpa using ht)
       have key : ∀ t ∈ ([22, 5, 3] : List TypeId), Tryz.prog.wantsStandIn t = false := by
         intro t ht
         simp only [List.mem_cons, List.not_mem_nil, or_false] at ht
         rcases ht with rfl | rfl | rfl <;> kernel_rfl
       exact key t (by simpa using ht)⟩)
   (by kernel_rfl)
#print axioms keyringChains_holds
end Go.Proofs.YtbkgibgomohdjaaGreatDoor
