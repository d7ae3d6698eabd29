/-
 Chapter 19: Authors.
-/
import Derived.Test.YtbkgibgomohdjaaGreatDoorKrH
import Derived.Test.YtbkgibgomohdjaaGreatDoorSortA
namespace Go.Proofs.YtbkgibgomohdjaaGreatDoor
open Go.Eng Go.RowKit Go.Sort
theorem compactA_any {K : Kn} {F : Hl} {Rs : List Hl} {L : List (Vec 16)} {v : Value} {w : World} (hs : Sat K w (F :: Rs)) [hr : RowL 54 encV 16 v L F] (hn : L.length ≤ 1000000) :
   Ret Tryz.prog 43 #[v] w fun v' w' => ∃ F', RowL 54 encV 16 v' (compactL L) F' ∧ Sat K w' (F' :: Rs) := by
 obtain ⟨ad, cp, rfl, hc, hcm, had⟩ := hr.val
 refine Ret.enter (n := 61) (args := [.slice ad L.length cp]) Tryz.func43 rfl rfl ?_
 refine C.keep [(0, _)] ⟨rfl, trivial⟩ (C.seq (C.region (R.ev rfl (E.assign rfl) (R.done (X.keep [(0, _)] ⟨rfl, trivial⟩ (X.next (C.seq (C.seq ?_))))))))
 refine C.region (R.ev rfl (E.move rfl) (R.ev rfl (E.lenSl rfl Tryz.underlying58) (R.ev rfl (E.lss rfl rfl) (R.done (X.keep [(0, _), (8, _)] ⟨rfl, rfl, trivial⟩ (X.next ?_))))))
 refine C.cdec rfl (fun h8 => ?_) (fun h8 => ?_)
 refine C.seq (C.region (R.ev rfl (E.move rfl) (R.ev rfl (E.assign rfl) (R.done (X.keep [(2, _)] ⟨rfl, trivial⟩ (X.next (C.ret (X.thenRet ?_))))))))
 refine X.ret1 rfl rfl ?_
 exact ⟨F, by rw [compactL_short (by omega)]; exact hr, hs⟩
 refine C.skip (X.next (C.seq (C.seq (C.region ?_))))
 obtain ⟨b, rfl⟩ := had (by intro e; rw [e] at h8; simp at h8)
 refine R.ev rfl ((E.assign rfl).as (u := .int .i64 ((1 : Nat) : Int)) rfl) ?_
 refine R.done (X.keep [(0, _), (3, _)] ⟨rfl, rfl, trivial⟩ (X.next (C.block ?_)))
 refine C.loop  [(0, _)] (fun i => [(3, .int .i64 (i : Nat))]) (fun i w' => 1 ≤ i ∧ i ≤ L.length ∧ compactL (L.take i) = L.take i ∧ Sat K w' (F :: Rs)) (fun i => L.length - i) (1) ⟨rfl, rfl, trivial⟩ ⟨by omega, by omega, compactL_short (by rw [List.length_take]; omega), hs⟩ ?_
 rintro i w1 ⟨hi1, hiL, hco, hs⟩
 refine C.keep [(0, _), (3, _)] ⟨rfl, rfl, trivial⟩ (C.seq (C.seq (C.region (R.ev rfl (E.move rfl) (R.ev rfl (E.move rfl) (R.ev rfl (E.lenSl rfl Tryz.underlying58) (R.ev rfl (E.lss rfl rfl) (R.done ?_))))))))
 refine X.keep [(0, _), (3, _), (13, _)] ⟨rfl, rfl, rfl, trivial⟩ (X.next ?_)
 refine C.cdec rfl (fun h13 => ?_) (fun h13 => ?_)
 obtain ⟨y, hy⟩ : ∃ y, L[i]? = some y := ⟨_, List.getElem?_eq_getElem (by omega)⟩
 obtain ⟨z, hz⟩ : ∃ z, L[i - 1]? = some z := ⟨_, List.getElem?_eq_getElem (by omega)⟩
 have Ay := Sat.elAt (Hs := F :: Rs) (b := b) (off := 0) (n := L.length) cp hs hy
 have Az := Sat.elAt (Hs := F :: Rs) (b := b) (off := 0) (n := L.length) cp hs hz
 have hcs := compactL_at hi1 hy hz
 refine C.skip (X.next (C.seq (C.block (C.seq ?_))))
 refine C.drawn (SatS hs) ([3, 8], [0, 1, 2, 4, 5, 6, 7, 9]) (by kernel_rfl) ?_
 have hs := hs.drew
 refine D.evP 0 rfl (by kernel_rfl) rfl (fun _ => hs.to) (fun _ => E.move rfl) (D.evP 1 rfl (by kernel_rfl) rfl (fun _ => hs.to) (fun _ => E.move rfl) (D.evP 2 rfl (by kernel_rfl) rfl (fun _ => hs.to) (fun _ => E.indexAddr rfl rfl Tryz.underlying58 Tryz.sz54 rfl (by omega)) (D.evP 4 rfl (by kernel_rfl) rfl (fun _ => hs.to) (fun _ => E.move rfl) (D.evP 5 rfl (by kernel_rfl) rfl (fun _ => hs.to) (fun _ => E.move rfl) ?_))))
 refine D.evP 6 rfl (by kernel_rfl) rfl (fun _ => hs.to) (fun _ => (E.sub rfl rfl (by omega) (by omega)).isI (c := ((i - 1 : Nat) : Int)) (by omega)) ?_
 refine D.evP 7 rfl (by kernel_rfl) rfl (fun _ => hs.to) (fun _ => E.indexAddr rfl rfl Tryz.underlying58 Tryz.sz54 rfl (by omega)) (D.ev 3 rfl (by kernel_rfl) rfl hs.to (fun _ hS => E.loadRowC rfl Tryz.underlying54 rfl Tryz.sz54 ⟨Ay _ hS, Enc.len _⟩) (D.ev 8 rfl (by kernel_rfl) rfl hs.to (fun _ hS => E.loadRowC rfl Tryz.underlying54 rfl Tryz.sz54 ⟨Az _ hS, Enc.len _⟩) (D.evP 9 rfl (by kernel_rfl) rfl (fun _ => hs.to) (fun _ => (E.eqV 10 rfl rfl Tryz.lv54 rfl Tryz.underlying54 rfl Tryz.gd54)) (D.done rfl (by kernel_rfl) (X.keep [(0, _), (3, _), (25, _)] ⟨rfl, rfl, rfl, trivial⟩ (X.next ?_))))))
 refine C.cdec rfl (fun h25 => ?_) (fun h25 => ?_)
 rw [if_pos h25, hco] at hcs
 refine C.seq (C.region (R.ev rfl (E.move rfl) (R.ev rfl (E.move rfl) ?_)))
 refine R.ev rfl ((E.sliceLs (a := i) rfl rfl Tryz.underlying58 Tryz.sz54 rfl (by omega)).as (u := .slice (some ⟨b, i * 16, none⟩) (L.length - i) (cp - i)) (by rw [subAd, if_neg (by omega), Option.map_some, add_at, Nat.zero_add])) ?_
 refine R.ev rfl (E.assign rfl) (R.done (X.keep [(0, _), (3, _), (4, _)] ⟨rfl, rfl, rfl, trivial⟩ (X.next (C.seq (C.seq (C.region ?_))))))
 refine R.ev rfl ((E.assign rfl).as (u := .int .i64 ((1 : Nat) : Int)) rfl) ?_
 refine R.done (X.keep [(0, _), (3, _), (4, _), (5, _)] ⟨rfl, rfl, rfl, rfl, trivial⟩ (X.next (C.block ?_)))
 refine C.loop (T := Nat × Nat × List (Vec 16) × Hl) [(0, _), (4, _)] (fun (q, k, _, _) => [(3, .int .i64 (q : Nat)), (5, .int .i64 (k : Nat))]) (fun (q, k, M, F1) w' => 1 ≤ k ∧ i + k ≤ L.length ∧ q < i + k ∧ M.length = L.length ∧ M.take q = compactL (L.take (i + k)) ∧ M.drop q = L.drop q ∧ RowL 54 encV 16 (.slice (some ⟨b, 0, none⟩) L.length cp) M F1 ∧ Sat K w' (F1 :: Rs)) (fun (_, k, _, _) => L.length - (i + k)) ((i, 1, L, F)) ⟨rfl, rfl, rfl, rfl, trivial⟩ ⟨by omega, by omega, by omega, rfl, hcs.symm, rfl, hr, hs⟩ ?_
 rintro ⟨q, k, M, F1⟩ w2 ⟨hk1, hkL, hqk, hML, htk, hdr, r1, hs⟩
 refine C.keep [(0, _), (3, _), (4, _), (5, _)] ⟨rfl, rfl, rfl, rfl, trivial⟩ (C.seq (C.seq (C.region (R.ev rfl (E.move rfl) (R.ev rfl (E.move rfl) (R.ev rfl (E.lenSl rfl Tryz.underlying58) (R.ev rfl (E.lss rfl rfl) (R.done ?_))))))))
 refine X.keep [(0, _), (3, _), (4, _), (5, _), (32, _)] ⟨rfl, rfl, rfl, rfl, rfl, trivial⟩ (X.next ?_)
 refine C.cdec rfl (fun h32 => ?_) (fun h32 => ?_)
 obtain ⟨y2, hy2⟩ : ∃ y, L[i + k]? = some y := ⟨_, List.getElem?_eq_getElem (by omega)⟩
 obtain ⟨z2, hz2⟩ : ∃ z, L[i + k - 1]? = some z := ⟨_, List.getElem?_eq_getElem (by omega)⟩
 have hMy : M[i + k]? = some y2 := by rw [← hy2]; exact drop_get hdr (by omega)
 have hMz : M[i + k - 1]? = some z2 := by rw [← hz2]; exact drop_get hdr (by omega)
 have A1 := Sat.elAt (Hs := F1 :: Rs) (b := b) (off := 0) (n := L.length) cp hs hMy
 have A2 := Sat.elAt (Hs := F1 :: Rs) (b := b) (off := 0) (n := L.length) cp hs hMz
 rw [show 0 + (i + k) * 16 = i * 16 + k * 16 by omega] at A1
 rw [show 0 + (i + k - 1) * 16 = i * 16 + (k - 1) * 16 by omega] at A2
 have hcs2 := compactL_at (by omega) hy2 hz2
 rw [← htk] at hcs2
 have hle : y2 = y2 := rfl
 refine C.skip (X.next (C.seq (C.block (C.seq ?_))))
 refine C.drawn (SatS hs) ([3, 8], [0, 1, 2, 4, 5, 6, 7, 9]) (by kernel_rfl) ?_
 have hs := hs.drew
 refine D.evP 0 rfl (by kernel_rfl) rfl (fun _ => hs.to) (fun _ => E.move rfl) (D.evP 1 rfl (by kernel_rfl) rfl (fun _ => hs.to) (fun _ => E.move rfl) (D.evP 2 rfl (by kernel_rfl) rfl (fun _ => hs.to) (fun _ => E.indexAddr rfl rfl Tryz.underlying58 Tryz.sz54 rfl (by omega)) (D.evP 4 rfl (by kernel_rfl) rfl (fun _ => hs.to) (fun _ => E.move rfl) (D.evP 5 rfl (by kernel_rfl) rfl (fun _ => hs.to) (fun _ => E.move rfl) ?_))))
 refine D.evP 6 rfl (by kernel_rfl) rfl (fun _ => hs.to) (fun _ => (E.sub rfl rfl (by omega) (by omega)).isI (c := ((k - 1 : Nat) : Int)) (by omega)) ?_
 refine D.evP 7 rfl (by kernel_rfl) rfl (fun _ => hs.to) (fun _ => E.indexAddr rfl rfl Tryz.underlying58 Tryz.sz54 rfl (by omega)) (D.ev 3 rfl (by kernel_rfl) rfl hs.to (fun _ hS => E.loadRowC rfl Tryz.underlying54 rfl Tryz.sz54 ⟨A1 _ hS, Enc.len _⟩) (D.ev 8 rfl (by kernel_rfl) rfl hs.to (fun _ hS => E.loadRowC rfl Tryz.underlying54 rfl Tryz.sz54 ⟨A2 _ hS, Enc.len _⟩) (D.evP 9 rfl (by kernel_rfl) rfl (fun _ => hs.to) (fun _ => (E.neV 10 rfl rfl Tryz.lv54 rfl Tryz.underlying54 rfl Tryz.gd54)) (D.done rfl (by kernel_rfl) (X.keep [(0, _), (3, _), (4, _), (5, _), (44, _)] ⟨rfl, rfl, rfl, rfl, rfl, trivial⟩ (X.next ?_))))))
 refine C.cdec rfl (fun h44 => ?_) (fun h44 => ?_)
 rw [if_neg h44] at hcs2
 have hMq : M[q]? = some M[q] := List.getElem?_eq_getElem (by omega)
 refine C.seq (C.region (R.ev rfl (E.move rfl) (R.ev rfl (E.move rfl) (R.ev rfl (E.move rfl) (R.ev rfl (E.move rfl) (R.ev rfl (E.indexAddr rfl rfl Tryz.underlying58 Tryz.sz54 rfl (by omega)) (R.ev rfl (E.loadRowC rfl Tryz.underlying54 rfl Tryz.sz54 ⟨A1 _ hs, Enc.len _⟩) (R.ev rfl (E.indexAddr rfl rfl Tryz.underlying58 Tryz.sz54 rfl (by omega)) ?_))))))))
 refine R.ssetE q y2 hs r1 rfl rfl Tryz.sz54 hMq (Enc.len _) (by omega) (Enc.one _) ?_
 intro w12 F12 r12 hs
 refine R.done (X.keep [(0, _), (3, _), (4, _), (5, _)] ⟨rfl, rfl, rfl, rfl, trivial⟩ (X.next (C.region (R.ev rfl (E.move rfl) ?_))))
 refine R.ev rfl ((E.add rfl rfl (by omega) (by omega)).isI (c := ((q + 1 : Nat) : Int)) (by omega)) ?_
 refine R.ev rfl (E.assign rfl) (R.done (X.keep [(0, _), (3, _), (4, _), (5, _)] ⟨rfl, rfl, rfl, rfl, trivial⟩ (X.blockNormal (X.next (C.region (R.ev rfl (E.move rfl) ?_))))))
 refine R.ev rfl ((E.add rfl rfl (by omega) (by omega)).isI (c := ((k + 1 : Nat) : Int)) (by omega)) ?_
 refine R.ev rfl (E.assign rfl) (R.done (X.keep [(0, _), (3, _), (4, _), (5, _)] ⟨rfl, rfl, rfl, rfl, trivial⟩ ?_))
 exact X.again (q + 1, k + 1, M.set q y2, F12) ⟨rfl, rfl, rfl, rfl, trivial⟩ ⟨by omega, by omega, by omega, by simpa using hML, by rw [take_set_snoc (by omega), ← Nat.add_assoc, hcs2], by rw [List.drop_set_of_lt (by omega), drop_succ_eq hdr], r12, hs⟩ (by show _ - _ < _ - _; omega)
 rw [if_pos (Decidable.not_not.1 h44)] at hcs2
 refine C.skip (X.blockNormal (X.next (C.region (R.ev rfl (E.move rfl) ?_))))
 refine R.ev rfl ((E.add rfl rfl (by omega) (by omega)).isI (c := ((k + 1 : Nat) : Int)) (by omega)) ?_
 refine R.ev rfl (E.assign rfl) (R.done (X.keep [(0, _), (3, _), (4, _), (5, _)] ⟨rfl, rfl, rfl, rfl, trivial⟩ ?_))
 exact X.again (q, k + 1, M, F1) ⟨rfl, rfl, rfl, rfl, trivial⟩ ⟨by omega, by omega, by omega, hML, by rw [← Nat.add_assoc, hcs2], hdr, r1, hs⟩ (by show _ - _ < _ - _; omega)
 refine C.exit (X.thenExit (X.loopExit (X.blockExit (X.next (C.seq (C.region (R.ev rfl (E.move rfl) (R.ev rfl (E.move rfl) ?_))))))))
 refine R.ev rfl ((E.sliceLs (a := q) rfl rfl Tryz.underlying58 Tryz.sz54 rfl (by omega)).as (u := .slice (some (if cp = q then ⟨b, 0, none⟩ else (⟨b, 0, none⟩ : Addr).add (q * 16))) (L.length - q) (cp - q)) (by simp only [subAd]; split <;> rfl)) ?_
 have hjn : i + k = L.length := by omega
 have hpre := r1.pre (i := q) (by omega)
 refine R.sclear (q := q * 16) hs hpre rfl Tryz.underlying58 Tryz.zr54 (by rfl) (by rfl) ?_ ?_ ?_ (by decide) ?_
 · intro _
   rw [if_neg (by omega), add_at]
   simp
 · simp; omega
 · have : q + (L.length - q) ≤ cp := by omega
   have := Nat.mul_le_mul_right 16 this
   omega
 intro w6 F6 r6 hs
 refine R.done (X.keep [(0, _), (3, _)] ⟨rfl, rfl, trivial⟩ (X.next (C.seq (C.region (R.ev rfl (E.move rfl) (R.ev rfl (E.move rfl) (R.ev rfl (E.sliceH rfl rfl Tryz.underlying58 Tryz.sz54 rfl (by omega)) (R.ev rfl (E.assign rfl) ?_))))))))
 refine R.done (X.keep [(2, _)] ⟨rfl, trivial⟩ (X.next (C.ret (X.blockRet (X.thenRet (X.loopRet (X.blockRet (X.thenRet ?_))))))))
 refine X.ret1 rfl rfl ?_
 refine ⟨F6, ?_, hs⟩
 rw [htk, hjn, List.take_length] at r6
 exact r6
 rw [if_neg h25, hco] at hcs
 refine C.skip (X.blockNormal (X.next (C.region (R.ev rfl (E.move rfl) ?_))))
 refine R.ev rfl ((E.add rfl rfl (by omega) (by omega)).isI (c := ((i + 1 : Nat) : Int)) (by omega)) ?_
 refine R.ev rfl (E.assign rfl) (R.done (X.keep [(0, _), (3, _)] ⟨rfl, rfl, trivial⟩ ?_))
 exact X.again (i + 1) ⟨rfl, rfl, trivial⟩ ⟨by omega, by omega, by rw [hcs, take_snoc hy], hs⟩ (by omega)
 refine C.exit (X.thenExit (X.loopExit (X.blockExit (X.next (C.seq (C.region (R.ev rfl (E.move rfl) (R.ev rfl (E.assign rfl) ?_))))))))
 refine R.done (X.keep [(2, _)] ⟨rfl, trivial⟩ (X.next (C.ret (X.ret1 rfl rfl ?_))))
 exact ⟨F, by rw [show i = L.length by omega, List.take_length] at hco; rw [hco]; exact hr, hs⟩
variable {K : Kn} {Hs Rs : List Hl} {F : Hl} {w : World} {v : Value} {L : List RO} {p : Nat} {MK : MKn} {MR : MRo}
theorem auCmp_any (a c : Vec 16) (hs : Sat K w Hs) : Ret Tryz.prog 41 #[idV a.1, idV c.1] w fun v w' => v = .int .i64 (cmpL a.1 c.1) ∧ Sat K w' Hs := by
 have e1 := encV_len a
 have e2 := encV_len c
 refine Ret.enter (n := 8) (args := [idV a.1, idV c.1]) Tryz.func41 rfl rfl ?_
 refine C.keep [(0, _), (1, _)] ⟨rfl, rfl, trivial⟩ (C.seq (C.region ?_))
 refine R.sboxA hs rfl rfl ?_
 intro b2 w2 hs
 refine R.sboxA hs rfl rfl ?_
 intro b3 w3 hs
 refine R.ev rfl (E.assign rfl) (R.done (X.keep [(2, _), (3, _)] ⟨rfl, rfl, trivial⟩ (X.next (C.seq ?_))))
 refine C.drawn (SatS hs) ([], [0, 1, 3]) (by kernel_rfl) ?_
 have hs := hs.drew
 refine D.evP 0 rfl (by kernel_rfl) rfl (np (by kernel_rfl)) (fun _ => E.sliceA rfl Tryz.underlying54 Tryz.sz5) (D.evP 1 rfl (by kernel_rfl) rfl (np (by kernel_rfl)) (fun _ => E.sliceA rfl Tryz.underlying54 Tryz.sz5) (D.act 2 rfl (by kernel_rfl) ?_))
 refine R.call ⟨_, _, Tryz.func42, rfl, by kernel_rfl⟩ rfl rfl (bcompare_any b2 0 16 16 b3 0 16 16 a.1 c.1 _ a.2 c.2 hs.ldA hs.ldA) ?_
 rintro _ _ ⟨rfl, rfl⟩
 refine D.backT (by kernel_rfl) (D.evP 3 rfl (by kernel_rfl) rfl (np (by kernel_rfl)) (fun _ => E.assign rfl) (D.done rfl (by kernel_rfl) (X.keep [(4, _)] ⟨rfl, trivial⟩ (X.next (C.ret (X.ret1 rfl rfl ?_))))))
 exact ⟨rfl, hs.to⟩
theorem auCmp_ok : AuS.auCmp K Rs 41 [] [] (ltV (m := 16)) :=
 ⟨⟨_, _, Tryz.func41, rfl, by kernel_rfl⟩, fun x y w1 _ _ hs => (auCmp_any x y hs).mono fun _ _ ⟨e, m⟩ => ⟨_, e, rfl, m⟩⟩
theorem flatA (h : KInv MK MR L) : ((MR.map (·.1)).flatMap fun s => (lkM MR s).getD []).length ≤ L.length := by
 have hp : ((MR.map (·.1)).flatMap fun s => (lkM MR s).getD []).Perm L := by
   refine (List.perm_ext_iff_of_nodup ?_ h.ok.nodup).2 fun r => ?_
   · rw [List.Nodup, List.pairwise_flatMap]
     refine ⟨fun s _ => (h.sl s).nodup_iff.2 (h.ok.nodup.sublist List.filter_sublist), ?_⟩
     refine List.Pairwise.imp ?_ h.nd
     intro s t hst x hx y hy e
     subst e
     have h1 := (mem_slotL.1 ((h.sl s).mem_iff.1 hx)).2
     have h2 := (mem_slotL.1 ((h.sl t).mem_iff.1 hy)).2
     apply hst
     obtain ⟨a, n⟩ := s
     obtain ⟨b, m⟩ := t
     simp only at h1 h2
     rw [← h1.1, ← h1.2, ← h2.1, ← h2.2]
   · rw [List.mem_flatMap]
     constructor
     · rintro ⟨s, _, hr⟩
       exact (mem_slotL.1 ((h.sl s).mem_iff.1 hr)).1
     · intro hr
       obtain ⟨e, he, hre⟩ := h.mem.1 hr
       exact ⟨e.1, List.mem_map.2 ⟨e, he, rfl⟩, by rw [lkM_of_mem h.nd (show (e.1, e.2) ∈ _ from he)]; exact hre⟩
 exact Nat.le_of_eq hp.length_eq
theorem len_flatA {α β : Type} : ∀ (l : List α) (f : α → List β), (∀ e ∈ l, f e ≠ []) → l.length ≤ (l.flatMap f).length
 | [], _, _ => by simp
 | a :: l, f, h => by
   have h1 := List.length_pos_iff.2 (h a (by simp))
   have h2 := len_flatA l f fun e he => h e (by simp [he])
   rw [List.flatMap_cons, List.length_append, List.length_cons]; omega
theorem kinv_len (h : KInv MK MR L) : MR.length ≤ L.length := by
 have h1 := len_flatA (MR.map (·.1)) (fun s => (lkM MR s).getD []) fun s hs => by
   obtain ⟨e, he, rfl⟩ := List.mem_map.1 hs
   show (lkM MR e.1).getD [] ≠ []
   rw [lkM_of_mem h.nd (show (e.1, e.2) ∈ _ from he)]
   exact h.ne e he
 have h2 := flatA h
 rw [List.length_map] at h1
 omega
/-- the authors of a list of rollovers, in order -/
def AuL (L : List RO) (A : List (Vec 16)) : Prop := SS ltV A ∧ (∀ a, a ∈ A ↔ ∃ r ∈ L, r.au = a) ∧ A.length ≤ L.length
theorem AuL.eq {A B : List (Vec 16)} (h : AuL L A) (h2 : AuL L B) : A = B := ss_ext ltV_swo h.1 h2.1 fun x => by rw [h.2.1, h2.2.1]
theorem authors_any (hI : KInv MK MR L) (hl : L.length ≤ 100000) (hs : Sat K w Hs) [hw : KrIn p MK MR Hs] : Ret Tryz.prog 23 #[ptr p] w fun r w' => ∃ A F', RowL 54 encV 16 r A F' ∧ AuL L A ∧ Sat K w' (F' :: Hs) := by
 obtain ⟨m1, G1, m2, V, G2, Xh, _, hm1, _, hm2, hG2, hX, hXi⟩ := hw.ex
 obtain ⟨b, es, clock, rfl, rfl, hr⟩ := hm2.ex
 have hb : InH b (.map es clock) Hs := ⟨hG2.sub _ (by simp)⟩
 have hVl : V.length ≤ L.length := by have h1 := kinv_len hI; have h2 := congrArg List.length hX.keys; rw [List.length_map, List.length_map] at h2; omega
 have hVm : ∀ a, a ∈ V.map (fun e => e.1.1) ↔ ∃ r ∈ L, r.au = a := fun a => by
   rw [← hI.authors]
   have h2 : V.map (fun e => e.1.1) = MR.map (fun e => e.1.1) := by have := congrArg (List.map (·.1)) hX.keys; rwa [List.map_map, List.map_map] at this
   rw [h2]
 refine Ret.enter (n := 25) (args := [ptr p]) Tryz.func23 rfl rfl ?_
 refine C.keep [(0, _)] ⟨rfl, trivial⟩ (C.seq (C.region (R.ev rfl (E.assign rfl) (R.done (X.keep [(0, _)] ⟨rfl, trivial⟩ (X.next (C.seq (C.seq ?_))))))))
 refine C.region (R.ev rfl (E.move rfl) (R.ev rfl (E.eqlNilF rfl rfl Tryz.underlying24) (R.done (X.keep [(0, _), (6, _)] ⟨rfl, rfl, trivial⟩ (X.next (C.cfalse rfl (C.skip (X.next ?_))))))))
 refine C.seq (C.region (R.ev rfl (E.assign rfl) (R.done (X.keep [(0, _), (3, _)] ⟨rfl, rfl, trivial⟩ (X.next (C.seq (C.seq (C.region ?_))))))))
 refine R.ev rfl (E.move rfl) (R.ev rfl (E.nilCheck rfl) (R.ev rfl (E.fieldAddr0 1 rfl Tryz.underlying86 rfl Tryz.sz84 rfl) (R.ev rfl (E.load1 rfl Tryz.underlying84 rfl (by exact hs.ld rfl)) ?_)))
 refine R.crange hs rfl Tryz.underlying84 (hr) rfl ?_
 intro r11 w11 F11 it11 hs
 refine R.done (X.keep [(3, _), (11, _)] ⟨rfl, rfl, trivial⟩ (X.next (C.block ?_)))
 refine C.loop (T := MVl × MVl × Hl × Value × Hl) [(11, _)] (fun (_, _, _, v, _) => [(3, v)]) (fun (Lr, Ls, Fi, v, Fa) w' => ItP ekT evV r11 b es clock Lr Fi ∧ (Ls ++ Lr).Perm V ∧ RowL 54 encV 16 v (Ls.map fun e => e.1.1) Fa ∧ Sat K w' (Fa :: Fi :: Hs)) (fun (Lr, _) => Lr.length) ((V, [], F11, .slice none 0 0, [])) ⟨rfl, rfl, trivial⟩ ⟨it11, by simp, RowL.nil _ _ _, hs.nil.to⟩ ?_
 rintro ⟨Lr, Ls, Fi, v3, Fa⟩ w4 ⟨hit, hpm, ra, hs⟩
 have hla : (Ls.map fun e => e.1.1).length ≤ 100000 := by have h1 := hpm.length_eq; rw [List.length_append] at h1; rw [List.length_map]; omega
 refine C.keep [(3, _), (11, _)] ⟨rfl, rfl, trivial⟩ (C.seq (C.region ?_))
 refine R.cnext hs rfl (hr) (hit) rfl ?_ ?_
 intro hover
 refine R.ev rfl (E.extract rfl rfl) (R.done (X.keep [(3, _), (11, _), (13, _)] ⟨rfl, rfl, rfl, trivial⟩ (X.next (C.seq (C.cfalse rfl (C.exit (X.thenExit (X.loopExit ?_))))))))
 refine X.blockExit (X.next (C.seq (C.region ?_)))
 rw [hover, List.append_nil] at hpm
 have hA1 : ∀ a, a ∈ (Ls.map fun e => e.1.1) ↔ ∃ r ∈ L, r.au = a := fun a => by rw [← hVm]; exact (hpm.map _).mem_iff
 have hA2 : (Ls.map fun e => e.1.1).length ≤ L.length := by rw [List.length_map, hpm.length_eq]; exact hVl
 generalize (Ls.map fun e => e.1.1) = A0 at ra hA1 hA2
 refine R.ev rfl (E.move rfl) ?_
 refine R.call ⟨_, _, Tryz.func40, rfl, by kernel_rfl⟩ rfl rfl (AuS.ausort_any auCmp_ok ltV_swo (hs.front (F := Fa)) (by omega)) ?_
 rintro _ w81 ⟨L2, F2, r2, hp, hso, hs1⟩
 have hs := hs.back (F := Fa) hs1
 have hl2 := hp.length_eq
 refine R.done (X.keep [(3, _)] ⟨rfl, trivial⟩ (X.next (C.seq (C.region (R.ev rfl (E.move rfl) ?_)))))
 refine R.call ⟨_, _, Tryz.func43, rfl, by kernel_rfl⟩ rfl rfl (compactA_any (L := L2) (hs.front (F := F2)) (by omega)) ?_
 rintro v24 w91 ⟨F3, r3, hs1⟩
 have hs := hs.back (F := F2) hs1
 refine R.ev rfl (E.assign rfl) (R.done (X.keep [(2, _)] ⟨rfl, trivial⟩ (X.next (C.ret (X.ret1 rfl rfl ?_)))))
 exact ⟨compactL L2, F3, r3, ⟨compactL_ss ltV_swo ltV_tot hso, fun x => by rw [compactL_mem, hp.mem_iff, hA1], by have := compactL_len L2; omega⟩, hs.to⟩
 intro p12 L12 w12 F12 pm12 mm12 it12 hs hent
 obtain ⟨s12, v12⟩ := p12
 have hpm2 : ((Ls ++ [(s12, v12)]) ++ L12).Perm V := by
   refine List.Perm.trans ?_ hpm
   rw [List.append_assoc]
   exact List.Perm.append_left _ pm12.symm
 have q1 := encT_len s12
 have q2 := encV_len s12.1
 refine R.ev rfl (E.extract rfl rfl) (R.done (X.keep [(3, _), (11, _), (13, _)] ⟨rfl, rfl, rfl, trivial⟩ (X.next (C.seq (C.ctrue rfl (C.skip (X.next (C.block ?_))))))))
 refine C.seq (C.region (R.ev rfl (E.entryC rfl (hent _ hs)) (R.ev rfl (E.extract rfl rfl) ?_)))
 refine R.sallocA hs Tryz.zr88 rfl ?_
 intro b4 w4 hs
 refine R.cstoreAll hs rfl rfl Tryz.sz88 (by rfl) (by assumption) (by exact Enc.one _) ?_
 intro w6_3 hs
 try simp only [List.set_cons_zero, List.set_cons_succ] at hs
 refine R.done (X.keep [(3, _), (4, _), (11, _)] ⟨rfl, rfl, rfl, trivial⟩ (X.next (C.region (R.ev rfl (E.move rfl) (R.ev rfl (E.fieldAddr0 0 rfl Tryz.underlying88 rfl Tryz.sz54 rfl) (R.ev rfl (E.loadRowC rfl Tryz.underlying54 rfl Tryz.sz54 (by exact ⟨hs.ldP rfl, by assumption⟩)) (R.buildSliceA rfl Tryz.underlying58 Tryz.sz54 Tryz.zr54 rfl (by assumption) (by decide) (by decide) ?_)))))))
 intro b19 w19 n19
 have hs := hs.new n19
 refine R.capp1 (s12.1) hs rfl rfl Tryz.underlying58 Tryz.by54 (by rfl) rfl (by exact hs.ldA) (by decide) (by omega) (by omega) ?_
 intro v20 w20 F20 r20 hs
 refine R.ev rfl (E.assign rfl) (R.done (X.keep [(3, _), (11, _)] ⟨rfl, rfl, trivial⟩ (X.blockNormal ?_)))
 exact X.again (L12, Ls ++ [(s12, v12)], F12, v20, F20) ⟨rfl, rfl, trivial⟩ ⟨it12, hpm2, by rw [List.map_append]; exact r20, hs.to⟩ (by show L12.length < Lr.length; rw [pm12.length_eq]; simp)
theorem ssA_lt {M : List (Vec 16)} (h : SS ltV M) {i j : Nat} {x y : Vec 16} (hi : M[i]? = some x) (hj : M[j]? = some y) (hij : i < j) : ltV x y = true := by
 obtain ⟨h1, rfl⟩ := List.getElem?_eq_some_iff.1 hi
 obtain ⟨h2, rfl⟩ := List.getElem?_eq_some_iff.1 hj
 exact List.pairwise_iff_getElem.1 h i j h1 h2 hij
theorem rauthors_any (hs : Sat K w Hs) [hr : KRow encO 84 K v L] (hL : L.length ≤ 100000) : Ret Tryz.prog 26 #[v] w fun r w' => ∃ A F', RowL 28 encV 16 r A F' ∧ AuL L A ∧ Sat K w' (F' :: Hs) := by
 obtain ⟨ad, cap, rfl, hsl, hc⟩ := hr.ex
 refine Ret.enter (n := 64) (args := [.slice ad L.length cap]) Tryz.func26 rfl rfl ?_
 refine C.keep [(0, _)] ⟨rfl, trivial⟩ (C.seq (C.region (R.ev rfl (E.assign rfl) (R.done (X.keep [(0, _)] ⟨rfl, trivial⟩ (X.next (C.seq (C.region ?_))))))))
 refine R.ev rfl (E.assign rfl) (R.done (X.keep [(0, _), (3, _)] ⟨rfl, rfl, trivial⟩ (X.next (C.seq (C.seq (C.region (R.ev rfl (E.assign rfl) (R.done ?_))))))))
 refine X.keep [(0, _), (3, _), (4, _)] ⟨rfl, rfl, rfl, trivial⟩ (X.next (C.block ?_))
 refine C.loop (T := Nat × List (Vec 16) × Value × Hl) [(0, _)] (fun (k, _, vo, _) => [(3, vo), (4, .int .i64 (k : Nat))]) (fun (k, O, vo, G) w' => k ≤ L.length ∧ RowL 28 encV 16 vo O G ∧ SS ltV O ∧ (∀ a, a ∈ O ↔ ∃ r ∈ L.take k, r.au = a) ∧ O.length ≤ k ∧ Sat K w' (G :: Hs)) (fun (k, _) => L.length - k) ((0, [], .slice none 0 0, [])) ⟨rfl, rfl, rfl, trivial⟩ ⟨by omega, RowL.nil _ _ _, by simp [SS], by simp, by simp, hs.nil⟩ ?_
 rintro ⟨k, O, vo, G1⟩ w1 ⟨hk, r1, hss, hmem, hOl, hs⟩
 obtain ⟨ado, co, rfl, hco, _, hado⟩ := r1.val
 refine C.keep [(0, _), (3, _), (4, _)] ⟨rfl, rfl, rfl, trivial⟩ (C.seq (C.seq (C.region (R.ev rfl (E.move rfl) (R.ev rfl (E.move rfl) (R.ev rfl (E.lenSl rfl Tryz.underlying25) (R.ev rfl (E.lss rfl rfl) (R.done ?_))))))))
 refine X.keep [(0, _), (3, _), (4, _), (9, _)] ⟨rfl, rfl, rfl, rfl, trivial⟩ (X.next ?_)
 refine C.cdec rfl (fun h9 => ?_) (fun h9 => ?_)
 obtain ⟨y, bk_y, of_y, hy, my, ly, rfl, Ay⟩ := hs.el (i := k) (ad := ad) (n := L.length) (c := cap) (by omega)
 have ay := Ay _ hs
 have e2 := encV_len y.au
 have htk : ∀ a, (∃ r ∈ L.take (k + 1), r.au = a) ↔ a ∈ O ∨ a = y.au := fun a => by
   rw [take_snoc hy, hmem]
   constructor
   · rintro ⟨r, h1, h2⟩
     rcases List.mem_append.1 h1 with h1 | h1
     · exact .inl ⟨r, h1, h2⟩
     · rw [List.mem_singleton] at h1; subst h1; exact .inr h2.symm
   · rintro (⟨r, h1, h2⟩ | h)
     · exact ⟨r, List.mem_append_left _ h1, h2⟩
     · exact ⟨y, by simp, h.symm⟩
 have hex : ∀ (bo : Nat), ado = some ⟨bo, 0, none⟩ → ∀ i' z', O[i']? = some z' → ∀ w', Sat K w' (G1 :: Hs) → At w' bo (0 + i' * 16) (encV z') := fun bo e i' z' h w' hs => by subst e; exact Sat.elAt (Hs := G1 :: Hs) (b := bo) (off := 0) (n := O.length) co hs h w' hs
 refine C.skip (X.next (C.seq (C.block (C.seq (C.region (R.ev rfl (E.assign rfl) (R.done (X.keep [(0, _), (3, _), (4, _), (5, _)] ⟨rfl, rfl, rfl, rfl, trivial⟩ ?_))))))))
 refine X.next (C.seq (C.block ?_))
 refine C.loop  [(0, _), (3, _), (4, _)] (fun j => [(5, .int .i64 (j : Nat))]) (fun j w' => j ≤ O.length ∧ (∀ i, i < j → ∀ x, O[i]? = some x → ltV x y.au = true) ∧ Sat K w' (G1 :: Hs)) (fun j => O.length - j) (0) ⟨rfl, rfl, rfl, rfl, trivial⟩ ⟨by omega, fun i h => by omega, hs⟩ ?_
 rintro j w6 ⟨hj, hb1, hs⟩
 refine C.keep [(0, _), (3, _), (4, _), (5, _)] ⟨rfl, rfl, rfl, rfl, trivial⟩ (C.seq (C.seq ?_))
 refine C.drawn (SatS hs) ([], [0, 1, 2, 3, 4, 5, 6, 7, 8, 9, 10, 11, 12, 13, 15, 16]) (by kernel_rfl) ?_
 have hs := hs.drew
 refine D.evP 0 rfl (by kernel_rfl) rfl (np (by kernel_rfl)) (fun _ => E.move rfl) (D.evP 1 rfl (by kernel_rfl) rfl (np (by kernel_rfl)) (fun _ => E.move rfl) (D.evP 2 rfl (by kernel_rfl) rfl (np (by kernel_rfl)) (fun _ => E.lenSl rfl Tryz.underlying77) (D.evP 3 rfl (by kernel_rfl) rfl (np (by kernel_rfl)) (fun _ => E.lss rfl rfl) (D.evP 4 rfl (by kernel_rfl) rfl (np (by kernel_rfl)) (fun _ => E.move rfl) ?_))))
 refine D.split 16 rfl (fun h16 => ?_) (fun h16 => ?_)
 have h16' := of_decide_eq_true h16
 obtain ⟨z, hz⟩ : ∃ z, O[j]? = some z := ⟨_, List.getElem?_eq_getElem (by omega)⟩
 obtain ⟨bo, ebo⟩ := hado (by intro e; rw [e] at hz; simp at hz)
 have Az := hex bo ebo j z hz
 refine D.evPG 5 rfl (by kernel_rfl) rfl rfl rfl (np (by kernel_rfl)) (fun _ => E.move rfl) (D.evPG 6 rfl (by kernel_rfl) rfl rfl rfl (np (by kernel_rfl)) (fun _ => E.move rfl) ?_)
 refine D.evPG 7 rfl (by kernel_rfl) rfl rfl rfl (np (by kernel_rfl)) (fun _ => E.indexAddr (i := j) (b := bo) (off := 0) (len := O.length) (cap := co) (by rw [ebo]; rfl) rfl Tryz.underlying77 Tryz.sz28 rfl (by omega)) ?_
 refine D.evPG 8 rfl (by kernel_rfl) rfl rfl rfl (np (by kernel_rfl)) (fun _ => E.sliceA rfl Tryz.underlying28 Tryz.sz5) (D.evPG 9 rfl (by kernel_rfl) rfl rfl rfl (np (by kernel_rfl)) (fun _ => E.move rfl) (D.evPG 10 rfl (by kernel_rfl) rfl rfl rfl (np (by kernel_rfl)) (fun _ => E.move rfl) ?_))
 refine D.evPG 11 rfl (by kernel_rfl) rfl rfl rfl (np (by kernel_rfl)) (fun _ => E.indexAddr (i := k) rfl rfl Tryz.underlying25 Tryz.sz69 rfl (by omega)) ?_
 refine D.evPG 12 rfl (by kernel_rfl) rfl rfl rfl (np (by kernel_rfl)) (fun _ => E.fieldAddrN 32 rfl Tryz.underlying69 rfl Tryz.sz28 rfl) (D.evPG 13 rfl (by kernel_rfl) rfl rfl rfl (np (by kernel_rfl)) (fun _ => E.sliceA rfl Tryz.underlying28 Tryz.sz5) (D.act 14 rfl (by kernel_rfl) (R.gyes rfl rfl ?_)))
 refine R.call ⟨_, _, Tryz.func27, rfl, by kernel_rfl⟩ rfl rfl (rcompare_any z y.au (by decide) hs Az (fun w' h => (At.partC (i := 32) (m := 16) (Ay w' h)).1)) ?_
 rintro _ w614 ⟨rfl, hs⟩
 refine D.backT (by kernel_rfl) (D.evPG 15 rfl (by kernel_rfl) rfl rfl rfl (np (by kernel_rfl)) (fun _ => E.lss rfl rfl) (D.evP 16 rfl (by kernel_rfl) rfl (np (by kernel_rfl)) (fun _ => E.pickT rfl rfl) (D.done rfl (by kernel_rfl) (X.keep [(0, _), (3, _), (4, _), (5, _), (28, _)] ⟨rfl, rfl, rfl, rfl, rfl, trivial⟩ (X.next ?_)))))
 refine C.cbool rfl (fun h28 => ?_) (fun h28 => ?_)
 refine C.skip (X.next (C.block (C.region (R.ev rfl (E.move rfl) ?_))))
 refine R.ev rfl ((E.add rfl rfl (by omega) (by omega)).isI (c := ((j + 1 : Nat) : Int)) (by omega)) ?_
 refine R.ev rfl (E.assign rfl) (R.done (X.keep [(0, _), (3, _), (4, _), (5, _)] ⟨rfl, rfl, rfl, rfl, trivial⟩ (X.blockNormal ?_)))
 exact X.again (j + 1) ⟨rfl, rfl, rfl, rfl, trivial⟩ ⟨by omega, fun i hi x hx => by rcases Nat.lt_or_ge i j with h | h; exact hb1 i h x hx; (rw [show i = j by omega, hz] at hx; simp at hx; rw [← hx]; exact h28), hs⟩ (by omega)
 refine C.exit (X.thenExit (X.loopExit (X.blockExit (X.next (C.seq (C.seq ?_))))))
 refine C.drawn (SatS hs) ([8, 13], [0, 1, 2, 3, 4, 5, 6, 7, 9, 10, 11, 12, 14, 15]) (by kernel_rfl) ?_
 have hs := hs.drew
 have hstop : ∀ x, O[j]? = some x → ltV x y.au = false := by
   exact fun x hx => by rw [hz] at hx; simp at hx; rw [← hx]; exact h28
 refine D.evP 0 rfl (by kernel_rfl) rfl (fun _ => hs.to) (fun _ => E.move rfl) (D.evP 1 rfl (by kernel_rfl) rfl (fun _ => hs.to) (fun _ => E.move rfl) (D.evP 2 rfl (by kernel_rfl) rfl (fun _ => hs.to) (fun _ => E.lenSl rfl Tryz.underlying77) (D.evP 3 rfl (by kernel_rfl) rfl (fun _ => hs.to) (fun _ => E.lss rfl rfl) (D.evP 4 rfl (by kernel_rfl) rfl (fun _ => hs.to) (fun _ => E.move rfl) ?_))))
 refine D.split 35 rfl (fun h35 => ?_) (fun h35 => ?_)
 have h35' := of_decide_eq_true h35
 obtain ⟨z2, hz2⟩ : ∃ z, O[j]? = some z := ⟨_, List.getElem?_eq_getElem (by omega)⟩
 obtain ⟨bo2, ebo2⟩ := hado (by intro e; rw [e] at hz2; simp at hz2)
 have Az2 := hex bo2 ebo2 j z2 hz2
 have e3 := encV_len z2
 refine D.evPG 5 rfl (by kernel_rfl) rfl rfl rfl (fun _ => hs.to) (fun _ => E.move rfl) (D.evPG 6 rfl (by kernel_rfl) rfl rfl rfl (fun _ => hs.to) (fun _ => E.move rfl) ?_)
 refine D.evPG 7 rfl (by kernel_rfl) rfl rfl rfl (fun _ => hs.to) (fun _ => E.indexAddr (i := j) (b := bo2) (off := 0) (len := O.length) (cap := co) (by rw [ebo2]; rfl) rfl Tryz.underlying77 Tryz.sz28 rfl (by omega)) ?_
 refine D.evPG 9 rfl (by kernel_rfl) rfl rfl rfl (fun _ => hs.to) (fun _ => E.move rfl) (D.evPG 10 rfl (by kernel_rfl) rfl rfl rfl (fun _ => hs.to) (fun _ => E.move rfl) ?_)
 refine D.evPG 11 rfl (by kernel_rfl) rfl rfl rfl (fun _ => hs.to) (fun _ => E.indexAddr (i := k) rfl rfl Tryz.underlying25 Tryz.sz69 rfl (by omega)) ?_
 refine D.evPG 12 rfl (by kernel_rfl) rfl rfl rfl (fun _ => hs.to) (fun _ => E.fieldAddrN 32 rfl Tryz.underlying69 rfl Tryz.sz28 rfl) (D.evG 8 rfl (by kernel_rfl) rfl rfl rfl hs.to (fun _ hS => E.loadRowC rfl Tryz.underlying28 rfl Tryz.sz28 ⟨Az2 _ hS, Enc.len _⟩) (D.evG 13 rfl (by kernel_rfl) rfl rfl rfl hs.to (fun _ hS => E.loadRowC rfl Tryz.underlying28 rfl Tryz.sz28 (by exact At.partC ((by assumption : ∀ w', Sat _ w' _ → At w' _ _ _) _ hS))) ?_))
 refine D.evPG 14 rfl (by kernel_rfl) rfl rfl rfl (fun _ => hs.to) (fun _ => (E.eqV 10 (a := z2) (b := y.au) rfl rfl Tryz.lv28 rfl Tryz.underlying28 rfl Tryz.gd28)) ?_
 refine D.evP 15 rfl (by kernel_rfl) rfl (fun _ => hs.to) (fun _ => E.pickT rfl rfl) (D.done rfl (by kernel_rfl) (X.keep [(0, _), (3, _), (4, _), (5, _), (46, _)] ⟨rfl, rfl, rfl, rfl, rfl, trivial⟩ (X.next ?_)))
 refine C.cbool rfl (fun h46 => ?_) (fun h46 => ?_)
 refine C.exit (X.thenExit (X.blockExit (X.next (C.region (R.ev rfl (E.move rfl) (R.ev rfl (E.add rfl rfl (by omega) (by omega)) (R.ev rfl (E.assign rfl) (R.done ?_))))))))
 refine X.keep [(0, _), (3, _), (4, _)] ⟨rfl, rfl, rfl, trivial⟩ ?_
 (have hin : y.au ∈ O := by rw [← of_decide_eq_true h46]; exact List.mem_of_getElem? hz2
  exact X.again (k + 1, O, .slice ado O.length co, G1) ⟨rfl, rfl, rfl, trivial⟩ ⟨by omega, r1, hss, fun a => by rw [htk]; exact ⟨.inl, fun h => h.elim id (fun e => e ▸ hin)⟩, by omega, hs⟩ (by show _ - _ < _ - _; omega))
 refine C.skip (X.next ?_)
 refine C.drawn (SatS hs) ([9], [1, 2, 3, 5, 6, 7, 8, 12, 13, 14, 16]) (by kernel_rfl) ?_
 have hs := hs.drew
 refine D.evP 1 rfl (by kernel_rfl) rfl (fun _ => hs.to) (fun _ => E.move rfl) (D.evP 2 rfl (by kernel_rfl) rfl (fun _ => hs.to) (fun _ => E.move rfl) (D.evP 3 rfl (by kernel_rfl) rfl (fun _ => hs.to) (fun _ => E.sliceH rfl rfl Tryz.underlying77 Tryz.sz28 rfl (by omega)) (D.evP 5 rfl (by kernel_rfl) rfl (fun _ => hs.to) (fun _ => E.move rfl) (D.evP 6 rfl (by kernel_rfl) rfl (fun _ => hs.to) (fun _ => E.move rfl) ?_))))
 refine D.evP 7 rfl (by kernel_rfl) rfl (fun _ => hs.to) (fun _ => E.indexAddr (i := k) rfl rfl Tryz.underlying25 Tryz.sz69 rfl (by omega)) ?_
 refine D.evP 8 rfl (by kernel_rfl) rfl (fun _ => hs.to) (fun _ => E.fieldAddrN 32 rfl Tryz.underlying69 rfl Tryz.sz28 rfl) (D.evP 12 rfl (by kernel_rfl) rfl (fun _ => hs.to) (fun _ => E.move rfl) (D.evP 13 rfl (by kernel_rfl) rfl (fun _ => hs.to) (fun _ => E.move rfl) ?_))
 refine D.evP 14 rfl (by kernel_rfl) rfl (fun _ => hs.to) (fun _ => E.sliceLs (a := j) rfl rfl Tryz.underlying77 Tryz.sz28 rfl (by omega)) ?_
 refine D.ev 9 rfl (by kernel_rfl) rfl hs.to (fun _ hS => E.loadRowC rfl Tryz.underlying28 rfl Tryz.sz28 (by exact At.partC ((by assumption : ∀ w', Sat _ w' _ → At w' _ _ _) _ hS))) ?_
 refine D.act2 0 10 rfl rfl (by kernel_rfl) ?_ ?_
 have hnew : y.au ∉ O := by
   intro hin
   obtain ⟨i, hi⟩ := List.getElem?_of_mem hin
   rcases Nat.lt_trichotomy i j with h | h | h
   · have := hb1 i h _ hi; rw [ltV_swo.irrefl] at this; cases this
   · subst h
     (rw [hz2] at hi; simp at hi; exact of_decide_eq_false h46 hi)
   · obtain ⟨u, hu⟩ : ∃ u, O[j]? = some u := ⟨_, List.getElem?_eq_getElem (by have := (List.getElem?_eq_some_iff.1 hi).1; omega)⟩
     have h1 := ssA_lt hss hu hi h
     have h2 := hstop u hu
     rw [h1] at h2; cases h2
 have k1 : Rd encV 16 K (G1 :: Hs) (.slice ado j co) (O.take j) := Rd.preO (m := O.length) hj
 have k2 : Rd encV 16 K (G1 :: Hs) (.slice (subAd ado co j 16) (O.length - j) (co - j)) (O.drop j) := Rd.sufO (m := O.length) hj
 have hl1 : (O.take j).length = j := by rw [List.length_take]; omega
 have hl2 : (O.drop j).length = O.length - j := List.length_drop
 refine R.sbuild0 (enc := (encV (m := 16))) hs Tryz.underlying77 Tryz.sz28 rfl ?_
 intro v47 w47 F47 r47 nn47 hs
 refine D.back hs.to ?_
 refine D.act2 4 10 rfl rfl (by kernel_rfl) ?_ ?_
 refine R.cappSl hs rfl rfl Tryz.underlying77 Tryz.by28 (by rfl) rfl (by decide) (by (simp only [List.length_append, List.length_cons, List.length_nil] at *; omega)) (by (simp only [List.length_append, List.length_cons, List.length_nil] at *; omega)) ?_
 intro v51 w51 F51 r51 hs
 rw [List.nil_append] at r51
 refine D.back hs.to (D.act 10 rfl (by kernel_rfl) (R.buildSliceA rfl Tryz.underlying77 Tryz.sz28 Tryz.zr28 rfl (by assumption) (by decide) (by decide) ?_))
 intro b57 w57 n57
 have hs := hs.new n57
 refine D.backT (by kernel_rfl) (D.act 11 rfl (by kernel_rfl) ?_)
 refine R.capp1 (y.au) hs rfl rfl Tryz.underlying77 Tryz.by28 (by rfl) rfl (by exact hs.ldA) (by decide) (by omega) (by omega) ?_
 intro v58 w58 F58 r58 hs
 refine D.backT (by kernel_rfl) (D.act 15 rfl (by kernel_rfl) ?_)
 refine R.cappSl hs rfl rfl Tryz.underlying77 Tryz.by28 (by rfl) rfl (by decide) (by (simp only [List.length_append, List.length_cons, List.length_nil] at *; omega)) (by (simp only [List.length_append, List.length_cons, List.length_nil] at *; omega)) ?_
 intro v62 w62 F62 r62 hs
 refine D.backT (by kernel_rfl) (D.evP 16 rfl (by kernel_rfl) rfl (np (by kernel_rfl)) (fun _ => E.assign rfl) (D.done rfl (by kernel_rfl) (X.keep [(0, _), (3, _), (4, _)] ⟨rfl, rfl, rfl, trivial⟩ (X.blockNormal (X.next (C.region (R.ev rfl (E.move rfl) (R.ev rfl (E.add rfl rfl (by omega) (by omega)) ?_))))))))
 refine R.ev rfl (E.assign rfl) (R.done (X.keep [(0, _), (3, _), (4, _)] ⟨rfl, rfl, rfl, trivial⟩ ?_))
 exact X.again (k + 1, _, v62, F62) ⟨rfl, rfl, rfl, trivial⟩ ⟨by omega, r62, ins_ss ltV_swo ltV_tot hss hnew hb1 hstop, fun a => by rw [ins_mem, htk]; exact Or.comm, by simp [hj]; omega, hs.to⟩ (by show _ - _ < _ - _; omega)
 refine R.buildSliceA rfl Tryz.underlying77 Tryz.sz28 Tryz.zr28 rfl (by assumption) (by decide) (by decide) ?_
 intro b57 w57 n57
 have hs := hs.new n57
 refine D.backT (by kernel_rfl) (D.act 4 rfl (by kernel_rfl) ?_)
 refine R.cappSl hs rfl rfl Tryz.underlying77 Tryz.by28 (by rfl) rfl (by decide) (by (simp only [List.length_append, List.length_cons, List.length_nil] at *; omega)) (by (simp only [List.length_append, List.length_cons, List.length_nil] at *; omega)) ?_
 intro v51 w51 F51 r51 hs
 rw [List.nil_append] at r51
 refine D.backT (by kernel_rfl) (D.act 11 rfl (by kernel_rfl) ?_)
 refine R.capp1 (y.au) hs rfl rfl Tryz.underlying77 Tryz.by28 (by rfl) rfl (by exact hs.ldA) (by decide) (by omega) (by omega) ?_
 intro v58 w58 F58 r58 hs
 refine D.backT (by kernel_rfl) (D.act 15 rfl (by kernel_rfl) ?_)
 refine R.cappSl hs rfl rfl Tryz.underlying77 Tryz.by28 (by rfl) rfl (by decide) (by (simp only [List.length_append, List.length_cons, List.length_nil] at *; omega)) (by (simp only [List.length_append, List.length_cons, List.length_nil] at *; omega)) ?_
 intro v62 w62 F62 r62 hs
 refine D.backT (by kernel_rfl) (D.evP 16 rfl (by kernel_rfl) rfl (np (by kernel_rfl)) (fun _ => E.assign rfl) (D.done rfl (by kernel_rfl) (X.keep [(0, _), (3, _), (4, _)] ⟨rfl, rfl, rfl, trivial⟩ (X.blockNormal (X.next (C.region (R.ev rfl (E.move rfl) (R.ev rfl (E.add rfl rfl (by omega) (by omega)) ?_))))))))
 refine R.ev rfl (E.assign rfl) (R.done (X.keep [(0, _), (3, _), (4, _)] ⟨rfl, rfl, rfl, trivial⟩ ?_))
 exact X.again (k + 1, _, v62, F62) ⟨rfl, rfl, rfl, trivial⟩ ⟨by omega, r62, ins_ss ltV_swo ltV_tot hss hnew hb1 hstop, fun a => by rw [ins_mem, htk]; exact Or.comm, by simp [hj]; omega, hs.to⟩ (by show _ - _ < _ - _; omega)
 refine R.buildSliceA rfl Tryz.underlying77 Tryz.sz28 Tryz.zr28 rfl (by assumption) (by decide) (by decide) ?_
 intro b57 w57 n57
 have hs := hs.new n57
 refine D.backT (by kernel_rfl) ?_
 have hnew : y.au ∉ O := by
   intro hin
   obtain ⟨i, hi⟩ := List.getElem?_of_mem hin
   rcases Nat.lt_trichotomy i j with h | h | h
   · have := hb1 i h _ hi; rw [ltV_swo.irrefl] at this; cases this
   · subst h
     (rw [hz2] at hi; simp at hi; exact of_decide_eq_false h46 hi)
   · obtain ⟨u, hu⟩ : ∃ u, O[j]? = some u := ⟨_, List.getElem?_eq_getElem (by have := (List.getElem?_eq_some_iff.1 hi).1; omega)⟩
     have h1 := ssA_lt hss hu hi h
     have h2 := hstop u hu
     rw [h1] at h2; cases h2
 have k1 : Rd encV 16 K (G1 :: Hs) (.slice ado j co) (O.take j) := Rd.preO (m := O.length) hj
 have k2 : Rd encV 16 K (G1 :: Hs) (.slice (subAd ado co j 16) (O.length - j) (co - j)) (O.drop j) := Rd.sufO (m := O.length) hj
 have hl1 : (O.take j).length = j := by rw [List.length_take]; omega
 have hl2 : (O.drop j).length = O.length - j := List.length_drop
 refine D.act 0 rfl (by kernel_rfl) ?_
 refine R.sbuild0 (enc := (encV (m := 16))) hs Tryz.underlying77 Tryz.sz28 rfl ?_
 intro v47 w47 F47 r47 nn47 hs
 refine D.backT (by kernel_rfl) (D.act 4 rfl (by kernel_rfl) ?_)
 refine R.cappSl hs rfl rfl Tryz.underlying77 Tryz.by28 (by rfl) rfl (by decide) (by (simp only [List.length_append, List.length_cons, List.length_nil] at *; omega)) (by (simp only [List.length_append, List.length_cons, List.length_nil] at *; omega)) ?_
 intro v51 w51 F51 r51 hs
 rw [List.nil_append] at r51
 refine D.backT (by kernel_rfl) (D.act 11 rfl (by kernel_rfl) ?_)
 refine R.capp1 (y.au) hs rfl rfl Tryz.underlying77 Tryz.by28 (by rfl) rfl (by exact hs.ldA) (by decide) (by omega) (by omega) ?_
 intro v58 w58 F58 r58 hs
 refine D.backT (by kernel_rfl) (D.act 15 rfl (by kernel_rfl) ?_)
 refine R.cappSl hs rfl rfl Tryz.underlying77 Tryz.by28 (by rfl) rfl (by decide) (by (simp only [List.length_append, List.length_cons, List.length_nil] at *; omega)) (by (simp only [List.length_append, List.length_cons, List.length_nil] at *; omega)) ?_
 intro v62 w62 F62 r62 hs
 refine D.backT (by kernel_rfl) (D.evP 16 rfl (by kernel_rfl) rfl (np (by kernel_rfl)) (fun _ => E.assign rfl) (D.done rfl (by kernel_rfl) (X.keep [(0, _), (3, _), (4, _)] ⟨rfl, rfl, rfl, trivial⟩ (X.blockNormal (X.next (C.region (R.ev rfl (E.move rfl) (R.ev rfl (E.add rfl rfl (by omega) (by omega)) ?_))))))))
 refine R.ev rfl (E.assign rfl) (R.done (X.keep [(0, _), (3, _), (4, _)] ⟨rfl, rfl, rfl, trivial⟩ ?_))
 exact X.again (k + 1, _, v62, F62) ⟨rfl, rfl, rfl, trivial⟩ ⟨by omega, r62, ins_ss ltV_swo ltV_tot hss hnew hb1 hstop, fun a => by rw [ins_mem, htk]; exact Or.comm, by simp [hj]; omega, hs.to⟩ (by show _ - _ < _ - _; omega)
 refine D.skipP 5 rfl (by kernel_rfl) rfl rfl rfl (fun _ => hs.to) (D.skipP 6 rfl (by kernel_rfl) rfl rfl rfl (fun _ => hs.to) (D.skipP 7 rfl (by kernel_rfl) rfl rfl rfl (fun _ => hs.to) (D.skipP 9 rfl (by kernel_rfl) rfl rfl rfl (fun _ => hs.to) (D.skipP 10 rfl (by kernel_rfl) rfl rfl rfl (fun _ => hs.to) (D.skipP 11 rfl (by kernel_rfl) rfl rfl rfl (fun _ => hs.to) (D.skipP 12 rfl (by kernel_rfl) rfl rfl rfl (fun _ => hs.to) (D.skip 8 rfl (by kernel_rfl) rfl rfl rfl hs.to (D.skip 13 rfl (by kernel_rfl) rfl rfl rfl hs.to ?_))))))))
 refine D.skipP 14 rfl (by kernel_rfl) rfl rfl rfl (fun _ => hs.to) (D.evP 15 rfl (by kernel_rfl) rfl (fun _ => hs.to) (fun _ => E.pickF rfl rfl) (D.done rfl (by kernel_rfl) (X.keep [(0, _), (3, _), (4, _), (5, _), (46, _)] ⟨rfl, rfl, rfl, rfl, rfl, trivial⟩ (X.next (C.cfalse rfl (C.skip (X.next ?_)))))))
 refine C.drawn (SatS hs) ([9], [1, 2, 3, 5, 6, 7, 8, 12, 13, 14, 16]) (by kernel_rfl) ?_
 have hs := hs.drew
 refine D.evP 1 rfl (by kernel_rfl) rfl (fun _ => hs.to) (fun _ => E.move rfl) (D.evP 2 rfl (by kernel_rfl) rfl (fun _ => hs.to) (fun _ => E.move rfl) (D.evP 3 rfl (by kernel_rfl) rfl (fun _ => hs.to) (fun _ => E.sliceH rfl rfl Tryz.underlying77 Tryz.sz28 rfl (by omega)) (D.evP 5 rfl (by kernel_rfl) rfl (fun _ => hs.to) (fun _ => E.move rfl) (D.evP 6 rfl (by kernel_rfl) rfl (fun _ => hs.to) (fun _ => E.move rfl) ?_))))
 refine D.evP 7 rfl (by kernel_rfl) rfl (fun _ => hs.to) (fun _ => E.indexAddr (i := k) rfl rfl Tryz.underlying25 Tryz.sz69 rfl (by omega)) ?_
 refine D.evP 8 rfl (by kernel_rfl) rfl (fun _ => hs.to) (fun _ => E.fieldAddrN 32 rfl Tryz.underlying69 rfl Tryz.sz28 rfl) (D.evP 12 rfl (by kernel_rfl) rfl (fun _ => hs.to) (fun _ => E.move rfl) (D.evP 13 rfl (by kernel_rfl) rfl (fun _ => hs.to) (fun _ => E.move rfl) ?_))
 refine D.evP 14 rfl (by kernel_rfl) rfl (fun _ => hs.to) (fun _ => E.sliceLs (a := j) rfl rfl Tryz.underlying77 Tryz.sz28 rfl (by omega)) ?_
 refine D.ev 9 rfl (by kernel_rfl) rfl hs.to (fun _ hS => E.loadRowC rfl Tryz.underlying28 rfl Tryz.sz28 (by exact At.partC ((by assumption : ∀ w', Sat _ w' _ → At w' _ _ _) _ hS))) ?_
 refine D.act2 0 10 rfl rfl (by kernel_rfl) ?_ ?_
 have hnew : y.au ∉ O := by
   intro hin
   obtain ⟨i, hi⟩ := List.getElem?_of_mem hin
   rcases Nat.lt_trichotomy i j with h | h | h
   · have := hb1 i h _ hi; rw [ltV_swo.irrefl] at this; cases this
   · subst h
     (have := (List.getElem?_eq_some_iff.1 hi).1; have := of_decide_eq_false h35; omega)
   · obtain ⟨u, hu⟩ : ∃ u, O[j]? = some u := ⟨_, List.getElem?_eq_getElem (by have := (List.getElem?_eq_some_iff.1 hi).1; omega)⟩
     have h1 := ssA_lt hss hu hi h
     have h2 := hstop u hu
     rw [h1] at h2; cases h2
 have k1 : Rd encV 16 K (G1 :: Hs) (.slice ado j co) (O.take j) := Rd.preO (m := O.length) hj
 have k2 : Rd encV 16 K (G1 :: Hs) (.slice (subAd ado co j 16) (O.length - j) (co - j)) (O.drop j) := Rd.sufO (m := O.length) hj
 have hl1 : (O.take j).length = j := by rw [List.length_take]; omega
 have hl2 : (O.drop j).length = O.length - j := List.length_drop
 refine R.sbuild0 (enc := (encV (m := 16))) hs Tryz.underlying77 Tryz.sz28 rfl ?_
 intro v47 w47 F47 r47 nn47 hs
 refine D.back hs.to ?_
 refine D.act2 4 10 rfl rfl (by kernel_rfl) ?_ ?_
 refine R.cappSl hs rfl rfl Tryz.underlying77 Tryz.by28 (by rfl) rfl (by decide) (by (simp only [List.length_append, List.length_cons, List.length_nil] at *; omega)) (by (simp only [List.length_append, List.length_cons, List.length_nil] at *; omega)) ?_
 intro v51 w51 F51 r51 hs
 rw [List.nil_append] at r51
 refine D.back hs.to (D.act 10 rfl (by kernel_rfl) (R.buildSliceA rfl Tryz.underlying77 Tryz.sz28 Tryz.zr28 rfl (by assumption) (by decide) (by decide) ?_))
 intro b57 w57 n57
 have hs := hs.new n57
 refine D.backT (by kernel_rfl) (D.act 11 rfl (by kernel_rfl) ?_)
 refine R.capp1 (y.au) hs rfl rfl Tryz.underlying77 Tryz.by28 (by rfl) rfl (by exact hs.ldA) (by decide) (by omega) (by omega) ?_
 intro v58 w58 F58 r58 hs
 refine D.backT (by kernel_rfl) (D.act 15 rfl (by kernel_rfl) ?_)
 refine R.cappSl hs rfl rfl Tryz.underlying77 Tryz.by28 (by rfl) rfl (by decide) (by (simp only [List.length_append, List.length_cons, List.length_nil] at *; omega)) (by (simp only [List.length_append, List.length_cons, List.length_nil] at *; omega)) ?_
 intro v62 w62 F62 r62 hs
 refine D.backT (by kernel_rfl) (D.evP 16 rfl (by kernel_rfl) rfl (np (by kernel_rfl)) (fun _ => E.assign rfl) (D.done rfl (by kernel_rfl) (X.keep [(0, _), (3, _), (4, _)] ⟨rfl, rfl, rfl, trivial⟩ (X.blockNormal (X.next (C.region (R.ev rfl (E.move rfl) (R.ev rfl (E.add rfl rfl (by omega) (by omega)) ?_))))))))
 refine R.ev rfl (E.assign rfl) (R.done (X.keep [(0, _), (3, _), (4, _)] ⟨rfl, rfl, rfl, trivial⟩ ?_))
 exact X.again (k + 1, _, v62, F62) ⟨rfl, rfl, rfl, trivial⟩ ⟨by omega, r62, ins_ss ltV_swo ltV_tot hss hnew hb1 hstop, fun a => by rw [ins_mem, htk]; exact Or.comm, by simp [hj]; omega, hs.to⟩ (by show _ - _ < _ - _; omega)
 refine R.buildSliceA rfl Tryz.underlying77 Tryz.sz28 Tryz.zr28 rfl (by assumption) (by decide) (by decide) ?_
 intro b57 w57 n57
 have hs := hs.new n57
 refine D.backT (by kernel_rfl) (D.act 4 rfl (by kernel_rfl) ?_)
 refine R.cappSl hs rfl rfl Tryz.underlying77 Tryz.by28 (by rfl) rfl (by decide) (by (simp only [List.length_append, List.length_cons, List.length_nil] at *; omega)) (by (simp only [List.length_append, List.length_cons, List.length_nil] at *; omega)) ?_
 intro v51 w51 F51 r51 hs
 rw [List.nil_append] at r51
 refine D.backT (by kernel_rfl) (D.act 11 rfl (by kernel_rfl) ?_)
 refine R.capp1 (y.au) hs rfl rfl Tryz.underlying77 Tryz.by28 (by rfl) rfl (by exact hs.ldA) (by decide) (by omega) (by omega) ?_
 intro v58 w58 F58 r58 hs
 refine D.backT (by kernel_rfl) (D.act 15 rfl (by kernel_rfl) ?_)
 refine R.cappSl hs rfl rfl Tryz.underlying77 Tryz.by28 (by rfl) rfl (by decide) (by (simp only [List.length_append, List.length_cons, List.length_nil] at *; omega)) (by (simp only [List.length_append, List.length_cons, List.length_nil] at *; omega)) ?_
 intro v62 w62 F62 r62 hs
 refine D.backT (by kernel_rfl) (D.evP 16 rfl (by kernel_rfl) rfl (np (by kernel_rfl)) (fun _ => E.assign rfl) (D.done rfl (by kernel_rfl) (X.keep [(0, _), (3, _), (4, _)] ⟨rfl, rfl, rfl, trivial⟩ (X.blockNormal (X.next (C.region (R.ev rfl (E.move rfl) (R.ev rfl (E.add rfl rfl (by omega) (by omega)) ?_))))))))
 refine R.ev rfl (E.assign rfl) (R.done (X.keep [(0, _), (3, _), (4, _)] ⟨rfl, rfl, rfl, trivial⟩ ?_))
 exact X.again (k + 1, _, v62, F62) ⟨rfl, rfl, rfl, trivial⟩ ⟨by omega, r62, ins_ss ltV_swo ltV_tot hss hnew hb1 hstop, fun a => by rw [ins_mem, htk]; exact Or.comm, by simp [hj]; omega, hs.to⟩ (by show _ - _ < _ - _; omega)
 refine R.buildSliceA rfl Tryz.underlying77 Tryz.sz28 Tryz.zr28 rfl (by assumption) (by decide) (by decide) ?_
 intro b57 w57 n57
 have hs := hs.new n57
 refine D.backT (by kernel_rfl) ?_
 have hnew : y.au ∉ O := by
   intro hin
   obtain ⟨i, hi⟩ := List.getElem?_of_mem hin
   rcases Nat.lt_trichotomy i j with h | h | h
   · have := hb1 i h _ hi; rw [ltV_swo.irrefl] at this; cases this
   · subst h
     (have := (List.getElem?_eq_some_iff.1 hi).1; have := of_decide_eq_false h35; omega)
   · obtain ⟨u, hu⟩ : ∃ u, O[j]? = some u := ⟨_, List.getElem?_eq_getElem (by have := (List.getElem?_eq_some_iff.1 hi).1; omega)⟩
     have h1 := ssA_lt hss hu hi h
     have h2 := hstop u hu
     rw [h1] at h2; cases h2
 have k1 : Rd encV 16 K (G1 :: Hs) (.slice ado j co) (O.take j) := Rd.preO (m := O.length) hj
 have k2 : Rd encV 16 K (G1 :: Hs) (.slice (subAd ado co j 16) (O.length - j) (co - j)) (O.drop j) := Rd.sufO (m := O.length) hj
 have hl1 : (O.take j).length = j := by rw [List.length_take]; omega
 have hl2 : (O.drop j).length = O.length - j := List.length_drop
 refine D.act 0 rfl (by kernel_rfl) ?_
 refine R.sbuild0 (enc := (encV (m := 16))) hs Tryz.underlying77 Tryz.sz28 rfl ?_
 intro v47 w47 F47 r47 nn47 hs
 refine D.backT (by kernel_rfl) (D.act 4 rfl (by kernel_rfl) ?_)
 refine R.cappSl hs rfl rfl Tryz.underlying77 Tryz.by28 (by rfl) rfl (by decide) (by (simp only [List.length_append, List.length_cons, List.length_nil] at *; omega)) (by (simp only [List.length_append, List.length_cons, List.length_nil] at *; omega)) ?_
 intro v51 w51 F51 r51 hs
 rw [List.nil_append] at r51
 refine D.backT (by kernel_rfl) (D.act 11 rfl (by kernel_rfl) ?_)
 refine R.capp1 (y.au) hs rfl rfl Tryz.underlying77 Tryz.by28 (by rfl) rfl (by exact hs.ldA) (by decide) (by omega) (by omega) ?_
 intro v58 w58 F58 r58 hs
 refine D.backT (by kernel_rfl) (D.act 15 rfl (by kernel_rfl) ?_)
 refine R.cappSl hs rfl rfl Tryz.underlying77 Tryz.by28 (by rfl) rfl (by decide) (by (simp only [List.length_append, List.length_cons, List.length_nil] at *; omega)) (by (simp only [List.length_append, List.length_cons, List.length_nil] at *; omega)) ?_
 intro v62 w62 F62 r62 hs
 refine D.backT (by kernel_rfl) (D.evP 16 rfl (by kernel_rfl) rfl (np (by kernel_rfl)) (fun _ => E.assign rfl) (D.done rfl (by kernel_rfl) (X.keep [(0, _), (3, _), (4, _)] ⟨rfl, rfl, rfl, trivial⟩ (X.blockNormal (X.next (C.region (R.ev rfl (E.move rfl) (R.ev rfl (E.add rfl rfl (by omega) (by omega)) ?_))))))))
 refine R.ev rfl (E.assign rfl) (R.done (X.keep [(0, _), (3, _), (4, _)] ⟨rfl, rfl, rfl, trivial⟩ ?_))
 exact X.again (k + 1, _, v62, F62) ⟨rfl, rfl, rfl, trivial⟩ ⟨by omega, r62, ins_ss ltV_swo ltV_tot hss hnew hb1 hstop, fun a => by rw [ins_mem, htk]; exact Or.comm, by simp [hj]; omega, hs.to⟩ (by show _ - _ < _ - _; omega)
 refine D.skipP 5 rfl (by kernel_rfl) rfl rfl rfl (np (by kernel_rfl)) (D.skipP 6 rfl (by kernel_rfl) rfl rfl rfl (np (by kernel_rfl)) (D.skipP 7 rfl (by kernel_rfl) rfl rfl rfl (np (by kernel_rfl)) (D.skipP 8 rfl (by kernel_rfl) rfl rfl rfl (np (by kernel_rfl)) (D.skipP 9 rfl (by kernel_rfl) rfl rfl rfl (np (by kernel_rfl)) (D.skipP 10 rfl (by kernel_rfl) rfl rfl rfl (np (by kernel_rfl)) (D.skipP 11 rfl (by kernel_rfl) rfl rfl rfl (np (by kernel_rfl)) (D.skipP 12 rfl (by kernel_rfl) rfl rfl rfl (np (by kernel_rfl)) (D.skipP 13 rfl (by kernel_rfl) rfl rfl rfl (np (by kernel_rfl)) ?_))))))))
 refine D.act 14 rfl (by kernel_rfl) (R.gskip rfl rfl rfl (D.backT (by kernel_rfl) (D.skipP 15 rfl (by kernel_rfl) rfl rfl rfl (np (by kernel_rfl)) (D.evP 16 rfl (by kernel_rfl) rfl (np (by kernel_rfl)) (fun _ => E.pickF rfl rfl) (D.done rfl (by kernel_rfl) (X.keep [(0, _), (3, _), (4, _), (5, _), (28, _)] ⟨rfl, rfl, rfl, rfl, rfl, trivial⟩ (X.next (C.cfalse rfl ?_))))))))
 refine C.exit (X.thenExit (X.loopExit (X.blockExit (X.next (C.seq (C.seq ?_))))))
 refine C.drawn (SatS hs) ([8, 13], [0, 1, 2, 3, 4, 5, 6, 7, 9, 10, 11, 12, 14, 15]) (by kernel_rfl) ?_
 have hs := hs.drew
 have hstop : ∀ x, O[j]? = some x → ltV x y.au = false := by
   exact fun x hx => by have := (List.getElem?_eq_some_iff.1 hx).1; have := of_decide_eq_false h16; omega
 refine D.evP 0 rfl (by kernel_rfl) rfl (fun _ => hs.to) (fun _ => E.move rfl) (D.evP 1 rfl (by kernel_rfl) rfl (fun _ => hs.to) (fun _ => E.move rfl) (D.evP 2 rfl (by kernel_rfl) rfl (fun _ => hs.to) (fun _ => E.lenSl rfl Tryz.underlying77) (D.evP 3 rfl (by kernel_rfl) rfl (fun _ => hs.to) (fun _ => E.lss rfl rfl) (D.evP 4 rfl (by kernel_rfl) rfl (fun _ => hs.to) (fun _ => E.move rfl) ?_))))
 refine D.split 35 rfl (fun h35 => ?_) (fun h35 => ?_)
 have h35' := of_decide_eq_true h35
 obtain ⟨z2, hz2⟩ : ∃ z, O[j]? = some z := ⟨_, List.getElem?_eq_getElem (by omega)⟩
 obtain ⟨bo2, ebo2⟩ := hado (by intro e; rw [e] at hz2; simp at hz2)
 have Az2 := hex bo2 ebo2 j z2 hz2
 have e3 := encV_len z2
 refine D.evPG 5 rfl (by kernel_rfl) rfl rfl rfl (fun _ => hs.to) (fun _ => E.move rfl) (D.evPG 6 rfl (by kernel_rfl) rfl rfl rfl (fun _ => hs.to) (fun _ => E.move rfl) ?_)
 refine D.evPG 7 rfl (by kernel_rfl) rfl rfl rfl (fun _ => hs.to) (fun _ => E.indexAddr (i := j) (b := bo2) (off := 0) (len := O.length) (cap := co) (by rw [ebo2]; rfl) rfl Tryz.underlying77 Tryz.sz28 rfl (by omega)) ?_
 refine D.evPG 9 rfl (by kernel_rfl) rfl rfl rfl (fun _ => hs.to) (fun _ => E.move rfl) (D.evPG 10 rfl (by kernel_rfl) rfl rfl rfl (fun _ => hs.to) (fun _ => E.move rfl) ?_)
 refine D.evPG 11 rfl (by kernel_rfl) rfl rfl rfl (fun _ => hs.to) (fun _ => E.indexAddr (i := k) rfl rfl Tryz.underlying25 Tryz.sz69 rfl (by omega)) ?_
 refine D.evPG 12 rfl (by kernel_rfl) rfl rfl rfl (fun _ => hs.to) (fun _ => E.fieldAddrN 32 rfl Tryz.underlying69 rfl Tryz.sz28 rfl) (D.evG 8 rfl (by kernel_rfl) rfl rfl rfl hs.to (fun _ hS => E.loadRowC rfl Tryz.underlying28 rfl Tryz.sz28 ⟨Az2 _ hS, Enc.len _⟩) (D.evG 13 rfl (by kernel_rfl) rfl rfl rfl hs.to (fun _ hS => E.loadRowC rfl Tryz.underlying28 rfl Tryz.sz28 (by exact At.partC ((by assumption : ∀ w', Sat _ w' _ → At w' _ _ _) _ hS))) ?_))
 refine D.evPG 14 rfl (by kernel_rfl) rfl rfl rfl (fun _ => hs.to) (fun _ => (E.eqV 10 (a := z2) (b := y.au) rfl rfl Tryz.lv28 rfl Tryz.underlying28 rfl Tryz.gd28)) ?_
 refine D.evP 15 rfl (by kernel_rfl) rfl (fun _ => hs.to) (fun _ => E.pickT rfl rfl) (D.done rfl (by kernel_rfl) (X.keep [(0, _), (3, _), (4, _), (5, _), (46, _)] ⟨rfl, rfl, rfl, rfl, rfl, trivial⟩ (X.next ?_)))
 refine C.cbool rfl (fun h46 => ?_) (fun h46 => ?_)
 refine C.exit (X.thenExit (X.blockExit (X.next (C.region (R.ev rfl (E.move rfl) (R.ev rfl (E.add rfl rfl (by omega) (by omega)) (R.ev rfl (E.assign rfl) (R.done ?_))))))))
 refine X.keep [(0, _), (3, _), (4, _)] ⟨rfl, rfl, rfl, trivial⟩ ?_
 (have hin : y.au ∈ O := by rw [← of_decide_eq_true h46]; exact List.mem_of_getElem? hz2
  exact X.again (k + 1, O, .slice ado O.length co, G1) ⟨rfl, rfl, rfl, trivial⟩ ⟨by omega, r1, hss, fun a => by rw [htk]; exact ⟨.inl, fun h => h.elim id (fun e => e ▸ hin)⟩, by omega, hs⟩ (by show _ - _ < _ - _; omega))
 refine C.skip (X.next ?_)
 refine C.drawn (SatS hs) ([9], [1, 2, 3, 5, 6, 7, 8, 12, 13, 14, 16]) (by kernel_rfl) ?_
 have hs := hs.drew
 refine D.evP 1 rfl (by kernel_rfl) rfl (fun _ => hs.to) (fun _ => E.move rfl) (D.evP 2 rfl (by kernel_rfl) rfl (fun _ => hs.to) (fun _ => E.move rfl) (D.evP 3 rfl (by kernel_rfl) rfl (fun _ => hs.to) (fun _ => E.sliceH rfl rfl Tryz.underlying77 Tryz.sz28 rfl (by omega)) (D.evP 5 rfl (by kernel_rfl) rfl (fun _ => hs.to) (fun _ => E.move rfl) (D.evP 6 rfl (by kernel_rfl) rfl (fun _ => hs.to) (fun _ => E.move rfl) ?_))))
 refine D.evP 7 rfl (by kernel_rfl) rfl (fun _ => hs.to) (fun _ => E.indexAddr (i := k) rfl rfl Tryz.underlying25 Tryz.sz69 rfl (by omega)) ?_
 refine D.evP 8 rfl (by kernel_rfl) rfl (fun _ => hs.to) (fun _ => E.fieldAddrN 32 rfl Tryz.underlying69 rfl Tryz.sz28 rfl) (D.evP 12 rfl (by kernel_rfl) rfl (fun _ => hs.to) (fun _ => E.move rfl) (D.evP 13 rfl (by kernel_rfl) rfl (fun _ => hs.to) (fun _ => E.move rfl) ?_))
 refine D.evP 14 rfl (by kernel_rfl) rfl (fun _ => hs.to) (fun _ => E.sliceLs (a := j) rfl rfl Tryz.underlying77 Tryz.sz28 rfl (by omega)) ?_
 refine D.ev 9 rfl (by kernel_rfl) rfl hs.to (fun _ hS => E.loadRowC rfl Tryz.underlying28 rfl Tryz.sz28 (by exact At.partC ((by assumption : ∀ w', Sat _ w' _ → At w' _ _ _) _ hS))) ?_
 refine D.act2 0 10 rfl rfl (by kernel_rfl) ?_ ?_
 have hnew : y.au ∉ O := by
   intro hin
   obtain ⟨i, hi⟩ := List.getElem?_of_mem hin
   rcases Nat.lt_trichotomy i j with h | h | h
   · have := hb1 i h _ hi; rw [ltV_swo.irrefl] at this; cases this
   · subst h
     (rw [hz2] at hi; simp at hi; exact of_decide_eq_false h46 hi)
   · obtain ⟨u, hu⟩ : ∃ u, O[j]? = some u := ⟨_, List.getElem?_eq_getElem (by have := (List.getElem?_eq_some_iff.1 hi).1; omega)⟩
     have h1 := ssA_lt hss hu hi h
     have h2 := hstop u hu
     rw [h1] at h2; cases h2
 have k1 : Rd encV 16 K (G1 :: Hs) (.slice ado j co) (O.take j) := Rd.preO (m := O.length) hj
 have k2 : Rd encV 16 K (G1 :: Hs) (.slice (subAd ado co j 16) (O.length - j) (co - j)) (O.drop j) := Rd.sufO (m := O.length) hj
 have hl1 : (O.take j).length = j := by rw [List.length_take]; omega
 have hl2 : (O.drop j).length = O.length - j := List.length_drop
 refine R.sbuild0 (enc := (encV (m := 16))) hs Tryz.underlying77 Tryz.sz28 rfl ?_
 intro v47 w47 F47 r47 nn47 hs
 refine D.back hs.to ?_
 refine D.act2 4 10 rfl rfl (by kernel_rfl) ?_ ?_
 refine R.cappSl hs rfl rfl Tryz.underlying77 Tryz.by28 (by rfl) rfl (by decide) (by (simp only [List.length_append, List.length_cons, List.length_nil] at *; omega)) (by (simp only [List.length_append, List.length_cons, List.length_nil] at *; omega)) ?_
 intro v51 w51 F51 r51 hs
 rw [List.nil_append] at r51
 refine D.back hs.to (D.act 10 rfl (by kernel_rfl) (R.buildSliceA rfl Tryz.underlying77 Tryz.sz28 Tryz.zr28 rfl (by assumption) (by decide) (by decide) ?_))
 intro b57 w57 n57
 have hs := hs.new n57
 refine D.backT (by kernel_rfl) (D.act 11 rfl (by kernel_rfl) ?_)
 refine R.capp1 (y.au) hs rfl rfl Tryz.underlying77 Tryz.by28 (by rfl) rfl (by exact hs.ldA) (by decide) (by omega) (by omega) ?_
 intro v58 w58 F58 r58 hs
 refine D.backT (by kernel_rfl) (D.act 15 rfl (by kernel_rfl) ?_)
 refine R.cappSl hs rfl rfl Tryz.underlying77 Tryz.by28 (by rfl) rfl (by decide) (by (simp only [List.length_append, List.length_cons, List.length_nil] at *; omega)) (by (simp only [List.length_append, List.length_cons, List.length_nil] at *; omega)) ?_
 intro v62 w62 F62 r62 hs
 refine D.backT (by kernel_rfl) (D.evP 16 rfl (by kernel_rfl) rfl (np (by kernel_rfl)) (fun _ => E.assign rfl) (D.done rfl (by kernel_rfl) (X.keep [(0, _), (3, _), (4, _)] ⟨rfl, rfl, rfl, trivial⟩ (X.blockNormal (X.next (C.region (R.ev rfl (E.move rfl) (R.ev rfl (E.add rfl rfl (by omega) (by omega)) ?_))))))))
 refine R.ev rfl (E.assign rfl) (R.done (X.keep [(0, _), (3, _), (4, _)] ⟨rfl, rfl, rfl, trivial⟩ ?_))
 exact X.again (k + 1, _, v62, F62) ⟨rfl, rfl, rfl, trivial⟩ ⟨by omega, r62, ins_ss ltV_swo ltV_tot hss hnew hb1 hstop, fun a => by rw [ins_mem, htk]; exact Or.comm, by simp [hj]; omega, hs.to⟩ (by show _ - _ < _ - _; omega)
 refine R.buildSliceA rfl Tryz.underlying77 Tryz.sz28 Tryz.zr28 rfl (by assumption) (by decide) (by decide) ?_
 intro b57 w57 n57
 have hs := hs.new n57
 refine D.backT (by kernel_rfl) (D.act 4 rfl (by kernel_rfl) ?_)
 refine R.cappSl hs rfl rfl Tryz.underlying77 Tryz.by28 (by rfl) rfl (by decide) (by (simp only [List.length_append, List.length_cons, List.length_nil] at *; omega)) (by (simp only [List.length_append, List.length_cons, List.length_nil] at *; omega)) ?_
 intro v51 w51 F51 r51 hs
 rw [List.nil_append] at r51
 refine D.backT (by kernel_rfl) (D.act 11 rfl (by kernel_rfl) ?_)
 refine R.capp1 (y.au) hs rfl rfl Tryz.underlying77 Tryz.by28 (by rfl) rfl (by exact hs.ldA) (by decide) (by omega) (by omega) ?_
 intro v58 w58 F58 r58 hs
 refine D.backT (by kernel_rfl) (D.act 15 rfl (by kernel_rfl) ?_)
 refine R.cappSl hs rfl rfl Tryz.underlying77 Tryz.by28 (by rfl) rfl (by decide) (by (simp only [List.length_append, List.length_cons, List.length_nil] at *; omega)) (by (simp only [List.length_append, List.length_cons, List.length_nil] at *; omega)) ?_
 intro v62 w62 F62 r62 hs
 refine D.backT (by kernel_rfl) (D.evP 16 rfl (by kernel_rfl) rfl (np (by kernel_rfl)) (fun _ => E.assign rfl) (D.done rfl (by kernel_rfl) (X.keep [(0, _), (3, _), (4, _)] ⟨rfl, rfl, rfl, trivial⟩ (X.blockNormal (X.next (C.region (R.ev rfl (E.move rfl) (R.ev rfl (E.add rfl rfl (by omega) (by omega)) ?_))))))))
 refine R.ev rfl (E.assign rfl) (R.done (X.keep [(0, _), (3, _), (4, _)] ⟨rfl, rfl, rfl, trivial⟩ ?_))
 exact X.again (k + 1, _, v62, F62) ⟨rfl, rfl, rfl, trivial⟩ ⟨by omega, r62, ins_ss ltV_swo ltV_tot hss hnew hb1 hstop, fun a => by rw [ins_mem, htk]; exact Or.comm, by simp [hj]; omega, hs.to⟩ (by show _ - _ < _ - _; omega)
 refine R.buildSliceA rfl Tryz.underlying77 Tryz.sz28 Tryz.zr28 rfl (by assumption) (by decide) (by decide) ?_
 intro b57 w57 n57
 have hs := hs.new n57
 refine D.backT (by kernel_rfl) ?_
 have hnew : y.au ∉ O := by
   intro hin
   obtain ⟨i, hi⟩ := List.getElem?_of_mem hin
   rcases Nat.lt_trichotomy i j with h | h | h
   · have := hb1 i h _ hi; rw [ltV_swo.irrefl] at this; cases this
   · subst h
     (rw [hz2] at hi; simp at hi; exact of_decide_eq_false h46 hi)
   · obtain ⟨u, hu⟩ : ∃ u, O[j]? = some u := ⟨_, List.getElem?_eq_getElem (by have := (List.getElem?_eq_some_iff.1 hi).1; omega)⟩
     have h1 := ssA_lt hss hu hi h
     have h2 := hstop u hu
     rw [h1] at h2; cases h2
 have k1 : Rd encV 16 K (G1 :: Hs) (.slice ado j co) (O.take j) := Rd.preO (m := O.length) hj
 have k2 : Rd encV 16 K (G1 :: Hs) (.slice (subAd ado co j 16) (O.length - j) (co - j)) (O.drop j) := Rd.sufO (m := O.length) hj
 have hl1 : (O.take j).length = j := by rw [List.length_take]; omega
 have hl2 : (O.drop j).length = O.length - j := List.length_drop
 refine D.act 0 rfl (by kernel_rfl) ?_
 refine R.sbuild0 (enc := (encV (m := 16))) hs Tryz.underlying77 Tryz.sz28 rfl ?_
 intro v47 w47 F47 r47 nn47 hs
 refine D.backT (by kernel_rfl) (D.act 4 rfl (by kernel_rfl) ?_)
 refine R.cappSl hs rfl rfl Tryz.underlying77 Tryz.by28 (by rfl) rfl (by decide) (by (simp only [List.length_append, List.length_cons, List.length_nil] at *; omega)) (by (simp only [List.length_append, List.length_cons, List.length_nil] at *; omega)) ?_
 intro v51 w51 F51 r51 hs
 rw [List.nil_append] at r51
 refine D.backT (by kernel_rfl) (D.act 11 rfl (by kernel_rfl) ?_)
 refine R.capp1 (y.au) hs rfl rfl Tryz.underlying77 Tryz.by28 (by rfl) rfl (by exact hs.ldA) (by decide) (by omega) (by omega) ?_
 intro v58 w58 F58 r58 hs
 refine D.backT (by kernel_rfl) (D.act 15 rfl (by kernel_rfl) ?_)
 refine R.cappSl hs rfl rfl Tryz.underlying77 Tryz.by28 (by rfl) rfl (by decide) (by (simp only [List.length_append, List.length_cons, List.length_nil] at *; omega)) (by (simp only [List.length_append, List.length_cons, List.length_nil] at *; omega)) ?_
 intro v62 w62 F62 r62 hs
 refine D.backT (by kernel_rfl) (D.evP 16 rfl (by kernel_rfl) rfl (np (by kernel_rfl)) (fun _ => E.assign rfl) (D.done rfl (by kernel_rfl) (X.keep [(0, _), (3, _), (4, _)] ⟨rfl, rfl, rfl, trivial⟩ (X.blockNormal (X.next (C.region (R.ev rfl (E.move rfl) (R.ev rfl (E.add rfl rfl (by omega) (by omega)) ?_))))))))
 refine R.ev rfl (E.assign rfl) (R.done (X.keep [(0, _), (3, _), (4, _)] ⟨rfl, rfl, rfl, trivial⟩ ?_))
 exact X.again (k + 1, _, v62, F62) ⟨rfl, rfl, rfl, trivial⟩ ⟨by omega, r62, ins_ss ltV_swo ltV_tot hss hnew hb1 hstop, fun a => by rw [ins_mem, htk]; exact Or.comm, by simp [hj]; omega, hs.to⟩ (by show _ - _ < _ - _; omega)
 refine D.skipP 5 rfl (by kernel_rfl) rfl rfl rfl (fun _ => hs.to) (D.skipP 6 rfl (by kernel_rfl) rfl rfl rfl (fun _ => hs.to) (D.skipP 7 rfl (by kernel_rfl) rfl rfl rfl (fun _ => hs.to) (D.skipP 9 rfl (by kernel_rfl) rfl rfl rfl (fun _ => hs.to) (D.skipP 10 rfl (by kernel_rfl) rfl rfl rfl (fun _ => hs.to) (D.skipP 11 rfl (by kernel_rfl) rfl rfl rfl (fun _ => hs.to) (D.skipP 12 rfl (by kernel_rfl) rfl rfl rfl (fun _ => hs.to) (D.skip 8 rfl (by kernel_rfl) rfl rfl rfl hs.to (D.skip 13 rfl (by kernel_rfl) rfl rfl rfl hs.to ?_))))))))
 refine D.skipP 14 rfl (by kernel_rfl) rfl rfl rfl (fun _ => hs.to) (D.evP 15 rfl (by kernel_rfl) rfl (fun _ => hs.to) (fun _ => E.pickF rfl rfl) (D.done rfl (by kernel_rfl) (X.keep [(0, _), (3, _), (4, _), (5, _), (46, _)] ⟨rfl, rfl, rfl, rfl, rfl, trivial⟩ (X.next (C.cfalse rfl (C.skip (X.next ?_)))))))
 refine C.drawn (SatS hs) ([9], [1, 2, 3, 5, 6, 7, 8, 12, 13, 14, 16]) (by kernel_rfl) ?_
 have hs := hs.drew
 refine D.evP 1 rfl (by kernel_rfl) rfl (fun _ => hs.to) (fun _ => E.move rfl) (D.evP 2 rfl (by kernel_rfl) rfl (fun _ => hs.to) (fun _ => E.move rfl) (D.evP 3 rfl (by kernel_rfl) rfl (fun _ => hs.to) (fun _ => E.sliceH rfl rfl Tryz.underlying77 Tryz.sz28 rfl (by omega)) (D.evP 5 rfl (by kernel_rfl) rfl (fun _ => hs.to) (fun _ => E.move rfl) (D.evP 6 rfl (by kernel_rfl) rfl (fun _ => hs.to) (fun _ => E.move rfl) ?_))))
 refine D.evP 7 rfl (by kernel_rfl) rfl (fun _ => hs.to) (fun _ => E.indexAddr (i := k) rfl rfl Tryz.underlying25 Tryz.sz69 rfl (by omega)) ?_
 refine D.evP 8 rfl (by kernel_rfl) rfl (fun _ => hs.to) (fun _ => E.fieldAddrN 32 rfl Tryz.underlying69 rfl Tryz.sz28 rfl) (D.evP 12 rfl (by kernel_rfl) rfl (fun _ => hs.to) (fun _ => E.move rfl) (D.evP 13 rfl (by kernel_rfl) rfl (fun _ => hs.to) (fun _ => E.move rfl) ?_))
 refine D.evP 14 rfl (by kernel_rfl) rfl (fun _ => hs.to) (fun _ => E.sliceLs (a := j) rfl rfl Tryz.underlying77 Tryz.sz28 rfl (by omega)) ?_
 refine D.ev 9 rfl (by kernel_rfl) rfl hs.to (fun _ hS => E.loadRowC rfl Tryz.underlying28 rfl Tryz.sz28 (by exact At.partC ((by assumption : ∀ w', Sat _ w' _ → At w' _ _ _) _ hS))) ?_
 refine D.act2 0 10 rfl rfl (by kernel_rfl) ?_ ?_
 have hnew : y.au ∉ O := by
   intro hin
   obtain ⟨i, hi⟩ := List.getElem?_of_mem hin
   rcases Nat.lt_trichotomy i j with h | h | h
   · have := hb1 i h _ hi; rw [ltV_swo.irrefl] at this; cases this
   · subst h
     (have := (List.getElem?_eq_some_iff.1 hi).1; have := of_decide_eq_false h35; omega)
   · obtain ⟨u, hu⟩ : ∃ u, O[j]? = some u := ⟨_, List.getElem?_eq_getElem (by have := (List.getElem?_eq_some_iff.1 hi).1; omega)⟩
     have h1 := ssA_lt hss hu hi h
     have h2 := hstop u hu
     rw [h1] at h2; cases h2
 have k1 : Rd encV 16 K (G1 :: Hs) (.slice ado j co) (O.take j) := Rd.preO (m := O.length) hj
 have k2 : Rd encV 16 K (G1 :: Hs) (.slice (subAd ado co j 16) (O.length - j) (co - j)) (O.drop j) := Rd.sufO (m := O.length) hj
 have hl1 : (O.take j).length = j := by rw [List.length_take]; omega
 have hl2 : (O.drop j).length = O.length - j := List.length_drop
 refine R.sbuild0 (enc := (encV (m := 16))) hs Tryz.underlying77 Tryz.sz28 rfl ?_
 intro v47 w47 F47 r47 nn47 hs
 refine D.back hs.to ?_
 refine D.act2 4 10 rfl rfl (by kernel_rfl) ?_ ?_
 refine R.cappSl hs rfl rfl Tryz.underlying77 Tryz.by28 (by rfl) rfl (by decide) (by (simp only [List.length_append, List.length_cons, List.length_nil] at *; omega)) (by (simp only [List.length_append, List.length_cons, List.length_nil] at *; omega)) ?_
 intro v51 w51 F51 r51 hs
 rw [List.nil_append] at r51
 refine D.back hs.to (D.act 10 rfl (by kernel_rfl) (R.buildSliceA rfl Tryz.underlying77 Tryz.sz28 Tryz.zr28 rfl (by assumption) (by decide) (by decide) ?_))
 intro b57 w57 n57
 have hs := hs.new n57
 refine D.backT (by kernel_rfl) (D.act 11 rfl (by kernel_rfl) ?_)
 refine R.capp1 (y.au) hs rfl rfl Tryz.underlying77 Tryz.by28 (by rfl) rfl (by exact hs.ldA) (by decide) (by omega) (by omega) ?_
 intro v58 w58 F58 r58 hs
 refine D.backT (by kernel_rfl) (D.act 15 rfl (by kernel_rfl) ?_)
 refine R.cappSl hs rfl rfl Tryz.underlying77 Tryz.by28 (by rfl) rfl (by decide) (by (simp only [List.length_append, List.length_cons, List.length_nil] at *; omega)) (by (simp only [List.length_append, List.length_cons, List.length_nil] at *; omega)) ?_
 intro v62 w62 F62 r62 hs
 refine D.backT (by kernel_rfl) (D.evP 16 rfl (by kernel_rfl) rfl (np (by kernel_rfl)) (fun _ => E.assign rfl) (D.done rfl (by kernel_rfl) (X.keep [(0, _), (3, _), (4, _)] ⟨rfl, rfl, rfl, trivial⟩ (X.blockNormal (X.next (C.region (R.ev rfl (E.move rfl) (R.ev rfl (E.add rfl rfl (by omega) (by omega)) ?_))))))))
 refine R.ev rfl (E.assign rfl) (R.done (X.keep [(0, _), (3, _), (4, _)] ⟨rfl, rfl, rfl, trivial⟩ ?_))
 exact X.again (k + 1, _, v62, F62) ⟨rfl, rfl, rfl, trivial⟩ ⟨by omega, r62, ins_ss ltV_swo ltV_tot hss hnew hb1 hstop, fun a => by rw [ins_mem, htk]; exact Or.comm, by simp [hj]; omega, hs.to⟩ (by show _ - _ < _ - _; omega)
 refine R.buildSliceA rfl Tryz.underlying77 Tryz.sz28 Tryz.zr28 rfl (by assumption) (by decide) (by decide) ?_
 intro b57 w57 n57
 have hs := hs.new n57
 refine D.backT (by kernel_rfl) (D.act 4 rfl (by kernel_rfl) ?_)
 refine R.cappSl hs rfl rfl Tryz.underlying77 Tryz.by28 (by rfl) rfl (by decide) (by (simp only [List.length_append, List.length_cons, List.length_nil] at *; omega)) (by (simp only [List.length_append, List.length_cons, List.length_nil] at *; omega)) ?_
 intro v51 w51 F51 r51 hs
 rw [List.nil_append] at r51
 refine D.backT (by kernel_rfl) (D.act 11 rfl (by kernel_rfl) ?_)
 refine R.capp1 (y.au) hs rfl rfl Tryz.underlying77 Tryz.by28 (by rfl) rfl (by exact hs.ldA) (by decide) (by omega) (by omega) ?_
 intro v58 w58 F58 r58 hs
 refine D.backT (by kernel_rfl) (D.act 15 rfl (by kernel_rfl) ?_)
 refine R.cappSl hs rfl rfl Tryz.underlying77 Tryz.by28 (by rfl) rfl (by decide) (by (simp only [List.length_append, List.length_cons, List.length_nil] at *; omega)) (by (simp only [List.length_append, List.length_cons, List.length_nil] at *; omega)) ?_
 intro v62 w62 F62 r62 hs
 refine D.backT (by kernel_rfl) (D.evP 16 rfl (by kernel_rfl) rfl (np (by kernel_rfl)) (fun _ => E.assign rfl) (D.done rfl (by kernel_rfl) (X.keep [(0, _), (3, _), (4, _)] ⟨rfl, rfl, rfl, trivial⟩ (X.blockNormal (X.next (C.region (R.ev rfl (E.move rfl) (R.ev rfl (E.add rfl rfl (by omega) (by omega)) ?_))))))))
 refine R.ev rfl (E.assign rfl) (R.done (X.keep [(0, _), (3, _), (4, _)] ⟨rfl, rfl, rfl, trivial⟩ ?_))
 exact X.again (k + 1, _, v62, F62) ⟨rfl, rfl, rfl, trivial⟩ ⟨by omega, r62, ins_ss ltV_swo ltV_tot hss hnew hb1 hstop, fun a => by rw [ins_mem, htk]; exact Or.comm, by simp [hj]; omega, hs.to⟩ (by show _ - _ < _ - _; omega)
 refine R.buildSliceA rfl Tryz.underlying77 Tryz.sz28 Tryz.zr28 rfl (by assumption) (by decide) (by decide) ?_
 intro b57 w57 n57
 have hs := hs.new n57
 refine D.backT (by kernel_rfl) ?_
 have hnew : y.au ∉ O := by
   intro hin
   obtain ⟨i, hi⟩ := List.getElem?_of_mem hin
   rcases Nat.lt_trichotomy i j with h | h | h
   · have := hb1 i h _ hi; rw [ltV_swo.irrefl] at this; cases this
   · subst h
     (have := (List.getElem?_eq_some_iff.1 hi).1; have := of_decide_eq_false h35; omega)
   · obtain ⟨u, hu⟩ : ∃ u, O[j]? = some u := ⟨_, List.getElem?_eq_getElem (by have := (List.getElem?_eq_some_iff.1 hi).1; omega)⟩
     have h1 := ssA_lt hss hu hi h
     have h2 := hstop u hu
     rw [h1] at h2; cases h2
 have k1 : Rd encV 16 K (G1 :: Hs) (.slice ado j co) (O.take j) := Rd.preO (m := O.length) hj
 have k2 : Rd encV 16 K (G1 :: Hs) (.slice (subAd ado co j 16) (O.length - j) (co - j)) (O.drop j) := Rd.sufO (m := O.length) hj
 have hl1 : (O.take j).length = j := by rw [List.length_take]; omega
 have hl2 : (O.drop j).length = O.length - j := List.length_drop
 refine D.act 0 rfl (by kernel_rfl) ?_
 refine R.sbuild0 (enc := (encV (m := 16))) hs Tryz.underlying77 Tryz.sz28 rfl ?_
 intro v47 w47 F47 r47 nn47 hs
 refine D.backT (by kernel_rfl) (D.act 4 rfl (by kernel_rfl) ?_)
 refine R.cappSl hs rfl rfl Tryz.underlying77 Tryz.by28 (by rfl) rfl (by decide) (by (simp only [List.length_append, List.length_cons, List.length_nil] at *; omega)) (by (simp only [List.length_append, List.length_cons, List.length_nil] at *; omega)) ?_
 intro v51 w51 F51 r51 hs
 rw [List.nil_append] at r51
 refine D.backT (by kernel_rfl) (D.act 11 rfl (by kernel_rfl) ?_)
 refine R.capp1 (y.au) hs rfl rfl Tryz.underlying77 Tryz.by28 (by rfl) rfl (by exact hs.ldA) (by decide) (by omega) (by omega) ?_
 intro v58 w58 F58 r58 hs
 refine D.backT (by kernel_rfl) (D.act 15 rfl (by kernel_rfl) ?_)
 refine R.cappSl hs rfl rfl Tryz.underlying77 Tryz.by28 (by rfl) rfl (by decide) (by (simp only [List.length_append, List.length_cons, List.length_nil] at *; omega)) (by (simp only [List.length_append, List.length_cons, List.length_nil] at *; omega)) ?_
 intro v62 w62 F62 r62 hs
 refine D.backT (by kernel_rfl) (D.evP 16 rfl (by kernel_rfl) rfl (np (by kernel_rfl)) (fun _ => E.assign rfl) (D.done rfl (by kernel_rfl) (X.keep [(0, _), (3, _), (4, _)] ⟨rfl, rfl, rfl, trivial⟩ (X.blockNormal (X.next (C.region (R.ev rfl (E.move rfl) (R.ev rfl (E.add rfl rfl (by omega) (by omega)) ?_))))))))
 refine R.ev rfl (E.assign rfl) (R.done (X.keep [(0, _), (3, _), (4, _)] ⟨rfl, rfl, rfl, trivial⟩ ?_))
 exact X.again (k + 1, _, v62, F62) ⟨rfl, rfl, rfl, trivial⟩ ⟨by omega, r62, ins_ss ltV_swo ltV_tot hss hnew hb1 hstop, fun a => by rw [ins_mem, htk]; exact Or.comm, by simp [hj]; omega, hs.to⟩ (by show _ - _ < _ - _; omega)
 refine C.exit (X.thenExit (X.loopExit (X.blockExit (X.next (C.seq (C.region (R.ev rfl (E.move rfl) (R.ev rfl (E.assign rfl) ?_))))))))
 refine R.done (X.keep [(2, _)] ⟨rfl, trivial⟩ (X.next (C.ret (X.ret1 rfl rfl ?_))))
 exact ⟨O, G1, r1, ⟨hss, fun a => by rw [hmem, List.take_of_length_le (show L.length ≤ k by omega)], by omega⟩, hs⟩
end Go.Proofs.YtbkgibgomohdjaaGreatDoor
