/-
 Chapter 19: Chain, Key, Judge.
-/
import Derived.Test.YtbkgibgomohdjaaGreatDoorKrC
namespace Go.Proofs.YtbkgibgomohdjaaGreatDoor
open Go.Eng Go.RowKit Go.Sort
variable {K : Kn} {Hs Rs : List Hl} {F : Hl} {w : World} {v : Value} {L : List RO} {p : Nat} {MK : MKn} {MR : MRo}
theorem nil_perm {α : Type} {S S' : List α} (p : S.Perm S') (h : S = []) : S' = [] := by subst h; exact p.nil_eq.symm
theorem least_perm {α : Type} {lt : α → α → Bool} {S S' : List α} {x : α} (h : Least lt S x) (p : S.Perm S') : Least lt S' x := ⟨p.mem_iff.1 h.mem, fun y hy => h.min y (p.mem_iff.2 hy)⟩
theorem len_pos {α : Type} {S : List α} (h : decide (0 < S.length) = true) : S ≠ [] := by intro e; rw [e] at h; simp at h
theorem len_zero {α : Type} {S : List α} (h : decide (0 < S.length) = false) : S = [] := by
 have := of_decide_eq_false h
 exact List.length_eq_zero_iff.1 (by omega)
theorem encK_lim (k : KY) (i : Int) : (encK k).set 18 (.int .i64 i) = encK ⟨k.n, k.pu, i, k.nx⟩ := by
 simp [encK, encP_len, List.set_append, List.set_cons_succ]
theorem encK_nx (k : KY) (a : Vec 32) : (encK k).take 19 ++ a.1.map ub ++ (encK k).drop (19 + 32) = encK ⟨k.n, k.pu, k.lim, a⟩ := by
 have e : encK k = ([.int .i64 k.n] ++ (encP k.pu ++ [.int .i64 k.lim])) ++ k.nx.1.map ub := by simp [encK]
 have l1 : ([.int .i64 k.n] ++ (encP k.pu ++ [.int .i64 k.lim]) : List Value).length = 19 := by simp [encP_len]
 rw [e, List.take_left' l1, List.drop_eq_nil_of_le (by simp [encP_len, k.nx.2]), List.append_nil]
 simp [encK]
theorem chain_any (a : Vec 16) (hI : KInv MK MR L) (hlen : L.length ≤ 100000) (hs : Sat K w Hs) [hw : KrIn p MK MR Hs] : Ret Tryz.prog 13 #[ptr p, idV a.1] w fun v w' => ∃ c F', RowL 39 encK 51 v c F' ∧ ChA L a c ∧ Sat K w' (F' :: Hs) := by
 obtain ⟨m1, G1, m2, V, G2, Xh, _, hm1, _, hm2, _, hX, _⟩ := hw.ex
 have e1 := encV_len a
 have rd0 : Rd encO 84 K Hs _ _ := allR_rd hX (a, 0)
 have hp0 : ((lkM MR (a, (0 : Int))).getD []).Perm (slotL L a 0) := hI.sl (a, 0)
 generalize (lkM MR (a, (0 : Int))).getD [] = S0 at rd0 hp0
 obtain ⟨ad0, cap0, he0, hc0, _⟩ := rd0.ex
 rw [he0] at rd0
 have hl0 : S0.length ≤ L.length := by rw [hp0.length_eq]; exact List.length_filter_le _ _
 have l1 := encT_len (a, 0)
 refine Ret.enter (n := 88) (args := [ptr p, idV a.1]) Tryz.func13 rfl rfl ?_
 refine C.keep [(0, _), (1, _)] ⟨rfl, rfl, trivial⟩ (C.seq (C.region ?_))
 refine R.sboxA hs rfl rfl ?_
 intro b3 w3 hs
 refine R.ev rfl (E.assign rfl) (R.done (X.keep [(0, _), (3, _)] ⟨rfl, rfl, trivial⟩ (X.next (C.seq (C.seq (C.region (R.ev rfl (E.move rfl) (R.ev rfl (E.eqlNilF rfl rfl Tryz.underlying24) ?_))))))))
 refine R.done (X.keep [(0, _), (3, _), (17, _)] ⟨rfl, rfl, rfl, trivial⟩ (X.next (C.cfalse rfl (C.skip (X.next (C.seq (C.region (R.ev rfl (E.assign rfl) ?_))))))))
 refine R.done (X.keep [(0, _), (3, _), (5, _)] ⟨rfl, rfl, rfl, trivial⟩ (X.next (C.seq (C.seq ?_))))
 refine C.drawn (SatS hs) ([3, 4, 6], [0, 1, 2, 5, 7, 8]) (by kernel_rfl) ?_
 have hs := hs.drew
 refine D.evP 0 rfl (by kernel_rfl) rfl (fun _ => hs.to) (fun _ => E.move rfl) (D.evP 1 rfl (by kernel_rfl) rfl (fun _ => hs.to) (fun _ => E.nilCheck rfl) (D.evP 2 rfl (by kernel_rfl) rfl (fun _ => hs.to) (fun _ => E.fieldAddr0 1 rfl Tryz.underlying86 rfl Tryz.sz84 rfl) (D.evP 8 rfl (by kernel_rfl) rfl (fun _ => hs.to) (fun _ => E.move rfl) (D.ev 3 rfl (by kernel_rfl) rfl hs.to (fun _ hS => E.load1 rfl Tryz.underlying84 rfl (by exact hS.ld rfl)) (D.ev 4 rfl (by kernel_rfl) rfl hs.to (fun _ hS => E.loadRowC rfl Tryz.underlying54 rfl Tryz.sz54 (by exact ⟨hS.ldA, by assumption⟩)) ?_)))))
 refine D.evP 5 rfl (by kernel_rfl) rfl (fun _ => hs.to) (fun _ => E.buildG (r := encT (a, 0)) rfl Tryz.underlying88 Tryz.zr88 Tryz.ql88 (by kernel_rfl) (by kernel_rfl) ⟨⟨_, rfl, by exact vsz _⟩, ⟨_, rfl, by rfl⟩, trivial⟩ (by rfl)) ?_
 refine D.ev 6 rfl (by kernel_rfl) rfl hs.to (fun _ hS => (E.lookupD (z0 := Value.slice none 0 0) hS rfl rfl Tryz.underlying84 (a, 0) (by rfl)).as (u := .slice ad0 S0.length cap0) he0) ?_
 refine D.evP 7 rfl (by kernel_rfl) rfl (fun _ => hs.to) (fun _ => E.lenSl rfl Tryz.underlying82) (D.done rfl (by kernel_rfl) (X.keep [(0, _), (3, _), (5, _), (24, _), (25, _), (26, _)] ⟨rfl, rfl, rfl, rfl, rfl, rfl, trivial⟩ (X.next (C.block ?_))))
 refine C.loop (T := Nat × Value × Hl) [(0, _), (3, _), (24, _), (25, _)] (fun (k, v, _) => [(5, v), (26, .int .i64 (k : Nat))]) (fun (k, v, F1) w' => k ≤ S0.length ∧ RowL 35 encP 17 v ((S0.take k).map RO.pu) F1 ∧ Sat K w' (F1 :: row b3 54 (a.1.map ub) :: Hs)) (fun (k, _) => S0.length - k) ((0, .slice none 0 0, [])) ⟨rfl, rfl, rfl, rfl, rfl, rfl, trivial⟩ ⟨Nat.zero_le _, RowL.nil _ _ _, hs.nil.to⟩ ?_
 rintro ⟨k, v5, F5⟩ w5 ⟨hk, r5, hs⟩
 have hml : ((S0.take k).map RO.pu).length ≤ 100000 := by rw [List.length_map, List.length_take]; omega
 refine C.keep [(0, _), (3, _), (5, _), (24, _), (25, _), (26, _)] ⟨rfl, rfl, rfl, rfl, rfl, rfl, trivial⟩ (C.seq (C.region (R.ev rfl (E.lss rfl rfl) (R.done (X.keep [(0, _), (3, _), (5, _), (24, _), (25, _), (26, _), (27, _)] ⟨rfl, rfl, rfl, rfl, rfl, rfl, rfl, trivial⟩ (X.next (C.seq ?_)))))))
 refine C.cdec rfl (fun h27 => ?_) (fun h27 => ?_)
 obtain ⟨y, bk_y, of_y, hy, my, ly, rfl, Ay⟩ := hs.el (i := k) (ad := ad0) (n := S0.length) (c := cap0) (by omega)
 have ay := Ay _ hs
 refine C.skip (X.next (C.seq (C.block (C.seq (C.region (R.ev rfl (E.indexAddr rfl rfl Tryz.underlying82 Tryz.sz90 rfl (by omega)) (R.ev rfl (E.loadRowC rfl Tryz.underlying90 rfl Tryz.sz90 (by exact ⟨by assumption, by assumption⟩)) ?_)))))))
 refine R.sallocA hs Tryz.zr90 rfl ?_
 intro b7 w7 hs
 refine R.cstoreAll hs rfl rfl Tryz.sz90 (by rfl) (by assumption) (by exact Enc.one _) ?_
 intro w6_3 hs
 try simp only [List.set_cons_zero, List.set_cons_succ] at hs
 refine R.done (X.keep [(0, _), (3, _), (5, _), (7, _), (24, _), (25, _), (26, _)] ⟨rfl, rfl, rfl, rfl, rfl, rfl, rfl, trivial⟩ (X.next (C.region (R.ev rfl (E.move rfl) (R.ev rfl (E.fieldAddr0 49 rfl Tryz.underlying90 rfl Tryz.sz35 rfl) (R.ev rfl (E.loadRowC rfl Tryz.underlying35 rfl Tryz.sz35 (by exact hs.ldp)) (R.buildSliceA rfl Tryz.underlying81 Tryz.sz35 Tryz.zr35 rfl (by exact Enc.len _) (by decide) (by decide) ?_)))))))
 intro b33 w33 n33
 have hs := hs.new n33
 refine R.capp1 (y.pu) hs rfl rfl Tryz.underlying81 Tryz.by35 (by rfl) rfl (by exact hs.ldA) (by decide) (by omega) (by omega) ?_
 intro v34 w34 F34 r34 hs
 refine R.ev rfl (E.assign rfl) (R.done (X.keep [(0, _), (3, _), (5, _), (24, _), (25, _), (26, _)] ⟨rfl, rfl, rfl, rfl, rfl, rfl, trivial⟩ (X.blockNormal (X.next (C.region (R.ev rfl (E.add rfl rfl (by omega) (by omega)) (R.ev rfl (E.move rfl) (R.done ?_))))))))
 refine X.keep [(0, _), (3, _), (5, _), (24, _), (25, _), (26, _)] ⟨rfl, rfl, rfl, rfl, rfl, rfl, trivial⟩ ?_
 exact X.again (k + 1, v34, F34) ⟨rfl, rfl, rfl, rfl, rfl, rfl, trivial⟩ ⟨by omega, by rw [take_snoc hy, List.map_append]; exact r34, hs.to⟩ (by show _ - _ < _ - _; omega)
 refine C.exit (X.thenExit (X.loopExit (X.blockExit (X.next (C.seq (C.region ?_))))))
 rw [List.take_of_length_le (show S0.length ≤ k by omega)] at r5 hml
 obtain ⟨ad5, cap5, rfl, _⟩ := r5.val
 refine R.ev rfl (E.move rfl) ?_
 refine R.call ⟨_, _, Tryz.func28, rfl, by kernel_rfl⟩ rfl rfl (smallP_any (L := S0.map RO.pu) hs (by omega)) ?_
 rintro _ w9 ⟨x0, rfl, _, hx0, hs⟩
 have hfp : (S0.map RO.pu).Perm (firsts L a) := hp0.map RO.pu
 refine R.ev rfl (E.move rfl) (R.ev rfl (E.extract rfl rfl) (R.ev rfl (E.extract rfl rfl) ?_))
 refine R.sallocA hs Tryz.zr35 rfl ?_
 intro b8 w8 hs
 refine R.cstoreAll hs rfl rfl Tryz.sz35 (by rfl) (by exact Enc.len _) (by exact Enc.one _) ?_
 intro w9_6 hs
 try simp only [List.set_cons_zero, List.set_cons_succ] at hs
 refine R.ev rfl (E.assign rfl) (R.done (X.keep [(0, _), (3, _), (8, _), (9, _)] ⟨rfl, rfl, rfl, rfl, trivial⟩ (X.next (C.seq (C.region (R.ev rfl (E.assign rfl) (R.done (X.keep [(0, _), (3, _), (8, _), (9, _), (10, _)] ⟨rfl, rfl, rfl, rfl, rfl, trivial⟩ ?_))))))))
 refine X.next (C.seq (C.block ?_))
 refine C.loop (T := Bool × PK × List KY × Value × Hl) [(0, _), (3, _), (8, _)] (fun (ok, _, _, v, _) => [(9, .bool ok), (10, v)]) (fun (ok, q, cp, v, F1) w' => RowL 39 encK 51 v cp F1 ∧ (ok = true → (∀ c, ChR L a (cp.length : Nat) q c → ChA L a (cp ++ c)) ∧ cp.length + cntN L (cp.length : Nat) ≤ L.length) ∧ (ok = false → ChA L a cp) ∧ Sat K w' (row b8 35 (encP q) :: F1 :: row b3 54 (a.1.map ub) :: Hs)) (fun (ok, _, cp, _) => cond ok (cntN L (cp.length : Nat) + 1) 0) ((decide (0 < (S0.map RO.pu).length), x0, [], .slice none 0 0, [])) ⟨rfl, rfl, rfl, rfl, rfl, trivial⟩ ⟨RowL.nil _ _ _, fun h => ⟨fun c hc => .inr ⟨x0, least_perm (hx0 (len_pos h)) hfp, hc⟩, by have := cntN_le L (([] : List KY).length : Nat); simp only [List.length_nil] at *; omega⟩, fun h => .inl ⟨nil_perm hfp (len_zero h), rfl⟩, hs.nil.to⟩ ?_
 rintro ⟨ok, q, cp, v10, F10⟩ w10 ⟨r10, hok, hno, hs⟩
 obtain ⟨ad10, cap10, rfl, _⟩ := r10.val
 have rd1 : Rd encO 84 K Hs _ _ := allR_rd hX (a, ((cp.length : Nat) : Int))
 have hp1 : ((lkM MR (a, ((cp.length : Nat) : Int))).getD []).Perm (slotL L a (cp.length : Nat)) := hI.sl (a, ((cp.length : Nat) : Int))
 generalize (lkM MR (a, ((cp.length : Nat) : Int))).getD [] = S1 at rd1 hp1
 obtain ⟨ad1, cap1, he1, hc1, _⟩ := rd1.ex
 rw [he1] at rd1
 have hl1 : S1.length ≤ L.length := by rw [hp1.length_eq]; exact List.length_filter_le _ _
 have l2 := encT_len (a, ((cp.length : Nat) : Int))
 have l3 := encP_len q
 have hep : (S1.filter fun r => decide (r.pu = q)).Perm (ends L a (cp.length : Nat) q) := hp1.filter _
 refine C.keep [(0, _), (3, _), (8, _), (9, _), (10, _)] ⟨rfl, rfl, rfl, rfl, rfl, trivial⟩ (C.seq (C.seq (C.region (R.ev rfl (E.move rfl) (R.done (X.keep [(0, _), (3, _), (8, _), (10, _), (41, _)] ⟨rfl, rfl, rfl, rfl, rfl, trivial⟩ (X.next ?_)))))))
 refine C.cbool rfl (fun h41 => ?_) (fun h41 => ?_)
 refine C.skip (X.next (C.block (C.seq (C.region ?_))))
 obtain ⟨hch, hcn⟩ := hok h41
 refine R.ev rfl (E.move rfl) (R.ev rfl (E.lenSl rfl Tryz.underlying47) (R.ev rfl (E.loadRowC rfl Tryz.underlying35 rfl Tryz.sz35 (by exact ⟨hs.ldA, by assumption⟩)) ?_))
 refine R.ev rfl (E.buildG (r := encK ⟨((cp.length : Nat) : Int), q, -1, kvz⟩) rfl Tryz.underlying39 Tryz.zr39 Tryz.ql39 (by kernel_rfl) (by kernel_rfl) ⟨⟨_, rfl, by rfl⟩, ⟨_, rfl, by simp [Value.cells, *]⟩, ⟨_, rfl, by rfl⟩, trivial⟩ (by rfl)) ?_
 refine R.sallocA hs Tryz.zr39 rfl ?_
 intro b11 w11 hs
 refine R.cstoreAll hs rfl rfl Tryz.sz39 (by rfl) (by exact Enc.len _) (by exact Enc.one _) ?_
 intro w12_5 hs
 try simp only [List.set_cons_zero, List.set_cons_succ] at hs
 refine R.done (X.keep [(0, _), (3, _), (8, _), (10, _), (11, _)] ⟨rfl, rfl, rfl, rfl, rfl, trivial⟩ (X.next (C.seq (C.region (R.ev rfl (E.assign rfl) (R.done (X.keep [(0, _), (3, _), (8, _), (10, _), (11, _), (12, _)] ⟨rfl, rfl, rfl, rfl, rfl, rfl, trivial⟩ (X.next ?_))))))))
 refine C.seq (C.seq ?_)
 refine C.drawn (SatS hs) ([3, 4, 6, 8], [0, 1, 2, 5, 7, 9, 10]) (by kernel_rfl) ?_
 have hs := hs.drew
 refine D.evP 0 rfl (by kernel_rfl) rfl (fun _ => hs.to) (fun _ => E.move rfl) (D.evP 1 rfl (by kernel_rfl) rfl (fun _ => hs.to) (fun _ => E.nilCheck rfl) (D.evP 2 rfl (by kernel_rfl) rfl (fun _ => hs.to) (fun _ => E.fieldAddr0 1 rfl Tryz.underlying86 rfl Tryz.sz84 rfl) (D.evP 5 rfl (by kernel_rfl) rfl (fun _ => hs.to) (fun _ => E.fieldAddr0 0 rfl Tryz.underlying39 rfl Tryz.sz3 rfl) (D.evP 10 rfl (by kernel_rfl) rfl (fun _ => hs.to) (fun _ => E.move rfl) (D.ev 3 rfl (by kernel_rfl) rfl hs.to (fun _ hS => E.load1 rfl Tryz.underlying84 rfl (by exact hS.ld rfl)) (D.ev 4 rfl (by kernel_rfl) rfl hs.to (fun _ hS => E.loadRowC rfl Tryz.underlying54 rfl Tryz.sz54 (by exact ⟨hS.ldA, by assumption⟩)) (D.ev 6 rfl (by kernel_rfl) rfl hs.to (fun _ hS => E.load1 rfl Tryz.underlying3 rfl (by exact hS.ldc)) ?_)))))))
 refine D.evP 7 rfl (by kernel_rfl) rfl (fun _ => hs.to) (fun _ => E.buildG (r := encT (a, ((cp.length : Nat) : Int))) rfl Tryz.underlying88 Tryz.zr88 Tryz.ql88 (by kernel_rfl) (by kernel_rfl) ⟨⟨_, rfl, by exact vsz _⟩, ⟨_, rfl, by rfl⟩, trivial⟩ (by rfl)) ?_
 refine D.ev 8 rfl (by kernel_rfl) rfl hs.to (fun _ hS => (E.lookupD (z0 := Value.slice none 0 0) hS rfl rfl Tryz.underlying84 (a, ((cp.length : Nat) : Int)) (by rfl)).as (u := .slice ad1 S1.length cap1) he1) ?_
 refine D.evP 9 rfl (by kernel_rfl) rfl (fun _ => hs.to) (fun _ => E.lenSl rfl Tryz.underlying82) (D.done rfl (by kernel_rfl) (X.keep [(0, _), (3, _), (8, _), (10, _), (11, _), (12, _), (54, _), (55, _), (56, _)] ⟨rfl, rfl, rfl, rfl, rfl, rfl, rfl, rfl, rfl, trivial⟩ (X.next (C.block ?_))))
 refine C.loop (T := Nat × Value × Hl) [(0, _), (3, _), (8, _), (10, _), (11, _), (54, _), (55, _)] (fun (k, v, _) => [(12, v), (56, .int .i64 (k : Nat))]) (fun (k, v, F1) w' => k ≤ S1.length ∧ RowL 90 encO 84 v ((S1.take k).filter fun r => decide (r.pu = q)) F1 ∧ Sat K w' (F1 :: row b11 39 (encK ⟨((cp.length : Nat) : Int), q, -1, kvz⟩) :: row b8 35 (encP q) :: F10 :: row b3 54 (a.1.map ub) :: Hs)) (fun (k, _) => S1.length - k) ((0, .slice none 0 0, [])) ⟨rfl, rfl, rfl, rfl, rfl, rfl, rfl, rfl, rfl, trivial⟩ ⟨Nat.zero_le _, RowL.nil _ _ _, hs.nil.to⟩ ?_
 rintro ⟨k, v12, F12⟩ w12 ⟨hk, r12, hs⟩
 have hml : ((S1.take k).filter fun r => decide (r.pu = q)).length ≤ 100000 := by have := List.length_filter_le (fun r => decide (RO.pu r = q)) (S1.take k); rw [List.length_take] at this; omega
 refine C.keep [(0, _), (3, _), (8, _), (10, _), (11, _), (12, _), (54, _), (55, _), (56, _)] ⟨rfl, rfl, rfl, rfl, rfl, rfl, rfl, rfl, rfl, trivial⟩ (C.seq (C.region (R.ev rfl (E.lss rfl rfl) (R.done (X.keep [(0, _), (3, _), (8, _), (10, _), (11, _), (12, _), (54, _), (55, _), (56, _), (57, _)] ⟨rfl, rfl, rfl, rfl, rfl, rfl, rfl, rfl, rfl, rfl, trivial⟩ (X.next (C.seq ?_)))))))
 refine C.cdec rfl (fun h57 => ?_) (fun h57 => ?_)
 obtain ⟨y, bk_y, of_y, hy, my, ly, rfl, Ay⟩ := hs.el (i := k) (ad := ad1) (n := S1.length) (c := cap1) (by omega)
 have ay := Ay _ hs
 refine C.skip (X.next (C.seq (C.block (C.seq (C.region (R.ev rfl (E.indexAddr rfl rfl Tryz.underlying82 Tryz.sz90 rfl (by omega)) (R.ev rfl (E.loadRowC rfl Tryz.underlying90 rfl Tryz.sz90 (by exact ⟨by assumption, by assumption⟩)) ?_)))))))
 refine R.sallocA hs Tryz.zr90 rfl ?_
 intro b14 w14 hs
 refine R.cstoreAll hs rfl rfl Tryz.sz90 (by rfl) (by assumption) (by exact Enc.one _) ?_
 intro w16_3 hs
 try simp only [List.set_cons_zero, List.set_cons_succ] at hs
 refine R.done (X.keep [(0, _), (3, _), (8, _), (10, _), (11, _), (12, _), (14, _), (54, _), (55, _), (56, _)] ⟨rfl, rfl, rfl, rfl, rfl, rfl, rfl, rfl, rfl, rfl, trivial⟩ (X.next (C.seq (C.region (R.ev rfl (E.fieldAddr0 49 rfl Tryz.underlying90 rfl Tryz.sz35 rfl) (R.ev rfl (E.loadRowC rfl Tryz.underlying35 rfl Tryz.sz35 (by exact hs.ldp)) (R.ev rfl (E.loadRowC rfl Tryz.underlying35 rfl Tryz.sz35 (by exact ⟨hs.ldA, by assumption⟩)) ?_)))))))
 refine R.ev rfl ((E.eqlAgg 10 rfl rfl Tryz.lv35 rfl Tryz.underlying35 rfl Tryz.gd35 (encP_fits y.pu) (encP_fits q)).isB (c := decide (y.pu = q)) encP_eq) ?_
 refine R.done (X.keep [(0, _), (3, _), (8, _), (10, _), (11, _), (12, _), (14, _), (54, _), (55, _), (56, _), (63, _)] ⟨rfl, rfl, rfl, rfl, rfl, rfl, rfl, rfl, rfl, rfl, rfl, trivial⟩ (X.next ?_))
 refine C.cbool rfl (fun h63 => ?_) (fun h63 => ?_)
 refine C.region (R.ev rfl (E.move rfl) (R.ev rfl (E.loadRowC rfl Tryz.underlying90 rfl Tryz.sz90 (by exact ⟨hs.ldA, by assumption⟩)) (R.buildSliceA rfl Tryz.underlying82 Tryz.sz90 Tryz.zr90 rfl (by assumption) (by decide) (by decide) ?_)))
 intro b66 w66 n66
 have hs := hs.new n66
 refine R.capp1 (y) hs rfl rfl Tryz.underlying82 Tryz.by90 (by rfl) rfl (by exact hs.ldA) (by decide) (by omega) (by omega) ?_
 intro v67 w67 F67 r67 hs
 refine R.ev rfl (E.assign rfl) (R.done (X.keep [(0, _), (3, _), (8, _), (10, _), (11, _), (12, _), (54, _), (55, _), (56, _)] ⟨rfl, rfl, rfl, rfl, rfl, rfl, rfl, rfl, rfl, trivial⟩ (X.blockNormal (X.next (C.region (R.ev rfl (E.add rfl rfl (by omega) (by omega)) (R.ev rfl (E.move rfl) (R.done ?_))))))))
 refine X.keep [(0, _), (3, _), (8, _), (10, _), (11, _), (12, _), (54, _), (55, _), (56, _)] ⟨rfl, rfl, rfl, rfl, rfl, rfl, rfl, rfl, rfl, trivial⟩ ?_
 exact X.again (k + 1, v67, F67) ⟨rfl, rfl, rfl, rfl, rfl, rfl, rfl, rfl, rfl, trivial⟩ ⟨by omega, by rw [take_snoc hy, List.filter_append, List.filter_cons_of_pos (by simpa using h63)]; exact r67, hs.to⟩ (by show _ - _ < _ - _; omega)
 refine C.skip (X.blockNormal (X.next (C.region (R.ev rfl (E.add rfl rfl (by omega) (by omega)) (R.ev rfl (E.move rfl) (R.done (X.keep [(0, _), (3, _), (8, _), (10, _), (11, _), (12, _), (54, _), (55, _), (56, _)] ⟨rfl, rfl, rfl, rfl, rfl, rfl, rfl, rfl, rfl, trivial⟩ ?_)))))))
 exact X.again (k + 1, v12, F12) ⟨rfl, rfl, rfl, rfl, rfl, rfl, rfl, rfl, rfl, trivial⟩ ⟨by omega, by rw [take_snoc hy, List.filter_append, List.filter_cons_of_neg (by simpa using h63)]; simpa using r12, hs.to⟩ (by show _ - _ < _ - _; omega)
 refine C.exit (X.thenExit (X.loopExit (X.blockExit (X.next (C.seq (C.region ?_))))))
 refine R.sallocA hs Tryz.zr90 rfl ?_
 intro b15 w15 hs
 refine R.done (X.keep [(0, _), (3, _), (8, _), (10, _), (11, _), (12, _), (15, _)] ⟨rfl, rfl, rfl, rfl, rfl, rfl, rfl, trivial⟩ (X.next (C.seq (C.seq (C.region ?_)))))
 rw [List.take_of_length_le (show S1.length ≤ k by omega)] at r12 hml
 obtain ⟨ad12, cap12, rfl, _⟩ := r12.val
 refine R.ev rfl (E.move rfl) ?_
 refine R.call ⟨_, _, Tryz.func30, rfl, by kernel_rfl⟩ rfl rfl (smallO_any (L := S1.filter fun r => decide (r.pu = q)) hs (by omega)) ?_
 rintro _ w21 ⟨x1, rfl, _, hx1, hs⟩
 refine R.ev rfl (E.move rfl) (R.ev rfl (E.extract rfl rfl) (R.ev rfl (E.extract rfl rfl) ?_))
 refine R.cstoreAll hs rfl rfl Tryz.sz90 (by rfl) (by exact Enc.len _) (by exact Enc.one _) ?_
 intro w21_5 hs
 try simp only [List.set_cons_zero, List.set_cons_succ] at hs
 refine R.ev rfl (E.assign rfl) (R.done (X.keep [(0, _), (3, _), (8, _), (9, _), (10, _), (11, _), (15, _)] ⟨rfl, rfl, rfl, rfl, rfl, rfl, rfl, trivial⟩ (X.next (C.seq (C.region (R.ev rfl (E.move rfl) (R.done (X.keep [(0, _), (3, _), (8, _), (9, _), (10, _), (11, _), (15, _), (74, _)] ⟨rfl, rfl, rfl, rfl, rfl, rfl, rfl, rfl, trivial⟩ ?_))))))))
 refine X.next ?_
 refine C.cbool rfl (fun h74 => ?_) (fun h74 => ?_)
 refine C.drawn (fun w1 => Sat K w1 [row b15 90 (encO x1)]) ([1, 3, 5], [0, 2, 4, 6, 8]) (by kernel_rfl) ?_
 have hs := hs.drew
 refine D.evP 0 rfl (by kernel_rfl) rfl (fun _ => hs.to) (fun _ => E.fieldAddr0 66 rfl Tryz.underlying90 rfl Tryz.sz3 rfl) (D.evP 2 rfl (by kernel_rfl) rfl (fun _ => hs.to) (fun _ => E.fieldAddr0 0 rfl Tryz.underlying90 rfl Tryz.sz37 rfl) (D.evP 4 rfl (by kernel_rfl) rfl (fun _ => hs.to) (fun _ => E.fieldAddr0 67 rfl Tryz.underlying90 rfl Tryz.sz35 rfl) (D.ev 1 rfl (by kernel_rfl) rfl hs.to (fun _ hS => E.load1 rfl Tryz.underlying3 rfl (by exact hS.ldc)) (D.evP 6 rfl (by kernel_rfl) rfl (fun _ => hs.to) (fun _ => E.fieldAddr0 18 rfl Tryz.underlying39 rfl Tryz.sz3 rfl) (D.ev 3 rfl (by kernel_rfl) rfl hs.to (fun _ hS => E.loadRowC rfl Tryz.underlying37 rfl Tryz.sz37 (by exact ⟨hS.ldP rfl, by exact encV_len _⟩)) (D.ev 5 rfl (by kernel_rfl) rfl hs.to (fun _ hS => E.loadRowC rfl Tryz.underlying35 rfl Tryz.sz35 (by exact hS.ldp)) (D.act 7 rfl (by kernel_rfl) ?_)))))))
 refine R.cstore1 (b := b11) hs rfl rfl Tryz.sz3 (by rw [encK_len]; decide) rfl ?_
 intro w237 hs
 rw [encK_lim] at hs
 dsimp only at hs
 refine D.back hs.to (D.evP 8 rfl (by kernel_rfl) rfl (fun _ => hs.to) (fun _ => E.fieldAddr0 19 rfl Tryz.underlying39 rfl Tryz.sz37 rfl) (D.act 9 rfl (by kernel_rfl) ?_))
 refine R.cstore (b := b11) hs rfl rfl Tryz.sz37 (encV_len _) (by rw [encK_len]; decide) (ub_all _) ?_
 intro w239 hs
 rw [encK_nx] at hs
 dsimp only at hs
 refine D.back hs.to (D.act 10 rfl (by kernel_rfl) ?_)
 refine R.cstoreAll (b := b8) hs rfl rfl Tryz.sz35 (encP_len _) (encP_len _) (encP_one _) ?_
 intro w2310 hs
 refine D.backT (by kernel_rfl) (D.done rfl (by kernel_rfl) (X.keep [(0, _), (3, _), (8, _), (9, _), (10, _), (11, _)] ⟨rfl, rfl, rfl, rfl, rfl, rfl, trivial⟩ (X.next (C.region ?_))))
 have hcl : cp.length ≤ L.length := by omega
 refine R.ev rfl (E.move rfl) (R.ev rfl (E.loadRowC rfl Tryz.underlying39 rfl Tryz.sz39 (by exact ⟨hs.ldA, by exact Enc.len _⟩)) (R.buildSliceA rfl Tryz.underlying47 Tryz.sz39 Tryz.zr39 rfl (by exact Enc.len _) (by decide) (by decide) ?_))
 intro b85 w85 n85
 have hs := hs.new n85
 refine R.capp1 (_) hs rfl rfl Tryz.underlying47 Tryz.by39 (by rfl) rfl (by exact hs.ldA) (by decide) (by omega) (by omega) ?_
 intro v86 w86 F86 r86 hs
 refine R.ev rfl (E.assign rfl) (R.done (X.keep [(0, _), (3, _), (8, _), (9, _), (10, _)] ⟨rfl, rfl, rfl, rfl, rfl, trivial⟩ (X.blockNormal ?_)))
 (have hle := least_perm (hx1 (len_pos h74)) hep
  have hmm := mem_ends.1 hle.mem
  have hc2 := cntN_lt hmm.1 hmm.2.2.1
  have hln : ∀ k : KY, (((cp ++ [k]).length : Nat) : Int) = ((cp.length : Nat) : Int) + 1 := fun k => by simp
  refine X.again (_, x1.nw, _, v86, F86) ⟨rfl, rfl, rfl, rfl, rfl, trivial⟩ ⟨r86, fun _ => ⟨fun c hc => ?_, ?_⟩, fun h => absurd (h74.symm.trans h) (by decide), hs.to⟩ ?_
  · rw [hln] at hc
    rw [List.append_assoc]
    exact hch _ (ChR.cons hle hc)
  · rw [hln]; simp only [List.length_append, List.length_singleton]; omega
  · show cond _ _ _ < cond ok _ _
    rw [h74, h41, hln]; simp only [cond_true]; omega)
 refine C.skip (X.next (C.region ?_))
 have hcl : cp.length ≤ L.length := by omega
 refine R.ev rfl (E.move rfl) (R.ev rfl (E.loadRowC rfl Tryz.underlying39 rfl Tryz.sz39 (by exact ⟨hs.ldA, by exact Enc.len _⟩)) (R.buildSliceA rfl Tryz.underlying47 Tryz.sz39 Tryz.zr39 rfl (by exact Enc.len _) (by decide) (by decide) ?_))
 intro b85 w85 n85
 have hs := hs.new n85
 refine R.capp1 (_) hs rfl rfl Tryz.underlying47 Tryz.by39 (by rfl) rfl (by exact hs.ldA) (by decide) (by omega) (by omega) ?_
 intro v86 w86 F86 r86 hs
 refine R.ev rfl (E.assign rfl) (R.done (X.keep [(0, _), (3, _), (8, _), (9, _), (10, _)] ⟨rfl, rfl, rfl, rfl, rfl, trivial⟩ (X.blockNormal ?_)))
 (refine X.again (_, q, _, v86, F86) ⟨rfl, rfl, rfl, rfl, rfl, trivial⟩ ⟨r86, fun h => absurd (h74.symm.trans h) (by decide), fun _ => ?_, hs.to⟩ ?_
  · exact hch _ (ChR.last (nil_perm hep (len_zero h74)))
  · show cond _ _ _ < cond ok _ _
    rw [h74, h41]; simp only [cond_true, cond_false]; omega)
 refine C.exit (X.thenExit (X.loopExit (X.blockExit (X.next (C.seq (C.region (R.ev rfl (E.move rfl) (R.ev rfl (E.assign rfl) ?_))))))))
 refine R.done (X.keep [(4, _)] ⟨rfl, trivial⟩ (X.next (C.ret (X.ret1 rfl rfl ?_))))
 exact ⟨cp, F10, r10, hno h41, hs.to⟩
end Go.Proofs.YtbkgibgomohdjaaGreatDoor
