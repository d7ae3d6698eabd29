/-
  Chapter 41: set, Play; the reference's Add and Drop.
-/
import Derived.Test.YtmjmichghfepkaaSupS
namespace Go.Proofs.Ytmjmichghfepkaa
open Go.Eng Go.RowKit Go.Sort
variable {K : Kn} {Hs Rs : List Hl} {F : Hl} {w : World} {v : Value} {L : List RR} {p : Nat} {M : SMap}
theorem set_any {A : List RA} (hG : GL K A) (hA : A.length ≤ 100) (hs : Sat K w Hs) [hr : Rd encA 83 K Hs v A] : Ret Try.prog 26 #[v] w fun r w' =>
    ∃ K' p M F L' ok, r = .tuple #[ptr p, .bool ok] ∧ KLe K K' ∧ SInv M L' ∧ GAll K' M ∧ SuL p M F ∧ (ok = true → L' = A.map RA.x) ∧ Sat K' w' (F :: Hs) := by
  obtain ⟨ad, cap, rfl, hcap, _⟩ := hr.ex
  refine Ret.enter (n := 21) (args := [.slice ad A.length cap]) Try.func26 rfl rfl ?_
  refine C.keep [(0, _)] ⟨rfl, trivial⟩ ?_
  refine C.seq ?_
  refine C.region ?_
  refine R.ev rfl (E.assign rfl) ?_
  refine R.ev rfl (E.assign rfl) ?_
  refine R.done ?_
  refine X.keep [(0, _)] ⟨rfl, trivial⟩ ?_
  refine X.next ?_
  refine C.seq ?_
  refine C.region ?_
  refine R.call ⟨_, _, Try.func48, rfl, by kernel_rfl⟩ rfl rfl (new_any hs) ?_
  rintro _ w1 ⟨p, F, rfl, hw, hs⟩
  refine R.ev rfl (E.assign rfl) ?_
  refine R.done ?_
  refine X.keep [(0, _), (2, _)] ⟨rfl, rfl, trivial⟩ ?_
  refine X.next ?_
  refine C.seq ?_
  refine C.seq ?_
  refine C.region ?_
  refine R.ev rfl (E.assign rfl) ?_
  refine R.done ?_
  refine X.keep [(0, _), (2, _), (4, _)] ⟨rfl, rfl, rfl, trivial⟩ ?_
  refine X.next ?_
  refine C.block ?_
  refine C.loop (T := Nat × Kn × SMap × Hl) [(0, _)] (fun (k, _, _, _) => [(2, ptr p), (4, .int .i64 (k : Nat))]) (fun (k, K1, M, F1) w' => k ≤ A.length ∧ KLe K K1 ∧ SInv M ((A.take k).map RA.x) ∧ GAll K1 M ∧ SuL p M F1 ∧ Sat K1 w' (F1 :: Hs)) (fun (k, _) => A.length - k) ((0, K, [], F)) ⟨rfl, rfl, rfl, trivial⟩ ⟨Nat.zero_le _, KLe.refl K, SInv.nil, (fun _ h => nomatch h), hw, hs⟩ ?_
  rintro ⟨k, K1, M, F1⟩ w2 ⟨hk, hk1, hI, hGM, hw1, hs⟩
  refine C.keep [(0, _), (2, _), (4, _)] ⟨rfl, rfl, rfl, trivial⟩ ?_
  refine C.seq ?_
  refine C.seq ?_
  refine C.region ?_
  refine R.ev rfl (E.move rfl) ?_
  refine R.ev rfl (E.move rfl) ?_
  refine R.ev rfl (E.lenSl rfl Try.underlying27) ?_
  refine R.ev rfl (E.lss rfl rfl) ?_
  refine R.done ?_
  refine X.keep [(0, _), (2, _), (4, _), (9, _)] ⟨rfl, rfl, rfl, rfl, trivial⟩ ?_
  refine X.next ?_
  refine C.cdec rfl (fun h9 => ?_) (fun h9 => ?_)
  obtain ⟨y, bk_y, of_y, hy, my, ly, rfl, Ay⟩ := hs.el (i := k) (ad := ad) (n := A.length) (c := cap) (by omega)
  have ay := Ay _ hs
  refine C.skip ?_
  refine X.next ?_
  refine C.seq ?_
  refine C.block ?_
  refine C.seq ?_
  refine C.region ?_
  refine R.ev rfl (E.move rfl) ?_
  refine R.ev rfl (E.move rfl) ?_
  refine R.ev rfl (E.move rfl) ?_
  refine R.ev rfl (E.indexAddr rfl rfl Try.underlying27 Try.sz42 rfl (by omega)) ?_
  refine R.ev rfl (E.loadRowC rfl Try.underlying42 rfl Try.sz42 (by exact ⟨by assumption, by assumption⟩)) ?_
  refine R.call ⟨_, _, Try.func29, rfl, by kernel_rfl⟩ rfl rfl (add_any ((hG y my).mono hk1) hI hGM (hs.front (F := F1))) ?_
  rintro _ w5 ⟨rfl, K5, M5, F5, hk5, hI5, hG5, hw5, hs1⟩
  have hs := hs.back (F := F1) hs1
  refine R.ev rfl (E.neq rfl rfl) ?_
  refine R.done ?_
  refine X.keep [(0, _), (2, _), (4, _), (18, _)] ⟨rfl, rfl, rfl, rfl, trivial⟩ ?_
  refine X.next ?_
  refine C.cdec rfl (fun h18 => ?_) (fun h18 => ?_)
  refine C.seq ?_
  refine C.region ?_
  refine R.ev rfl (E.move rfl) ?_
  refine R.ev rfl (E.assign rfl) ?_
  refine R.ev rfl (E.assign rfl) ?_
  refine R.done ?_
  refine X.keep [(2, _), (3, _)] ⟨rfl, rfl, trivial⟩ ?_
  refine X.next ?_
  refine C.ret ?_
  refine X.blockRet ?_
  refine X.thenRet ?_
  refine X.loopRet ?_
  refine X.blockRet ?_
  refine X.thenRet ?_
  refine X.ret2 rfl rfl rfl ?_
  exact ⟨K5, p, M5, F5, _, false, rfl, hk1.trans hk5, hI5, hG5, hw5, (fun h => nomatch h), hs⟩
  refine C.skip ?_
  refine X.blockNormal ?_
  refine X.next ?_
  refine C.region ?_
  refine R.ev rfl (E.move rfl) ?_
  refine R.ev rfl (E.add rfl rfl (by omega) (by omega)) ?_
  refine R.ev rfl (E.assign rfl) ?_
  refine R.done ?_
  refine X.keep [(0, _), (2, _), (4, _)] ⟨rfl, rfl, rfl, trivial⟩ ?_
  exact X.again (k + 1, K5, M5, F5) ⟨rfl, rfl, rfl, trivial⟩ ⟨by omega, hk1.trans hk5, by rw [rAddL, if_pos (Decidable.not_not.1 h18)] at hI5; rw [take_snoc hy, List.map_append]; exact hI5, hG5, hw5, hs⟩ (by show _ - _ < _ - _; omega)
  refine C.exit ?_
  refine X.thenExit ?_
  refine X.loopExit ?_
  refine X.blockExit ?_
  refine X.next ?_
  refine C.seq ?_
  refine C.region ?_
  refine R.ev rfl (E.move rfl) ?_
  refine R.ev rfl (E.assign rfl) ?_
  refine R.ev rfl (E.assign rfl) ?_
  refine R.done ?_
  refine X.keep [(2, _), (3, _)] ⟨rfl, rfl, trivial⟩ ?_
  refine X.next ?_
  refine C.ret ?_
  refine X.ret2 rfl rfl rfl ?_
  exact ⟨K1, p, M, F1, _, true, rfl, hk1, hI, hGM, hw1, fun _ => by rw [List.take_of_length_le (by omega)], hs⟩
/-! the reference -/
def XPost (K : Kn) (Hs : List Hl) (L : List RR) (f : Value → Value) (r : Value) (w' : World) : Prop := ∃ K' v', r = f v' ∧ KLe K K' ∧ KRow encR 82 K' v' L ∧ Sat K' w' Hs
theorem XPost.same {f : Value → Value} (h : KRow encR 82 K v L) (hs : Sat K w Hs) : XPost K Hs L f (f v) w := ⟨K, v, rfl, KLe.refl K, h, hs⟩
theorem XPost.new {f : Value → Value} {e : TypeId} (h : RowL e encR 82 v L F) (hs : Sat K w (F :: Hs)) : XPost K Hs L f (f v) w := by
  obtain ⟨K1, hk1, r1, hs1⟩ := h.freezeK hs
  exact ⟨K1, v, rfl, hk1, r1, hs1⟩
theorem radd_any (x : RR) (hs : Sat K w Hs) [hr : KRow encR 82 K v L] (hL : L.length ≤ 100000) : Ret Try.prog 50 #[v, .agg (encR x).toArray] w fun r w' => XPost K Hs (rAddL L x) (fun v => .tuple #[v, .int .i64 (rAddE L x)]) r w' := by
  have o1 : OneC v := ⟨KRow.oneC' hr⟩
  obtain ⟨ad, cap, rfl, hsl, hc⟩ := hr.ex
  refine Ret.enter (n := 31) (args := [.slice ad L.length cap, .agg (encR x).toArray]) Try.func50 rfl rfl ?_
  refine C.keep [(0, _), (1, _)] ⟨rfl, rfl, trivial⟩ ?_
  refine C.seq ?_
  refine C.region ?_
  refine R.sboxA hs rfl rfl ?_
  intro b3 w3 hs
  refine R.ev rfl (E.assign rfl) ?_
  refine R.ev rfl (E.assign rfl) ?_
  refine R.done ?_
  refine X.keep [(0, _), (3, _)] ⟨rfl, rfl, trivial⟩ ?_
  refine X.next ?_
  refine C.seq ?_
  refine C.seq ?_
  refine C.region ?_
  refine R.ev rfl (E.fieldAddr0 48 rfl Try.underlying26 rfl Try.sz3 rfl) ?_
  refine R.ev rfl (E.load1 rfl Try.underlying3 rfl (by exact hs.ldc)) ?_
  refine R.ev rfl (E.lss rfl rfl) ?_
  refine R.ev rfl (E.move rfl) ?_
  refine R.split 9 rfl (fun h9 => ?_) (fun h9 => ?_)
  refine R.gskip rfl rfl rfl ?_
  refine R.gskip rfl rfl rfl ?_
  refine R.gskip rfl rfl rfl ?_
  refine R.ev rfl (E.pickT rfl rfl) ?_
  refine R.done ?_
  refine X.keep [(0, _), (3, _), (13, _)] ⟨rfl, rfl, rfl, trivial⟩ ?_
  refine X.next ?_
  refine C.ctrue rfl ?_
  refine C.seq ?_
  refine C.region ?_
  refine R.ev rfl (E.move rfl) ?_
  refine R.ev rfl (E.assign rfl) ?_
  refine R.ev rfl (E.assign rfl) ?_
  refine R.done ?_
  refine X.keep [(4, _), (5, _)] ⟨rfl, rfl, trivial⟩ ?_
  refine X.next ?_
  refine C.ret ?_
  refine X.thenRet ?_
  refine X.ret2 rfl rfl rfl ?_
  have hE : rAddE L x = 13 := by
    first
      | (rw [rAddE, if_pos (min_T2 h13)])
      | (rw [rAddE, if_pos (min_T1 h9)])
  rw [rAddL, hE, if_neg (by decide)]
  exact XPost.same hr hs.to
  refine R.gyes rfl rfl ?_
  refine R.ev rfl (E.fieldAddr0 48 rfl Try.underlying26 rfl Try.sz3 rfl) ?_
  refine R.gyes rfl rfl ?_
  refine R.ev rfl (E.load1 rfl Try.underlying3 rfl (by exact hs.ldc)) ?_
  refine R.gyes rfl rfl ?_
  refine R.ev rfl (E.gtr rfl rfl) ?_
  refine R.ev rfl (E.pickF rfl rfl) ?_
  refine R.done ?_
  refine X.keep [(0, _), (3, _), (13, _)] ⟨rfl, rfl, rfl, trivial⟩ ?_
  refine X.next ?_
  refine C.cbool rfl (fun h13 => ?_) (fun h13 => ?_)
  refine C.seq ?_
  refine C.region ?_
  refine R.ev rfl (E.move rfl) ?_
  refine R.ev rfl (E.assign rfl) ?_
  refine R.ev rfl (E.assign rfl) ?_
  refine R.done ?_
  refine X.keep [(4, _), (5, _)] ⟨rfl, rfl, trivial⟩ ?_
  refine X.next ?_
  refine C.ret ?_
  refine X.thenRet ?_
  refine X.ret2 rfl rfl rfl ?_
  have hE : rAddE L x = 13 := by
    first
      | (rw [rAddE, if_pos (min_T2 h13)])
      | (rw [rAddE, if_pos (min_T1 h9)])
  rw [rAddL, hE, if_neg (by decide)]
  exact XPost.same hr hs.to
  refine C.skip ?_
  refine X.next ?_
  refine C.seq ?_
  refine C.seq ?_
  refine C.region ?_
  have hmn : ¬ isMin x.date = false := by rw [min_F h9 h13]; decide
  refine R.ev rfl (E.move rfl) ?_
  refine R.ev rfl (E.fieldAddr0 0 rfl Try.underlying26 rfl Try.sz23 rfl) ?_
  refine R.ev rfl (E.loadRowC rfl Try.underlying23 rfl Try.sz23 (by exact ⟨hs.ldP rfl, by exact encV_len _⟩)) ?_
  refine R.call ⟨_, _, Try.func37, rfl, by kernel_rfl⟩ rfl rfl (rfind_any x.id hs (by omega)) ?_
  rintro _ w3 ⟨rfl, hs⟩
  refine R.ev rfl ((E.geq rfl rfl).isB (c := hasId x.id L) rIdx_ge) ?_
  refine R.done ?_
  refine X.keep [(0, _), (3, _), (19, _)] ⟨rfl, rfl, rfl, trivial⟩ ?_
  refine X.next ?_
  refine C.cbool rfl (fun h19 => ?_) (fun h19 => ?_)
  refine C.seq ?_
  refine C.region ?_
  refine R.ev rfl (E.move rfl) ?_
  refine R.ev rfl (E.assign rfl) ?_
  refine R.ev rfl (E.assign rfl) ?_
  refine R.done ?_
  refine X.keep [(4, _), (5, _)] ⟨rfl, rfl, trivial⟩ ?_
  refine X.next ?_
  refine C.ret ?_
  refine X.thenRet ?_
  refine X.ret2 rfl rfl rfl ?_
  have hE : rAddE L x = 7 := by rw [rAddE, if_neg hmn, if_pos h19]
  rw [rAddL, hE, if_neg (by decide)]
  exact XPost.same hr hs.to
  refine C.skip ?_
  refine X.next ?_
  refine C.seq ?_
  refine C.seq ?_
  refine C.region ?_
  refine R.ev rfl (E.move rfl) ?_
  refine R.ev rfl (E.lenSl rfl Try.underlying22) ?_
  refine R.ev rfl (E.geq rfl rfl) ?_
  refine R.done ?_
  refine X.keep [(0, _), (3, _), (23, _)] ⟨rfl, rfl, rfl, trivial⟩ ?_
  refine X.next ?_
  refine C.cdec rfl (fun h23 => ?_) (fun h23 => ?_)
  refine C.seq ?_
  refine C.region ?_
  refine R.ev rfl (E.move rfl) ?_
  refine R.ev rfl (E.assign rfl) ?_
  refine R.ev rfl (E.assign rfl) ?_
  refine R.done ?_
  refine X.keep [(4, _), (5, _)] ⟨rfl, rfl, trivial⟩ ?_
  refine X.next ?_
  refine C.ret ?_
  refine X.thenRet ?_
  refine X.ret2 rfl rfl rfl ?_
  have hE : rAddE L x = 9 := by rw [rAddE, if_neg hmn, if_neg (by rw [h19]; decide), if_pos (by omega)]
  rw [rAddL, hE, if_neg (by decide)]
  exact XPost.same hr hs.to
  refine C.skip ?_
  refine X.next ?_
  refine C.seq ?_
  refine C.drawn (SatS hs) ([3], [1, 6, 7]) (by kernel_rfl) ?_
  have hs := hs.drew
  refine D.evP 1 rfl (by kernel_rfl) rfl (fun _ => hs.to) (fun _ => E.move rfl) ?_
  refine D.ev 3 rfl (by kernel_rfl) rfl hs.to (fun _ hS => E.loadRowC rfl Try.underlying26 rfl Try.sz26 (by exact ⟨hS.ldA, by exact Enc.len _⟩)) ?_
  refine D.act2 0 4 rfl rfl (by kernel_rfl) ?_ ?_
  have hE : rAddE L x = 0 := by rw [rAddE, if_neg hmn, if_neg (by rw [h19]; decide), if_neg (by omega)]
  refine R.sbuild0 (enc := encR) hs Try.underlying22 Try.sz26 rfl ?_
  intro v25 w25 F25 r25 nn25 hs
  refine D.back hs.to ?_
  refine D.act2 2 4 rfl rfl (by kernel_rfl) ?_ ?_
  refine R.cappSl hs rfl rfl Try.underlying22 Try.by26 (by rfl) rfl (by decide) (by (simp only [List.length_append, List.length_cons, List.length_nil] at *; omega)) (by (simp only [List.length_append, List.length_cons, List.length_nil] at *; omega)) ?_
  intro v27 w27 F27 r27 hs
  rw [List.nil_append] at r27
  refine D.back hs.to ?_
  refine D.act 4 rfl (by kernel_rfl) ?_
  refine R.buildSliceA rfl Try.underlying22 Try.sz26 Try.zr26 rfl (by exact Enc.len _) (by decide) (by decide) ?_
  intro b29 w29 n29
  have hs := hs.new n29
  refine D.backT (by kernel_rfl) ?_
  refine D.act 5 rfl (by kernel_rfl) ?_
  refine R.capp1 (x) hs rfl rfl Try.underlying22 Try.by26 (by rfl) rfl (by exact hs.ldA) (by decide) (by omega) (by omega) ?_
  intro v30 w30 F30 r30 hs
  refine D.backT (by kernel_rfl) ?_
  refine D.evP 6 rfl (by kernel_rfl) rfl (np (by kernel_rfl)) (fun _ => E.assign rfl) ?_
  refine D.evP 7 rfl (by kernel_rfl) rfl (np (by kernel_rfl)) (fun _ => E.assign rfl) ?_
  refine D.done rfl (by kernel_rfl) ?_
  refine X.keep [(4, _), (5, _)] ⟨rfl, rfl, trivial⟩ ?_
  refine X.next ?_
  refine C.ret ?_
  refine X.ret2 rfl rfl rfl ?_
  rw [rAddL, hE, if_pos rfl]
  exact XPost.new r30 hs.to
  refine R.buildSliceA rfl Try.underlying22 Try.sz26 Try.zr26 rfl (by exact Enc.len _) (by decide) (by decide) ?_
  intro b29 w29 n29
  have hs := hs.new n29
  refine D.backT (by kernel_rfl) ?_
  refine D.act 2 rfl (by kernel_rfl) ?_
  refine R.cappSl hs rfl rfl Try.underlying22 Try.by26 (by rfl) rfl (by decide) (by (simp only [List.length_append, List.length_cons, List.length_nil] at *; omega)) (by (simp only [List.length_append, List.length_cons, List.length_nil] at *; omega)) ?_
  intro v27 w27 F27 r27 hs
  rw [List.nil_append] at r27
  refine D.backT (by kernel_rfl) ?_
  refine D.act 5 rfl (by kernel_rfl) ?_
  refine R.capp1 (x) hs rfl rfl Try.underlying22 Try.by26 (by rfl) rfl (by exact hs.ldA) (by decide) (by omega) (by omega) ?_
  intro v30 w30 F30 r30 hs
  refine D.backT (by kernel_rfl) ?_
  refine D.evP 6 rfl (by kernel_rfl) rfl (np (by kernel_rfl)) (fun _ => E.assign rfl) ?_
  refine D.evP 7 rfl (by kernel_rfl) rfl (np (by kernel_rfl)) (fun _ => E.assign rfl) ?_
  refine D.done rfl (by kernel_rfl) ?_
  refine X.keep [(4, _), (5, _)] ⟨rfl, rfl, trivial⟩ ?_
  refine X.next ?_
  refine C.ret ?_
  refine X.ret2 rfl rfl rfl ?_
  rw [rAddL, hE, if_pos rfl]
  exact XPost.new r30 hs.to
  refine R.buildSliceA rfl Try.underlying22 Try.sz26 Try.zr26 rfl (by exact Enc.len _) (by decide) (by decide) ?_
  intro b29 w29 n29
  have hs := hs.new n29
  refine D.backT (by kernel_rfl) ?_
  have hE : rAddE L x = 0 := by rw [rAddE, if_neg hmn, if_neg (by rw [h19]; decide), if_neg (by omega)]
  refine D.act 0 rfl (by kernel_rfl) ?_
  refine R.sbuild0 (enc := encR) hs Try.underlying22 Try.sz26 rfl ?_
  intro v25 w25 F25 r25 nn25 hs
  refine D.backT (by kernel_rfl) ?_
  refine D.act 2 rfl (by kernel_rfl) ?_
  refine R.cappSl hs rfl rfl Try.underlying22 Try.by26 (by rfl) rfl (by decide) (by (simp only [List.length_append, List.length_cons, List.length_nil] at *; omega)) (by (simp only [List.length_append, List.length_cons, List.length_nil] at *; omega)) ?_
  intro v27 w27 F27 r27 hs
  rw [List.nil_append] at r27
  refine D.backT (by kernel_rfl) ?_
  refine D.act 5 rfl (by kernel_rfl) ?_
  refine R.capp1 (x) hs rfl rfl Try.underlying22 Try.by26 (by rfl) rfl (by exact hs.ldA) (by decide) (by omega) (by omega) ?_
  intro v30 w30 F30 r30 hs
  refine D.backT (by kernel_rfl) ?_
  refine D.evP 6 rfl (by kernel_rfl) rfl (np (by kernel_rfl)) (fun _ => E.assign rfl) ?_
  refine D.evP 7 rfl (by kernel_rfl) rfl (np (by kernel_rfl)) (fun _ => E.assign rfl) ?_
  refine D.done rfl (by kernel_rfl) ?_
  refine X.keep [(4, _), (5, _)] ⟨rfl, rfl, trivial⟩ ?_
  refine X.next ?_
  refine C.ret ?_
  refine X.ret2 rfl rfl rfl ?_
  rw [rAddL, hE, if_pos rfl]
  exact XPost.new r30 hs.to
theorem delL_at {a : Vec 32} : ∀ {L : List RR} {i : Nat} {o : RR}, L[i]? = some o → rIs a o = true → (∀ j, j < i → ∀ z, L[j]? = some z → rIs a z = false) → delL a L = L.take i ++ L.drop (i + 1)
  | [], i, o, h, _, _ => by simp at h
  | z :: L, 0, o, h, hp, _ => by
    simp at h; subst h
    rw [delL, if_pos (of_decide_eq_true hp)]; rfl
  | z :: L, i + 1, o, h, hp, hno => by
    have hz := hno 0 (by omega) z rfl
    rw [delL, if_neg (of_decide_eq_false hz), delL_at (by simpa using h) hp (fun j hj y hy => hno (j + 1) (by omega) y (by simpa using hy))]
    rfl
theorem rdrop_any (a : Vec 32) (hs : Sat K w Hs) [hr : KRow encR 82 K v L] (hL : L.length ≤ 100000) : Ret Try.prog 49 #[v, idV a.1] w fun r w' => XPost K Hs (delL a L) (fun v => .tuple #[v, .int .i64 (rDropE L a)]) r w' := by
  have o1 : OneC v := ⟨KRow.oneC' hr⟩
  have e1 := encV_len a
  obtain ⟨ad, cap, rfl, hsl, hc⟩ := hr.ex
  refine Ret.enter (n := 23) (args := [.slice ad L.length cap, idV a.1]) Try.func49 rfl rfl ?_
  refine C.keep [(0, _), (1, _)] ⟨rfl, rfl, trivial⟩ ?_
  refine C.seq ?_
  refine C.region ?_
  refine R.sboxA hs rfl rfl ?_
  intro b3 w3 hs
  refine R.ev rfl (E.assign rfl) ?_
  refine R.ev rfl (E.assign rfl) ?_
  refine R.done ?_
  refine X.keep [(0, _), (3, _)] ⟨rfl, rfl, trivial⟩ ?_
  refine X.next ?_
  refine C.seq ?_
  refine C.region ?_
  refine R.ev rfl (E.move rfl) ?_
  refine R.ev rfl (E.loadRowC rfl Try.underlying23 rfl Try.sz23 (by exact ⟨hs.ldA, by assumption⟩)) ?_
  refine R.call ⟨_, _, Try.func37, rfl, by kernel_rfl⟩ rfl rfl (rfind_any a hs (by omega)) ?_
  rintro _ w1 ⟨rfl, hs⟩
  refine R.ev rfl (E.assign rfl) ?_
  refine R.done ?_
  refine X.keep [(0, _), (6, _)] ⟨rfl, rfl, trivial⟩ ?_
  refine X.next ?_
  refine C.seq ?_
  refine C.seq ?_
  refine C.region ?_
  refine R.ev rfl (E.move rfl) ?_
  refine R.ev rfl ((E.lss rfl rfl).isB (c := !hasId a L) rIdx_lt) ?_
  refine R.done ?_
  refine X.keep [(0, _), (6, _), (11, _)] ⟨rfl, rfl, rfl, trivial⟩ ?_
  refine X.next ?_
  refine C.cbool rfl (fun h11 => ?_) (fun h11 => ?_)
  refine C.seq ?_
  refine C.region ?_
  refine R.ev rfl (E.move rfl) ?_
  refine R.ev rfl (E.assign rfl) ?_
  refine R.ev rfl (E.assign rfl) ?_
  refine R.done ?_
  refine X.keep [(4, _), (5, _)] ⟨rfl, rfl, trivial⟩ ?_
  refine X.next ?_
  refine C.ret ?_
  refine X.thenRet ?_
  refine X.ret2 rfl rfl rfl ?_
  have h0 : hasId a L = false := by simpa using h11
  rw [delL_no h0, rDropE, if_neg (by rw [h0]; decide)]
  exact XPost.same hr hs.to
  refine C.skip ?_
  refine X.next ?_
  refine C.seq ?_
  refine C.drawn (SatS hs) ([], [1, 2, 3, 5, 6, 7, 8, 10, 11]) (by kernel_rfl) ?_
  have hs := hs.drew
  have h0 : hasId a L = true := by simpa using h11
  have hh : 0 ≤ idxP (rIs a) L := of_decide_eq_true (rIdx_ge.trans h0)
  obtain ⟨i, o, hi, ho, hpo, hno⟩ := idxP_ge hh
  have hil := (List.getElem?_eq_some_iff.1 ho).1
  rw [hi]
  have k1 := hr.first (i := i) (by omega)
  have k2 := hr.behind (i := i + 1) (by omega)
  have hl1 : (L.take i).length = i := by rw [List.length_take]; omega
  have hl2 : (L.drop (i + 1)).length = L.length - (i + 1) := List.length_drop
  refine D.evP 1 rfl (by kernel_rfl) rfl (np (by kernel_rfl)) (fun _ => E.move rfl) ?_
  refine D.evP 2 rfl (by kernel_rfl) rfl (np (by kernel_rfl)) (fun _ => E.move rfl) ?_
  refine D.evP 3 rfl (by kernel_rfl) rfl (np (by kernel_rfl)) (fun _ => E.sliceH (b := i) rfl rfl Try.underlying22 Try.sz26 rfl (by omega)) ?_
  refine D.evP 5 rfl (by kernel_rfl) rfl (np (by kernel_rfl)) (fun _ => E.move rfl) ?_
  refine D.evP 6 rfl (by kernel_rfl) rfl (np (by kernel_rfl)) (fun _ => E.move rfl) ?_
  refine D.evP 7 rfl (by kernel_rfl) rfl (np (by kernel_rfl)) (fun _ => (E.add rfl rfl (by omega) (by omega)).isI (c := ((i + 1 : Nat) : Int)) (by omega)) ?_
  refine D.evP 8 rfl (by kernel_rfl) rfl (np (by kernel_rfl)) (fun _ => E.sliceLs (a := i + 1) rfl rfl Try.underlying22 Try.sz26 rfl (by omega)) ?_
  refine D.act 0 rfl (by kernel_rfl) ?_
  refine R.sbuild0 (enc := encR) hs Try.underlying22 Try.sz26 rfl ?_
  intro v13 w13 F13 r13 nn13 hs
  refine D.backT (by kernel_rfl) ?_
  refine D.act 4 rfl (by kernel_rfl) ?_
  refine R.cappSl hs rfl rfl Try.underlying22 Try.by26 (by rfl) rfl (by decide) (by (simp only [List.length_append, List.length_cons, List.length_nil] at *; omega)) (by (simp only [List.length_append, List.length_cons, List.length_nil] at *; omega)) ?_
  intro v17 w17 F17 r17 hs
  rw [List.nil_append] at r17
  refine D.backT (by kernel_rfl) ?_
  refine D.act 9 rfl (by kernel_rfl) ?_
  refine R.cappSl hs rfl rfl Try.underlying22 Try.by26 (by rfl) rfl (by decide) (by omega) (by omega) ?_
  intro v22 w22 F22 r22 hs
  refine D.backT (by kernel_rfl) ?_
  refine D.evP 10 rfl (by kernel_rfl) rfl (np (by kernel_rfl)) (fun _ => E.assign rfl) ?_
  refine D.evP 11 rfl (by kernel_rfl) rfl (np (by kernel_rfl)) (fun _ => E.assign rfl) ?_
  refine D.done rfl (by kernel_rfl) ?_
  refine X.keep [(4, _), (5, _)] ⟨rfl, rfl, trivial⟩ ?_
  refine X.next ?_
  refine C.ret ?_
  refine X.ret2 rfl rfl rfl ?_
  rw [rDropE, if_pos h0, delL_at ho hpo hno]
  exact XPost.new r22 hs.to
/-! operations -/
structure Op41 where
  d : Bool
  x : RR
def encO (o : Op41) : List Value := [.bool o.d] ++ encR o.x
instance {o : Op41} : CellOf (encO o) 0 (.bool o.d) := ⟨rfl⟩
instance {o : Op41} : PartOf (encO o) 1 82 (encR o.x) := PartOf.mk' (c1 := [.bool o.d]) (c3 := []) (by simp [encO]) rfl (Enc.len _)
instance : Enc encO 83 := ⟨fun o => by simp [encO, Enc.len (enc := encR)], fun o u hu => by
  simp only [encO, List.mem_append, List.mem_cons, List.not_mem_nil, or_false] at hu
  rcases hu with rfl | hu
  · rfl
  · exact Enc.one _ u hu⟩
theorem fit_o {w : World} (n : Nat) (x : List Value) (hx : x.length = 83) (h : Fit Try.prog w n 86 x) : ∃ y, x = encO y := by
  obtain ⟨n', _, hf⟩ := fit_struct h Try.underlying86
  obtain ⟨a, r, rfl⟩ : ∃ a r, x = a :: r := by
    cases x with
    | nil => simp at hx
    | cons a r => exact ⟨a, r, rfl⟩
  have hr : r.length = 82 := by simpa using hx
  have f0 : Fit Try.prog w n' 4 (((a :: r).drop 0).take (Try.prog.cellsOf 4)) := hf 0 _ rfl
  have f1 : Fit Try.prog w n' 26 (((a :: r).drop 1).take (Try.prog.cellsOf 26)) := hf 1 _ rfl
  have c0 : Try.prog.cellsOf 4 = 1 := by kernel_rfl
  have c1 : Try.prog.cellsOf 26 = 82 := by kernel_rfl
  simp only [c0, c1] at f0 f1
  have e1 : ((a :: r).drop 1).take 82 = r := by simp [← hr]
  rw [e1] at f1
  simp only [List.drop_zero, List.take_succ_cons, List.take_zero] at f0
  obtain ⟨y, rfl⟩ := fit_r n' r hr f1
  obtain ⟨k, hk⟩ := fit_bool f0 Try.underlying4
  simp only [List.cons.injEq, and_true] at hk
  subst hk
  exact ⟨⟨k, y⟩, rfl⟩
theorem argv_o {w : World} {v : Value} (h : ArgV Try.prog w 58 v) : ∃ ad cap ops, v = .slice ad ops.length cap ∧ ops.length ≤ cap ∧ cap ≤ maxLen ∧ KRow encO 83 (Kn.of w) v ops :=
  argv_slK h Try.underlying58 (by kernel_rfl) (by decide) fit_o
theorem rAddL_len (L : List RR) (x : RR) : (rAddL L x).length ≤ L.length + 1 := by
  unfold rAddL; split <;> simp
theorem play_any {ad : Option Addr} {n cap : Nat} {ops : List Op41} (hs : Sat K w Hs) [hr : KRow encO 83 K (.slice ad n cap) ops] (hn : ops.length ≤ 9223372036854775807) : Ret Try.prog 28 #[.slice ad n cap] w fun r w' =>
    ∃ K' p M L v F, r = .tuple #[ptr p, v, .bool true] ∧ KLe K K' ∧ KRow encR 82 K' v L ∧ SInv M L ∧ GAll K' M ∧ L.length ≤ 30 ∧ SuL p M F ∧ Sat K' w' (F :: Hs) := by
  obtain ⟨ad0, cap0, he, hsl, hc⟩ := hr.ex
  simp only [Value.slice.injEq] at he
  obtain ⟨rfl, rfl, rfl⟩ := he
  refine Ret.enter (n := 70) (args := [.slice ad ops.length cap]) Try.func28 rfl rfl ?_
  refine C.keep [(0, _)] ⟨rfl, trivial⟩ ?_
  refine C.seq ?_
  refine C.region ?_
  refine R.ev rfl (E.assign rfl) ?_
  refine R.ev rfl (E.assign rfl) ?_
  refine R.ev rfl (E.assign rfl) ?_
  refine R.done ?_
  refine X.keep [(0, _), (3, _)] ⟨rfl, rfl, trivial⟩ ?_
  refine X.next ?_
  refine C.seq ?_
  refine C.region ?_
  refine R.call ⟨_, _, Try.func48, rfl, by kernel_rfl⟩ rfl rfl (new_any hs) ?_
  rintro _ w1 ⟨p, F, rfl, hw, hs⟩
  refine R.ev rfl (E.assign rfl) ?_
  refine R.done ?_
  refine X.keep [(0, _), (2, _), (3, _)] ⟨rfl, rfl, rfl, trivial⟩ ?_
  refine X.next ?_
  refine C.seq ?_
  refine C.seq ?_
  refine C.region ?_
  refine R.ev rfl (E.assign rfl) ?_
  refine R.done ?_
  refine X.keep [(0, _), (2, _), (3, _), (5, _)] ⟨rfl, rfl, rfl, rfl, trivial⟩ ?_
  refine X.next ?_
  refine C.block ?_
  refine C.loop (T := Nat × Kn × SMap × List RR × Value × Hl) [(0, _)] (fun (k, _, _, _, v, _) => [(2, ptr p), (3, v), (5, .int .i64 (k : Nat))]) (fun (k, K1, M, L, v, F1) w' => k ≤ ops.length ∧ k ≤ 30 ∧ KLe K K1 ∧ KRow encR 82 K1 v L ∧ SInv M L ∧ GAll K1 M ∧ L.length ≤ k ∧ SuL p M F1 ∧ Sat K1 w' (F1 :: Hs)) (fun (k, _) => 30 - k) ((0, K, [], [], .slice none 0 0, F)) ⟨rfl, rfl, rfl, rfl, trivial⟩ ⟨Nat.zero_le _, Nat.zero_le _, KLe.refl K, KRow.nil, SInv.nil, (fun _ h => nomatch h), Nat.zero_le _, hw, hs⟩ ?_
  rintro ⟨k, K1, M, L, v, F1⟩ w2 ⟨hk, hk30, hk1, hr1, hI, hG, hL, hw1, hs⟩
  have o1 : OneC v := ⟨KRow.oneC' hr1⟩
  refine C.keep [(0, _), (2, _), (3, _), (5, _)] ⟨rfl, rfl, rfl, rfl, trivial⟩ ?_
  refine C.seq ?_
  refine C.seq ?_
  refine C.region ?_
  refine R.ev rfl (E.move rfl) ?_
  refine R.ev rfl (E.move rfl) ?_
  refine R.ev rfl (E.lenSl rfl Try.underlying58) ?_
  refine R.ev rfl (E.lss rfl rfl) ?_
  refine R.ev rfl (E.move rfl) ?_
  refine R.split 12 rfl (fun h12 => ?_) (fun h12 => ?_)
  refine R.gyes rfl rfl ?_
  refine R.ev rfl (E.move rfl) ?_
  refine R.gyes rfl rfl ?_
  refine R.ev rfl (E.lss rfl rfl) ?_
  refine R.ev rfl (E.pickT rfl rfl) ?_
  refine R.done ?_
  refine X.keep [(0, _), (2, _), (3, _), (5, _), (15, _)] ⟨rfl, rfl, rfl, rfl, rfl, trivial⟩ ?_
  refine X.next ?_
  refine C.cbool rfl (fun h15 => ?_) (fun h15 => ?_)
  refine C.skip ?_
  refine X.next ?_
  refine C.seq ?_
  refine C.block ?_
  refine C.seq ?_
  refine C.region ?_
  have hk2 : k < 30 := by have := of_decide_eq_true h15; omega
  have hkl : k < ops.length := by have := of_decide_eq_true h12; omega
  obtain ⟨y, bk_y, of_y, hy, my, ly, rfl, Ay⟩ := (hs.to (Hs := [])).el (i := k) (ad := ad) (n := ops.length) (c := cap) (by omega)
  have Ax : ∀ w', Sat K1 w' [] → At w' bk_y (of_y + k * 83 + 1) (encR y.x) := fun w' h => (At.partC (i := 1) (m := 82) (Ay w' h)).1
  have ay := Ay _ hs.to
  refine R.ev rfl (E.assign rfl) ?_
  refine R.done ?_
  refine X.keep [(0, _), (2, _), (3, _), (5, _)] ⟨rfl, rfl, rfl, rfl, trivial⟩ ?_
  refine X.next ?_
  refine C.seq ?_
  refine C.seq ?_
  refine C.region ?_
  refine R.ev rfl (E.move rfl) ?_
  refine R.ev rfl (E.move rfl) ?_
  refine R.ev rfl (E.indexAddr (i := k) rfl rfl Try.underlying58 Try.sz86 rfl (by omega)) ?_
  refine R.ev rfl (E.fieldAddrN 0 rfl Try.underlying86 rfl Try.sz4 rfl) ?_
  refine R.ev rfl (E.load1 rfl Try.underlying4 rfl (by exact At.cellC (by assumption))) ?_
  refine R.done ?_
  refine X.keep [(0, _), (2, _), (3, _), (5, _), (22, _)] ⟨rfl, rfl, rfl, rfl, rfl, trivial⟩ ?_
  refine X.next ?_
  refine C.cbool rfl (fun h22 => ?_) (fun h22 => ?_)
  refine C.seq ?_
  refine C.region ?_
  have ax := Ax _ hs.to
  refine R.ev rfl (E.move rfl) ?_
  refine R.ev rfl (E.move rfl) ?_
  refine R.ev rfl (E.move rfl) ?_
  refine R.ev rfl (E.indexAddr (i := k) rfl rfl Try.underlying58 Try.sz86 rfl (by omega)) ?_
  refine R.ev rfl (E.fieldAddrN 1 rfl Try.underlying86 rfl Try.sz26 rfl) ?_
  refine R.ev rfl (E.fieldAddrN 0 rfl Try.underlying26 rfl Try.sz23 rfl) ?_
  refine R.ev rfl (E.loadRowC rfl Try.underlying23 rfl Try.sz23 (by exact At.partC (by assumption))) ?_
  refine R.call ⟨_, _, Try.func49, rfl, by kernel_rfl⟩ rfl rfl (rdrop_any y.x.id hs (by omega)) ?_
  rintro _ w7 ⟨K3, v3, rfl, hk3, hr3, hs⟩
  have o3 : OneC v3 := ⟨KRow.oneC' hr3⟩
  have ax := Ax _ (hs.less hk3.le).to
  refine R.ev rfl (E.move rfl) ?_
  refine R.ev rfl (E.extract rfl rfl) ?_
  refine R.ev rfl (E.extract rfl rfl) ?_
  refine R.ev rfl (E.assign rfl) ?_
  refine R.ev rfl (E.assign rfl) ?_
  refine R.done ?_
  refine X.keep [(0, _), (2, _), (3, _), (5, _), (6, _)] ⟨rfl, rfl, rfl, rfl, rfl, trivial⟩ ?_
  refine X.next ?_
  refine C.seq ?_
  refine C.seq ?_
  refine C.region ?_
  refine R.ev rfl (E.move rfl) ?_
  refine R.ev rfl (E.move rfl) ?_
  refine R.ev rfl (E.move rfl) ?_
  refine R.ev rfl (E.indexAddr (i := k) rfl rfl Try.underlying58 Try.sz86 rfl (by omega)) ?_
  refine R.ev rfl (E.fieldAddrN 1 rfl Try.underlying86 rfl Try.sz26 rfl) ?_
  refine R.ev rfl (E.fieldAddrN 0 rfl Try.underlying26 rfl Try.sz23 rfl) ?_
  refine R.ev rfl (E.loadRowC rfl Try.underlying23 rfl Try.sz23 (by exact At.partC (by assumption))) ?_
  refine R.call ⟨_, _, Try.func31, rfl, by kernel_rfl⟩ rfl rfl (drop_any y.x.id hI (hG.mono hk3) (hs.front (F := F1))) ?_
  rintro _ w8 ⟨rfl, M4, F4, hI4, hG4, hw4, hs1⟩
  have hs := hs.back (F := F1) hs1
  have hL4 : (delL y.x.id L).length ≤ k + 1 := by have := (delL_sub (a := y.x.id) L).length_le; omega
  generalize delL y.x.id L = L4 at hI4 hr3 hL4
  refine R.ev rfl (E.move rfl) ?_
  refine R.ev rfl ((E.neq rfl rfl).isF (fun h => h rfl)) ?_
  refine R.done ?_
  refine X.keep [(0, _), (2, _), (3, _), (5, _), (43, _)] ⟨rfl, rfl, rfl, rfl, rfl, trivial⟩ ?_
  refine X.next ?_
  refine C.cfalse rfl ?_
  refine C.skip ?_
  refine X.next ?_
  refine C.exit ?_
  refine X.thenExit ?_
  refine X.blockExit ?_
  refine X.next ?_
  refine C.region ?_
  refine R.ev rfl (E.move rfl) ?_
  refine R.ev rfl (E.add rfl rfl (by omega) (by omega)) ?_
  refine R.ev rfl (E.assign rfl) ?_
  refine R.done ?_
  refine X.keep [(0, _), (2, _), (3, _), (5, _)] ⟨rfl, rfl, rfl, rfl, trivial⟩ ?_
  exact X.again (k + 1, K3, M4, L4, v3, F4) ⟨rfl, rfl, rfl, rfl, trivial⟩ ⟨by omega, by omega, hk1.trans hk3, hr3, hI4, hG4, hL4, hw4, hs.to⟩ (by show _ - _ < _ - _; omega)
  refine C.skip ?_
  refine X.next ?_
  refine C.seq ?_
  refine C.region ?_
  have ax := Ax _ hs.to
  refine R.ev rfl (E.move rfl) ?_
  refine R.ev rfl (E.move rfl) ?_
  refine R.ev rfl (E.move rfl) ?_
  refine R.ev rfl (E.indexAddr (i := k) rfl rfl Try.underlying58 Try.sz86 rfl (by omega)) ?_
  refine R.ev rfl (E.fieldAddrN 1 rfl Try.underlying86 rfl Try.sz26 rfl) ?_
  refine R.ev rfl (E.loadRowC rfl Try.underlying26 rfl Try.sz26 (by exact ⟨by assumption, by exact Enc.len _⟩)) ?_
  refine R.call ⟨_, _, Try.func50, rfl, by kernel_rfl⟩ rfl rfl (radd_any y.x hs (by omega)) ?_
  rintro _ w10 ⟨K3, v3, rfl, hk3, hr3, hs⟩
  have o3 : OneC v3 := ⟨KRow.oneC' hr3⟩
  have ax := Ax _ (hs.less hk3.le).to
  refine R.ev rfl (E.move rfl) ?_
  refine R.ev rfl (E.extract rfl rfl) ?_
  refine R.ev rfl (E.extract rfl rfl) ?_
  refine R.ev rfl (E.assign rfl) ?_
  refine R.ev rfl (E.assign rfl) ?_
  refine R.done ?_
  refine X.keep [(0, _), (2, _), (3, _), (5, _), (6, _)] ⟨rfl, rfl, rfl, rfl, rfl, trivial⟩ ?_
  refine X.next ?_
  refine C.seq ?_
  refine C.region ?_
  refine R.ev rfl (E.move rfl) ?_
  refine R.ev rfl (E.move rfl) ?_
  refine R.ev rfl (E.move rfl) ?_
  refine R.ev rfl (E.indexAddr (i := k) rfl rfl Try.underlying58 Try.sz86 rfl (by omega)) ?_
  refine R.ev rfl (E.fieldAddrN 1 rfl Try.underlying86 rfl Try.sz26 rfl) ?_
  refine R.ev rfl (E.loadRowC rfl Try.underlying26 rfl Try.sz26 (by exact ⟨by assumption, by exact Enc.len _⟩)) ?_
  refine R.call ⟨_, _, Try.func18, rfl, by kernel_rfl⟩ rfl rfl (to_any y.x hs) ?_
  rintro _ w116 ⟨K5, z, rfl, hz, hk5, hgz, hs⟩
  refine R.call ⟨_, _, Try.func29, rfl, by kernel_rfl⟩ rfl rfl (add_any hgz hI (hG.mono (hk3.trans hk5)) (hs.front (F := F1))) ?_
  rw [hz]
  rintro _ w117 ⟨rfl, K6, M4, F4, hk6, hI4, hG4, hw4, hs1⟩
  have hs := hs.back (F := F1) hs1
  have hL4 : (rAddL L y.x).length ≤ k + 1 := by have := rAddL_len L y.x; omega
  have hr3 : KRow encR 82 K6 v3 (rAddL L y.x) := KRow.mono (k := hk5.trans hk6)
  have hk3 := (hk3.trans hk5).trans hk6
  refine R.ev rfl (E.move rfl) ?_
  refine R.ev rfl ((E.neq rfl rfl).isF (fun h => h rfl)) ?_
  generalize rAddL L y.x = L4 at hI4 hr3 hL4
  generalize K6 = K3 at hr3 hG4 hk3 hs
  refine R.done ?_
  refine X.keep [(0, _), (2, _), (3, _), (5, _), (65, _)] ⟨rfl, rfl, rfl, rfl, rfl, trivial⟩ ?_
  refine X.next ?_
  refine C.cfalse rfl ?_
  refine C.skip ?_
  refine X.blockNormal ?_
  refine X.next ?_
  refine C.region ?_
  refine R.ev rfl (E.move rfl) ?_
  refine R.ev rfl (E.add rfl rfl (by omega) (by omega)) ?_
  refine R.ev rfl (E.assign rfl) ?_
  refine R.done ?_
  refine X.keep [(0, _), (2, _), (3, _), (5, _)] ⟨rfl, rfl, rfl, rfl, trivial⟩ ?_
  exact X.again (k + 1, K3, M4, L4, v3, F4) ⟨rfl, rfl, rfl, rfl, trivial⟩ ⟨by omega, by omega, hk1.trans hk3, hr3, hI4, hG4, hL4, hw4, hs.to⟩ (by show _ - _ < _ - _; omega)
  refine C.exit ?_
  refine X.thenExit ?_
  refine X.loopExit ?_
  refine X.blockExit ?_
  refine X.next ?_
  refine C.seq ?_
  refine C.region ?_
  refine R.ev rfl (E.move rfl) ?_
  refine R.ev rfl (E.move rfl) ?_
  refine R.ev rfl (E.assign rfl) ?_
  refine R.ev rfl (E.assign rfl) ?_
  refine R.ev rfl (E.assign rfl) ?_
  refine R.done ?_
  refine X.keep [(2, _), (3, _), (4, _)] ⟨rfl, rfl, rfl, trivial⟩ ?_
  refine X.next ?_
  refine C.ret ?_
  refine X.ret3 rfl rfl rfl rfl ?_
  exact ⟨K1, p, M, L, v, F1, rfl, hk1, hr1, hI, hG, by omega, hw1, hs⟩
  refine R.gskip rfl rfl rfl ?_
  refine R.gskip rfl rfl rfl ?_
  refine R.ev rfl (E.pickF rfl rfl) ?_
  refine R.done ?_
  refine X.keep [(0, _), (2, _), (3, _), (5, _), (15, _)] ⟨rfl, rfl, rfl, rfl, rfl, trivial⟩ ?_
  refine X.next ?_
  refine C.cfalse rfl ?_
  refine C.exit ?_
  refine X.thenExit ?_
  refine X.loopExit ?_
  refine X.blockExit ?_
  refine X.next ?_
  refine C.seq ?_
  refine C.region ?_
  refine R.ev rfl (E.move rfl) ?_
  refine R.ev rfl (E.move rfl) ?_
  refine R.ev rfl (E.assign rfl) ?_
  refine R.ev rfl (E.assign rfl) ?_
  refine R.ev rfl (E.assign rfl) ?_
  refine R.done ?_
  refine X.keep [(2, _), (3, _), (4, _)] ⟨rfl, rfl, rfl, trivial⟩ ?_
  refine X.next ?_
  refine C.ret ?_
  refine X.ret3 rfl rfl rfl rfl ?_
  exact ⟨K1, p, M, L, v, F1, rfl, hk1, hr1, hI, hG, by omega, hw1, hs⟩
end Go.Proofs.Ytmjmichghfepkaa
