/-
  package window: the offers as a list, the methods as plain functions on it.
-/
import Derived.Test.YtajbclcpkgenbaaDoorRet
import Derived.Test.YtajbclcpkgenbaaDoorTypes
namespace Go.Proofs.YtajbclcpkgenbaaDoor
open Go.Eng Go.RowKit

structure Off where
  id : Vec 32
  size : Int
  out : Fin 6
deriving DecidableEq
def encO (o : Off) : List Value := o.id.1.map ub ++ [.int .i64 o.size, .int .i64 (o.out.1 : Nat)]
theorem encO_len (o : Off) : (encO o).length = 34 := by simp [encO, o.id.2]
def Off.outs (o : Off) : Bool := decide (o.out.1 < 2)
theorem encO_out (o : Off) : (encO o)[33]? = some (.int .i64 (o.out.1 : Nat)) := by simp [encO, o.id.2]
theorem encO_size (o : Off) : (encO o)[32]? = some (.int .i64 o.size) := by simp [encO, o.id.2]
theorem encO_one (o : Off) : ∀ u ∈ encO o, u.oneCell' = true := by
  intro u hu
  simp only [encO, List.mem_append, List.mem_cons, List.not_mem_nil, or_false] at hu
  rcases hu with hu | rfl | rfl
  · exact ub_all _ u hu
  · rfl
  · rfl
instance {o : Off} : CellOf (encO o) 33 (.int .i64 (o.out.1 : Nat)) := ⟨encO_out o⟩
instance {o : Off} : CellOf (encO o) 32 (.int .i64 o.size) := ⟨encO_size o⟩
instance {o : Off} : PartOf (encO o) 0 32 (o.id.1.map ub) := PartOf.mk' (c1 := []) rfl rfl (encV_len _)
instance : Enc encO 34 := ⟨encO_len, encO_one⟩
theorem encO_fits (o : Off) (_ : (encO o).length = 34) : fitsAll (List.replicate 32 (lInt .u8) ++ List.replicate 2 (lInt .i64)) (encO o) = true := fitsAll_mk (fitsN o.id.2) rfl
theorem encO_eq {o o' : Off} (_ : (encO o).length = 34) (_ : (encO o').length = 34) : cellsEq (encO o) (encO o') = decide (o = o') := by
  rw [encO, encO, cellsEq_app _ _ _ _ (by simp [o.id.2, o'.id.2]), cellsEq_vec, Bool.eq_iff_iff]
  cases o; cases o'; simp [cellsEq, cellEq, Fin.ext_iff]; omega

theorem idxO_any {K : Kn} {Hs : List Hl} {fid : FuncId} {first cap : List Value} {p : Off → Bool} {L : List Off} {ad : Option Addr} {n c : Nat} {w : World} (hcal : Callable Tryd.prog fid) (hs : Sat K w Hs) [hrd : Rd encO 34 K Hs (.slice ad n c) L] (hn : n ≤ 9223372036854775807)
    (hf : ∀ y ∈ L, ∀ w', Sat K w' Hs → Ret Tryd.prog fid (first ++ [Value.agg (encO y).toArray] ++ cap).toArray w' fun v w'' => v = .bool (p y) ∧ Sat K w'' Hs) :
    Ret Tryd.prog 37 #[.slice ad n c, .func (.func fid) first.toArray cap.toArray] w fun v w' => v = .int .i64 (idxP p L) ∧ Sat K w' Hs := by
  have hln := hrd.len
  refine Ret.enter (n := 19) (args := [.slice ad n c, .func (.func fid) first.toArray cap.toArray]) Tryd.func37 rfl rfl ?_
  refine C.keep [(0, _), (1, _)] ⟨rfl, rfl, trivial⟩ ?_
  refine C.seq ?_
  refine C.region ?_
  refine R.ev rfl (E.assign rfl) ?_
  refine R.done ?_
  refine X.keep [(0, _), (1, _)] ⟨rfl, rfl, trivial⟩ ?_
  refine X.next ?_
  refine C.seq ?_
  refine C.seq ?_
  refine C.region ?_
  refine R.ev rfl (E.move rfl) ?_
  refine R.ev rfl (E.lenSl rfl Tryd.underlying76) ?_
  refine R.ev rfl (E.move rfl) ?_
  refine R.done ?_
  refine X.keep [(0, _), (1, _), (7, _), (8, _)] ⟨rfl, rfl, rfl, rfl, trivial⟩ ?_
  refine X.next ?_
  refine C.block ?_
  refine C.loop  [(0, _), (1, _), (7, _)] (fun k => [(8, .int .i64 (k : Nat))]) (fun k w' => k ≤ n ∧ Sat K w' Hs ∧ ∀ j, j < k → ∀ y, L[j]? = some y → p y = false) (fun k => n - k) (0) ⟨rfl, rfl, rfl, rfl, trivial⟩ ⟨Nat.zero_le _, hs, fun j h => by omega⟩ ?_
  rintro k w1 ⟨hk, hs, hno⟩
  refine C.keep [(0, _), (1, _), (7, _), (8, _)] ⟨rfl, rfl, rfl, rfl, trivial⟩ ?_
  refine C.seq ?_
  refine C.region ?_
  refine R.ev rfl (E.lss rfl rfl) ?_
  refine R.done ?_
  refine X.keep [(0, _), (1, _), (7, _), (8, _), (9, _)] ⟨rfl, rfl, rfl, rfl, rfl, trivial⟩ ?_
  refine X.next ?_
  refine C.seq ?_
  refine C.cdec rfl (fun h9 => ?_) (fun h9 => ?_)
  · obtain ⟨y, bk_y, of_y, hy, my, ly, rfl, Ay⟩ := hs.el (i := k) (ad := ad) (n := n) (c := c) (by omega)
    have ay := Ay _ hs
    refine C.skip ?_
    refine X.next ?_
    refine C.seq ?_
    refine C.block ?_
    refine C.seq ?_
    refine C.region ?_
    refine R.ev rfl (E.move rfl) ?_
    refine R.ev rfl (E.assign rfl) ?_
    refine R.done ?_
    refine X.keep [(0, _), (1, _), (5, _), (7, _), (8, _)] ⟨rfl, rfl, rfl, rfl, rfl, trivial⟩ ?_
    refine X.next ?_
    refine C.seq ?_
    refine C.region ?_
    refine R.ev rfl (E.move rfl) ?_
    refine R.ev rfl (E.move rfl) ?_
    refine R.ev rfl (E.move rfl) ?_
    refine R.ev rfl (E.indexAddr rfl rfl Tryd.underlying76 Tryd.sz81 rfl (by first | omega | decide)) ?_
    refine R.ev rfl (E.loadRowC rfl Tryd.underlying81 rfl Tryd.sz81 (by first | exact ⟨hs.ldA, by first | rfl | assumption | exact encV_len _ | exact Enc.len _ | exact len_ub (by assumption)⟩ | exact ⟨hs.ldP rfl, by first | rfl | assumption | exact encV_len _ | exact Enc.len _ | exact len_ub (by assumption)⟩ | exact ⟨hs.ldM rfl rfl, by first | rfl | assumption | exact encV_len _ | exact Enc.len _ | exact len_ub (by assumption)⟩ | exact ⟨hs.ldM (by assumption) (by first | rfl | assumption), by first | rfl | assumption | exact encV_len _ | exact Enc.len _ | exact len_ub (by assumption)⟩ | exact ⟨by assumption, by first | rfl | assumption | exact encV_len _ | exact Enc.len _ | exact len_ub (by assumption)⟩ | exact hs.ldp | exact At.partC (by assumption))) ?_
    refine R.callV hcal rfl rfl rfl (hf y my _ hs) ?_
    rintro _ w2 ⟨rfl, hs⟩
    refine R.done ?_
    refine X.keep [(0, _), (1, _), (5, _), (7, _), (8, _), (16, _)] ⟨rfl, rfl, rfl, rfl, rfl, rfl, trivial⟩ ?_
    refine X.next ?_
    refine C.cbool rfl (fun h16 => ?_) (fun h16 => ?_)
    · refine C.seq ?_
      refine C.region ?_
      refine R.ev rfl (E.move rfl) ?_
      refine R.ev rfl (E.assign rfl) ?_
      refine R.done ?_
      refine X.keep [(4, _)] ⟨rfl, trivial⟩ ?_
      refine X.next ?_
      refine C.ret ?_
      refine X.blockRet ?_
      refine X.thenRet ?_
      refine X.loopRet ?_
      refine X.blockRet ?_
      refine X.thenRet ?_
      refine X.ret1 rfl rfl ?_
      exact ⟨by rw [idxP_some hy h16 hno], hs⟩
    · refine C.skip ?_
      refine X.blockNormal ?_
      refine X.next ?_
      refine C.region ?_
      refine R.ev rfl (E.add rfl rfl (by omega) (by omega)) ?_
      refine R.ev rfl (E.move rfl) ?_
      refine R.done ?_
      refine X.keep [(0, _), (1, _), (7, _), (8, _)] ⟨rfl, rfl, rfl, rfl, trivial⟩ ?_
      exact X.again (k + 1) ⟨rfl, rfl, rfl, rfl, trivial⟩ ⟨by omega, hs, idxP_step hy h16 hno⟩ (by omega)
  · refine C.exit ?_
    refine X.thenExit ?_
    refine X.loopExit ?_
    refine X.blockExit ?_
    refine X.next ?_
    refine C.seq ?_
    refine C.region ?_
    refine R.ev rfl (E.assign rfl) ?_
    refine R.done ?_
    refine X.keep [(4, _)] ⟨rfl, trivial⟩ ?_
    refine X.next ?_
    refine C.ret ?_
    refine X.ret1 rfl rfl ?_
    exact ⟨by rw [idxP_none hno (by omega)], hs⟩
theorem cloneO_any {K : Kn} {Hs : List Hl} {L : List Off} {ad : Option Addr} {n c : Nat} {w : World} (hs : Sat K w Hs) [hrd : Rd encO 34 K Hs (.slice ad n c) L] (hn : n ≤ 1000000) :
    Ret Tryd.prog 43 #[.slice ad n c] w fun v w' => ∃ F, RowL 81 encO 34 v L F ∧ Sat K w' (F :: Hs) := by
  have hln := hrd.len
  refine Ret.enter (n := 8) (args := [.slice ad n c]) Tryd.func43 rfl rfl ?_
  refine C.keep [(0, _)] ⟨rfl, trivial⟩ ?_
  refine C.seq ?_
  refine C.region ?_
  refine R.ev rfl (E.assign rfl) ?_
  refine R.done ?_
  refine X.keep [(0, _)] ⟨rfl, trivial⟩ ?_
  refine X.next ?_
  refine C.seq ?_
  refine C.seq ?_
  refine C.region ?_
  refine R.ev rfl (E.move rfl) ?_
  refine R.ev rfl (E.eqlNilS rfl rfl Tryd.underlying76) ?_
  refine R.done ?_
  refine X.keep [(0, _), (4, _)] ⟨rfl, rfl, trivial⟩ ?_
  refine X.next ?_
  refine C.cbool rfl (fun h4 => ?_) (fun h4 => ?_)
  · refine C.seq ?_
    refine C.region ?_
    refine R.ev rfl (E.assign rfl) ?_
    refine R.done ?_
    refine X.keep [(2, _)] ⟨rfl, trivial⟩ ?_
    refine X.next ?_
    refine C.ret ?_
    refine X.thenRet ?_
    refine X.ret1 rfl rfl ?_
    have hL : L = [] := by
      by_cases hL : L = []
      · exact hL
      · obtain ⟨b, off, rfl, _⟩ := (hrd.sl _ hs).at_ hL
        simp at h4
    subst hL
    exact ⟨[], RowL.nil _ _ _, hs.nil⟩
  · refine C.skip ?_
    refine X.next ?_
    refine C.seq ?_
    refine C.region ?_
    refine R.sbuild0 (enc := encO) hs Tryd.underlying76 Tryd.sz81 rfl ?_
    intro v5 w5 F5 r5 nn5 hs
    refine R.ev rfl (E.move rfl) ?_
    refine R.cappSl hs rfl rfl Tryd.underlying76 Tryd.by81 (by rfl) rfl (by decide) (by first | omega | (simp only [List.length_append, List.length_cons, List.length_nil] at *; omega)) (by first | omega | (simp only [List.length_append, List.length_cons, List.length_nil] at *; omega)) ?_
    intro v7 w7 F7 r7 hs
    refine R.ev rfl (E.assign rfl) ?_
    refine R.done ?_
    refine X.keep [(2, _)] ⟨rfl, trivial⟩ ?_
    refine X.next ?_
    refine C.ret ?_
    refine X.ret1 rfl rfl ?_
    exact ⟨F7, by simpa using r7, hs⟩
theorem delO_any {K : Kn} {F : Hl} {Rs : List Hl} {L : List Off} {v : Value} {i j : Nat} {w : World} (hs : Sat K w (F :: Rs)) [hr : RowL 81 encO 34 v L F] (hij : i ≤ j) (hj : j ≤ L.length) (hn : L.length ≤ 1000000) :
    Ret Tryd.prog 39 #[v, .int .i64 i, .int .i64 j] w fun v' w' => ∃ F', RowL 81 encO 34 v' (L.take i ++ L.drop j) F' ∧ Sat K w' (F' :: Rs) := by
  obtain ⟨ad, cap, rfl, hc, hcm, had⟩ := hr.val
  refine Ret.enter (n := 33) (args := [.slice ad L.length cap, .int .i64 i, .int .i64 j]) Tryd.func39 rfl rfl ?_
  refine C.keep [(0, _), (1, _), (2, _)] ⟨rfl, rfl, rfl, trivial⟩ ?_
  refine C.seq ?_
  refine C.region ?_
  refine R.ev rfl (E.assign rfl) ?_
  refine R.done ?_
  refine X.keep [(0, _), (1, _), (2, _)] ⟨rfl, rfl, rfl, trivial⟩ ?_
  refine X.next ?_
  refine C.seq ?_
  refine C.region ?_
  refine R.ev rfl (E.move rfl) ?_
  refine R.ev rfl (E.move rfl) ?_
  refine R.ev rfl (E.move rfl) ?_
  refine R.ev rfl (E.move rfl) ?_
  refine R.ev rfl (E.lenSl rfl Tryd.underlying76) ?_
  refine R.ev rfl (E.sliceLHMs rfl rfl rfl rfl Tryd.underlying76 Tryd.sz81 rfl rfl rfl hij hj hc) ?_
  refine R.done ?_
  refine X.keep [(0, _), (1, _), (2, _)] ⟨rfl, rfl, rfl, trivial⟩ ?_
  refine X.next ?_
  refine C.seq ?_
  refine C.seq ?_
  refine C.region ?_
  refine R.ev rfl (E.move rfl) ?_
  refine R.ev rfl (E.move rfl) ?_
  refine R.ev rfl (E.eql rfl rfl) ?_
  refine R.done ?_
  refine X.keep [(0, _), (1, _), (2, _), (16, _)] ⟨rfl, rfl, rfl, rfl, trivial⟩ ?_
  refine X.next ?_
  refine C.cdec rfl (fun h16 => ?_) (fun h16 => ?_)
  · refine C.seq ?_
    refine C.region ?_
    refine R.ev rfl (E.move rfl) ?_
    refine R.ev rfl (E.assign rfl) ?_
    refine R.done ?_
    refine X.keep [(6, _)] ⟨rfl, trivial⟩ ?_
    refine X.next ?_
    refine C.ret ?_
    refine X.thenRet ?_
    refine X.ret1 rfl rfl ?_
    exact ⟨F, by rw [show i = j by omega, List.take_append_drop]; exact hr, hs⟩
  · refine C.skip ?_
    refine X.next ?_
    refine C.seq ?_
    refine C.region ?_
    have hlt : i < j := by omega
    obtain ⟨b, rfl⟩ := had (by intro e; rw [e] at hj; simp at hj; omega)
    refine R.ev rfl (E.move rfl) ?_
    refine R.ev rfl (E.lenSl rfl Tryd.underlying76) ?_
    refine R.ev rfl (E.assign rfl) ?_
    refine R.done ?_
    refine X.keep [(0, _), (1, _), (2, _), (7, _)] ⟨rfl, rfl, rfl, rfl, trivial⟩ ?_
    refine X.next ?_
    refine C.seq ?_
    refine C.drawn (SatS hs) ([], [0, 1, 2, 3, 4, 5, 7]) (by kernel_rfl) ?_
    have hs := hs.drew
    refine D.evP 0 rfl (by kernel_rfl) rfl (np (by kernel_rfl)) (fun _ => E.move rfl) ?_
    refine D.evP 1 rfl (by kernel_rfl) rfl (np (by kernel_rfl)) (fun _ => E.move rfl) ?_
    refine D.evP 2 rfl (by kernel_rfl) rfl (np (by kernel_rfl)) (fun _ => E.sliceH rfl rfl Tryd.underlying76 Tryd.sz81 rfl (by omega)) ?_
    refine D.evP 3 rfl (by kernel_rfl) rfl (np (by kernel_rfl)) (fun _ => E.move rfl) ?_
    refine D.evP 4 rfl (by kernel_rfl) rfl (np (by kernel_rfl)) (fun _ => E.move rfl) ?_
    refine D.evP 5 rfl (by kernel_rfl) rfl (np (by kernel_rfl)) (fun _ => E.sliceLs rfl rfl Tryd.underlying76 Tryd.sz81 rfl (by omega)) ?_
    refine D.act 6 rfl (by kernel_rfl) ?_
    have hsl := Rd.sl (inferInstance : Rd encO 34 K (F :: Rs) (.slice (some ⟨b, 0, none⟩) L.length cap) L) _ hs
    refine R.sappIn hs hr rfl rfl Tryd.underlying76 Tryd.by81 rfl (hsl.tail hc hj) (fun y _ => Enc.one y) hij hj ?_
    intro w5 F5 r5 hs
    refine D.backT (by kernel_rfl) ?_
    refine D.evP 7 rfl (by kernel_rfl) rfl (np (by kernel_rfl)) (fun _ => E.assign rfl) ?_
    refine D.done rfl (by kernel_rfl) ?_
    refine X.keep [(0, _), (7, _)] ⟨rfl, rfl, trivial⟩ ?_
    refine X.next ?_
    refine C.seq ?_
    refine C.region ?_
    refine R.ev rfl (E.move rfl) ?_
    refine R.ev rfl (E.move rfl) ?_
    refine R.ev rfl (E.lenSl rfl Tryd.underlying76) ?_
    refine R.ev rfl (E.move rfl) ?_
    refine R.ev rfl ((E.sliceLHs rfl rfl rfl Tryd.underlying76 Tryd.sz81 rfl rfl (by omega) hc).as (u := .slice (some (if cap = i + (L.length - j) then ⟨b, 0, none⟩ else (⟨b, 0, none⟩ : Addr).add ((i + (L.length - j)) * 34))) (L.length - (i + (L.length - j))) (cap - (i + (L.length - j)))) (by simp only [subAd]; split <;> rfl)) ?_
    refine R.sclear (q := (i + (L.length - j)) * 34) hs r5 rfl Tryd.underlying76 Tryd.zr81 (by rfl) (by rfl) ?_ ?_ ?_ (by decide) ?_
    · intro _
      rw [if_neg (by omega), add_at]
      simp
    · simp; omega
    · omega
    intro w6 F6 r6 hs
    refine R.done ?_
    refine X.keep [(0, _)] ⟨rfl, trivial⟩ ?_
    refine X.next ?_
    refine C.seq ?_
    refine C.region ?_
    refine R.ev rfl (E.move rfl) ?_
    refine R.ev rfl (E.assign rfl) ?_
    refine R.done ?_
    refine X.keep [(6, _)] ⟨rfl, trivial⟩ ?_
    refine X.next ?_
    refine C.ret ?_
    refine X.ret1 rfl rfl ?_
    exact ⟨F6, r6, hs⟩
theorem delfO_any {K : Kn} {F : Hl} {Rs : List Hl} {fid : FuncId} {first cap : List Value} {p : Off → Bool} {L : List Off} {v : Value} {w : World} (hcal : Callable Tryd.prog fid) (hs : Sat K w (F :: Rs)) [hr : RowL 81 encO 34 v L F] (hn : L.length ≤ 1000000)
    (hf : ∀ y ∈ L, ∀ Hs w', Sat K w' Hs → Ret Tryd.prog fid (first ++ [Value.agg (encO y).toArray] ++ cap).toArray w' fun v w'' => v = .bool (p y) ∧ Sat K w'' Hs) :
    Ret Tryd.prog 42 #[v, .func (.func fid) first.toArray cap.toArray] w fun v' w' => ∃ F', RowL 81 encO 34 v' (L.filter (fun y => !p y)) F' ∧ Sat K w' (F' :: Rs) := by
  obtain ⟨ad, cp, rfl, hc, hcm, had⟩ := hr.val
  refine Ret.enter (n := 42) (args := [.slice ad L.length cp, .func (.func fid) first.toArray cap.toArray]) Tryd.func42 rfl rfl ?_
  refine C.keep [(0, _), (1, _)] ⟨rfl, rfl, trivial⟩ ?_
  refine C.seq ?_
  refine C.region ?_
  refine R.ev rfl (E.assign rfl) ?_
  refine R.done ?_
  refine X.keep [(0, _), (1, _)] ⟨rfl, rfl, trivial⟩ ?_
  refine X.next ?_
  refine C.seq ?_
  refine C.region ?_
  refine R.ev rfl (E.move rfl) ?_
  refine R.ev rfl (E.move rfl) ?_
  refine R.call ⟨_, _, Tryd.func37, rfl, by kernel_rfl⟩ rfl rfl (idxO_any (p := p) (L := L) hcal hs (by omega) (fun y hy w' hw => hf y hy _ w' hw)) ?_
  rintro _ w1 ⟨rfl, hs⟩
  refine R.ev rfl (E.assign rfl) ?_
  refine R.done ?_
  refine X.keep [(0, _), (1, _), (5, _)] ⟨rfl, rfl, rfl, trivial⟩ ?_
  refine X.next ?_
  refine C.seq ?_
  refine C.seq ?_
  refine C.region ?_
  refine R.ev rfl (E.move rfl) ?_
  refine R.ev rfl ((E.eql rfl rfl).isB (c := decide (idxP p L = -1)) rfl) ?_
  refine R.done ?_
  refine X.keep [(0, _), (1, _), (5, _), (12, _)] ⟨rfl, rfl, rfl, rfl, trivial⟩ ?_
  refine X.next ?_
  refine C.cdec rfl (fun h12 => ?_) (fun h12 => ?_)
  · refine C.seq ?_
    refine C.region ?_
    refine R.ev rfl (E.move rfl) ?_
    refine R.ev rfl (E.assign rfl) ?_
    refine R.done ?_
    refine X.keep [(4, _)] ⟨rfl, trivial⟩ ?_
    refine X.next ?_
    refine C.ret ?_
    refine X.thenRet ?_
    refine X.ret1 rfl rfl ?_
    exact ⟨F, by rw [filter_of_idxP h12]; exact hr, hs⟩
  · refine C.skip ?_
    refine X.next ?_
    refine C.seq ?_
    refine C.seq ?_
    refine C.region ?_
    obtain ⟨i0, y0, hi0, hy0, hp0, hno⟩ := idxP_pos h12
    rw [hi0]
    have hi0L : i0 < L.length := (List.getElem?_eq_some_iff.1 hy0).1
    obtain ⟨b, rfl⟩ := had (by intro e; rw [e] at hi0L; simp at hi0L)
    refine R.ev rfl (E.move rfl) ?_
    refine R.ev rfl (E.add rfl rfl (by omega) (by omega)) ?_
    refine R.ev rfl (E.assign rfl) ?_
    refine R.done ?_
    refine X.keep [(0, _), (1, _), (5, _), (6, _)] ⟨rfl, rfl, rfl, rfl, trivial⟩ ?_
    refine X.next ?_
    refine C.block ?_
    refine C.loop (T := Nat × Nat × List Off × Hl) [(0, _), (1, _)] (fun (i, j, _, _) => [(5, .int .i64 (i : Nat)), (6, .int .i64 (j : Nat))]) (fun (i, j, M, F') w' => i < j ∧ j ≤ L.length ∧ M.length = L.length ∧ M.take i = (L.take j).filter (fun y => !p y) ∧ M.drop j = L.drop j ∧ RowL 81 encO 34 (.slice (some ⟨b, 0, none⟩) L.length cp) M F' ∧ Sat K w' (F' :: Rs) ∧ ∀ y ∈ M, y ∈ L) (fun (_, j, _, _) => L.length - j) ((i0, i0 + 1, L, F)) ⟨rfl, rfl, rfl, rfl, trivial⟩ ⟨by omega, by omega, rfl, filter_take_first hy0 hp0 hno, rfl, hr, hs, fun _ h => h⟩ ?_
    rintro ⟨i, j, M, F'⟩ w2 ⟨hij, hjL, hML, htk, hdr, hr', hs, hsub⟩
    refine C.keep [(0, _), (1, _), (5, _), (6, _)] ⟨rfl, rfl, rfl, rfl, trivial⟩ ?_
    refine C.seq ?_
    refine C.seq ?_
    refine C.region ?_
    refine R.ev rfl (E.move rfl) ?_
    refine R.ev rfl (E.move rfl) ?_
    refine R.ev rfl (E.lenSl rfl Tryd.underlying76) ?_
    refine R.ev rfl (E.lss rfl rfl) ?_
    refine R.done ?_
    refine X.keep [(0, _), (1, _), (5, _), (6, _), (19, _)] ⟨rfl, rfl, rfl, rfl, rfl, trivial⟩ ?_
    refine X.next ?_
    refine C.cdec rfl (fun h19 => ?_) (fun h19 => ?_)
    · have hlt : j < L.length := by omega
      obtain ⟨y, by0, oy, hyM, myM, ly, hbb, Ay⟩ := hs.el (i := j) (ad := some ⟨b, 0, none⟩) (n := L.length) (c := cp) hlt
      simp only [Option.some.injEq, Addr.mk.injEq, and_true] at hbb
      obtain ⟨rfl, rfl⟩ := hbb
      have ay := Ay _ hs
      have hyj : L[j]? = some y := by
        have := congrArg (fun l => l[0]?) hdr
        simpa [hyM] using this.symm
      have hym := List.mem_of_getElem? hyj
      have hye := Enc.one (enc := encO) y
      refine C.skip ?_
      refine X.next ?_
      refine C.seq ?_
      refine C.block ?_
      refine C.seq ?_
      refine C.region ?_
      refine R.ev rfl (E.move rfl) ?_
      refine R.ev rfl (E.move rfl) ?_
      refine R.ev rfl (E.indexAddr rfl rfl Tryd.underlying76 Tryd.sz81 rfl (by first | omega | decide)) ?_
      refine R.ev rfl (E.loadRowC rfl Tryd.underlying81 rfl Tryd.sz81 (by first | exact ⟨hs.ldA, by first | rfl | assumption | exact encV_len _ | exact Enc.len _ | exact len_ub (by assumption)⟩ | exact ⟨hs.ldP rfl, by first | rfl | assumption | exact encV_len _ | exact Enc.len _ | exact len_ub (by assumption)⟩ | exact ⟨hs.ldM rfl rfl, by first | rfl | assumption | exact encV_len _ | exact Enc.len _ | exact len_ub (by assumption)⟩ | exact ⟨hs.ldM (by assumption) (by first | rfl | assumption), by first | rfl | assumption | exact encV_len _ | exact Enc.len _ | exact len_ub (by assumption)⟩ | exact ⟨by assumption, by first | rfl | assumption | exact encV_len _ | exact Enc.len _ | exact len_ub (by assumption)⟩ | exact hs.ldp | exact At.partC (by assumption))) ?_
      refine R.sallocA hs Tryd.zr81 rfl ?_
      intro b7 w7 hs
      first | refine R.cstoreAll hs rfl rfl Tryd.sz81 (by first | rfl | assumption | exact encV_len _ | exact Enc.len _ | exact len_ub (by assumption) | simp [*]) (by first | rfl | assumption | exact encV_len _ | exact Enc.len _ | exact len_ub (by assumption) | simp [*]) (by first | assumption | exact OneL.all | exact Enc.one _ | exact ub_all _ | (repeat' (first | refine List.forall_mem_cons.2 ⟨?_, ?_⟩ | exact List.forall_mem_nil _ | rfl | exact OneC.one | exact KRow.oneC' (by assumption)))) ?_ | refine R.cstore hs rfl rfl Tryd.sz81 (by first | rfl | assumption | exact encV_len _ | exact Enc.len _ | exact len_ub (by assumption) | simp [*]) (by simp [*]) (by first | assumption | exact OneL.all | exact Enc.one _ | exact ub_all _ | (repeat' (first | refine List.forall_mem_cons.2 ⟨?_, ?_⟩ | exact List.forall_mem_nil _ | rfl | exact OneC.one | exact KRow.oneC' (by assumption)))) ?_
      intro w7_5 hs
      try simp only [List.set_cons_zero, List.set_cons_succ] at hs
      refine R.done ?_
      refine X.keep [(0, _), (1, _), (5, _), (6, _), (7, _)] ⟨rfl, rfl, rfl, rfl, rfl, trivial⟩ ?_
      refine X.next ?_
      refine C.seq ?_
      refine C.region ?_
      refine R.ev rfl (E.move rfl) ?_
      refine R.ev rfl (E.loadRowC rfl Tryd.underlying81 rfl Tryd.sz81 (by first | exact ⟨hs.ldA, by first | rfl | assumption | exact encV_len _ | exact Enc.len _ | exact len_ub (by assumption)⟩ | exact ⟨hs.ldP rfl, by first | rfl | assumption | exact encV_len _ | exact Enc.len _ | exact len_ub (by assumption)⟩ | exact ⟨hs.ldM rfl rfl, by first | rfl | assumption | exact encV_len _ | exact Enc.len _ | exact len_ub (by assumption)⟩ | exact ⟨hs.ldM (by assumption) (by first | rfl | assumption), by first | rfl | assumption | exact encV_len _ | exact Enc.len _ | exact len_ub (by assumption)⟩ | exact ⟨by assumption, by first | rfl | assumption | exact encV_len _ | exact Enc.len _ | exact len_ub (by assumption)⟩ | exact hs.ldp | exact At.partC (by assumption))) ?_
      refine R.callV hcal rfl rfl rfl (hf y hym _ _ hs) ?_
      rintro _ w3 ⟨rfl, hs⟩
      refine R.ev rfl ((E.not rfl).isB (c := !(p y)) rfl) ?_
      refine R.done ?_
      refine X.keep [(0, _), (1, _), (5, _), (6, _), (7, _), (29, _)] ⟨rfl, rfl, rfl, rfl, rfl, rfl, trivial⟩ ?_
      refine X.next ?_
      refine C.cbool rfl (fun h29 => ?_) (fun h29 => ?_)
      · have hiM : i < M.length := by omega
        have hMi : M[i]? = some M[i] := List.getElem?_eq_getElem hiM
        refine C.seq ?_
        refine C.region ?_
        refine R.ev rfl (E.move rfl) ?_
        refine R.ev rfl (E.move rfl) ?_
        refine R.ev rfl (E.loadRowC rfl Tryd.underlying81 rfl Tryd.sz81 (by first | exact ⟨hs.ldA, by first | rfl | assumption | exact encV_len _ | exact Enc.len _ | exact len_ub (by assumption)⟩ | exact ⟨hs.ldP rfl, by first | rfl | assumption | exact encV_len _ | exact Enc.len _ | exact len_ub (by assumption)⟩ | exact ⟨hs.ldM rfl rfl, by first | rfl | assumption | exact encV_len _ | exact Enc.len _ | exact len_ub (by assumption)⟩ | exact ⟨hs.ldM (by assumption) (by first | rfl | assumption), by first | rfl | assumption | exact encV_len _ | exact Enc.len _ | exact len_ub (by assumption)⟩ | exact ⟨by assumption, by first | rfl | assumption | exact encV_len _ | exact Enc.len _ | exact len_ub (by assumption)⟩ | exact hs.ldp | exact At.partC (by assumption))) ?_
        refine R.ev rfl (E.indexAddr rfl rfl Tryd.underlying76 Tryd.sz81 rfl (by first | omega | decide)) ?_
        refine R.ssetE i y hs.p1 hr' rfl rfl Tryd.sz81 hMi ly (by omega) hye ?_
        intro w4 F4 r4 hs
        refine R.done ?_
        refine X.keep [(0, _), (1, _), (5, _), (6, _)] ⟨rfl, rfl, rfl, rfl, trivial⟩ ?_
        refine X.next ?_
        refine C.region ?_
        refine R.ev rfl (E.move rfl) ?_
        refine R.ev rfl (E.add rfl rfl (by omega) (by omega)) ?_
        refine R.ev rfl (E.assign rfl) ?_
        refine R.done ?_
        refine X.keep [(0, _), (1, _), (5, _), (6, _)] ⟨rfl, rfl, rfl, rfl, trivial⟩ ?_
        refine X.blockNormal ?_
        refine X.next ?_
        refine C.region ?_
        refine R.ev rfl (E.move rfl) ?_
        refine R.ev rfl (E.add rfl rfl (by omega) (by omega)) ?_
        refine R.ev rfl (E.assign rfl) ?_
        refine R.done ?_
        refine X.keep [(0, _), (1, _), (5, _), (6, _)] ⟨rfl, rfl, rfl, rfl, trivial⟩ ?_
        first
          | exact X.again (i + 1, j + 1, M.set i y, F4) ⟨rfl, rfl, rfl, rfl, trivial⟩ ⟨by omega, by omega, by simpa using hML, by rw [take_snoc hyj, List.filter_append, ← htk]; simp [h29, take_set_snoc hiM], by rw [List.drop_set_of_lt (by omega), drop_succ_eq hdr], r4, hs.to, fun z hz => by rcases List.mem_or_eq_of_mem_set hz with h | h; exact hsub z h; rw [h]; exact hym⟩ (by show _ - _ < _ - _; omega)
          | exact X.again (i, j + 1, M, F') ⟨rfl, rfl, rfl, rfl, trivial⟩ ⟨by omega, by omega, hML, by rw [take_snoc hyj, List.filter_append, ← htk]; simp_all, drop_succ_eq hdr, hr', hs.to, hsub⟩ (by show _ - _ < _ - _; omega)
      · refine C.skip ?_
        refine X.blockNormal ?_
        refine X.next ?_
        refine C.region ?_
        refine R.ev rfl (E.move rfl) ?_
        refine R.ev rfl (E.add rfl rfl (by omega) (by omega)) ?_
        refine R.ev rfl (E.assign rfl) ?_
        refine R.done ?_
        refine X.keep [(0, _), (1, _), (5, _), (6, _)] ⟨rfl, rfl, rfl, rfl, trivial⟩ ?_
        first
          | exact X.again (i + 1, j + 1, M.set i y, F4) ⟨rfl, rfl, rfl, rfl, trivial⟩ ⟨by omega, by omega, by simpa using hML, by rw [take_snoc hyj, List.filter_append, ← htk]; simp [h29, take_set_snoc hiM], by rw [List.drop_set_of_lt (by omega), drop_succ_eq hdr], r4, hs.to, fun z hz => by rcases List.mem_or_eq_of_mem_set hz with h | h; exact hsub z h; rw [h]; exact hym⟩ (by show _ - _ < _ - _; omega)
          | exact X.again (i, j + 1, M, F') ⟨rfl, rfl, rfl, rfl, trivial⟩ ⟨by omega, by omega, hML, by rw [take_snoc hyj, List.filter_append, ← htk]; simp_all, drop_succ_eq hdr, hr', hs.to, hsub⟩ (by show _ - _ < _ - _; omega)
    · refine C.exit ?_
      refine X.thenExit ?_
      refine X.loopExit ?_
      refine X.blockExit ?_
      refine X.next ?_
      refine C.seq ?_
      refine C.region ?_
      refine R.ev rfl (E.move rfl) ?_
      refine R.ev rfl (E.move rfl) ?_
      refine R.ev rfl ((E.sliceLs rfl rfl Tryd.underlying76 Tryd.sz81 rfl (by omega)).as (u := .slice (some (if cp = i then ⟨b, 0, none⟩ else (⟨b, 0, none⟩ : Addr).add (i * 34))) (L.length - i) (cp - i)) (by simp only [subAd]; split <;> rfl)) ?_
      have hjn : j = L.length := by omega
      have hpre := hr'.pre (i := i) (by omega)
      refine R.sclear (q := i * 34) hs hpre rfl Tryd.underlying76 Tryd.zr81 (by rfl) (by rfl) ?_ ?_ ?_ (by decide) ?_
      · intro _
        rw [if_neg (by omega), add_at]
        simp
      · simp; omega
      · have : i + (L.length - i) ≤ cp := by omega
        have := Nat.mul_le_mul_right 34 this
        omega
      intro w6 F6 r6 hs
      refine R.done ?_
      refine X.keep [(0, _), (5, _)] ⟨rfl, rfl, trivial⟩ ?_
      refine X.next ?_
      refine C.seq ?_
      refine C.region ?_
      refine R.ev rfl (E.move rfl) ?_
      refine R.ev rfl (E.move rfl) ?_
      refine R.ev rfl (E.sliceH rfl rfl Tryd.underlying76 Tryd.sz81 rfl (by omega)) ?_
      refine R.ev rfl (E.assign rfl) ?_
      refine R.done ?_
      refine X.keep [(4, _)] ⟨rfl, trivial⟩ ?_
      refine X.next ?_
      refine C.ret ?_
      refine X.ret1 rfl rfl ?_
      refine ⟨F6, ?_, hs⟩
      rw [htk, hjn, List.take_length] at r6
      exact r6
theorem eqO_any {K : Kn} {Hs : List Hl} {L M : List Off} {ad ad' : Option Addr} {n c n' c' : Nat} {w : World} (hs : Sat K w Hs) [h1 : Rd encO 34 K Hs (.slice ad n c) L] [h2 : Rd encO 34 K Hs (.slice ad' n' c') M] (hn : n ≤ 9223372036854775807) :
    Ret Tryd.prog 44 #[.slice ad n c, .slice ad' n' c'] w fun v w' => v = .bool (decide (L = M)) ∧ Sat K w' Hs := by
  have hln := h1.len
  have hln' := h2.len
  refine Ret.enter (n := 26) (args := [.slice ad n c, .slice ad' n' c']) Tryd.func44 rfl rfl ?_
  refine C.keep [(0, _), (1, _)] ⟨rfl, rfl, trivial⟩ ?_
  refine C.seq ?_
  refine C.region ?_
  refine R.ev rfl (E.assign rfl) ?_
  refine R.done ?_
  refine X.keep [(0, _), (1, _)] ⟨rfl, rfl, trivial⟩ ?_
  refine X.next ?_
  refine C.seq ?_
  refine C.seq ?_
  refine C.region ?_
  refine R.ev rfl (E.move rfl) ?_
  refine R.ev rfl (E.lenSl rfl Tryd.underlying76) ?_
  refine R.ev rfl (E.move rfl) ?_
  refine R.ev rfl (E.lenSl rfl Tryd.underlying76) ?_
  refine R.ev rfl (E.neq rfl rfl) ?_
  refine R.done ?_
  refine X.keep [(0, _), (1, _), (10, _)] ⟨rfl, rfl, rfl, trivial⟩ ?_
  refine X.next ?_
  refine C.cdec rfl (fun h10 => ?_) (fun h10 => ?_)
  · refine C.seq ?_
    refine C.region ?_
    refine R.ev rfl (E.assign rfl) ?_
    refine R.done ?_
    refine X.keep [(4, _)] ⟨rfl, trivial⟩ ?_
    refine X.next ?_
    refine C.ret ?_
    refine X.thenRet ?_
    refine X.ret1 rfl rfl ?_
    exact ⟨by rw [decide_eq_false]; intro e; rw [e] at hln; omega, hs⟩
  · refine C.skip ?_
    refine X.next ?_
    refine C.seq ?_
    refine C.seq ?_
    refine C.region ?_
    refine R.ev rfl (E.move rfl) ?_
    refine R.ev rfl (E.lenSl rfl Tryd.underlying76) ?_
    refine R.ev rfl (E.move rfl) ?_
    refine R.done ?_
    refine X.keep [(0, _), (1, _), (12, _), (13, _)] ⟨rfl, rfl, rfl, rfl, trivial⟩ ?_
    refine X.next ?_
    refine C.block ?_
    refine C.loop  [(0, _), (1, _), (12, _)] (fun k => [(13, .int .i64 (k : Nat))]) (fun k w' => k ≤ n ∧ Sat K w' Hs ∧ L.take k = M.take k) (fun k => n - k) (0) ⟨rfl, rfl, rfl, rfl, trivial⟩ ⟨Nat.zero_le _, hs, rfl⟩ ?_
    rintro k w1 ⟨hk, hs, htk⟩
    refine C.keep [(0, _), (1, _), (12, _), (13, _)] ⟨rfl, rfl, rfl, rfl, trivial⟩ ?_
    refine C.seq ?_
    refine C.region ?_
    refine R.ev rfl (E.lss rfl rfl) ?_
    refine R.done ?_
    refine X.keep [(0, _), (1, _), (12, _), (13, _), (14, _)] ⟨rfl, rfl, rfl, rfl, rfl, trivial⟩ ?_
    refine X.next ?_
    refine C.seq ?_
    refine C.cdec rfl (fun h14 => ?_) (fun h14 => ?_)
    · obtain ⟨y, bk_y, of_y, hy, my, ly, rfl, Ay⟩ := hs.el (i := k) (ad := ad) (n := n) (c := c) (by omega)
      have ay := Ay _ hs
      obtain ⟨z, bk_z, of_z, hz, mz, lz, rfl, Az⟩ := hs.el (i := k) (ad := ad') (n := n') (c := c') (by omega)
      have az := Az _ hs
      have hfy := encO_fits y ly
      have hfz := encO_fits z lz
      refine C.skip ?_
      refine X.next ?_
      refine C.seq ?_
      refine C.block ?_
      refine C.seq ?_
      refine C.region ?_
      refine R.ev rfl (E.move rfl) ?_
      refine R.ev rfl (E.assign rfl) ?_
      refine R.done ?_
      refine X.keep [(0, _), (1, _), (5, _), (12, _), (13, _)] ⟨rfl, rfl, rfl, rfl, rfl, trivial⟩ ?_
      refine X.next ?_
      refine C.seq ?_
      refine C.drawn (SatS hs) ([3, 7], [0, 1, 2, 4, 5, 6, 8]) (by kernel_rfl) ?_
      have hs := hs.drew
      refine D.evP 0 rfl (by kernel_rfl) rfl (fun _ => hs.to) (fun _ => E.move rfl) ?_
      refine D.evP 1 rfl (by kernel_rfl) rfl (fun _ => hs.to) (fun _ => E.move rfl) ?_
      refine D.evP 2 rfl (by kernel_rfl) rfl (fun _ => hs.to) (fun _ => E.indexAddr rfl rfl Tryd.underlying76 Tryd.sz81 rfl (by first | omega | decide)) ?_
      refine D.evP 4 rfl (by kernel_rfl) rfl (fun _ => hs.to) (fun _ => E.move rfl) ?_
      refine D.evP 5 rfl (by kernel_rfl) rfl (fun _ => hs.to) (fun _ => E.move rfl) ?_
      refine D.evP 6 rfl (by kernel_rfl) rfl (fun _ => hs.to) (fun _ => E.indexAddr rfl rfl Tryd.underlying76 Tryd.sz81 rfl (by first | omega | decide)) ?_
      refine D.ev 3 rfl (by kernel_rfl) rfl hs.to (fun _ hS => E.loadRow rfl Tryd.underlying81 rfl Tryd.sz81 (Ay _ hS) ly) ?_
      refine D.ev 7 rfl (by kernel_rfl) rfl hs.to (fun _ hS => E.loadRow rfl Tryd.underlying81 rfl Tryd.sz81 (Az _ hS) lz) ?_
      refine D.evP 8 rfl (by kernel_rfl) rfl (fun _ => hs.to) (fun _ => (E.neqAgg 10 rfl rfl Tryd.lv81 rfl Tryd.underlying81 rfl Tryd.gd81 hfy hfz).isB (c := decide (y ≠ z)) (by rw [encO_eq ly lz]; simp)) ?_
      refine D.done rfl (by kernel_rfl) ?_
      refine X.keep [(0, _), (1, _), (12, _), (13, _), (24, _)] ⟨rfl, rfl, rfl, rfl, rfl, trivial⟩ ?_
      refine X.next ?_
      refine C.cdec rfl (fun h24 => ?_) (fun h24 => ?_)
      · refine C.seq ?_
        refine C.region ?_
        refine R.ev rfl (E.assign rfl) ?_
        refine R.done ?_
        refine X.keep [(4, _)] ⟨rfl, trivial⟩ ?_
        refine X.next ?_
        refine C.ret ?_
        refine X.blockRet ?_
        refine X.thenRet ?_
        refine X.loopRet ?_
        refine X.blockRet ?_
        refine X.thenRet ?_
        refine X.ret1 rfl rfl ?_
        exact ⟨by rw [decide_eq_false]; intro e; rw [e, hz] at hy; exact h24 (by simpa using hy.symm), hs⟩
      · refine C.skip ?_
        refine X.blockNormal ?_
        refine X.next ?_
        refine C.region ?_
        refine R.ev rfl (E.add rfl rfl (by omega) (by omega)) ?_
        refine R.ev rfl (E.move rfl) ?_
        refine R.done ?_
        refine X.keep [(0, _), (1, _), (12, _), (13, _)] ⟨rfl, rfl, rfl, rfl, trivial⟩ ?_
        exact X.again (k + 1) ⟨rfl, rfl, rfl, rfl, trivial⟩ ⟨by omega, hs, by rw [take_snoc hy, take_snoc hz, htk, Decidable.not_not.1 h24]⟩ (by omega)
    · refine C.exit ?_
      refine X.thenExit ?_
      refine X.loopExit ?_
      refine X.blockExit ?_
      refine X.next ?_
      refine C.seq ?_
      refine C.region ?_
      refine R.ev rfl (E.assign rfl) ?_
      refine R.done ?_
      refine X.keep [(4, _)] ⟨rfl, trivial⟩ ?_
      refine X.next ?_
      refine C.ret ?_
      refine X.ret1 rfl rfl ?_
      exact ⟨by rw [decide_eq_true]; rw [← List.take_length (l := L), ← List.take_length (l := M), hln.1, hln'.1, show n' = n by omega]; rwa [show k = n by omega] at htk, hs⟩
end Go.Proofs.YtajbclcpkgenbaaDoor
