/-
  Chapter 41: choose, Ends, Withdrawn.
-/
import Derived.Test.YtmjmichghfepkaaSupX
import Derived.Test.YtmjmichghfepkaaSortK
import Derived.Test.YtmjmichghfepkaaMapR
import Derived.Test.YtmjmichghfepkaaMapE
namespace Go.Proofs.Ytmjmichghfepkaa
open Go.Eng Go.RowKit Go.Sort
variable {K : Kn} {Hs Rs : List Hl} {F : Hl} {w : World} {v : Value} {L : List RR}
theorem idxFA_any {K : Kn} {Hs : List Hl} {fid : FuncId} {first cap : List Value} {p : RA → Bool} {L : List RA} {ad : Option Addr} {n c : Nat} {w : World} (hcal : Callable Try.prog fid) (hs : Sat K w Hs) [hrd : Rd encA 83 K Hs (.slice ad n c) L] (hn : n ≤ 9223372036854775807)
    (hf : ∀ y ∈ L, ∀ w', Sat K w' Hs → Ret Try.prog fid (first ++ [Value.agg (encA y).toArray] ++ cap).toArray w' fun v w'' => v = .bool (p y) ∧ Sat K w'' Hs) :
    Ret Try.prog 79 #[.slice ad n c, .func (.func fid) first.toArray cap.toArray] w fun v w' => v = .int .i64 (idxP p L) ∧ Sat K w' Hs := by
  have hln := hrd.len
  refine Ret.enter (n := 19) (args := [.slice ad n c, .func (.func fid) first.toArray cap.toArray]) Try.func79 rfl rfl ?_
  refine C.keep [(0, _), (1, _)] ⟨rfl, rfl, trivial⟩ ?_
  refine C.seq ?_
  refine C.region ?_
  refine R.ev rfl (E.assign rfl) ?_
  refine R.done ?_
  refine X.keep [(0, _), (1, _)] ⟨rfl, rfl, trivial⟩ ?_
  refine X.next ?_
  refine C.seq ?_
  refine C.seq ?_
  refine C.region ?_
  refine R.ev rfl (E.move rfl) ?_
  refine R.ev rfl (E.lenSl rfl Try.underlying27) ?_
  refine R.ev rfl (E.move rfl) ?_
  refine R.done ?_
  refine X.keep [(0, _), (1, _), (7, _), (8, _)] ⟨rfl, rfl, rfl, rfl, trivial⟩ ?_
  refine X.next ?_
  refine C.block ?_
  refine C.loop  [(0, _), (1, _), (7, _)] (fun k => [(8, .int .i64 (k : Nat))]) (fun k w' => k ≤ n ∧ Sat K w' Hs ∧ ∀ j, j < k → ∀ y, L[j]? = some y → p y = false) (fun k => n - k) (0) ⟨rfl, rfl, rfl, rfl, trivial⟩ ⟨Nat.zero_le _, hs, fun j h => by omega⟩ ?_
  rintro k w1 ⟨hk, hs, hno⟩
  refine C.keep [(0, _), (1, _), (7, _), (8, _)] ⟨rfl, rfl, rfl, rfl, trivial⟩ ?_
  refine C.seq ?_
  refine C.region ?_
  refine R.ev rfl (E.lss rfl rfl) ?_
  refine R.done ?_
  refine X.keep [(0, _), (1, _), (7, _), (8, _), (9, _)] ⟨rfl, rfl, rfl, rfl, rfl, trivial⟩ ?_
  refine X.next ?_
  refine C.seq ?_
  refine C.cdec rfl (fun h9 => ?_) (fun h9 => ?_)
  obtain ⟨y, bk_y, of_y, hy, my, ly, rfl, Ay⟩ := hs.el (i := k) (ad := ad) (n := n) (c := c) (by omega)
  have ay := Ay _ hs
  refine C.skip ?_
  refine X.next ?_
  refine C.seq ?_
  refine C.block ?_
  refine C.seq ?_
  refine C.region ?_
  refine R.ev rfl (E.move rfl) ?_
  refine R.ev rfl (E.assign rfl) ?_
  refine R.done ?_
  refine X.keep [(0, _), (1, _), (5, _), (7, _), (8, _)] ⟨rfl, rfl, rfl, rfl, rfl, trivial⟩ ?_
  refine X.next ?_
  refine C.seq ?_
  refine C.region ?_
  refine R.ev rfl (E.move rfl) ?_
  refine R.ev rfl (E.move rfl) ?_
  refine R.ev rfl (E.move rfl) ?_
  refine R.ev rfl (E.indexAddr rfl rfl Try.underlying27 Try.sz42 rfl (by omega)) ?_
  refine R.ev rfl (E.loadRowC rfl Try.underlying42 rfl Try.sz42 (by exact ⟨by assumption, by assumption⟩)) ?_
  refine R.callV hcal rfl rfl rfl (hf y my _ hs) ?_
  rintro _ w2 ⟨rfl, hs⟩
  refine R.done ?_
  refine X.keep [(0, _), (1, _), (5, _), (7, _), (8, _), (16, _)] ⟨rfl, rfl, rfl, rfl, rfl, rfl, trivial⟩ ?_
  refine X.next ?_
  refine C.cbool rfl (fun h16 => ?_) (fun h16 => ?_)
  refine C.seq ?_
  refine C.region ?_
  refine R.ev rfl (E.move rfl) ?_
  refine R.ev rfl (E.assign rfl) ?_
  refine R.done ?_
  refine X.keep [(4, _)] ⟨rfl, trivial⟩ ?_
  refine X.next ?_
  refine C.ret ?_
  refine X.blockRet ?_
  refine X.thenRet ?_
  refine X.loopRet ?_
  refine X.blockRet ?_
  refine X.thenRet ?_
  refine X.ret1 rfl rfl ?_
  exact ⟨by rw [idxP_some hy h16 hno], hs⟩
  refine C.skip ?_
  refine X.blockNormal ?_
  refine X.next ?_
  refine C.region ?_
  refine R.ev rfl (E.add rfl rfl (by omega) (by omega)) ?_
  refine R.ev rfl (E.move rfl) ?_
  refine R.done ?_
  refine X.keep [(0, _), (1, _), (7, _), (8, _)] ⟨rfl, rfl, rfl, rfl, trivial⟩ ?_
  exact X.again (k + 1) ⟨rfl, rfl, rfl, rfl, trivial⟩ ⟨by omega, hs, idxP_step hy h16 hno⟩ (by omega)
  refine C.exit ?_
  refine X.thenExit ?_
  refine X.loopExit ?_
  refine X.blockExit ?_
  refine X.next ?_
  refine C.seq ?_
  refine C.region ?_
  refine R.ev rfl (E.assign rfl) ?_
  refine R.done ?_
  refine X.keep [(4, _)] ⟨rfl, trivial⟩ ?_
  refine X.next ?_
  refine C.ret ?_
  refine X.ret1 rfl rfl ?_
  exact ⟨by rw [idxP_none hno (by omega)], hs⟩
theorem conFA_any {fid : FuncId} {first cap : List Value} {p : RA → Bool} {A : List RA} (hcal : Callable Try.prog fid) (hs : Sat K w Hs) [hrd : Rd encA 83 K Hs v A] (hn : A.length ≤ 1000000)
    (hf : ∀ y ∈ A, ∀ w', Sat K w' Hs → Ret Try.prog fid (first ++ [evA y] ++ cap).toArray w' fun v w'' => v = .bool (p y) ∧ Sat K w'' Hs) :
    Ret Try.prog 64 #[v, .func (.func fid) first.toArray cap.toArray] w fun v w' => v = .bool (A.any p) ∧ Sat K w' Hs := by
  obtain ⟨ad, c, rfl, _⟩ := hrd.ex
  refine Ret.enter (n := 9) (args := [.slice ad A.length c, .func (.func fid) first.toArray cap.toArray]) Try.func64 rfl rfl ?_
  refine C.keep [(0, _), (1, _)] ⟨rfl, rfl, trivial⟩ ?_
  refine C.seq ?_
  refine C.region ?_
  refine R.ev rfl (E.assign rfl) ?_
  refine R.done ?_
  refine X.keep [(0, _), (1, _)] ⟨rfl, rfl, trivial⟩ ?_
  refine X.next ?_
  refine C.seq ?_
  refine C.region ?_
  refine R.ev rfl (E.move rfl) ?_
  refine R.ev rfl (E.move rfl) ?_
  refine R.call ⟨_, _, Try.func79, rfl, by kernel_rfl⟩ rfl rfl (idxFA_any (p := p) (L := A) hcal hs (by omega) hf) ?_
  rintro _ w1 ⟨rfl, hs⟩
  refine R.ev rfl ((E.geq rfl rfl).isB (c := A.any p) (by rw [Bool.eq_iff_iff, decide_eq_true_eq, idxP_nonneg_iff, List.any_eq_true])) ?_
  refine R.ev rfl (E.assign rfl) ?_
  refine R.done ?_
  refine X.keep [(4, _)] ⟨rfl, trivial⟩ ?_
  refine X.next ?_
  refine C.ret ?_
  refine X.ret1 rfl rfl ?_
  exact ⟨rfl, hs⟩
theorem choose1_any {b : Nat} {x y : RA} (hx : GOk K x) (hy : GOk K y) (hs : Sat K w Hs) [hb : InH b (.cells (encA x).toArray 42 (0, 0)) Hs] : Ret Try.prog 65 #[evA y, ptr b] w fun v w' => v = .bool (valid x.x y.x) ∧ Sat K w' Hs := by
  refine Ret.enter (n := 7) (args := [evA y, ptr b]) Try.func65 rfl rfl ?_
  refine C.keep [(0, _), (1, _)] ⟨rfl, rfl, trivial⟩ ?_
  refine C.seq ?_
  refine C.region ?_
  refine R.sboxA hs rfl rfl ?_
  intro b2 w2 hs
  refine R.ev rfl (E.assign rfl) ?_
  refine R.done ?_
  refine X.keep [(1, _), (2, _)] ⟨rfl, rfl, trivial⟩ ?_
  refine X.next ?_
  refine C.seq ?_
  refine C.region ?_
  refine R.ev rfl (E.loadRowC rfl Try.underlying42 rfl Try.sz42 (by exact ⟨hs.ldA, by exact Enc.len _⟩)) ?_
  refine R.ev rfl (E.loadRowC rfl Try.underlying42 rfl Try.sz42 (by exact ⟨hs.ldA, by exact Enc.len _⟩)) ?_
  refine R.call ⟨_, _, Try.func17, rfl, by kernel_rfl⟩ rfl rfl (valid_any hx hy hs) ?_
  rintro _ w2 ⟨rfl, hs⟩
  refine R.ev rfl (E.assign rfl) ?_
  refine R.done ?_
  refine X.keep [(3, _)] ⟨rfl, trivial⟩ ?_
  refine X.next ?_
  refine C.ret ?_
  refine X.ret1 rfl rfl ?_
  exact ⟨rfl, hs.to⟩
theorem choose2_any {b : Nat} {x y : RA} (hx : GOk K x) (hy : GOk K y) (hs : Sat K w Hs) [hb : InH b (.cells (encA x).toArray 42 (0, 0)) Hs] : Ret Try.prog 66 #[evA y, ptr b] w fun v w' => v = .bool (outd y.x x.x) ∧ Sat K w' Hs := by
  refine Ret.enter (n := 7) (args := [evA y, ptr b]) Try.func66 rfl rfl ?_
  refine C.keep [(0, _), (1, _)] ⟨rfl, rfl, trivial⟩ ?_
  refine C.seq ?_
  refine C.region ?_
  refine R.sboxA hs rfl rfl ?_
  intro b2 w2 hs
  refine R.ev rfl (E.assign rfl) ?_
  refine R.done ?_
  refine X.keep [(1, _), (2, _)] ⟨rfl, rfl, trivial⟩ ?_
  refine X.next ?_
  refine C.seq ?_
  refine C.region ?_
  refine R.ev rfl (E.loadRowC rfl Try.underlying42 rfl Try.sz42 (by exact ⟨hs.ldA, by exact Enc.len _⟩)) ?_
  refine R.ev rfl (E.loadRowC rfl Try.underlying42 rfl Try.sz42 (by exact ⟨hs.ldA, by exact Enc.len _⟩)) ?_
  refine R.call ⟨_, _, Try.func20, rfl, by kernel_rfl⟩ rfl rfl (outd_any hy hx hs) ?_
  rintro _ w2 ⟨rfl, hs⟩
  refine R.ev rfl (E.assign rfl) ?_
  refine R.done ?_
  refine X.keep [(3, _)] ⟨rfl, trivial⟩ ?_
  refine X.next ?_
  refine C.ret ?_
  refine X.ret1 rfl rfl ?_
  exact ⟨rfl, hs.to⟩
theorem cmpIds_ok : idCmp K Rs 63 [] [] (ltV (m := 32)) :=
  ⟨⟨_, _, Try.func63, rfl, by kernel_rfl⟩, fun x y w1 _ _ hs => (cmpIds_any x y hs).mono fun _ _ ⟨e, m⟩ => ⟨_, e, rfl, m⟩⟩
instance : ZeroEnc Try.prog 27 (fun v : Value => v) (.slice none 0 0) := ⟨Try.zr27⟩
/-- rows by what they supersede -/
def byS (A : List RA) (a : Vec 32) : List RA := A.filter fun y => decide (y.x.sup = a) && decide (y.x.sup ≠ vz)
theorem byS_snoc {A : List RA} {k : Nat} {y : RA} (h : A[k]? = some y) (a : Vec 32) : byS (A.take (k + 1)) a = byS (A.take k) a ++ if y.x.sup = a ∧ y.x.sup ≠ vz then [y] else [] := by
  rw [take_snoc h, byS, byS, List.filter_append]
  by_cases h1 : y.x.sup = a ∧ y.x.sup ≠ vz
  · simp [h1.1 ▸ h1.2, h1.1]
  · rw [if_neg h1, List.filter_cons_of_neg (by simpa using h1)]; rfl
theorem byS_le (A : List RA) (a : Vec 32) : (byS A a).length ≤ A.length := List.length_filter_le _ _
theorem byS_sub {A : List RA} {a : Vec 32} {y : RA} (h : y ∈ byS A a) : y ∈ A := (List.mem_filter.1 h).1
theorem any_valid {A : List RA} {x : RR} : (byS A x.id).any (fun y => valid x y.x) = A.any (fun y => valid x y.x) := by
  rw [Bool.eq_iff_iff, List.any_eq_true, List.any_eq_true]
  constructor
  · rintro ⟨y, h1, h2⟩; exact ⟨y, byS_sub h1, h2⟩
  · rintro ⟨y, h1, h2⟩
    have := valid_iff.1 h2
    exact ⟨y, List.mem_filter.2 ⟨h1, by rw [Bool.and_eq_true]; exact ⟨decide_eq_true this.2.1, decide_eq_true this.1⟩⟩, h2⟩
theorem any_outd {A : List RA} {x : RR} : (byS A x.sup).any (fun y => outd y.x x) = A.any (fun y => outd y.x x) := by
  rw [Bool.eq_iff_iff, List.any_eq_true, List.any_eq_true]
  constructor
  · rintro ⟨y, h1, h2⟩; exact ⟨y, byS_sub h1, h2⟩
  · rintro ⟨y, h1, h2⟩
    have := outd_iff.1 h2
    exact ⟨y, List.mem_filter.2 ⟨h1, by rw [Bool.and_eq_true]; exact ⟨decide_eq_true this.2.2.2.1, decide_eq_true this.2.1⟩⟩, h2⟩
theorem any_wd {A : List RA} {x : RR} : (A.any (fun y => valid x y.x) || A.any (fun y => outd y.x x)) = wd (A.map RA.x) x := by
  rw [wd, List.any_map, Bool.eq_iff_iff, Bool.or_eq_true, List.any_eq_true, List.any_eq_true, List.any_eq_true]
  constructor
  · rintro (⟨y, h1, h2⟩ | ⟨y, h1, h2⟩)
    · exact ⟨y, h1, by simp [h2]⟩
    · exact ⟨y, h1, by simp [h2]⟩
  · rintro ⟨y, h1, h2⟩
    simp at h2
    rcases h2 with h2 | h2
    · exact .inl ⟨y, h1, h2⟩
    · exact .inr ⟨y, h1, h2⟩
theorem chosen_snoc {L : List RR} {k : Nat} {x : RR} (q : RR → Bool) (h : L[k]? = some x) : ((L.take (k + 1)).filter q).map RR.id = ((L.take k).filter q).map RR.id ++ if q x then [x.id] else [] := by
  rw [take_snoc h, List.filter_append, List.map_append]
  cases hq : q x <;> simp [hq]
theorem choose_any {A : List RA} (wdn : Bool) (hs : Sat K w Hs) [hr : Rd encA 83 K Hs v A] (hG : GL K A) (hL : A.length ≤ 4096) : Ret Try.prog 47 #[v, .bool wdn] w fun r w' =>
    ∃ v' I F', r = .tuple #[v', .int .i64 (chk (A.map RA.x)).2] ∧ RowL 37 encV 32 v' I F' ∧ ((chk (A.map RA.x)).2 ≠ 0 → I = []) ∧ ((chk (A.map RA.x)).2 = 0 → SS ltV I ∧ I.Perm (chosen (A.map RA.x) wdn)) ∧ Sat K w' (F' :: Hs) := by
  obtain ⟨ad, cap, rfl, hcap, _⟩ := hr.ex
  generalize hLx : A.map RA.x = L
  have hlen : L.length = A.length := by rw [← hLx, List.length_map]
  refine Ret.enter (n := 76) (args := [.slice ad A.length cap, .bool wdn]) Try.func47 rfl rfl ?_
  refine C.keep [(0, _), (1, _)] ⟨rfl, rfl, trivial⟩ ?_
  refine C.seq ?_
  refine C.region ?_
  refine R.ev rfl (E.assign rfl) ?_
  refine R.ev rfl (E.assign rfl) ?_
  refine R.done ?_
  refine X.keep [(0, _), (1, _)] ⟨rfl, rfl, trivial⟩ ?_
  refine X.next ?_
  refine C.seq ?_
  refine C.seq ?_
  refine C.region ?_
  refine R.ev rfl (E.move rfl) ?_
  refine R.call ⟨_, _, Try.func14, rfl, by kernel_rfl⟩ rfl rfl (check_any (A := A) hs hL) ?_
  rintro _ w1 ⟨rfl, hs⟩
  rw [hLx]
  refine R.ev rfl (E.move rfl) ?_
  refine R.ev rfl (E.extract rfl rfl) ?_
  refine R.ev rfl (E.extract rfl rfl) ?_
  refine R.ev rfl (E.assign rfl) ?_
  refine R.ev rfl (E.assign rfl) ?_
  refine R.done ?_
  refine X.keep [(0, _), (1, _), (7, _)] ⟨rfl, rfl, rfl, trivial⟩ ?_
  refine X.next ?_
  refine C.seq ?_
  refine C.region ?_
  refine R.ev rfl (E.move rfl) ?_
  refine R.ev rfl (E.neq rfl rfl) ?_
  refine R.done ?_
  refine X.keep [(0, _), (1, _), (7, _), (21, _)] ⟨rfl, rfl, rfl, rfl, trivial⟩ ?_
  refine X.next ?_
  refine C.cdec rfl (fun h21 => ?_) (fun h21 => ?_)
  refine C.seq ?_
  refine C.region ?_
  refine R.ev rfl (E.move rfl) ?_
  refine R.ev rfl (E.assign rfl) ?_
  refine R.ev rfl (E.assign rfl) ?_
  refine R.done ?_
  refine X.keep [(4, _), (5, _)] ⟨rfl, rfl, trivial⟩ ?_
  refine X.next ?_
  refine C.ret ?_
  refine X.thenRet ?_
  refine X.ret2 rfl rfl rfl ?_
  exact ⟨.slice none 0 0, [], [], rfl, RowL.nil _ _ _, fun _ => rfl, fun h => absurd h h21, hs.nil⟩
  refine C.skip ?_
  refine X.next ?_
  refine C.seq ?_
  refine C.region ?_
  have h21 : (chk L).2 = 0 := Decidable.not_not.1 h21
  refine R.cmake hs Try.underlying106 ((fun v : Value => v)) rfl ?_
  intro v23 w23 F23 m23 hs
  refine R.ev rfl (E.assign rfl) ?_
  refine R.done ?_
  refine X.keep [(0, _), (1, _), (8, _)] ⟨rfl, rfl, rfl, trivial⟩ ?_
  refine X.next ?_
  refine C.seq ?_
  refine C.seq ?_
  refine C.region ?_
  refine R.ev rfl (E.move rfl) ?_
  refine R.ev rfl (E.lenSl rfl Try.underlying27) ?_
  refine R.ev rfl (E.move rfl) ?_
  refine R.done ?_
  refine X.keep [(0, _), (1, _), (8, _), (24, _), (25, _), (26, _)] ⟨rfl, rfl, rfl, rfl, rfl, rfl, trivial⟩ ?_
  refine X.next ?_
  refine C.block ?_
  refine C.loop (T := Nat × List (Vec 32 × Value) × List (Vec 32 × List RA) × Hl × Hl) [(0, _), (1, _), (8, _), (24, _), (25, _)] (fun (k, _, _, _, _) => [(26, .int .i64 (k : Nat))]) (fun (k, V, M, G, H) w' => k ≤ A.length ∧ MapL ekI (fun v : Value => v) v23 V G ∧ AllR 42 encA 83 V M H ∧ (∀ a, (lkM M a).getD [] = byS (A.take k) a) ∧ Sat K w' (G :: H :: Hs)) (fun (k, _) => A.length - k) ((0, [], [], F23, [])) ⟨rfl, rfl, rfl, rfl, rfl, rfl, trivial⟩ ⟨Nat.zero_le _, m23, AllR.nil, fun a => rfl, (hs.nil).p1⟩ ?_
  rintro ⟨k, V, M, G, H⟩ w2 ⟨hk, hmV, hall, hby, hs⟩
  refine C.keep [(0, _), (1, _), (8, _), (24, _), (25, _), (26, _)] ⟨rfl, rfl, rfl, rfl, rfl, rfl, trivial⟩ ?_
  refine C.seq ?_
  refine C.region ?_
  refine R.ev rfl (E.lss rfl rfl) ?_
  refine R.done ?_
  refine X.keep [(0, _), (1, _), (8, _), (24, _), (25, _), (26, _), (27, _)] ⟨rfl, rfl, rfl, rfl, rfl, rfl, rfl, trivial⟩ ?_
  refine X.next ?_
  refine C.seq ?_
  refine C.cdec rfl (fun h27 => ?_) (fun h27 => ?_)
  obtain ⟨y, bk_y, of_y, hy, my, ly, rfl, Ay⟩ := hs.el (i := k) (ad := ad) (n := A.length) (c := cap) (by omega)
  have ay := Ay _ hs
  refine C.skip ?_
  refine X.next ?_
  refine C.seq ?_
  refine C.block ?_
  refine C.seq ?_
  refine C.region ?_
  refine R.ev rfl (E.indexAddr rfl rfl Try.underlying27 Try.sz42 rfl (by omega)) ?_
  refine R.ev rfl (E.loadRowC rfl Try.underlying42 rfl Try.sz42 (by exact ⟨by assumption, by assumption⟩)) ?_
  refine R.sallocA hs Try.zr42 rfl ?_
  intro b10 w10 hs
  refine R.cstoreAll hs rfl rfl Try.sz42 (by rfl) (by assumption) (by exact Enc.one _) ?_
  intro w7_3 hs
  try simp only [List.set_cons_zero, List.set_cons_succ] at hs
  refine R.done ?_
  refine X.keep [(0, _), (1, _), (8, _), (10, _), (24, _), (25, _), (26, _)] ⟨rfl, rfl, rfl, rfl, rfl, rfl, rfl, trivial⟩ ?_
  refine X.next ?_
  refine C.seq ?_
  refine C.region ?_
  refine R.ev rfl (E.fieldAddr0 51 rfl Try.underlying42 rfl Try.sz37 rfl) ?_
  refine R.ev rfl (E.loadRowC rfl Try.underlying37 rfl Try.sz37 (by exact hs.ldp)) ?_
  refine R.ev rfl ((E.buildA rfl Try.underlying37 Try.zr37 Try.sz5 rfl).as (u := .agg (encV vz).toArray) (by rfl)) ?_
  refine R.ev rfl (E.neV 10 rfl rfl Try.lv37 rfl Try.underlying37 rfl Try.gd37) ?_
  refine R.done ?_
  refine X.keep [(0, _), (1, _), (8, _), (10, _), (24, _), (25, _), (26, _), (33, _)] ⟨rfl, rfl, rfl, rfl, rfl, rfl, rfl, rfl, trivial⟩ ?_
  refine X.next ?_
  refine C.cdec rfl (fun h33 => ?_) (fun h33 => ?_)
  refine C.region ?_
  refine R.ev rfl (E.move rfl) ?_
  refine R.ev rfl (E.fieldAddr0 51 rfl Try.underlying42 rfl Try.sz37 rfl) ?_
  refine R.ev rfl (E.loadRowC rfl Try.underlying37 rfl Try.sz37 (by exact hs.ldp)) ?_
  refine R.ev rfl (E.loadRowC rfl Try.underlying42 rfl Try.sz42 (by exact ⟨hs.ldA, by assumption⟩)) ?_
  refine R.buildSliceA rfl Try.underlying27 Try.sz42 Try.zr42 rfl (by assumption) (by decide) (by decide) ?_
  intro b39 w39 n39
  have hs := hs.new n39
  refine R.centry y.x.sup hs rfl rfl Try.underlying106 (by rfl) rfl ?_
  intro st w95 G95 hst hs
  have hmV2 := hst.map
  obtain ⟨Fk, H2, rk, hpm, hput⟩ := hall.open_ y.x.sup
  have hs := hs.perm (Hs' := Fk :: H2 :: row b39 42 (encA y) :: row b10 42 (encA y) :: G95 :: Hs) (by
    simp only [List.flatten_cons, List.append_assoc]
    have h1 : (Fk ++ (H2 ++ (row b39 42 (encA y) ++ (row b10 42 (encA y) ++ (G95 ++ Hs.flatten))))).Perm (H ++ (row b39 42 (encA y) ++ (row b10 42 (encA y) ++ (G95 ++ Hs.flatten)))) := by
      rw [← List.append_assoc]; exact List.Perm.append_right _ hpm.symm
    refine h1.trans ?_
    refine List.perm_append_comm.trans ?_
    simp only [List.append_assoc]
    refine List.Perm.append_left _ (List.Perm.append_left _ (List.Perm.append_left _ List.perm_append_comm)))
  rw [hby] at rk
  have hbl := byS_le (A.take k) y.x.sup
  have htl : (A.take k).length ≤ 4096 := by rw [List.length_take]; omega
  refine R.ev rfl (E.extract rfl rfl) ?_
  refine R.capp1 (y) hs rfl rfl Try.underlying27 Try.by42 (by rfl) rfl (by exact hs.ldA) (by decide) (by omega) (by omega) ?_
  intro v41 w41 F41 r41 hs
  obtain ⟨Xh, hX, hXp⟩ := hput v41 _ F41 r41
  refine R.ev rfl (E.extract rfl rfl) ?_
  refine R.cstamp (ev := fun v : Value => v) (F := G95) (h := hst) (k := y.x.sup) v41 hs rfl rfl rfl rfl ?_
  intro w99 G99 m99 hs
  have hVV : putM y.x.sup v41 (putM y.x.sup ((lkM V y.x.sup).getD (.slice none 0 0)) V) = putM y.x.sup v41 V := putM_twice _
  rw [hVV] at m99
  refine R.done ?_
  refine X.keep [(0, _), (1, _), (8, _), (24, _), (25, _), (26, _)] ⟨rfl, rfl, rfl, rfl, rfl, rfl, trivial⟩ ?_
  refine X.blockNormal ?_
  refine X.next ?_
  refine C.region ?_
  refine R.ev rfl (E.add rfl rfl (by omega) (by omega)) ?_
  refine R.ev rfl (E.move rfl) ?_
  refine R.done ?_
  refine X.keep [(0, _), (1, _), (8, _), (24, _), (25, _), (26, _)] ⟨rfl, rfl, rfl, rfl, rfl, rfl, trivial⟩ ?_
  first
    | exact X.again (k + 1, _, _, G99, Xh) ⟨rfl, rfl, rfl, rfl, rfl, rfl, trivial⟩ ⟨by omega, m99, hX, fun a => by
        rw [lkM_put, byS_snoc hy]
        by_cases ha : a = y.x.sup
        · rw [if_pos ha, if_pos ⟨ha.symm, h33⟩, ha]; rfl
        · rw [if_neg ha, if_neg (fun e => ha e.1.symm), List.append_nil]; exact hby a, (hs.perm (Hs' := G99 :: Xh :: row b39 42 (encA y) :: row b10 42 (encA y) :: Hs) (by
          simp only [List.flatten_cons, List.append_assoc]
          have h1 : (G99 ++ (Xh ++ (row b39 42 (encA y) ++ (row b10 42 (encA y) ++ Hs.flatten)))).Perm (G99 ++ (F41 ++ (H2 ++ (row b39 42 (encA y) ++ (row b10 42 (encA y) ++ Hs.flatten))))) := by
            refine List.Perm.append_left _ ?_
            rw [← List.append_assoc F41 H2]; exact List.Perm.append_right _ hXp
          refine h1.trans (List.perm_append_comm.trans ?_)
          simp only [List.append_assoc]
          exact List.Perm.append_left _ (List.Perm.append_left _ (List.Perm.append_left _ (List.Perm.append_left _ List.perm_append_comm))))).to⟩ (by show _ - _ < _ - _; omega)
    | exact X.again (k + 1, V, M, G, H) ⟨rfl, rfl, rfl, rfl, rfl, rfl, trivial⟩ ⟨by omega, hmV, hall, fun a => by rw [byS_snoc hy, if_neg (fun e => h33 e.2), List.append_nil]; exact hby a, hs.to⟩ (by show _ - _ < _ - _; omega)
  refine C.skip ?_
  refine X.blockNormal ?_
  refine X.next ?_
  refine C.region ?_
  refine R.ev rfl (E.add rfl rfl (by omega) (by omega)) ?_
  refine R.ev rfl (E.move rfl) ?_
  refine R.done ?_
  refine X.keep [(0, _), (1, _), (8, _), (24, _), (25, _), (26, _)] ⟨rfl, rfl, rfl, rfl, rfl, rfl, trivial⟩ ?_
  first
    | exact X.again (k + 1, _, _, G99, Xh) ⟨rfl, rfl, rfl, rfl, rfl, rfl, trivial⟩ ⟨by omega, m99, hX, fun a => by
        rw [lkM_put, byS_snoc hy]
        by_cases ha : a = y.x.sup
        · rw [if_pos ha, if_pos ⟨ha.symm, h33⟩, ha]; rfl
        · rw [if_neg ha, if_neg (fun e => ha e.1.symm), List.append_nil]; exact hby a, (hs.perm (Hs' := G99 :: Xh :: row b39 42 (encA y) :: row b10 42 (encA y) :: Hs) (by
          simp only [List.flatten_cons, List.append_assoc]
          have h1 : (G99 ++ (Xh ++ (row b39 42 (encA y) ++ (row b10 42 (encA y) ++ Hs.flatten)))).Perm (G99 ++ (F41 ++ (H2 ++ (row b39 42 (encA y) ++ (row b10 42 (encA y) ++ Hs.flatten))))) := by
            refine List.Perm.append_left _ ?_
            rw [← List.append_assoc F41 H2]; exact List.Perm.append_right _ hXp
          refine h1.trans (List.perm_append_comm.trans ?_)
          simp only [List.append_assoc]
          exact List.Perm.append_left _ (List.Perm.append_left _ (List.Perm.append_left _ (List.Perm.append_left _ List.perm_append_comm))))).to⟩ (by show _ - _ < _ - _; omega)
    | exact X.again (k + 1, V, M, G, H) ⟨rfl, rfl, rfl, rfl, rfl, rfl, trivial⟩ ⟨by omega, hmV, hall, fun a => by rw [byS_snoc hy, if_neg (fun e => h33 e.2), List.append_nil]; exact hby a, hs.to⟩ (by show _ - _ < _ - _; omega)
  refine C.exit ?_
  refine X.thenExit ?_
  refine X.loopExit ?_
  refine X.blockExit ?_
  refine X.next ?_
  refine C.seq ?_
  refine C.region ?_
  have hke : k = A.length := by omega
  rw [hke, List.take_length] at hby
  refine R.ev rfl (E.assign rfl) ?_
  refine R.done ?_
  refine X.keep [(0, _), (1, _), (8, _), (11, _)] ⟨rfl, rfl, rfl, rfl, trivial⟩ ?_
  refine X.next ?_
  refine C.seq ?_
  refine C.seq ?_
  refine C.region ?_
  refine R.ev rfl (E.move rfl) ?_
  refine R.ev rfl (E.lenSl rfl Try.underlying27) ?_
  refine R.ev rfl (E.move rfl) ?_
  refine R.done ?_
  refine X.keep [(1, _), (8, _), (11, _), (44, _), (45, _), (46, _)] ⟨rfl, rfl, rfl, rfl, rfl, rfl, trivial⟩ ?_
  refine X.next ?_
  refine C.block ?_
  refine C.loop (T := Nat × Value × Hl) [(1, _), (8, _), (44, _), (45, _)] (fun (k, v, _) => [(11, v), (46, .int .i64 (k : Nat))]) (fun (k, v, F1) w' => k ≤ A.length ∧ RowL 37 encV 32 v (((L.take k).filter fun x => wd L x == wdn).map RR.id) F1 ∧ Sat K w' (F1 :: G :: H :: Hs)) (fun (k, _) => A.length - k) ((0, .slice none 0 0, [])) ⟨rfl, rfl, rfl, rfl, rfl, rfl, trivial⟩ ⟨Nat.zero_le _, RowL.nil _ _ _, hs.nil⟩ ?_
  rintro ⟨j, v3, F3⟩ w3 ⟨hj, r3, hs⟩
  have hfl := List.length_filter_le (fun x => wd L x == wdn) (L.take j)
  have htl : (L.take j).length ≤ 4096 := by rw [List.length_take]; omega
  have hml : (((L.take j).filter fun x => wd L x == wdn).map RR.id).length ≤ 4096 := by rw [List.length_map]; omega
  refine C.keep [(1, _), (8, _), (11, _), (44, _), (45, _), (46, _)] ⟨rfl, rfl, rfl, rfl, rfl, rfl, trivial⟩ ?_
  refine C.seq ?_
  refine C.region ?_
  refine R.ev rfl (E.lss rfl rfl) ?_
  refine R.done ?_
  refine X.keep [(1, _), (8, _), (11, _), (44, _), (45, _), (46, _), (47, _)] ⟨rfl, rfl, rfl, rfl, rfl, rfl, rfl, trivial⟩ ?_
  refine X.next ?_
  refine C.seq ?_
  refine C.cdec rfl (fun h47 => ?_) (fun h47 => ?_)
  obtain ⟨y, bk_y, of_y, hy, my, ly, rfl, Ay⟩ := hs.el (i := j) (ad := ad) (n := A.length) (c := cap) (by omega)
  have ay := Ay _ hs
  have hyL : L[j]? = some y.x := by rw [← hLx, List.getElem?_map, hy]; rfl
  have hsn := chosen_snoc (fun x => wd L x == wdn) hyL
  obtain ⟨Fk1, H1, rk1, hpm1, _⟩ := hall.open_ y.x.id
  obtain ⟨Fk2, H2, rk2, hpm2, _⟩ := hall.open_ y.x.sup
  rw [hby] at rk1 rk2
  have hb1 := byS_le A y.x.id
  have hb2 := byS_le A y.x.sup
  refine C.skip ?_
  refine X.next ?_
  refine C.seq ?_
  refine C.block ?_
  refine C.seq ?_
  refine C.region ?_
  refine R.ev rfl (E.indexAddr rfl rfl Try.underlying27 Try.sz42 rfl (by omega)) ?_
  refine R.ev rfl (E.loadRowC rfl Try.underlying42 rfl Try.sz42 (by exact ⟨by assumption, by assumption⟩)) ?_
  refine R.sallocA hs Try.zr42 rfl ?_
  intro b13 w13 hs
  refine R.cstoreAll hs rfl rfl Try.sz42 (by rfl) (by assumption) (by exact Enc.one _) ?_
  intro w14_3 hs
  try simp only [List.set_cons_zero, List.set_cons_succ] at hs
  refine R.done ?_
  refine X.keep [(1, _), (8, _), (11, _), (13, _), (44, _), (45, _), (46, _)] ⟨rfl, rfl, rfl, rfl, rfl, rfl, rfl, trivial⟩ ?_
  refine X.next ?_
  refine C.seq ?_
  refine C.region ?_
  refine R.ev rfl (E.move rfl) ?_
  refine R.ev rfl (E.fieldAddr0 0 rfl Try.underlying42 rfl Try.sz37 rfl) ?_
  refine R.ev rfl (E.loadRowC rfl Try.underlying37 rfl Try.sz37 (by exact ⟨hs.ldP rfl, by exact encV_len _⟩)) ?_
  refine R.ev rfl (E.lookupD hs rfl rfl Try.underlying106 _ (by rfl)) ?_
  refine R.ev rfl (E.makeFunc rfl rfl) ?_
  have fi1 : FIn Fk1 (row b13 42 (encA y) :: F3 :: G :: H :: Hs) := ⟨fun z hz => by simp only [List.flatten_cons, List.mem_append]; exact .inr (.inr (.inr (.inl (hpm1.mem_iff.2 (List.mem_append_left _ hz)))))⟩
  refine R.call ⟨_, _, Try.func64, rfl, by kernel_rfl⟩ rfl rfl (conFA_any (A := byS A y.x.id) (first := []) (cap := [ptr b13]) (p := fun z => valid y.x z.x) ⟨_, _, Try.func65, rfl, by kernel_rfl⟩ hs (by omega) (fun z hz w' h => choose1_any (hG y my) (hG z (byS_sub hz)) h)) ?_
  rintro _ w155 ⟨rfl, hs⟩
  rw [any_valid]
  refine R.ev rfl (E.move rfl) ?_
  refine R.split 56 rfl (fun h56 => ?_) (fun h56 => ?_)
  refine R.gskip rfl rfl rfl ?_
  refine R.gskip rfl rfl rfl ?_
  refine R.gskip rfl rfl rfl ?_
  refine R.gskip rfl rfl rfl ?_
  refine R.gskip rfl rfl rfl ?_
  refine R.gskip rfl rfl rfl ?_
  refine R.ev rfl (E.pickT rfl rfl) ?_
  refine R.ev rfl ((E.assign rfl).as (u := .bool (wd L y.x)) (by rw [← hLx, ← any_wd]; simp_all)) ?_
  refine R.done ?_
  refine X.keep [(1, _), (8, _), (11, _), (13, _), (14, _), (44, _), (45, _), (46, _)] ⟨rfl, rfl, rfl, rfl, rfl, rfl, rfl, rfl, trivial⟩ ?_
  refine X.next ?_
  refine C.seq ?_
  refine C.region ?_
  refine R.ev rfl (E.move rfl) ?_
  refine R.ev rfl (E.move rfl) ?_
  refine R.ev rfl ((E.eqlB rfl rfl Try.underlying4)) ?_
  refine R.done ?_
  refine X.keep [(1, _), (8, _), (11, _), (13, _), (44, _), (45, _), (46, _), (66, _)] ⟨rfl, rfl, rfl, rfl, rfl, rfl, rfl, rfl, trivial⟩ ?_
  refine X.next ?_
  refine C.cbool rfl (fun h66 => ?_) (fun h66 => ?_)
  refine C.region ?_
  refine R.ev rfl (E.move rfl) ?_
  refine R.ev rfl (E.fieldAddr0 0 rfl Try.underlying42 rfl Try.sz37 rfl) ?_
  refine R.ev rfl (E.loadRowC rfl Try.underlying37 rfl Try.sz37 (by exact ⟨hs.ldP rfl, by exact encV_len _⟩)) ?_
  refine R.buildSliceA rfl Try.underlying40 Try.sz37 Try.zr37 rfl (by exact encV_len _) (by decide) (by decide) ?_
  intro b70 w70 n70
  have hs := hs.new n70
  refine R.capp1 (y.x.id) hs rfl rfl Try.underlying40 Try.by37 (by rfl) rfl (by exact hs.ldA) (by decide) (by omega) (by omega) ?_
  intro v71 w71 F71 r71 hs
  refine R.ev rfl (E.assign rfl) ?_
  refine R.done ?_
  refine X.keep [(1, _), (8, _), (11, _), (44, _), (45, _), (46, _)] ⟨rfl, rfl, rfl, rfl, rfl, rfl, trivial⟩ ?_
  refine X.blockNormal ?_
  refine X.next ?_
  refine C.region ?_
  refine R.ev rfl (E.add rfl rfl (by omega) (by omega)) ?_
  refine R.ev rfl (E.move rfl) ?_
  refine R.done ?_
  refine X.keep [(1, _), (8, _), (11, _), (44, _), (45, _), (46, _)] ⟨rfl, rfl, rfl, rfl, rfl, rfl, trivial⟩ ?_
  first
    | exact X.again (j + 1, v71, F71) ⟨rfl, rfl, rfl, rfl, rfl, rfl, trivial⟩ ⟨by omega, by rw [hsn, if_pos h66]; exact r71, hs.to⟩ (by show _ - _ < _ - _; omega)
    | exact X.again (j + 1, v3, F3) ⟨rfl, rfl, rfl, rfl, rfl, rfl, trivial⟩ ⟨by omega, by rw [hsn, if_neg (by rw [h66]; decide), List.append_nil]; exact r3, hs.to⟩ (by show _ - _ < _ - _; omega)
  refine C.skip ?_
  refine X.blockNormal ?_
  refine X.next ?_
  refine C.region ?_
  refine R.ev rfl (E.add rfl rfl (by omega) (by omega)) ?_
  refine R.ev rfl (E.move rfl) ?_
  refine R.done ?_
  refine X.keep [(1, _), (8, _), (11, _), (44, _), (45, _), (46, _)] ⟨rfl, rfl, rfl, rfl, rfl, rfl, trivial⟩ ?_
  first
    | exact X.again (j + 1, v71, F71) ⟨rfl, rfl, rfl, rfl, rfl, rfl, trivial⟩ ⟨by omega, by rw [hsn, if_pos h66]; exact r71, hs.to⟩ (by show _ - _ < _ - _; omega)
    | exact X.again (j + 1, v3, F3) ⟨rfl, rfl, rfl, rfl, rfl, rfl, trivial⟩ ⟨by omega, by rw [hsn, if_neg (by rw [h66]; decide), List.append_nil]; exact r3, hs.to⟩ (by show _ - _ < _ - _; omega)
  refine R.gyes rfl rfl ?_
  refine R.ev rfl (E.move rfl) ?_
  refine R.gyes rfl rfl ?_
  refine R.ev rfl (E.fieldAddr0 51 rfl Try.underlying42 rfl Try.sz37 rfl) ?_
  refine R.gyes rfl rfl ?_
  refine R.ev rfl (E.loadRowC rfl Try.underlying37 rfl Try.sz37 (by exact hs.ldp)) ?_
  refine R.gyes rfl rfl ?_
  refine R.ev rfl (E.lookupD hs rfl rfl Try.underlying106 _ (by rfl)) ?_
  refine R.gyes rfl rfl ?_
  refine R.ev rfl (E.makeFunc rfl rfl) ?_
  refine R.gyes rfl rfl ?_
  have fi2 : FIn Fk2 (row b13 42 (encA y) :: F3 :: G :: H :: Hs) := ⟨fun z hz => by simp only [List.flatten_cons, List.mem_append]; exact .inr (.inr (.inr (.inl (hpm2.mem_iff.2 (List.mem_append_left _ hz)))))⟩
  refine R.call ⟨_, _, Try.func64, rfl, by kernel_rfl⟩ rfl rfl (conFA_any (A := byS A y.x.sup) (first := []) (cap := [ptr b13]) (p := fun z => outd z.x y.x) ⟨_, _, Try.func66, rfl, by kernel_rfl⟩ hs (by omega) (fun z hz w' h => choose2_any (hG y my) (hG z (byS_sub hz)) h)) ?_
  rintro _ w1512 ⟨rfl, hs⟩
  rw [any_outd]
  refine R.ev rfl (E.pickF rfl rfl) ?_
  refine R.ev rfl ((E.assign rfl).as (u := .bool (wd L y.x)) (by rw [← hLx, ← any_wd]; simp_all)) ?_
  refine R.done ?_
  refine X.keep [(1, _), (8, _), (11, _), (13, _), (14, _), (44, _), (45, _), (46, _)] ⟨rfl, rfl, rfl, rfl, rfl, rfl, rfl, rfl, trivial⟩ ?_
  refine X.next ?_
  refine C.seq ?_
  refine C.region ?_
  refine R.ev rfl (E.move rfl) ?_
  refine R.ev rfl (E.move rfl) ?_
  refine R.ev rfl ((E.eqlB rfl rfl Try.underlying4)) ?_
  refine R.done ?_
  refine X.keep [(1, _), (8, _), (11, _), (13, _), (44, _), (45, _), (46, _), (66, _)] ⟨rfl, rfl, rfl, rfl, rfl, rfl, rfl, rfl, trivial⟩ ?_
  refine X.next ?_
  refine C.cbool rfl (fun h66 => ?_) (fun h66 => ?_)
  refine C.region ?_
  refine R.ev rfl (E.move rfl) ?_
  refine R.ev rfl (E.fieldAddr0 0 rfl Try.underlying42 rfl Try.sz37 rfl) ?_
  refine R.ev rfl (E.loadRowC rfl Try.underlying37 rfl Try.sz37 (by exact ⟨hs.ldP rfl, by exact encV_len _⟩)) ?_
  refine R.buildSliceA rfl Try.underlying40 Try.sz37 Try.zr37 rfl (by exact encV_len _) (by decide) (by decide) ?_
  intro b70 w70 n70
  have hs := hs.new n70
  refine R.capp1 (y.x.id) hs rfl rfl Try.underlying40 Try.by37 (by rfl) rfl (by exact hs.ldA) (by decide) (by omega) (by omega) ?_
  intro v71 w71 F71 r71 hs
  refine R.ev rfl (E.assign rfl) ?_
  refine R.done ?_
  refine X.keep [(1, _), (8, _), (11, _), (44, _), (45, _), (46, _)] ⟨rfl, rfl, rfl, rfl, rfl, rfl, trivial⟩ ?_
  refine X.blockNormal ?_
  refine X.next ?_
  refine C.region ?_
  refine R.ev rfl (E.add rfl rfl (by omega) (by omega)) ?_
  refine R.ev rfl (E.move rfl) ?_
  refine R.done ?_
  refine X.keep [(1, _), (8, _), (11, _), (44, _), (45, _), (46, _)] ⟨rfl, rfl, rfl, rfl, rfl, rfl, trivial⟩ ?_
  first
    | exact X.again (j + 1, v71, F71) ⟨rfl, rfl, rfl, rfl, rfl, rfl, trivial⟩ ⟨by omega, by rw [hsn, if_pos h66]; exact r71, hs.to⟩ (by show _ - _ < _ - _; omega)
    | exact X.again (j + 1, v3, F3) ⟨rfl, rfl, rfl, rfl, rfl, rfl, trivial⟩ ⟨by omega, by rw [hsn, if_neg (by rw [h66]; decide), List.append_nil]; exact r3, hs.to⟩ (by show _ - _ < _ - _; omega)
  refine C.skip ?_
  refine X.blockNormal ?_
  refine X.next ?_
  refine C.region ?_
  refine R.ev rfl (E.add rfl rfl (by omega) (by omega)) ?_
  refine R.ev rfl (E.move rfl) ?_
  refine R.done ?_
  refine X.keep [(1, _), (8, _), (11, _), (44, _), (45, _), (46, _)] ⟨rfl, rfl, rfl, rfl, rfl, rfl, trivial⟩ ?_
  first
    | exact X.again (j + 1, v71, F71) ⟨rfl, rfl, rfl, rfl, rfl, rfl, trivial⟩ ⟨by omega, by rw [hsn, if_pos h66]; exact r71, hs.to⟩ (by show _ - _ < _ - _; omega)
    | exact X.again (j + 1, v3, F3) ⟨rfl, rfl, rfl, rfl, rfl, rfl, trivial⟩ ⟨by omega, by rw [hsn, if_neg (by rw [h66]; decide), List.append_nil]; exact r3, hs.to⟩ (by show _ - _ < _ - _; omega)
  refine C.exit ?_
  refine X.thenExit ?_
  refine X.loopExit ?_
  refine X.blockExit ?_
  refine X.next ?_
  refine C.seq ?_
  refine C.region ?_
  rw [List.take_of_length_le (show L.length ≤ j by omega)] at r3 hml
  refine R.ev rfl (E.move rfl) ?_
  refine R.call ⟨_, _, Try.func67, rfl, by kernel_rfl⟩ rfl rfl (idsort_any cmpIds_ok ltV_swo (hs.front (F := F3)) (by omega)) ?_
  rintro _ w19 ⟨I2, F2, r2, hp2, hso, hs1⟩
  have hs := hs.back (F := F3) hs1
  refine R.done ?_
  refine X.keep [(11, _)] ⟨rfl, trivial⟩ ?_
  refine X.next ?_
  refine C.seq ?_
  refine C.region ?_
  refine R.ev rfl (E.move rfl) ?_
  refine R.ev rfl (E.assign rfl) ?_
  refine R.ev rfl (E.assign rfl) ?_
  refine R.done ?_
  refine X.keep [(4, _), (5, _)] ⟨rfl, rfl, trivial⟩ ?_
  refine X.next ?_
  refine C.ret ?_
  refine X.ret2 rfl rfl rfl ?_
  have hnd : I2.Nodup := by rw [hp2.nodup_iff]; exact chosen_nd (chk_ok.1 h21).2
  exact ⟨v3, I2, F2, by rw [h21], r2, fun h => absurd h21 h, fun _ => ⟨ssV_of hso hnd, hp2⟩, hs.to⟩
end Go.Proofs.Ytmjmichghfepkaa
