/-
  Slices of identities: Has, Contains, Index; bytes sought by a function; HasPrefix; law11.to.
-/
import Derived.Test.YtkmgmdgkphckgaaSlice
import Derived.Test.YtkmgmdgkphckgaaHex
namespace Go.Proofs.Ytkmgmdgkphckgaa
open Go.Eng Go.RowKit

abbrev encI (a : List UInt8) : List Value := a.map ub
theorem drop_cons {α : Type} {L : List α} {k : Nat} {y : α} (h : L[k]? = some y) : L.drop k = y :: L.drop (k + 1) := by
  obtain ⟨h1, h2⟩ := List.getElem?_eq_some_iff.1 h
  rw [List.drop_eq_getElem_cons h1, h2]
theorem take_snoc {α : Type} {L : List α} {k : Nat} {y : α} (h : L[k]? = some y) : L.take (k + 1) = L.take k ++ [y] := by
  obtain ⟨h1, h2⟩ := List.getElem?_eq_some_iff.1 h
  rw [List.take_succ_eq_append_getElem h1, h2]

theorem refHas_any (ad : Option Addr) (n cap : Nat) (L : List (List UInt8)) (a : List UInt8) (w : World) (hs : SlE encI 32 w ad n L) (hn : n ≤ 1000000) (ha : a.length = 32) :
    Ret Try.prog 28 #[.slice ad n cap, idV a] w fun v w' => v = .bool (decide (a ∈ L)) ∧ Mod [] w w' := by
  have hln := hs.len
  refine Ret.enter (n := 18) (args := [.slice ad n cap, idV a]) Try.func28 rfl rfl ?_
  refine C.keep [(0, _), (1, _)] ⟨rfl, rfl, trivial⟩ ?_
  refine C.seq ?_
  refine C.region ?_
  refine R.boxA rfl rfl ?_
  intro b3 w3 n3
  refine R.ev rfl (E.assign rfl) ?_
  refine R.done ?_
  refine X.keep [(0, _), (3, _)] ⟨rfl, rfl, trivial⟩ ?_
  refine X.next ?_
  refine C.seq ?_
  refine C.seq ?_
  refine C.region ?_
  refine R.ev rfl (E.assign rfl) ?_
  refine R.done ?_
  refine X.keep [(0, _), (3, _), (5, _)] ⟨rfl, rfl, rfl, trivial⟩ ?_
  refine X.next ?_
  refine C.block ?_
  refine C.loop  [(0, _), (3, _)] (fun k => [(5, .int .i64 (k : Nat))]) (fun k w' => k ≤ n ∧ Mod [] w w' ∧ At w' b3 0 (a.map ub) ∧ (a ∈ L ↔ a ∈ L.drop k)) (fun k => n - k) (0) ⟨rfl, rfl, rfl, trivial⟩ ⟨by omega, n3.mod, n3.blk.at, Iff.rfl⟩ ?_
  rintro k w1 ⟨hk, hm, hb3, hiff⟩
  refine C.keep [(0, _), (3, _), (5, _)] ⟨rfl, rfl, rfl, trivial⟩ ?_
  refine C.seq ?_
  refine C.seq ?_
  refine C.region ?_
  refine R.ev rfl (E.move rfl) ?_
  refine R.ev rfl (E.move rfl) ?_
  refine R.ev rfl (E.lenSl rfl Try.underlying50) ?_
  refine R.ev rfl (E.lss rfl rfl) ?_
  refine R.done ?_
  refine X.keep [(0, _), (3, _), (5, _), (9, _)] ⟨rfl, rfl, rfl, rfl, trivial⟩ ?_
  refine X.next ?_
  refine C.cdec rfl (fun h9 => ?_) (fun h9 => ?_)
  · have hlt : k < n := by omega
    obtain ⟨y, hy, hym⟩ := hs.nth hlt
    have hyl := hs.size y hym
    obtain ⟨b, off, rfl, hat, _⟩ := (hs.keep0 hm).get hy
    have hyl' : y.length = 32 := by simpa using hyl
    refine C.skip ?_
    refine X.next ?_
    refine C.seq ?_
    refine C.block ?_
    refine C.seq ?_
    refine C.drawn (fun w2 => Mod [] w1 w2) [0, 1, 2, 3, 4, 5] (by kernel_rfl) ?_
    have hS4 : (fun w2 => Mod [] w1 w2) _ := Mod.drew _ _
    dsimp only at hS4
    refine D.ev 0 rfl (by kernel_rfl) rfl hS4 (fun _ hS => E.move rfl) ?_
    refine D.ev 1 rfl (by kernel_rfl) rfl hS4 (fun _ hS => E.move rfl) ?_
    refine D.ev 2 rfl (by kernel_rfl) rfl hS4 (fun _ hS => E.indexAddr rfl rfl Try.underlying50 Try.sz30 rfl (by first | omega | decide)) ?_
    refine D.ev 3 rfl (by kernel_rfl) rfl hS4 (fun _ hS => E.loadRow rfl Try.underlying30 rfl Try.sz30 (hat.keep hS (by simp)) hyl) ?_
    refine D.ev 4 rfl (by kernel_rfl) rfl hS4 (fun _ hS => E.loadRow rfl Try.underlying30 rfl Try.sz30 (hb3.keep hS (by simp)) (len_ub ha)) ?_
    refine D.ev 5 rfl (by kernel_rfl) rfl hS4 (fun _ hS => E.eqId 10 32 rfl rfl Try.lv30 rfl Try.underlying30 rfl Try.gd30 (by assumption) (by assumption)) ?_
    refine D.done rfl (by kernel_rfl) ?_
    refine X.keep [(0, _), (3, _), (5, _), (17, _)] ⟨rfl, rfl, rfl, rfl, trivial⟩ ?_
    refine X.next ?_
    refine C.cdec rfl (fun h17 => ?_) (fun h17 => ?_)
    · refine C.seq ?_
      refine C.region ?_
      refine R.ev rfl (E.assign rfl) ?_
      refine R.done ?_
      refine X.keep [(4, _)] ⟨rfl, trivial⟩ ?_
      refine X.next ?_
      refine C.ret ?_
      refine X.blockRet ?_
      refine X.thenRet ?_
      refine X.loopRet ?_
      refine X.blockRet ?_
      refine X.thenRet ?_
      refine X.ret1 rfl rfl ?_
      exact ⟨by subst h17; simp [hym], hm.tr (Mod.drew _ _)⟩
    · refine C.skip ?_
      refine X.blockNormal ?_
      refine X.next ?_
      refine C.region ?_
      refine R.ev rfl (E.move rfl) ?_
      refine R.ev rfl (E.add rfl rfl (by omega) (by omega)) ?_
      refine R.ev rfl (E.assign rfl) ?_
      refine R.done ?_
      refine X.keep [(0, _), (3, _), (5, _)] ⟨rfl, rfl, rfl, trivial⟩ ?_
      refine X.again (k + 1) ⟨rfl, rfl, rfl, trivial⟩ ⟨by omega, hm.tr (Mod.drew _ _), hb3.keep (Mod.drew [] _) (by simp), ?_⟩ (by omega)
      rw [hiff, drop_cons hy]; simp [Ne.symm h17]
  · refine C.exit ?_
    refine X.thenExit ?_
    refine X.loopExit ?_
    refine X.blockExit ?_
    refine X.next ?_
    refine C.seq ?_
    refine C.region ?_
    refine R.ev rfl (E.assign rfl) ?_
    refine R.done ?_
    refine X.keep [(4, _)] ⟨rfl, trivial⟩ ?_
    refine X.next ?_
    refine C.ret ?_
    refine X.ret1 rfl rfl ?_
    refine ⟨?_, hm⟩
    rw [show k = n by omega, List.drop_eq_nil_of_le (by omega)] at hiff
    simp [hiff]
theorem index_any (ad : Option Addr) (n cap : Nat) (L : List (List UInt8)) (a : List UInt8) (w : World) (hs : SlE encI 32 w ad n L) (hn : n ≤ 1000000) (ha : a.length = 32) :
    Ret Try.prog 66 #[.slice ad n cap, idV a] w fun v w' => ∃ i : Int, v = .int .i64 i ∧ (0 ≤ i ↔ a ∈ L) ∧ Mod [] w w' := by
  have hln := hs.len
  refine Ret.enter (n := 19) (args := [.slice ad n cap, idV a]) Try.func66 rfl rfl ?_
  refine C.keep [(0, _), (1, _)] ⟨rfl, rfl, trivial⟩ ?_
  refine C.seq ?_
  refine C.region ?_
  refine R.boxA rfl rfl ?_
  intro b3 w3 n3
  refine R.ev rfl (E.assign rfl) ?_
  refine R.done ?_
  refine X.keep [(0, _), (3, _)] ⟨rfl, rfl, trivial⟩ ?_
  refine X.next ?_
  refine C.seq ?_
  refine C.seq ?_
  refine C.region ?_
  refine R.ev rfl (E.move rfl) ?_
  refine R.ev rfl (E.lenSl rfl Try.underlying45) ?_
  refine R.ev rfl (E.move rfl) ?_
  refine R.done ?_
  refine X.keep [(0, _), (3, _), (7, _), (8, _)] ⟨rfl, rfl, rfl, rfl, trivial⟩ ?_
  refine X.next ?_
  refine C.block ?_
  refine C.loop  [(0, _), (3, _), (7, _)] (fun k => [(8, .int .i64 (k : Nat))]) (fun k w' => k ≤ n ∧ Mod [] w w' ∧ At w' b3 0 (a.map ub) ∧ (a ∈ L ↔ a ∈ L.drop k)) (fun k => n - k) (0) ⟨rfl, rfl, rfl, rfl, trivial⟩ ⟨by omega, n3.mod, n3.blk.at, Iff.rfl⟩ ?_
  rintro k w1 ⟨hk, hm, hb3, hiff⟩
  refine C.keep [(0, _), (3, _), (7, _), (8, _)] ⟨rfl, rfl, rfl, rfl, trivial⟩ ?_
  refine C.seq ?_
  refine C.region ?_
  refine R.ev rfl (E.lss rfl rfl) ?_
  refine R.done ?_
  refine X.keep [(0, _), (3, _), (7, _), (8, _), (9, _)] ⟨rfl, rfl, rfl, rfl, rfl, trivial⟩ ?_
  refine X.next ?_
  refine C.seq ?_
  refine C.cdec rfl (fun h9 => ?_) (fun h9 => ?_)
  · have hlt : k < n := by omega
    obtain ⟨y, hy, hym⟩ := hs.nth hlt
    have hyl := hs.size y hym
    obtain ⟨b, off, rfl, hat, _⟩ := (hs.keep0 hm).get hy
    have hyl' : y.length = 32 := by simpa using hyl
    refine C.skip ?_
    refine X.next ?_
    refine C.seq ?_
    refine C.block ?_
    refine C.seq ?_
    refine C.region ?_
    refine R.ev rfl (E.move rfl) ?_
    refine R.ev rfl (E.assign rfl) ?_
    refine R.done ?_
    refine X.keep [(0, _), (3, _), (5, _), (7, _), (8, _)] ⟨rfl, rfl, rfl, rfl, rfl, trivial⟩ ?_
    refine X.next ?_
    refine C.seq ?_
    refine C.drawn (fun w2 => Mod [] w1 w2) [0, 1, 2, 3, 4, 5] (by kernel_rfl) ?_
    have hS4 : (fun w2 => Mod [] w1 w2) _ := Mod.drew _ _
    dsimp only at hS4
    refine D.ev 0 rfl (by kernel_rfl) rfl hS4 (fun _ hS => E.loadRow rfl Try.underlying23 rfl Try.sz23 (hb3.keep hS (by simp)) (len_ub ha)) ?_
    refine D.ev 1 rfl (by kernel_rfl) rfl hS4 (fun _ hS => E.move rfl) ?_
    refine D.ev 2 rfl (by kernel_rfl) rfl hS4 (fun _ hS => E.move rfl) ?_
    refine D.ev 3 rfl (by kernel_rfl) rfl hS4 (fun _ hS => E.indexAddr rfl rfl Try.underlying45 Try.sz23 rfl (by first | omega | decide)) ?_
    refine D.ev 4 rfl (by kernel_rfl) rfl hS4 (fun _ hS => E.loadRow rfl Try.underlying23 rfl Try.sz23 (hat.keep hS (by simp)) hyl) ?_
    refine D.ev 5 rfl (by kernel_rfl) rfl hS4 (fun _ hS => E.eqId 10 32 rfl rfl Try.lv23 rfl Try.underlying23 rfl Try.gd23 (by assumption) (by assumption)) ?_
    refine D.done rfl (by kernel_rfl) ?_
    refine X.keep [(0, _), (3, _), (5, _), (7, _), (8, _), (16, _)] ⟨rfl, rfl, rfl, rfl, rfl, rfl, trivial⟩ ?_
    refine X.next ?_
    refine C.cdec rfl (fun h17 => ?_) (fun h17 => ?_)
    · refine C.seq ?_
      refine C.region ?_
      refine R.ev rfl (E.move rfl) ?_
      refine R.ev rfl (E.assign rfl) ?_
      refine R.done ?_
      refine X.keep [(4, _)] ⟨rfl, trivial⟩ ?_
      refine X.next ?_
      refine C.ret ?_
      refine X.blockRet ?_
      refine X.thenRet ?_
      refine X.loopRet ?_
      refine X.blockRet ?_
      refine X.thenRet ?_
      refine X.ret1 rfl rfl ?_
      exact ⟨_, rfl, by subst h17; simp [hym], hm.tr (Mod.drew _ _)⟩
    · refine C.skip ?_
      refine X.blockNormal ?_
      refine X.next ?_
      refine C.region ?_
      refine R.ev rfl (E.add rfl rfl (by omega) (by omega)) ?_
      refine R.ev rfl (E.move rfl) ?_
      refine R.done ?_
      refine X.keep [(0, _), (3, _), (7, _), (8, _)] ⟨rfl, rfl, rfl, rfl, trivial⟩ ?_
      refine X.again (k + 1) ⟨rfl, rfl, rfl, rfl, trivial⟩ ⟨by omega, hm.tr (Mod.drew _ _), hb3.keep (Mod.drew [] _) (by simp), ?_⟩ (by omega)
      rw [hiff, drop_cons hy]; simp [h17]
  · refine C.exit ?_
    refine X.thenExit ?_
    refine X.loopExit ?_
    refine X.blockExit ?_
    refine X.next ?_
    refine C.seq ?_
    refine C.region ?_
    refine R.ev rfl (E.assign rfl) ?_
    refine R.done ?_
    refine X.keep [(4, _)] ⟨rfl, trivial⟩ ?_
    refine X.next ?_
    refine C.ret ?_
    refine X.ret1 rfl rfl ?_
    refine ⟨_, rfl, ?_, hm⟩
    rw [show k = n by omega, List.drop_eq_nil_of_le (by omega)] at hiff
    simp [hiff]
theorem contains_any (ad : Option Addr) (n cap : Nat) (L : List (List UInt8)) (a : List UInt8) (w : World) (hs : SlE encI 32 w ad n L) (hn : n ≤ 1000000) (ha : a.length = 32) :
    Ret Try.prog 49 #[.slice ad n cap, idV a] w fun v w' => v = .bool (decide (a ∈ L)) ∧ Mod [] w w' := by
  refine Ret.enter (n := 9) (args := [.slice ad n cap, idV a]) Try.func49 rfl rfl ?_
  refine C.keep [(0, _), (1, _)] ⟨rfl, rfl, trivial⟩ ?_
  refine C.seq ?_
  refine C.region ?_
  refine R.boxA rfl rfl ?_
  intro b3 w3 n3
  refine R.ev rfl (E.assign rfl) ?_
  refine R.done ?_
  refine X.keep [(0, _), (3, _)] ⟨rfl, rfl, trivial⟩ ?_
  refine X.next ?_
  refine C.seq ?_
  refine C.region ?_
  have hb3 := n3.blk.at
  refine R.ev rfl (E.move rfl) ?_
  refine R.ev rfl (E.loadRow rfl Try.underlying23 rfl Try.sz23 (by assumption) (by first | rfl | exact len_ub (by assumption) | simp [*])) ?_
  refine R.call ⟨_, _, Try.func66, rfl, by kernel_rfl⟩ rfl rfl (index_any ad n _ L a _ (hs.keep0 n3.mod) hn ha) ?_
  rintro _ w4 ⟨i, rfl, hi, m4⟩
  refine R.ev rfl (E.geq rfl rfl) ?_
  refine R.ev rfl (E.assign rfl) ?_
  refine R.done ?_
  refine X.keep [(4, _)] ⟨rfl, trivial⟩ ?_
  refine X.next ?_
  refine C.ret ?_
  refine X.ret1 rfl rfl ?_
  exact ⟨by rw [decide_eq_decide.2 hi], n3.mod.tr m4⟩
theorem indexFunc_any (b cap n : Nat) (l : List UInt8) (fid : FuncId) (p : UInt8 → Bool) (w : World) (hl : l.length = n) (hn : n ≤ 1000000) (hat : At w b 0 (l.map ub)) (hcall : Callable Try.prog fid)
    (hf : ∀ (c : UInt8) (w : World), Ret Try.prog fid #[ub c] w fun v w' => v = .bool (p c) ∧ w = w') :
    Ret Try.prog 64 #[.slice (some ⟨b, 0, none⟩) n cap, .func (.func fid) #[] #[]] w fun v w' => ∃ i : Int, v = .int .i64 i ∧ (0 ≤ i ↔ l.any p = true) ∧ w = w' := by
  refine Ret.enter (n := 19) (args := [.slice (some ⟨b, 0, none⟩) n cap, .func (.func fid) #[] #[]]) Try.func64 rfl rfl ?_
  refine C.keep [(0, _), (1, _)] ⟨rfl, rfl, trivial⟩ ?_
  refine C.seq ?_
  refine C.region ?_
  refine R.ev rfl (E.assign rfl) ?_
  refine R.done ?_
  refine X.keep [(0, _), (1, _)] ⟨rfl, rfl, trivial⟩ ?_
  refine X.next ?_
  refine C.seq ?_
  refine C.seq ?_
  refine C.region ?_
  refine R.ev rfl (E.move rfl) ?_
  refine R.ev rfl (E.lenSl rfl Try.underlying35) ?_
  refine R.ev rfl (E.move rfl) ?_
  refine R.done ?_
  refine X.keep [(0, _), (1, _), (7, _), (8, _)] ⟨rfl, rfl, rfl, rfl, trivial⟩ ?_
  refine X.next ?_
  refine C.block ?_
  refine C.loop  [(0, _), (1, _), (7, _)] (fun k => [(8, .int .i64 (k : Nat))]) (fun k w' => k ≤ n ∧ w = w' ∧ (l.any p = (l.drop k).any p)) (fun k => n - k) (0) ⟨rfl, rfl, rfl, rfl, trivial⟩ ⟨by omega, rfl, rfl⟩ ?_
  rintro k _ ⟨hk, rfl, hiff⟩
  refine C.keep [(0, _), (1, _), (7, _), (8, _)] ⟨rfl, rfl, rfl, rfl, trivial⟩ ?_
  refine C.seq ?_
  refine C.region ?_
  refine R.ev rfl (E.lss rfl rfl) ?_
  refine R.done ?_
  refine X.keep [(0, _), (1, _), (7, _), (8, _), (9, _)] ⟨rfl, rfl, rfl, rfl, rfl, trivial⟩ ?_
  refine X.next ?_
  refine C.seq ?_
  refine C.cdec rfl (fun h9 => ?_) (fun h9 => ?_)
  · have hlt : k < l.length := by omega
    have hcell : w.cell? ⟨b, 0 + k * 1, none⟩ = some (ub l[k]) := by rw [Nat.mul_one]; exact hat k (ub l[k]) (by simp [hlt])
    rw [List.drop_eq_getElem_cons hlt, List.any_cons] at hiff
    refine C.skip ?_
    refine X.next ?_
    refine C.seq ?_
    refine C.block ?_
    refine C.seq ?_
    refine C.region ?_
    refine R.ev rfl (E.move rfl) ?_
    refine R.ev rfl (E.assign rfl) ?_
    refine R.done ?_
    refine X.keep [(0, _), (1, _), (5, _), (7, _), (8, _)] ⟨rfl, rfl, rfl, rfl, rfl, trivial⟩ ?_
    refine X.next ?_
    refine C.seq ?_
    refine C.region ?_
    refine R.ev rfl (E.move rfl) ?_
    refine R.ev rfl (E.move rfl) ?_
    refine R.ev rfl (E.move rfl) ?_
    refine R.ev rfl (E.indexAddr rfl rfl Try.underlying35 Try.sz5 rfl (by first | omega | decide)) ?_
    refine R.ev rfl (E.load1 rfl Try.underlying5 rfl (by assumption)) ?_
    refine R.callV (first := []) (cap := []) hcall rfl rfl rfl (hf _ _) ?_
    rintro _ _ ⟨rfl, rfl⟩
    refine R.done ?_
    refine X.keep [(0, _), (1, _), (5, _), (7, _), (8, _), (16, _)] ⟨rfl, rfl, rfl, rfl, rfl, rfl, trivial⟩ ?_
    refine X.next ?_
    refine C.cbool rfl (fun h16 => ?_) (fun h16 => ?_)
    · refine C.seq ?_
      refine C.region ?_
      refine R.ev rfl (E.move rfl) ?_
      refine R.ev rfl (E.assign rfl) ?_
      refine R.done ?_
      refine X.keep [(4, _)] ⟨rfl, trivial⟩ ?_
      refine X.next ?_
      refine C.ret ?_
      refine X.blockRet ?_
      refine X.thenRet ?_
      refine X.loopRet ?_
      refine X.blockRet ?_
      refine X.thenRet ?_
      refine X.ret1 rfl rfl ?_
      exact ⟨_, rfl, by rw [hiff, h16]; simp, rfl⟩
    · refine C.skip ?_
      refine X.blockNormal ?_
      refine X.next ?_
      refine C.region ?_
      refine R.ev rfl (E.add rfl rfl (by omega) (by omega)) ?_
      refine R.ev rfl (E.move rfl) ?_
      refine R.done ?_
      refine X.keep [(0, _), (1, _), (7, _), (8, _)] ⟨rfl, rfl, rfl, rfl, trivial⟩ ?_
      refine X.again (k + 1) ⟨rfl, rfl, rfl, rfl, trivial⟩ ⟨by omega, rfl, by rw [hiff, h16, Bool.false_or]⟩ (by omega)
  · refine C.exit ?_
    refine X.thenExit ?_
    refine X.loopExit ?_
    refine X.blockExit ?_
    refine X.next ?_
    refine C.seq ?_
    refine C.region ?_
    refine R.ev rfl (E.assign rfl) ?_
    refine R.done ?_
    refine X.keep [(4, _)] ⟨rfl, trivial⟩ ?_
    refine X.next ?_
    refine C.ret ?_
    refine X.ret1 rfl rfl ?_
    exact ⟨_, rfl, by rw [hiff, List.drop_eq_nil_of_le (by omega)]; simp, rfl⟩
theorem containsFunc_any (b cap n : Nat) (l : List UInt8) (fid : FuncId) (p : UInt8 → Bool) (w : World) (hl : l.length = n) (hn : n ≤ 1000000) (hat : At w b 0 (l.map ub)) (hcall : Callable Try.prog fid)
    (hf : ∀ (c : UInt8) (w : World), Ret Try.prog fid #[ub c] w fun v w' => v = .bool (p c) ∧ w = w') :
    Ret Try.prog 45 #[.slice (some ⟨b, 0, none⟩) n cap, .func (.func fid) #[] #[]] w fun v w' => v = .bool (l.any p) ∧ w = w' := by
  refine Ret.enter (n := 9) (args := [.slice (some ⟨b, 0, none⟩) n cap, .func (.func fid) #[] #[]]) Try.func45 rfl rfl ?_
  refine C.keep [(0, _), (1, _)] ⟨rfl, rfl, trivial⟩ ?_
  refine C.seq ?_
  refine C.region ?_
  refine R.ev rfl (E.assign rfl) ?_
  refine R.done ?_
  refine X.keep [(0, _), (1, _)] ⟨rfl, rfl, trivial⟩ ?_
  refine X.next ?_
  refine C.seq ?_
  refine C.region ?_
  refine R.ev rfl (E.move rfl) ?_
  refine R.ev rfl (E.move rfl) ?_
  refine R.call ⟨_, _, Try.func64, rfl, by kernel_rfl⟩ rfl rfl (indexFunc_any b _ n l fid p _ hl hn hat hcall hf) ?_
  rintro _ _ ⟨i, rfl, hi, rfl⟩
  refine R.ev rfl (E.geq rfl rfl) ?_
  refine R.ev rfl (E.assign rfl) ?_
  refine R.done ?_
  refine X.keep [(4, _)] ⟨rfl, trivial⟩ ?_
  refine X.next ?_
  refine C.ret ?_
  refine X.ret1 rfl rfl ?_
  exact ⟨congrArg Value.bool (by rw [Bool.eq_iff_iff, decide_eq_true_eq]; exact hi), rfl⟩
theorem litePrefix_any (l m : List UInt8) (w : World) :
    Ret Try.prog 65 #[str l, str m] w fun v w' => v = .bool (decide (l.take m.length = m)) ∧ w = w' := by
  have hlen : l.take m.length = m → m.length ≤ l.length := fun h => by
    have := congrArg List.length h
    simp at this; omega
  refine Ret.enter (n := 18) (args := [str l, str m]) Try.func65 rfl rfl ?_
  refine C.keep [(0, _), (1, _)] ⟨rfl, rfl, trivial⟩ ?_
  refine C.seq ?_
  refine C.region ?_
  refine R.ev rfl (E.assign rfl) ?_
  refine R.done ?_
  refine X.keep [(0, _), (1, _)] ⟨rfl, rfl, trivial⟩ ?_
  refine X.next ?_
  refine C.seq ?_
  refine C.region ?_
  refine R.ev rfl (E.move rfl) ?_
  refine R.ev rfl (E.lenStr rfl Try.underlying9) ?_
  refine R.ev rfl (E.move rfl) ?_
  refine R.ev rfl (E.lenStr rfl Try.underlying9) ?_
  refine R.ev rfl (E.geq rfl rfl) ?_
  refine R.ev rfl (E.move rfl) ?_
  refine R.split 10 rfl (fun h10 => ?_) (fun h10 => ?_)
  · refine R.gyes rfl rfl ?_
    refine R.ev rfl (E.move rfl) ?_
    refine R.gyes rfl rfl ?_
    refine R.ev rfl (E.move rfl) ?_
    refine R.gyes rfl rfl ?_
    refine R.ev rfl (E.lenStr rfl Try.underlying9) ?_
    refine R.gyes rfl rfl ?_
    refine R.ev rfl (E.ssliceH rfl rfl Try.underlying9 rfl (by simp at h10; omega)) ?_
    refine R.gyes rfl rfl ?_
    refine R.ev rfl (E.move rfl) ?_
    refine R.gyes rfl rfl ?_
    refine R.ev rfl (E.seql rfl rfl) ?_
    refine R.ev rfl (E.pickT rfl rfl) ?_
    refine R.ev rfl (E.assign rfl) ?_
    refine R.done ?_
    refine X.keep [(4, _)] ⟨rfl, trivial⟩ ?_
    refine X.next ?_
    refine C.ret ?_
    refine X.ret1 rfl rfl ?_
    refine ⟨?_, rfl⟩
    try simp_all
    try exact fun h => absurd (hlen h) (by omega)
  · refine R.gskip rfl rfl rfl ?_
    refine R.gskip rfl rfl rfl ?_
    refine R.gskip rfl rfl rfl ?_
    refine R.gskip rfl rfl rfl ?_
    refine R.gskip rfl rfl rfl ?_
    refine R.gskip rfl rfl rfl ?_
    refine R.ev rfl (E.pickF rfl rfl) ?_
    refine R.ev rfl (E.assign rfl) ?_
    refine R.done ?_
    refine X.keep [(4, _)] ⟨rfl, trivial⟩ ?_
    refine X.next ?_
    refine C.ret ?_
    refine X.ret1 rfl rfl ?_
    refine ⟨?_, rfl⟩
    try simp_all
    try exact fun h => absurd (hlen h) (by omega)
theorem hasPrefix_any (l m : List UInt8) (w : World) :
    Ret Try.prog 48 #[str l, str m] w fun v w' => v = .bool (decide (l.take m.length = m)) ∧ w = w' := by
  refine Ret.enter (n := 8) (args := [str l, str m]) Try.func48 rfl rfl ?_
  refine C.keep [(0, _), (1, _)] ⟨rfl, rfl, trivial⟩ ?_
  refine C.seq ?_
  refine C.region ?_
  refine R.ev rfl (E.assign rfl) ?_
  refine R.done ?_
  refine X.keep [(0, _), (1, _)] ⟨rfl, rfl, trivial⟩ ?_
  refine X.next ?_
  refine C.seq ?_
  refine C.region ?_
  refine R.ev rfl (E.move rfl) ?_
  refine R.ev rfl (E.move rfl) ?_
  refine R.call ⟨_, _, Try.func65, rfl, by kernel_rfl⟩ rfl rfl (litePrefix_any l m _) ?_
  rintro _ _ ⟨rfl, rfl⟩
  refine R.ev rfl (E.assign rfl) ?_
  refine R.done ?_
  refine X.keep [(4, _)] ⟨rfl, trivial⟩ ?_
  refine X.next ?_
  refine C.ret ?_
  refine X.ret1 rfl rfl ?_
  exact ⟨rfl, rfl⟩
end Go.Proofs.Ytkmgmdgkphckgaa
