/-
  Loops and ways that meet, when loops over functions within them leave marks (over any program).
-/
import Derived.Test.YtifghjeapfijkaaGreatDoorRng
namespace Go.Eng
open Go.RowKit
section
variable {P : Program} {Q : Post} {n : Nn} {g : Env} {w : World}
def LoopQD (sz : Nat) {T : Type} (Ds : T → List Deferred) (g0 : Env) (I : T → Env) (J : T → World → Prop) (m : T → Nat) (x : T) (Q : Post) : Post := ⟨Q.rd, Exit.then (fun a' w' => ∃ y, Fr ⟨sz, Ds y⟩ (I y ++ g0) a' ∧ J y w' ∧ m y < m x) Q.q⟩
theorem C.loopD {c : Code} {T : Type} (Ds : T → List Deferred) (g0 : Env) (I : T → Env) (J : T → World → Prop) (m : T → Nat) (x : T) (s : Sub (I x ++ g0) g) (hJ : J x w) (hn : n.dfs = Ds x)
    (round : ∀ x w, J x w → C P c (LoopQD n.sz Ds g0 I J m x Q) ⟨n.sz, Ds x⟩ (I x ++ g0) w) : C P (.loop c) Q n g w := by
  intro a f
  have f0 : Fr ⟨n.sz, Ds x⟩ (I x ++ g0) a := by
    have := f.sub s
    exact ⟨this.size, this.defers.trans hn, this.known⟩
  refine wpIn_loop_ghost (fun k a w => ∃ x, m x = k ∧ Fr ⟨n.sz, Ds x⟩ (I x ++ g0) a ∧ J x w) (m x) ⟨x, rfl, f0, hJ⟩ ?_
  rintro k a w ⟨x, rfl, hf, hj⟩
  refine wpIn_mono (round x w hj a hf) ?_
  intro e a' w' hq
  cases e with
  | normal =>
    obtain ⟨y, h1, h2, h3⟩ := hq
    exact ⟨m y, h3, y, rfl, h1, h2⟩
  | _ => exact hq
theorem X.againD {sz : Nat} {T : Type} {Ds : T → List Deferred} {g0 : Env} {I : T → Env} {J : T → World → Prop} {m : T → Nat} {x : T} (y : T) (hn : n = ⟨sz, Ds y⟩) (s : Sub (I y ++ g0) g) (hJ : J y w) (hm : m y < m x) :
    X (LoopQD sz Ds g0 I J m x Q) .normal n g w := fun _ f => show ∃ _y, _ from ⟨y, hn ▸ f.sub s, hJ, hm⟩
theorem X.loopDExit {sz : Nat} {T : Type} {Ds : T → List Deferred} {g0 : Env} {I : T → Env} {J : T → World → Prop} {m : T → Nat} {x : T} {i : Nat} (h : X Q (.exit i) n g w) : X (LoopQD sz Ds g0 I J m x Q) (.exit i) n g w := h
theorem X.loopDRet {sz : Nat} {T : Type} {Ds : T → List Deferred} {g0 : Env} {I : T → Env} {J : T → World → Prop} {m : T → Nat} {x : T} (h : X Q .ret n g w) : X (LoopQD sz Ds g0 I J m x Q) .ret n g w := h
def CutQD (sz : Nat) {T : Type} (Ds : T → List Deferred) (g0 : Env) (G : T → Env) (J : T → World → Prop) (Q : Post) : Post := ⟨Q.rd, Exit.then (fun a' w' => ∃ y, Fr ⟨sz, Ds y⟩ (G y ++ g0) a' ∧ J y w') Q.q⟩
theorem C.cutD {c : Code} {T : Type} (Ds : T → List Deferred) (g0 : Env) (G : T → Env) (J : T → World → Prop) (_s : Sub g0 g) (h1 : C P c (CutQD n.sz Ds g0 G J Q) n g w) (h2 : ∀ y w', J y w' → X Q .normal ⟨n.sz, Ds y⟩ (G y ++ g0) w') : C P c Q n g w := by
  intro a f
  refine wpIn_mono (h1 a f) ?_
  intro e a' w' hq
  cases e with
  | normal =>
    obtain ⟨y, hf, hj⟩ := hq
    exact h2 y w' hj a' hf
  | _ => exact hq
theorem X.cutD {sz : Nat} {T : Type} {Ds : T → List Deferred} {g0 : Env} {G : T → Env} {J : T → World → Prop} (y : T) (hn : n = ⟨sz, Ds y⟩) (s : Sub (G y ++ g0) g) (hJ : J y w) : X (CutQD sz Ds g0 G J Q) .normal n g w := fun _ f => show ∃ _y, _ from ⟨y, hn ▸ f.sub s, hJ⟩
theorem X.cutDExit {sz : Nat} {T : Type} {Ds : T → List Deferred} {g0 : Env} {G : T → Env} {J : T → World → Prop} {i : Nat} (h : X Q (.exit i) n g w) : X (CutQD sz Ds g0 G J Q) (.exit i) n g w := h
theorem X.cutDRet {sz : Nat} {T : Type} {Ds : T → List Deferred} {g0 : Env} {G : T → Env} {J : T → World → Prop} (h : X Q .ret n g w) : X (CutQD sz Ds g0 G J Q) .ret n g w := h
/-- the blocks of many marks -/
def dfsP (ds : List Nat) : Hl := ds.flatMap fun D => dfP D (some [])
theorem X.markAll {K : Kn} {Hs : List Hl} {k : Nat} {fn : Func} {F : Value → World → Prop} : ∀ {ds : List Nat} {w : World}, Sat K w (dfsP ds :: Hs) → (∀ w', Sat K w' Hs → X (BodyQ P fn F) .ret ⟨k, []⟩ g w') → X (BodyQ P fn F) .ret ⟨k, ds.map mkD⟩ g w
  | [], w, hs, h => h w hs.drop
  | D :: ds, w, hs, h => by
    have hs : Sat K w (dfP D (some []) :: dfsP ds :: Hs) := hs.perm (by simp [dfsP])
    exact X.mark (C0 := fun X => X :: dfsP ds :: Hs) hs fun w' h' => X.markAll h'.drop h
end
end Go.Eng
