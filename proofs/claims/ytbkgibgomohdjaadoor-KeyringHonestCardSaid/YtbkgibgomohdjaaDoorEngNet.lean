/-
  Regions whose order is drawn, several operations at a time: states by the set of what is done (over any program).
-/
import Derived.Test.YtbkgibgomohdjaaDoorEngDraw
namespace Go.Eng
open Go.RowKit
section
variable {P : Program} {Q : Post} {S : World → Prop} {h : List Nat × List Nat} {dn : List Nat} {n : Nn} {g : Env} {w : World} {l : List Oper}
theorem D.perm (dn' : List Nat) (hm : mk l.length dn = mk l.length dn') (hl : dn'.length = dn.length) (k : D P l Q S h dn' n g w) : D P l Q S h dn n g w := fun a f fuel hfu => by
  rw [hm]
  exact k a f fuel (by omega)
theorem D.net (k : ∀ DD : List Nat → Env → World → Prop, (∀ dn g w, D P l Q S h dn n g w → DD dn g w) → (∀ dn g w, DD dn g w → D P l Q S h dn n g w) → D P l Q S h dn n g w) : D P l Q S h dn n g w :=
  k (fun dn g w => D P l Q S h dn n g w) (fun _ _ _ h => h) (fun _ _ _ h => h)
theorem D.acts (rs : List Nat) (hc : readyIs l dn rs = true) (hne : rs ≠ []) (k : ∀ i ∈ rs, ∃ o, l[i]? = some o ∧ R P l.toArray (BackQ P l Q S h dn i) [o] n g w) : D P l Q S h dn n g w := fun a f fuel hfu => by
  simp only [readyIs, Bool.and_eq_true, beq_iff_eq] at hc
  have hlt : dn.length < l.length := by simpa [Nat.blt_eq] using hc.2
  cases fuel with
  | zero => omega
  | succ fuel =>
    refine ⟨fun h0 => ?_, fun x hx => ?_⟩
    · rw [hc.1] at h0; exact absurd h0 hne
    · rw [hc.1] at hx
      obtain ⟨o, hi, kk⟩ := k x hx
      refine wpOp_mono ?_ (wpOp_of_R hi (fun _ _ h => h) (fun _ _ _ h => h) NP.in_ (kk a f))
      intro a' w' ⟨h1, h2⟩
      refine ⟨by unfold pendB at h1; rw [mk_snoc] at h1; exact h1, ?_⟩
      have := h2 fuel (by omega)
      rw [mk_snoc] at this
      exact this
theorem D.act3 (i j m : Nat) {o1 o2 o3 : Oper} (hc : readyIs l dn [i, j, m] = true) (h1 : l[i]? = some o1) (h2 : l[j]? = some o2) (h3 : l[m]? = some o3)
    (k1 : R P l.toArray (BackQ P l Q S h dn i) [o1] n g w) (k2 : R P l.toArray (BackQ P l Q S h dn j) [o2] n g w) (k3 : R P l.toArray (BackQ P l Q S h dn m) [o3] n g w) : D P l Q S h dn n g w :=
  D.acts [i, j, m] hc (by simp) fun x hx => by
    simp only [List.mem_cons, List.not_mem_nil, or_false] at hx
    rcases hx with rfl | rfl | rfl
    · exact ⟨_, h1, k1⟩
    · exact ⟨_, h2, k2⟩
    · exact ⟨_, h3, k3⟩
theorem D.act4 (i j m q : Nat) {o1 o2 o3 o4 : Oper} (hc : readyIs l dn [i, j, m, q] = true) (h1 : l[i]? = some o1) (h2 : l[j]? = some o2) (h3 : l[m]? = some o3) (h4 : l[q]? = some o4)
    (k1 : R P l.toArray (BackQ P l Q S h dn i) [o1] n g w) (k2 : R P l.toArray (BackQ P l Q S h dn j) [o2] n g w) (k3 : R P l.toArray (BackQ P l Q S h dn m) [o3] n g w) (k4 : R P l.toArray (BackQ P l Q S h dn q) [o4] n g w) : D P l Q S h dn n g w :=
  D.acts [i, j, m, q] hc (by simp) fun x hx => by
    simp only [List.mem_cons, List.not_mem_nil, or_false] at hx
    rcases hx with rfl | rfl | rfl | rfl
    · exact ⟨_, h1, k1⟩
    · exact ⟨_, h2, k2⟩
    · exact ⟨_, h3, k3⟩
    · exact ⟨_, h4, k4⟩
theorem D.actI (i : Nat) {o1 : Oper} (hc : readyIs l dn [i] = true) (h1 : l[i]? = some o1) (k1 : R P l.toArray (BackQ P l Q S h dn i) [o1] n g w) : D P l Q S h dn n g w := D.act i h1 hc k1
theorem D.actII (i j : Nat) {o1 o2 : Oper} (hc : readyIs l dn [i, j] = true) (h1 : l[i]? = some o1) (h2 : l[j]? = some o2) (k1 : R P l.toArray (BackQ P l Q S h dn i) [o1] n g w) (k2 : R P l.toArray (BackQ P l Q S h dn j) [o2] n g w) : D P l Q S h dn n g w := D.act2 i j h1 h2 hc k1 k2
end
end Go.Eng
