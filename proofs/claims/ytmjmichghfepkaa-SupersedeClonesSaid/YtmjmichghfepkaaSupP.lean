/-
  Successors and paths (the plain law).
-/
import Derived.Test.YtmjmichghfepkaaSupL
namespace Go.Proofs.Ytmjmichghfepkaa
open Go.Eng Go.RowKit Go.Sort

variable {L : List RR}
def succs (L : List RR) (x : RR) : List RR := L.filter (valid x)
theorem succs_sub {x y : RR} (h : y ∈ succs L x) : y ∈ L := (List.mem_filter.1 h).1
structure Best (l : List RR) (z : RR) : Prop where
  mem : z ∈ l
  min : ∀ y ∈ l, ltB y z = false
theorem id_inj (hn : (L.map RR.id).Nodup) {x y : RR} (hx : x ∈ L) (hy : y ∈ L) (h : x.id = y.id) : x = y := by
  induction L with
  | nil => cases hx
  | cons z l ih =>
    simp only [List.map_cons, List.nodup_cons] at hn
    rcases List.mem_cons.1 hx with e1 | h1
    · rcases List.mem_cons.1 hy with e2 | h2
      · rw [e1, e2]
      · exact absurd (List.mem_map.2 ⟨y, h2, by rw [← h, e1]⟩) hn.1
    · rcases List.mem_cons.1 hy with e2 | h2
      · exact absurd (List.mem_map.2 ⟨x, h1, by rw [h, e2]⟩) hn.1
      · exact ih hn.2 h1 h2
theorem ltB_tot {x y : RR} (h1 : ltB x y = false) (h2 : ltB y x = false) : x.id = y.id := by
  rw [ltB_false] at h1 h2
  rcases h1 with h1 | ⟨h1, h1'⟩
  · rcases h2 with h2 | ⟨h2, _⟩ <;> omega
  · rcases h2 with h2 | ⟨_, h2'⟩
    · omega
    · exact ltV_tot _ _ h1' h2'
theorem Best.uniq (hn : (L.map RR.id).Nodup) {l : List RR} (hl : ∀ y ∈ l, y ∈ L) {z z' : RR} (h : Best l z) (h' : Best l z') : z = z' :=
  id_inj hn (hl _ h.mem) (hl _ h'.mem) (ltB_tot (h'.min _ h.mem) (h.min _ h'.mem))
/-- a path from a row -/
inductive PathR (L : List RR) : RR → List RR → Prop
  | last {x : RR} : succs L x = [] → PathR L x [x]
  | cons {x y : RR} {p : List RR} : Best (succs L x) y → PathR L y p → PathR L x (x :: p)
theorem PathR.det (hn : (L.map RR.id).Nodup) : ∀ {p q : List RR} {x : RR}, PathR L x p → PathR L x q → p = q
  | _, _, _, .last h, .last _ => rfl
  | _, _, _, .last h, .cons b _ => by have := b.mem; rw [h] at this; cases this
  | _, _, _, .cons b _, .last h => by have := b.mem; rw [h] at this; cases this
  | _, _, x, .cons b1 h1, .cons b2 h2 => by
    have e := b1.uniq hn (fun y hy => succs_sub hy) b2
    subst e
    rw [PathR.det hn h1 h2]
theorem PathR.head {x : RR} {p : List RR} (h : PathR L x p) : ∃ r, p = x :: r := by
  cases h with
  | last _ => exact ⟨[], rfl⟩
  | cons _ _ => exact ⟨_, rfl⟩
theorem PathR.suffix {x y : RR} {p : List RR} (h : PathR L x p) (hy : y ∈ p) : ∃ a q, p = a ++ q ∧ PathR L y q := by
  induction h with
  | last h0 =>
    rename_i x0
    simp at hy; subst hy
    exact ⟨[], _, rfl, .last h0⟩
  | cons b h0 ih =>
    rename_i x0 y0 p0
    rcases List.mem_cons.1 hy with rfl | hy
    · exact ⟨[], _, rfl, .cons b h0⟩
    · obtain ⟨a, q, h1, h2⟩ := ih hy
      exact ⟨x0 :: a, q, by rw [h1]; rfl, h2⟩
theorem PathR.nodup (hn : (L.map RR.id).Nodup) {x : RR} {p : List RR} (h : PathR L x p) : p.Nodup := by
  induction h with
  | last _ => simp
  | cons b h0 ih =>
    rename_i x0 y0 p0
    rw [List.nodup_cons]
    refine ⟨fun hm => ?_, ih⟩
    obtain ⟨a, q, h1, h2⟩ := h0.suffix hm
    have := PathR.det hn h2 (.cons b h0)
    have hl := congrArg List.length h1
    rw [this] at hl
    simp at hl
    omega
theorem PathR.sub {x : RR} {p : List RR} (hx : x ∈ L) (h : PathR L x p) : ∀ y ∈ p, y ∈ L := by
  induction h with
  | last _ => intro y hy; simp at hy; subst hy; exact hx
  | cons b _ ih =>
    intro y hy
    rcases List.mem_cons.1 hy with rfl | hy
    · exact hx
    · exact ih (succs_sub b.mem) y hy
/-- what was passed on the way from x0 to x -/
def Way (L : List RR) (x0 : RR) (vis : List RR) (x : RR) : Prop := ∀ p, PathR L x0 p ↔ ∃ q, PathR L x q ∧ p = vis ++ q
theorem Way.start (x : RR) : Way L x [] x := fun p => ⟨fun h => ⟨p, h, rfl⟩, fun ⟨q, h1, h2⟩ => by rw [h2]; exact h1⟩
theorem Way.step (hn : (L.map RR.id).Nodup) {x0 x y : RR} {vis : List RR} (h : Way L x0 vis x) (b : Best (succs L x) y) : Way L x0 (vis ++ [x]) y := fun p => by
  rw [h p]
  constructor
  · rintro ⟨q, h1, h2⟩
    cases h1 with
    | last h3 => have := b.mem; rw [h3] at this; cases this
    | cons b2 h3 =>
      have e := b.uniq hn (fun y hy => succs_sub hy) b2
      subst e
      exact ⟨_, h3, by rw [h2]; simp⟩
  · rintro ⟨q, h1, h2⟩
    exact ⟨x :: q, .cons b h1, by rw [h2]; simp⟩
theorem Way.fin {x0 x : RR} {vis : List RR} (h : Way L x0 vis x) (hs : succs L x = []) : PathR L x0 (vis ++ [x]) := (h _).2 ⟨_, .last hs, rfl⟩
theorem Way.cycle (hn : (L.map RR.id).Nodup) {x0 x : RR} {vis : List RR} (h : Way L x0 vis x) (hx : x ∈ vis) : ∀ p, ¬ PathR L x0 p := fun p hp => by
  obtain ⟨q, h1, h2⟩ := (h p).1 hp
  obtain ⟨r, rfl⟩ := h1.head
  have := hp.nodup hn
  rw [h2, List.nodup_append] at this
  exact this.2.2 x hx x (by simp) rfl
theorem Way.long (hn : (L.map RR.id).Nodup) {x0 x : RR} {vis : List RR} (hx : x0 ∈ L) (h : Way L x0 vis x) (hl : L.length ≤ vis.length) : ∀ p, ¬ PathR L x0 p := fun p hp => by
  obtain ⟨q, h1, h2⟩ := (h p).1 hp
  obtain ⟨r, rfl⟩ := h1.head
  have h3 := nodup_len (hp.nodup hn) (hp.sub hx)
  rw [h2] at h3
  simp at h3
  omega
/-- the last one of a path of several is an end -/
theorem PathR.last_end {x : RR} {p : List RR} (h : PathR L x p) : ∃ a z, p = a ++ [z] ∧ succs L z = [] ∧ (a ≠ [] → ∃ y, y ∈ p ∧ Best (succs L y) z) := by
  induction h with
  | last h0 => exact ⟨[], _, rfl, h0, fun h => absurd rfl h⟩
  | cons b h0 ih =>
    rename_i x0 y0 p0
    obtain ⟨a, z, h1, h2, h3⟩ := ih
    refine ⟨x0 :: a, z, by rw [h1]; rfl, h2, fun _ => ?_⟩
    by_cases ha : a = []
    · subst ha
      obtain ⟨r, hr⟩ := h0.head
      rw [h1] at hr
      simp at hr
      rw [hr.1]
      exact ⟨x0, by simp, b⟩
    · obtain ⟨y, hy1, hy2⟩ := h3 ha
      exact ⟨y, by simp [hy1], hy2⟩
theorem subG_trans {a b c : UInt8} (h1 : subG a b = true) (h2 : subG b c = true) : subG a c = true := by
  rw [subG_iff] at *
  exact fun i hi h => h2 i hi (h1 i hi h)
theorem best_end {y z : RR} (b : Best (succs L y) z) (hs : succs L z = []) : wd L z = false := by
  rw [Bool.eq_false_iff, Ne, wd_iff]
  rintro ⟨u, hu, h | h⟩
  · have : u ∈ succs L z := List.mem_filter.2 ⟨hu, h⟩
    rw [hs] at this; cases this
  · have hv := valid_iff.1 (List.mem_filter.1 b.mem).2
    have ho := outd_iff.1 h
    obtain ⟨v1, v2, v3, v4, v5, v6⟩ := hv
    obtain ⟨o1, o2, o3, o4, o5, o6, o7⟩ := ho
    have hd : z.date ≤ u.date := by
      rcases ltB_iff.1 o7 with h1 | ⟨h1, _⟩ <;> omega
    have hvu : valid y u = true := valid_iff.2 ⟨o2, by rw [o4, v2], by rw [← v2, ← o4]; exact o3, by rw [v4, ← o5], by omega, subG_trans v6 o6⟩
    have := b.min u (List.mem_filter.2 ⟨hu, hvu⟩)
    rw [o7] at this; cases this
theorem wd_of_succ {x y : RR} (h : y ∈ succs L x) : wd L x = true := wd_iff.2 ⟨y, succs_sub h, .inl (List.mem_filter.1 h).2⟩
end Go.Proofs.Ytmjmichghfepkaa
