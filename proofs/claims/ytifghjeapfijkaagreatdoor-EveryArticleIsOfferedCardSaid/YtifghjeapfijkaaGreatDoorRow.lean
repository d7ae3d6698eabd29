/-
  Rows that are owned, worked on in place: elements set, parts taken, append of a slice, clear, composite literals (over any program).
-/
import Derived.Test.YtifghjeapfijkaaGreatDoorSep
namespace Go.Eng
open Go.RowKit

/-! composite literals of structs, field by field -/
def setF (fs : List (List Value)) : List (Nat × Value) → List (List Value)
  | [] => fs
  | (i, v) :: ps => setF (fs.set i v.cells.toList) ps
def consec : Nat → List (Nat × Nat) → Bool
  | _, [] => true
  | k, (o, s) :: pl => (o == k) && consec (k + s) pl
def fieldsOf (zs : List Value) (pl : List (Nat × Nat)) : List (List Value) := pl.map fun p => (zs.drop p.1).take p.2
def fitF (pl : List (Nat × Nat)) : List (Nat × Value) → Prop
  | [] => True
  | (i, v) :: ps => (∃ p, pl[i]? = some p ∧ v.cells.size = p.2) ∧ fitF pl ps

theorem splice_fields : ∀ (fs : List (List Value)) (pl : List (Nat × Nat)) (k i : Nat) (p : Nat × Nat) (cs : List Value), fs.length = pl.length → (∀ (j : Nat) f q, fs[j]? = some f → pl[j]? = some q → f.length = q.2) → consec k pl = true → pl[i]? = some p → cs.length = p.2 →
    k ≤ p.1 ∧ p.1 - k + p.2 ≤ fs.flatten.length ∧ (fs.set i cs).flatten = fs.flatten.take (p.1 - k) ++ cs ++ fs.flatten.drop (p.1 - k + p.2) := by
  intro fs
  induction fs with
  | nil => intro pl k i p cs hl _ _ hp; cases pl with | nil => simp at hp | cons => simp at hl
  | cons f fs ih =>
    intro pl k i p cs hl hz hc hp hcs
    cases pl with
    | nil => simp at hl
    | cons q pl =>
      obtain ⟨o, s⟩ := q
      simp only [consec, Bool.and_eq_true, beq_iff_eq] at hc
      obtain ⟨rfl, hc⟩ := hc
      have hf : f.length = s := hz 0 f (o, s) rfl rfl
      cases i with
      | zero =>
        simp at hp; subst hp
        simp only at hcs ⊢
        refine ⟨Nat.le_refl _, by simp [hf], ?_⟩
        simp [hf]
      | succ i =>
        have := ih pl (o + s) i p cs (by simpa using hl) (fun j g r h1 h2 => hz (j + 1) g r (by simpa using h1) (by simpa using h2)) hc (by simpa using hp) hcs
        obtain ⟨h1, h2, h3⟩ := this
        refine ⟨by omega, by rw [List.flatten_cons, List.length_append]; omega, ?_⟩
        simp only [List.set_cons_succ, List.flatten_cons, h3]
        rw [List.take_append, List.drop_append, List.take_of_length_le (l := f) (by omega), List.drop_eq_nil_of_le (as := f) (by omega), List.nil_append, hf]
        rw [show p.1 - o - s = p.1 - (o + s) by omega, show p.1 - o + p.2 - s = p.1 - (o + s) + p.2 by omega]
        simp
theorem fill_fields (pl : List (Nat × Nat)) (hc : consec 0 pl = true) : ∀ (ps : List (Nat × Value)) (fs : List (List Value)), fs.length = pl.length → (∀ (j : Nat) f q, fs[j]? = some f → pl[j]? = some q → f.length = q.2) → fitF pl ps →
    Instr.fill (pl.toArray[·]?) fs.flatten.toArray ps = some (setF fs ps).flatten.toArray := by
  intro ps
  induction ps with
  | nil => intro fs _ _ _; rfl
  | cons q ps ih =>
    intro fs hl hz hf
    obtain ⟨i, v⟩ := q
    obtain ⟨⟨p, hp, hv⟩, hf⟩ := hf
    have hsp := splice_fields fs pl 0 i p v.cells.toList hl hz hc hp (by simpa using hv)
    obtain ⟨_, h2, h3⟩ := hsp
    simp only [Nat.sub_zero] at h2 h3
    have hp' : pl.toArray[i]? = some p := by simpa using hp
    simp only [Instr.fill, hp', setF]
    rw [if_neg (by
      intro hh
      simp only [Bool.or_eq_true, decide_eq_true_eq] at hh
      rcases hh with hh | hh
      · exact hh hv
      · rw [hv, List.size_toArray] at hh; omega)]
    have hzf := zip_fold fs.flatten p.1 v.cells.toList 0 (by rw [Array.length_toList, hv]; omega)
    have hz' : (v.cells.zipIdx.foldl (fun (cs : Array Value) (x : Value × Nat) => cs.setIfInBounds (p.1 + x.2) x.1) fs.flatten.toArray) = (fs.set i v.cells.toList).flatten.toArray := by
      rw [← Array.foldl_toList, Array.toList_zipIdx, h3]
      simpa [hv] using hzf
    rw [show (fun (cs : Array Value) (x : Value × Nat) => match x with | (c, j) => cs.setIfInBounds (p.1 + j) c) = (fun (cs : Array Value) (x : Value × Nat) => cs.setIfInBounds (p.1 + x.2) x.1) from rfl, hz']
    refine ih _ (by simpa using hl) (fun j f r h1 h2' => ?_) hf
    rw [List.getElem?_set] at h1
    split at h1
    · rename_i hij
      subst hij
      split at h1
      · simp at h1; subst h1
        rw [hp] at h2'; simp at h2'; subst h2'; simpa using hv
      · cases h1
    · exact hz j f r h1 h2'

section ops
variable {P : Program} {Q : Post} {n : Nn} {g : Env} {w : World} {dst : Option Nat} {ty : TypeId} {pos : String} {af : Array Edge} {gu : Option (Nat × Bool)} {ops : Array Oper} {rest : List Oper} {d : Nat}
variable {t t' : TypeId} {x y z : Operand} {K : Kn} {Hs Rs : List Hl} {A B C D E F : Hl} {α : Type} {enc : α → List Value} {sz : Nat} {e : TypeId}

theorem E.buildF {fs : Array Field} {zs : List Value} {pl : List (Nat × Nat)} {parts : List (Nat × Operand)} {vs : List Value} {r : List Value} (hv : lookAll g (parts.map (·.2)) = some vs) (hu : P.underlying t = some (.struct fs)) (hz : zeroOf P t = some (.agg zs.toArray)) (hp : placesOf P fs.toList = some pl)
    (hc : (consec 0 pl && (fieldsOf zs pl).all (fun _ => true) && ((fieldsOf zs pl).flatten.length == zs.length) && ((fieldsOf zs pl).map (·.length) == pl.map (·.2))) = true) (hzs : (fieldsOf zs pl).flatten = zs)
    (hf : fitF pl ((parts.map (·.1)).zip vs)) (hr : (setF (fieldsOf zs pl) ((parts.map (·.1)).zip vs)).flatten = r) : Ev P n g ⟨dst, .build t parts.toArray, ty, pos, af, gu⟩ w (.agg r.toArray) := by
  simp only [Bool.and_eq_true, beq_iff_eq] at hc
  obtain ⟨⟨⟨h1, _⟩, _⟩, h4⟩ := hc
  have := fill_fields pl h1 ((parts.map (·.1)).zip vs) (fieldsOf zs pl) (by simp [fieldsOf]) (fun j f q h5 h6 => by
    have := congrArg (fun l : List Nat => l[j]?) h4
    simp only [List.getElem?_map, h5, h6, Option.map_some, Option.some.injEq] at this
    exact this) hf
  rw [hzs, hr] at this
  exact E.buildS hv hu hz hp this

/-! parts of a slice -/
def subAd (ad : Option Addr) (cap a sz : Nat) : Option Addr := if cap = a then ad else ad.map fun p => p.add (a * sz)
theorem E.sliceLs {ad : Option Addr} {len cap : Nat} {i : Int} {k : IntKind} {a : Nat} (hx : look g x = some (.slice ad len cap)) (hy : look g y = some (.int k i)) (hu : P.underlying t = some (.slice e)) (hs : szOf P e = some sz) (hi : i = (a : Int)) (h1 : a ≤ len) :
    Ev P n g ⟨dst, .slice t x (some y) none none, ty, pos, af, gu⟩ w (.slice (subAd ad cap a sz) (len - a) (cap - a)) := fun s f => by
  subst hi
  simp [execOp, f.eval hx, f.eval hy, Instr.sliceAt, Instr.slice, Instr.sliceBounds, Instr.sliceBound, asIntOf, run_underlying hu, run_szOf hs, h1, subAd]
theorem E.sliceLHs {ad : Option Addr} {len cap : Nat} {i j : Int} {k k' : IntKind} {a b : Nat} (hx : look g x = some (.slice ad len cap)) (hy : look g y = some (.int k i)) (hz : look g z = some (.int k' j)) (hu : P.underlying t = some (.slice e)) (hs : szOf P e = some sz) (hi : i = (a : Int)) (hj : j = (b : Int)) (h1 : a ≤ b) (h2 : b ≤ cap) :
    Ev P n g ⟨dst, .slice t x (some y) (some z) none, ty, pos, af, gu⟩ w (.slice (subAd ad cap a sz) (b - a) (cap - a)) := fun s f => by
  subst hi hj
  simp [execOp, f.eval hx, f.eval hy, f.eval hz, Instr.sliceAt, Instr.slice, Instr.sliceBounds, Instr.sliceBound, asIntOf, run_underlying hu, run_szOf hs, h1, h2, subAd]
theorem E.sliceLHMs {x' : Operand} {ad : Option Addr} {len cap : Nat} {i j m : Int} {k k' k'' : IntKind} {a b c : Nat} (hx : look g x = some (.slice ad len cap)) (hy : look g y = some (.int k i)) (hz : look g z = some (.int k' j)) (hm : look g x' = some (.int k'' m)) (hu : P.underlying t = some (.slice e)) (hs : szOf P e = some sz) (hi : i = (a : Int)) (hj : j = (b : Int)) (hc : m = (c : Int)) (h1 : a ≤ b) (h2 : b ≤ c) (h3 : c ≤ cap) :
    Ev P n g ⟨dst, .slice t x (some y) (some z) (some x'), ty, pos, af, gu⟩ w (.slice (subAd ad c a sz) (b - a) (c - a)) := fun s f => by
  subst hi hj hc
  simp [execOp, f.eval hx, f.eval hy, f.eval hz, f.eval hm, Instr.sliceAt, Instr.slice, Instr.sliceBounds, Instr.sliceBound, asIntOf, run_underlying hu, run_szOf hs, h1, h2, h3, subAd]
theorem flatMap_len {M : List α} (hM : ∀ y ∈ M, (enc y).length = sz) : (M.flatMap enc).length = M.length * sz := by
  induction M with
  | nil => simp
  | cons y M ih => simp only [List.flatMap_cons, List.length_append, List.length_cons, hM y (by simp), ih (fun z hz => hM z (by simp [hz])), Nat.add_mul]; omega
theorem SlE.part {ad : Option Addr} {m cap : Nat} {L : List α} (h : SlE enc sz w ad m L) (hc : m ≤ cap) {a b : Nat} (h1 : a ≤ b) (h2 : b ≤ m) : SlE enc sz w (subAd ad cap a sz) (b - a) ((L.drop a).take (b - a)) := by
  refine ⟨by simp [h.len]; omega, fun y hy => h.size y (List.mem_of_mem_drop (List.mem_of_mem_take hy)), fun hne => ?_⟩
  have hab : a < b := by
    rcases Nat.lt_or_ge a b with h' | h'
    · exact h'
    · rw [show b - a = 0 by omega] at hne; simp at hne
  have hL : L ≠ [] := by intro e; rw [e] at hne; simp at hne
  obtain ⟨bk, off, rfl, hat⟩ := h.at_ hL
  refine ⟨bk, off + a * sz, ?_, ?_⟩
  · simp only [subAd, Option.map_some]
    rw [if_neg (by omega), add_at]
  · have e0 : L = L.take a ++ ((L.drop a).take (b - a) ++ (L.drop a).drop (b - a)) := by rw [List.take_append_drop, List.take_append_drop]
    rw [e0] at hat
    simp only [List.flatMap_append] at hat
    have hl : ((L.take a).flatMap enc).length = a * sz := by
      rw [flatMap_len (fun y hy => h.size y (List.mem_of_mem_take hy))]; simp [h.len]; rw [Nat.min_eq_left (by omega)]
    have := hat.app.2
    rw [hl] at this
    exact this.app.1
theorem SlE.tail {ad : Option Addr} {m cap : Nat} {L : List α} (h : SlE enc sz w ad m L) (hc : m ≤ cap) {a : Nat} (h1 : a ≤ m) : SlE enc sz w (subAd ad cap a sz) (m - a) (L.drop a) := by
  have := h.part hc h1 (Nat.le_refl m)
  rwa [List.take_of_length_le (by simp [h.len])] at this

/-! append of what a slice reads -/
theorem run_append_empty {v : Value} {k : Nat} {xs : List Value} {base : Nat} {ad : Option Addr} {c : Nat} {i : TypeInfo} (hu : P.underlying t = some (.slice e)) (hi : P.info? e = some i) (hown : w.ownsRow base e sz v k xs) :
    (Builtin.append_ #[t, t] ty #[v, .slice ad 0 c]).run P w = .ok v w := by
  have h0 : (Builtin.firstCells i.size 0 (.slice ad 0 c)).run P w = .ok #[] w := by
    cases ad <;> simp [Builtin.firstCells, loadCells, loadCellsFrom]
  rcases hown.2 with ⟨rfl, rfl⟩ | ⟨g, cap, cur, rfl, _, _, hnc, _⟩
  · simp [Builtin.append_, run_underlying hu, sizeOf, typeInfo, hi, Builtin.lenOf, h0]
  · simp [Builtin.append_, run_underlying hu, sizeOf, typeInfo, hi, Builtin.lenOf, h0, hnc, storeCells]
theorem R.sappSl {s : Operand} {zv : Value} {by_ : Nat} {v : Value} {L M : List α} {ad : Option Addr} {m c : Nat}
    (hs : Sat K w (F :: Rs)) (hr : RowL e enc sz v L F) (hsx : look g s = some v) (hx : look g x = some (.slice ad m c)) (hu : P.underlying t = some (.slice e)) (hi : byOf P e = some (zv, sz, by_)) (hz : zv.cells.size = sz) (hd : Nat.blt d n.sz = true)
    (hn : SlE enc sz w ad m M) (h1 : ∀ y ∈ M, ∀ u ∈ enc y, u.oneCell' = true) (hsz : 0 < sz) (hb1 : L.length + m ≤ 9223372036854775807) (hb2 : (L.length + m) * by_ ≤ 140737488355328)
    (cont : ∀ v' w' F', RowL e enc sz v' (L ++ M) F' → Sat K w' (F' :: Rs) → R P ops Q rest n ((d, v') :: g) w') :
    R P ops Q (⟨some d, .call ⟨.builtin .append, #[s, x], #[t, t]⟩, ty, pos, af, none⟩ :: rest) n g w := by
  by_cases hM : M = []
  · subst hM
    have hm : m = 0 := by have := hn.len; simpa using this.symm
    subst hm
    obtain ⟨i, hi, _, _, _⟩ := byOf_parts hi
    have hrun := run_append_empty (ty := ty) (ad := ad) (c := c) hu hi (hr.row.own hs)
    refine R.ac (w' := w) (v := v) hd (fun a f => ?_) (cont v w F (by simpa using hr) hs)
    simp [execOp, resolve, invoke, builtin, f.eval hsx, f.eval hx, hrun]
  · obtain ⟨b, off, rfl, hat⟩ := hn.at_ hM
    exact R.sappL hs hr hsx hx hu hi hz hd hat hn.len hn.size h1 hsz hb1 hb2 cont
/-- append of one element -/
theorem R.sapp1 (y1 : α) {s : Operand} {zv : Value} {by_ : Nat} {v : Value} {L : List α} {bk off c : Nat}
    (hs : Sat K w (F :: Rs)) (hr : RowL e enc sz v L F) (hsx : look g s = some v) (hx : look g x = some (.slice (some ⟨bk, off, none⟩) 1 c)) (hu : P.underlying t = some (.slice e)) (hi : byOf P e = some (zv, sz, by_)) (hz : zv.cells.size = sz) (hd : Nat.blt d n.sz = true)
    (hn : At w bk off (enc y1)) (hy : (enc y1).length = sz) (h1 : ∀ u ∈ enc y1, u.oneCell' = true) (hsz : 0 < sz) (hb1 : L.length + 1 ≤ 9223372036854775807) (hb2 : (L.length + 1) * by_ ≤ 140737488355328)
    (cont : ∀ v' w' F', RowL e enc sz v' (L ++ [y1]) F' → Sat K w' (F' :: Rs) → R P ops Q rest n ((d, v') :: g) w') :
    R P ops Q (⟨some d, .call ⟨.builtin .append, #[s, x], #[t, t]⟩, ty, pos, af, none⟩ :: rest) n g w :=
  R.sappL (M := [y1]) hs hr hsx hx hu hi hz hd (by simpa using hn) rfl (by simpa using hy) (by simpa using h1) hsz hb1 hb2 cont
/-- []T{} -/
theorem R.sbuild0 (hs : Sat K w Hs) (hu : P.underlying t = some (.slice e)) (hz : szOf P e = some sz) (hd : Nat.blt d n.sz = true)
    (cont : ∀ v' w' F', RowL e enc sz v' ([] : List α) F' → v' ≠ .slice none 0 0 → Sat K w' (F' :: Hs) → R P ops Q rest n ((d, v') :: g) w') :
    R P ops Q (⟨some d, .buildSlice t 0 #[], ty, pos, af, none⟩ :: rest) n g w := by
  have hnew := New.ofAlloc w e []
  refine R.ac (w' := w.alloc (.cells [].toArray e)) (v := .slice (some ⟨w.heap.size, 0, none⟩) 0 0) hd (fun a f => ?_) (cont _ _ (row w.heap.size e []) ⟨⟨by simp, .inr ⟨w.heap.size, 0, [], rfl, rfl, Nat.le_refl _, by unfold maxLen; omega, by simp⟩⟩, by simp⟩ (by simp) (hs.new hnew))
  have h0 : Array.map (fun _ => (default : Value)) (Array.range 0) = #[] := by simp [Array.range]
  simp [execOp, Instr.buildSlice, run_underlying hu, run_szOf hz, Instr.fill, newRow, newObj, h0]
  rfl

/-! elements set in place -/
theorem flatMap_set {L : List α} (hL : ∀ y ∈ L, (enc y).length = sz) {i : Nat} {el el' : α} (hi : L[i]? = some el) (he : (enc el').length = sz) : (L.set i el').flatMap enc = (L.flatMap enc).take (i * sz) ++ enc el' ++ (L.flatMap enc).drop (i * sz + sz) := by
  induction L generalizing i with
  | nil => simp at hi
  | cons y L ih =>
    have hy := hL y (by simp)
    cases i with
    | zero => simp [← hy]
    | succ i =>
      have := ih (fun z hz => hL z (by simp [hz])) (i := i) (by simpa using hi)
      simp only [List.set_cons_succ, List.flatMap_cons, this, Nat.add_mul, Nat.one_mul]
      rw [List.take_append, List.drop_append, List.take_of_length_le (l := enc y) (by omega), List.drop_eq_nil_of_le (as := enc y) (by omega), hy]
      rw [show i * sz + sz - sz = i * sz by omega, show i * sz + sz + sz - sz = i * sz + sz by omega]
      simp
theorem RowL.setAt {b m cap : Nat} {L : List α} (hr : RowL e enc sz (.slice (some ⟨b, 0, none⟩) m cap) L F) {i : Nat} {el el' : α} (hi : L[i]? = some el) (he : (enc el').length = sz) :
    ∃ cs, F = Eng.row b e cs ∧ i * sz + sz ≤ cs.length ∧ (cs.drop (i * sz)).take sz = enc el ∧ RowL e enc sz (.slice (some ⟨b, 0, none⟩) m cap) (L.set i el') (Eng.row b e (cs.take (i * sz) ++ enc el' ++ cs.drop (i * sz + sz))) := by
  rcases hr.row.2 with ⟨h, _⟩ | ⟨g, cap', cur, h, rfl, h1, h2, h3⟩
  · simp at h
  · simp only [Value.slice.injEq, Option.some.injEq, Addr.mk.injEq, and_true] at h
    obtain ⟨rfl, rfl, rfl⟩ := h
    have hlt : i < L.length := (List.getElem?_eq_some_iff.1 hi).1
    have hl := flatMap_len hr.size
    have hle : i * sz + sz ≤ L.length * sz := by
      have := Nat.mul_le_mul_right sz (show i + 1 ≤ L.length by omega)
      rw [Nat.add_mul] at this; omega
    refine ⟨L.flatMap enc ++ cur, rfl, by simp only [List.length_append, hl]; omega, ?_, ?_⟩
    · rw [List.drop_append_of_le_length (by omega), List.take_append_of_le_length (by rw [List.length_drop]; omega)]
      exact flatMap_get hr.size hi
    · have hs := flatMap_set hr.size hi he
      refine ⟨⟨by rw [List.length_set, hs]; simp only [List.length_append, List.length_take, List.length_drop, hl, he]; omega, .inr ⟨b, cap, cur, by simp, ?_, by simpa using h1, h2, ?_⟩⟩, ?_⟩
      · rw [hs, List.take_append_of_le_length (by omega), List.drop_append_of_le_length (by omega)]
        simp
      · rw [hs]
        simp only [List.length_append, hl] at h3
        simp only [List.length_append, List.length_take, List.length_drop, hl, he]; omega
      · intro y hy
        rcases List.mem_or_eq_of_mem_set hy with hy | rfl
        · exact hr.size y hy
        · exact he
/-- one cell of an element -/
theorem R.ssetF {b m cap off p : Nat} {v : Value} {L : List α} (i : Nat) {el el' : α} (hs : Sat K w (F :: Rs)) (hr : RowL e enc sz (.slice (some ⟨b, 0, none⟩) m cap) L F) (hx : look g x = some (.pointer (some ⟨b, p, none⟩))) (hy : look g y = some v) (hz : szOf P t = some 1)
    (hi : L[i]? = some el) (he : enc el' = (enc el).set off v) (hp : p = i * sz + off) (ho : off < sz) (h1 : v.oneCell' = true)
    (k : ∀ w' F', RowL e enc sz (.slice (some ⟨b, 0, none⟩) m cap) (L.set i el') F' → Sat K w' (F' :: Rs) → R P ops Q rest n g w') :
    R P ops Q (⟨none, .store t x y, ty, pos, af, none⟩ :: rest) n g w := by
  have hel := hr.size el (List.mem_of_getElem? hi)
  have hel' : (enc el').length = sz := by rw [he]; simpa using hel
  obtain ⟨cs, rfl, hle, hd, hr'⟩ := hr.setAt hi hel'
  subst hp
  refine R.sstore1 hs hx hy hz (by omega) h1 ?_
  intro w' hs'
  refine k w' _ hr' ?_
  have : cs.set (i * sz + off) v = cs.take (i * sz) ++ enc el' ++ cs.drop (i * sz + sz) := by
    rw [he, ← hd]
    apply List.ext_getElem?
    intro j
    simp only [List.getElem?_set, List.getElem?_append, List.length_take, List.length_append, List.length_set, List.getElem?_take, List.getElem?_drop, List.length_drop]
    by_cases hj : j < i * sz
    · simp [show ¬ (i * sz + off = j) by omega, hj, show j < min (i * sz) cs.length + min sz (cs.length - i * sz) by omega, show j < min (i * sz) cs.length by omega]
    · by_cases hj2 : j < i * sz + sz
      · by_cases hj3 : i * sz + off = j
        · subst hj3
          simp [show i * sz + off < min (i * sz) cs.length + min sz (cs.length - i * sz) by omega, show ¬ (i * sz + off < min (i * sz) cs.length) by omega, show i * sz + off < cs.length by omega, show i * sz + off - min (i * sz) cs.length = off by omega, show off < min sz (cs.length - i * sz) by omega]
        · simp [hj3, show j < min (i * sz) cs.length + min sz (cs.length - i * sz) by omega, show ¬ (j < min (i * sz) cs.length) by omega, show ¬ (off = j - min (i * sz) cs.length) by omega, show j - min (i * sz) cs.length < sz by omega, show i * sz + (j - min (i * sz) cs.length) = j by omega]
      · simp [show ¬ (i * sz + off = j) by omega, show ¬ (j < min (i * sz) cs.length + min sz (cs.length - i * sz)) by omega]
        congr 1; omega
  rw [this] at hs'
  exact hs'
/-- a whole element -/
theorem R.ssetE {b m cap p : Nat} {L : List α} (i : Nat) {el : α} (el' : α) (hs : Sat K w (F :: Rs)) (hr : RowL e enc sz (.slice (some ⟨b, 0, none⟩) m cap) L F) (hx : look g x = some (.pointer (some ⟨b, p, none⟩))) (hy : look g y = some (.agg (enc el').toArray)) (hz : szOf P t = some sz)
    (hi : L[i]? = some el) (he : (enc el').length = sz) (hp : p = i * sz) (h1 : ∀ u ∈ enc el', u.oneCell' = true)
    (k : ∀ w' F', RowL e enc sz (.slice (some ⟨b, 0, none⟩) m cap) (L.set i el') F' → Sat K w' (F' :: Rs) → R P ops Q rest n g w') :
    R P ops Q (⟨none, .store t x y, ty, pos, af, none⟩ :: rest) n g w := by
  obtain ⟨cs, rfl, hle, hd, hr'⟩ := hr.setAt hi he
  subst hp
  refine R.sstore hs hx hy hz (by simpa [Value.cells] using he) (by simp [Value.cells, he]; exact hle) (by simpa [Value.cells] using h1) ?_
  intro w' hs'
  refine k w' _ hr' ?_
  simpa [Value.cells, he] using hs'
/-! the first elements alone; what lies behind them is cleared -/
theorem RowL.pre {b m cap : Nat} {L : List α} (hr : RowL e enc sz (.slice (some ⟨b, 0, none⟩) m cap) L F) {i : Nat} (hi : i ≤ L.length) : RowL e enc sz (.slice (some ⟨b, 0, none⟩) i cap) (L.take i) F := by
  rcases hr.row.2 with ⟨h, _⟩ | ⟨g, cap', cur, h, rfl, h1, h2, h3⟩
  · simp at h
  · simp only [Value.slice.injEq, Option.some.injEq, Addr.mk.injEq, and_true] at h
    obtain ⟨rfl, rfl, rfl⟩ := h
    have hs : ∀ y ∈ L.take i, (enc y).length = sz := fun y hy => hr.size y (List.mem_of_mem_take hy)
    have hl : (L.take i).length = i := by simp; omega
    have ec : L.flatMap enc ++ cur = (L.take i).flatMap enc ++ ((L.drop i).flatMap enc ++ cur) := by rw [← List.append_assoc, ← List.flatMap_append, List.take_append_drop]
    refine ⟨⟨flatMap_len hs, .inr ⟨b, cap, (L.drop i).flatMap enc ++ cur, by rw [hl], by rw [← ec], by omega, h2, ?_⟩⟩, hs⟩
    rw [← ec]; exact h3
theorem R.sclear {b m m' cap c q : Nat} {zv : Value} {L : List α} {ad : Addr} (hs : Sat K w (F :: Rs)) (hr : RowL e enc sz (.slice (some ⟨b, 0, none⟩) m cap) L F) (hx : look g x = some (.slice (some ad) m' c)) (hu : P.underlying t = some (.slice e)) (hz : zeroOf P e = some zv) (hzs : zv.cells.size = sz) (h1 : zv.cells.toList.all (·.oneCell') = true)
    (ha : m' ≠ 0 → ad = ⟨b, q, none⟩) (hq : L.length * sz ≤ q) (hfit : q + m' * sz ≤ cap * sz) (hsz : 0 < sz)
    (k : ∀ w' F', RowL e enc sz (.slice (some ⟨b, 0, none⟩) m cap) L F' → Sat K w' (F' :: Rs) → R P ops Q rest n g w') :
    R P ops Q (⟨none, .call ⟨.builtin .clear, #[x], #[t]⟩, ty, pos, af, none⟩ :: rest) n g w := by
  by_cases hm' : m' = 0
  · subst hm'; exact R.clear0 hx hu (k w F hr hs)
  have ha := ha hm'
  subst ha
  rcases hr.row.2 with ⟨h, _⟩ | ⟨g, cap', cur, h, rfl, h2, h3, h4⟩
  · simp at h
  · simp only [Value.slice.injEq, Option.some.injEq, Addr.mk.injEq, and_true] at h
    obtain ⟨rfl, rfl, rfl⟩ := h
    have hl := flatMap_len hr.size
    refine R.clear hx hu hz hzs h1 hs.blk (by rw [h4]; exact hfit) hsz ?_
    intro w' zs hzl hb hm _
    have e1 : (L.flatMap enc ++ cur).take q = L.flatMap enc ++ cur.take (q - (L.flatMap enc).length) := by rw [List.take_append, List.take_of_length_le (by omega)]
    have e2 : (L.flatMap enc ++ cur).take q ++ zs ++ (L.flatMap enc ++ cur).drop (q + m' * sz) = L.flatMap enc ++ (cur.take (q - (L.flatMap enc).length) ++ zs ++ (L.flatMap enc ++ cur).drop (q + m' * sz)) := by rw [e1]; simp
    rw [e2] at hb
    refine k w' _ ⟨⟨hl, .inr ⟨b, cap, _, rfl, rfl, h2, h3, ?_⟩⟩, hr.size⟩ (hs.put hb hm)
    rw [← e2]
    have := h4
    simp only [List.length_append, List.length_take, List.length_drop, hzl] at this ⊢
    omega
/-- append onto the first i elements of what lies behind place j of the same row -/
theorem R.sappIn {b m cap i j : Nat} {s : Operand} {zv : Value} {by_ : Nat} {L : List α} {ad : Option Addr} {c : Nat} (hs : Sat K w (F :: Rs)) (hr : RowL e enc sz (.slice (some ⟨b, 0, none⟩) m cap) L F) (hsx : look g s = some (.slice (some ⟨b, 0, none⟩) i cap)) (hx : look g x = some (.slice ad (m - j) c))
    (hu : P.underlying t = some (.slice e)) (hi : byOf P e = some (zv, sz, by_)) (hd : Nat.blt d n.sz = true) (hn : SlE enc sz w ad (m - j) (L.drop j)) (h1 : ∀ y ∈ L, ∀ u ∈ enc y, u.oneCell' = true) (hij : i ≤ j) (hj : j ≤ m)
    (cont : ∀ w' F', RowL e enc sz (.slice (some ⟨b, 0, none⟩) (i + (m - j)) cap) (L.take i ++ L.drop j) F' → Sat K w' (F' :: Rs) → R P ops Q rest n ((d, .slice (some ⟨b, 0, none⟩) (i + (m - j)) cap) :: g) w') :
    R P ops Q (⟨some d, .call ⟨.builtin .append, #[s, x], #[t, t]⟩, ty, pos, af, none⟩ :: rest) n g w := by
  have hmL : m = L.length ∧ m ≤ cap := by
    rcases hr.row.2 with ⟨h, _⟩ | ⟨g, cap', cur, h, rfl, h2, h3, h4⟩
    · simp at h
    · simp only [Value.slice.injEq, Option.some.injEq, Addr.mk.injEq, and_true] at h
      exact ⟨h.2.1, by omega⟩
  have hp := hr.pre (i := i) (by omega)
  have hl : (L.take i).length = i := by simp; omega
  have hpo := hp.row.own hs
  rw [hl] at hpo
  by_cases hM : L.drop j = []
  · have hm0 : m - j = 0 := by have := hn.len; rw [hM] at this; simpa using this.symm
    obtain ⟨ti, hti, _, _, _⟩ := byOf_parts hi
    have hrun := run_append_empty (ty := ty) (ad := ad) (c := c) hu hti hpo
    refine R.ac (w' := w) (v := .slice (some ⟨b, 0, none⟩) (i + (m - j)) cap) hd (fun a f => ?_) (cont w F (by rw [hM, hm0]; simpa using hp) hs)
    rw [hm0] at hx ⊢
    simp [execOp, resolve, invoke, builtin, f.eval hsx, f.eval hx, hrun]
  · obtain ⟨bk, off, rfl, hat⟩ := hn.at_ hM
    have hsd : ∀ y ∈ L.drop j, (enc y).length = sz := fun y hy => hr.size y (List.mem_of_mem_drop hy)
    refine R.appendFits hsx hx hu hi hd hpo hat (by rw [flatMap_len hsd, hn.len]) (fun u hu => ?_) (by omega) ?_
    · obtain ⟨y, hy, hu⟩ := List.mem_flatMap.1 hu
      exact h1 y (List.mem_of_mem_drop hy) u hu
    · intro w' ho hm
      obtain ⟨F', h5, h6⟩ := hp.row.after hs (e' := e) (sz' := sz) (v' := .slice (some ⟨b, 0, none⟩) (i + (m - j)) cap) ho (by simpa [Value.ownBlock] using hm) (.inl rfl)
      refine cont w' F' ⟨?_, ?_⟩ h6
      · rw [List.flatMap_append, List.length_append, hl, hn.len]; exact h5
      · intro y hy
        rcases List.mem_append.1 hy with hy | hy
        · exact hr.size y (List.mem_of_mem_take hy)
        · exact hsd y hy
end ops
end Go.Eng
