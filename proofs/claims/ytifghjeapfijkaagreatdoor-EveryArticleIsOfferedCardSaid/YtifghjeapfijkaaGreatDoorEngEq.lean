/-
  == on arrays and structs of integers, bools and strings; composite literals; results that lie in memory (over any program).
-/
import Derived.Test.YtifghjeapfijkaaGreatDoorEngSl
namespace Go.Eng
open Go.RowKit

/-- what a cell holds: an integer of a kind, a bool, a string -/
abbrev Leaf := Option (Option IntKind)
@[reducible] def lInt (k : IntKind) : Leaf := some (some k)
@[reducible] def lBool : Leaf := some none
@[reducible] def lStr : Leaf := none

def leafFits : Leaf → Value → Bool
  | some (some k), .int k' _ => decide (k = k')
  | some none, .bool _ => true
  | none, .string _ => true
  | _, _ => false
def cellEq : Value → Value → Bool
  | .int _ a, .int _ b => a == b
  | .bool a, .bool b => a == b
  | .string a, .string b => a.toList == b.toList
  | _, _ => false
def fitsAll : List Leaf → List Value → Bool
  | [], [] => true
  | l :: ls, v :: vs => leafFits l v && fitsAll ls vs
  | _, _ => false
def cellsEq : List Value → List Value → Bool
  | [], [] => true
  | x :: xs, y :: ys => cellEq x y && cellsEq xs ys
  | _, _ => false

def fieldLeaves (P : Program) (lv : TypeId → Option (List Leaf)) : List Field → Nat → Option (List Leaf)
  | [], _ => some []
  | f :: fs, off => match lv f.type with
    | none => none
    | some l => if f.name ≠ "_" ∧ f.offset = off ∧ szOf P f.type = some l.length ∧ 0 < l.length then (fieldLeaves P lv fs (off + l.length)).map (l ++ ·) else none
def leaves (P : Program) : Nat → TypeId → Option (List Leaf)
  | 0, _ => none
  | n + 1, t => match P.underlying t with
    | some (.int k) => some [lInt k]
    | some .bool => some [lBool]
    | some .string => some [lStr]
    | some (.array m e) => match leaves P n e with
      | none => none
      | some l => if szOf P e = some l.length then some (List.replicate m l).flatten else none
    | some (.struct fs) => if P.stoodInHeld t then none else fieldLeaves P (leaves P n) fs.toList 0
    | _ => none

theorem fitsAll_len : ∀ {ls : List Leaf} {vs : List Value}, fitsAll ls vs = true → vs.length = ls.length
  | [], [], _ => rfl
  | [], _ :: _, h => by simp [fitsAll] at h
  | _ :: _, [], h => by simp [fitsAll] at h
  | l :: ls, v :: vs, h => by
    simp only [fitsAll, Bool.and_eq_true] at h
    simp [fitsAll_len h.2]
theorem fitsAll_app : ∀ {l1 l2 : List Leaf} {vs : List Value}, fitsAll (l1 ++ l2) vs = true → fitsAll l1 (vs.take l1.length) = true ∧ fitsAll l2 (vs.drop l1.length) = true
  | [], l2, vs, h => by simp only [List.nil_append] at h; simp [fitsAll, h]
  | a :: l1, l2, [], h => by simp [fitsAll] at h
  | a :: l1, l2, v :: vs, h => by
    simp only [List.cons_append, fitsAll, Bool.and_eq_true] at h
    obtain ⟨h1, h2⟩ := fitsAll_app h.2
    simp [fitsAll, h.1, h1, h2]
theorem cellsEq_app : ∀ (a b x y : List Value), a.length = x.length → cellsEq (a ++ b) (x ++ y) = (cellsEq a x && cellsEq b y)
  | [], b, [], y, _ => by simp [cellsEq]
  | [], b, _ :: _, y, h => by simp at h
  | _ :: _, b, [], y, h => by simp at h
  | u :: a, b, v :: x, y, h => by
    simp only [List.cons_append, cellsEq, cellsEq_app a b x y (by simpa using h), Bool.and_assoc]

/-- a value of a type out of its cells -/
def mkv (P : Program) (t : TypeId) (xs : List Value) : Value :=
  match P.underlying t with
  | some (.array ..) | some (.struct _) => .agg xs.toArray
  | _ => xs.getD 0 (.tuple #[])

section
variable {P : Program} (w : World)

theorem run_part {t : TypeId} {d : TypeDesc} {m : Nat} (hu : P.underlying t = some d) (hs : szOf P t = some m) (xs : List Value) (off : Nat) (hlen : off + m ≤ xs.length) (hm : isAggD d = false → m = 1) :
    (part t xs.toArray off).run P w = .ok (mkv P t ((xs.drop off).take m)) w := by
  cases hd : isAggD d with
  | true =>
    have h2 : mkv P t ((xs.drop off).take m) = .agg ((xs.drop off).take m).toArray := by
      unfold mkv
      rw [hu]; cases d <;> simp [isAggD] at hd <;> rfl
    rw [h2]
    simp [part, run_isAgg hu, hd, run_szOf hs, List.extract_eq_take_drop]
  | false =>
    have h1 := hm hd
    subst h1
    have hlt : off < xs.length := by omega
    have h2 : mkv P t ((xs.drop off).take 1) = xs[off] := by
      unfold mkv
      rw [hu]
      have : ((xs.drop off).take 1).getD 0 (.tuple #[]) = xs[off] := by
        rw [List.drop_eq_getElem_cons hlt]; rfl
      cases d <;> simp [isAggD] at hd <;> exact this
    rw [h2]
    simp [part, run_isAgg hu, hd, hlt]

theorem leaves_sz {n : Nat} {t : TypeId} {l : List Leaf} (h : leaves P n t = some l) : ∃ d, P.underlying t = some d ∧ (isAggD d = false → l.length = 1) := by
  cases n with
  | zero => simp [leaves] at h
  | succ n =>
    unfold leaves at h
    cases hu : P.underlying t with
    | none => simp [hu] at h
    | some d =>
      refine ⟨d, rfl, ?_⟩
      intro hd
      rw [hu] at h
      cases d <;> simp [isAggD] at hd h <;> first | (subst h; rfl) | skip

theorem arr_loop {e : TypeId} {de : TypeDesc} {le : List Leaf} {d : Nat} {xs ys : List Value} (hue : P.underlying e = some de) (hsz : szOf P e = some le.length) (hde : isAggD de = false → le.length = 1)
    (ihe : ∀ (xs ys : List Value) (w : World), fitsAll le xs = true → fitsAll le ys = true → (Op.equalIn d e (mkv P e xs) (mkv P e ys)).run P w = .ok (cellsEq xs ys) w) :
    ∀ (j k : Nat) (w : World), fitsAll (List.replicate j le).flatten (xs.drop (k * le.length)) = true → fitsAll (List.replicate j le).flatten (ys.drop (k * le.length)) = true →
    (forIn (List.range' k j 1) ((none : Option Bool), ()) fun i __s => do
            let __do_lift ← part e xs.toArray (i * le.length)
            let __do_lift_1 ← part e ys.toArray (i * le.length)
            let __do_lift ← Op.equalIn d e __do_lift __do_lift_1
            if (!__do_lift) = true then pure (ForInStep.done (some false, ())) else pure (ForInStep.yield (none, ()))).run P w =
      .ok (if cellsEq (xs.drop (k * le.length)) (ys.drop (k * le.length)) then (none, ()) else (some false, ())) w := by
  intro j
  induction j with
  | zero =>
    intro k w hx hy
    have h1 := fitsAll_len hx
    have h2 := fitsAll_len hy
    simp at h1 h2
    have e1 : xs.drop (k * le.length) = [] := List.drop_eq_nil_of_le (by omega)
    have e2 : ys.drop (k * le.length) = [] := List.drop_eq_nil_of_le (by omega)
    simp [e1, e2, cellsEq]
  | succ j ih =>
    intro k w hx hy
    rw [List.replicate_succ, List.flatten_cons] at hx hy
    obtain ⟨x1, x2⟩ := fitsAll_app hx
    obtain ⟨y1, y2⟩ := fitsAll_app hy
    have lx := fitsAll_len hx
    have ly := fitsAll_len hy
    simp only [List.length_drop, List.length_append] at lx ly
    have hk : (k + 1) * le.length = k * le.length + le.length := by rw [Nat.add_mul, Nat.one_mul]
    rw [List.drop_drop, ← hk] at x2 y2
    have ih' := ih (k + 1) w x2 y2
    have lx1 := fitsAll_len x1
    have ly1 := fitsAll_len y1
    have kx : k * le.length + le.length ≤ xs.length := by
      rcases Nat.eq_zero_or_pos le.length with h | h
      · rw [h]; simp
      · omega
    have ky : k * le.length + le.length ≤ ys.length := by
      rcases Nat.eq_zero_or_pos le.length with h | h
      · rw [h]; simp
      · omega
    have px := run_part w hue hsz xs (k * le.length) kx hde
    have py := run_part w hue hsz ys (k * le.length) ky hde
    have he := ihe _ _ w x1 y1
    have sx : xs.drop (k * le.length) = (xs.drop (k * le.length)).take le.length ++ xs.drop ((k + 1) * le.length) := by rw [hk, ← List.drop_drop, List.take_append_drop]
    have sy : ys.drop (k * le.length) = (ys.drop (k * le.length)).take le.length ++ ys.drop ((k + 1) * le.length) := by rw [hk, ← List.drop_drop, List.take_append_drop]
    have hc : cellsEq (xs.drop (k * le.length)) (ys.drop (k * le.length)) = (cellsEq ((xs.drop (k * le.length)).take le.length) ((ys.drop (k * le.length)).take le.length) && cellsEq (xs.drop ((k + 1) * le.length)) (ys.drop ((k + 1) * le.length))) := by
      conv => lhs; rw [sx, sy]
      exact cellsEq_app _ _ _ _ (by rw [lx1, ly1])
    rw [hc]
    simp only [List.range'_succ, List.forIn_cons, Sem.run_bind, px, py, he, Result.andThen_ok]
    cases hq : cellsEq ((xs.drop (k * le.length)).take le.length) ((ys.drop (k * le.length)).take le.length) with
    | false => simp
    | true =>
      simp only [Bool.not_true, Bool.false_eq_true, if_false, Sem.run_pure, Result.andThen_ok, Bool.true_and]
      exact ih'

theorem str_loop {d : Nat} {xs ys : List Value} {lv : TypeId → Option (List Leaf)} (hlv : ∀ e le, lv e = some le → ∃ de, P.underlying e = some de ∧ (isAggD de = false → le.length = 1))
    (ihe : ∀ e le (xs ys : List Value) (w : World), lv e = some le → fitsAll le xs = true → fitsAll le ys = true → (Op.equalIn d e (mkv P e xs) (mkv P e ys)).run P w = .ok (cellsEq xs ys) w) :
    ∀ (fs : List Field) (off : Nat) (l : List Leaf) (w : World), fieldLeaves P lv fs off = some l → fitsAll l (xs.drop off) = true → fitsAll l (ys.drop off) = true →
    (Op.eqFields d xs.toArray ys.toArray fs).run P w = .ok (cellsEq (xs.drop off) (ys.drop off)) w := by
  intro fs
  induction fs with
  | nil =>
    intro off l w hl hx hy
    simp [fieldLeaves] at hl
    subst hl
    have h1 := fitsAll_len hx
    have h2 := fitsAll_len hy
    simp at h1 h2
    have e1 : xs.drop off = [] := List.drop_eq_nil_of_le (by omega)
    have e2 : ys.drop off = [] := List.drop_eq_nil_of_le (by omega)
    simp [Op.eqFields, e1, e2, cellsEq]
  | cons f fs ih =>
    intro off l w hl hx hy
    unfold fieldLeaves at hl
    split at hl
    · cases hl
    · rename_i le hle
      split at hl
      · rename_i hc
        obtain ⟨hn, ho, hsz, hpos⟩ := hc
        obtain ⟨l2, hl2, rfl⟩ := Option.map_eq_some_iff.1 hl
        obtain ⟨de, hue, hde⟩ := hlv _ _ hle
        obtain ⟨x1, x2⟩ := fitsAll_app hx
        obtain ⟨y1, y2⟩ := fitsAll_app hy
        have lx1 := fitsAll_len x1
        have ly1 := fitsAll_len y1
        rw [List.drop_drop] at x2 y2
        have ih' := ih (off + le.length) l2 w hl2 x2 y2
        have px := run_part w hue hsz xs off (by simp at lx1; have := fitsAll_len hx; simp at this; omega) hde
        have py := run_part w hue hsz ys off (by simp at ly1; have := fitsAll_len hy; simp at this; omega) hde
        have he := ihe _ _ _ _ w hle x1 y1
        have hq : cellsEq (xs.drop off) (ys.drop off) = (cellsEq ((xs.drop off).take le.length) ((ys.drop off).take le.length) && cellsEq (xs.drop (off + le.length)) (ys.drop (off + le.length))) := by
          conv => lhs; rw [← List.take_append_drop le.length (xs.drop off), ← List.take_append_drop le.length (ys.drop off)]
          rw [cellsEq_app _ _ _ _ (by rw [lx1, ly1]), List.drop_drop, List.drop_drop]
        rw [hq]
        simp only [Op.eqFields, hn, ne_eq, not_false_eq_true, if_true, ho, Sem.run_bind, px, py, he, Result.andThen_ok]
        cases hh : cellsEq ((xs.drop off).take le.length) ((ys.drop off).take le.length) with
        | false => simp
        | true => simp [ih']
      · cases hl

theorem equal_leaves : ∀ (n : Nat) (t : TypeId) (l : List Leaf) (d : Nat) (xs ys : List Value) (w : World), leaves P n t = some l → n ≤ d → fitsAll l xs = true → fitsAll l ys = true →
    (Op.equalIn (d + 1) t (mkv P t xs) (mkv P t ys)).run P w = .ok (cellsEq xs ys) w := by
  intro n
  induction n with
  | zero => intro t l d xs ys w h; simp [leaves] at h
  | succ n ih =>
    intro t l d xs ys w h hd hx hy
    unfold leaves at h
    cases hu : P.underlying t with
    | none => simp [hu] at h
    | some ds =>
      rw [hu] at h
      have hxl := fitsAll_len hx
      have hyl := fitsAll_len hy
      cases ds with
      | int k =>
        simp at h; subst h
        match xs, ys, hx, hy with
        | [x], [y], hx, hy =>
          simp only [fitsAll, Bool.and_true] at hx hy
          cases x <;> simp [leafFits] at hx
          cases y <;> simp [leafFits] at hy
          subst hx hy
          simp [mkv, hu, Op.equalIn, run_underlying hu, cellsEq, cellEq]
      | bool =>
        simp at h; subst h
        match xs, ys, hx, hy with
        | [x], [y], hx, hy =>
          simp only [fitsAll, Bool.and_true] at hx hy
          cases x <;> simp [leafFits] at hx
          cases y <;> simp [leafFits] at hy
          simp [mkv, hu, Op.equalIn, run_underlying hu, cellsEq, cellEq]
      | string =>
        simp at h; subst h
        match xs, ys, hx, hy with
        | [x], [y], hx, hy =>
          simp only [fitsAll, Bool.and_true] at hx hy
          cases x <;> simp [leafFits] at hx
          cases y <;> simp [leafFits] at hy
          simp [mkv, hu, Op.equalIn, run_underlying hu, cellsEq, cellEq, beq_toListBytes]
      | array m e =>
        simp only [] at h
        cases hl : leaves P n e with
        | none => simp [hl] at h
        | some le =>
          rw [hl] at h
          simp only [] at h
          split at h
          · rename_i hsz
            simp at h; subst h
            obtain ⟨de, hue, hde⟩ := leaves_sz hl
            simp only [mkv, hu, Op.equalIn, Sem.run_bind, run_underlying hu, Result.andThen_ok, run_szOf hsz]
            rw [Std.Legacy.Range.forIn_eq_forIn_range']
            obtain ⟨d', rfl⟩ : ∃ d', d = d' + 1 := ⟨d - 1, by omega⟩
            have hloop := arr_loop (xs := xs) (ys := ys) hue hsz hde (fun xs ys w h1 h2 => ih e le d' xs ys w hl (by omega) h1 h2) m 0 w (by simpa using hx) (by simpa using hy)
            have hsize : [:m].size = m := by simp [Std.Legacy.Range.size]
            rw [hsize]
            simp only [Nat.zero_mul, List.drop_zero] at hloop
            rw [hloop]
            cases cellsEq xs ys <;> simp
          · cases h
      | struct fs =>
        simp only [] at h
        split at h
        · cases h
        · rename_i hst
          obtain ⟨d', rfl⟩ : ∃ d', d = d' + 1 := ⟨d - 1, by omega⟩
          have hfo : P.fieldsOf t = fs := by simp [Program.fieldsOf, hu]
          have hr := run_equalIn_struct (P := P) w (d' + 1) t xs.toArray ys.toArray (by rw [hfo]; exact hu) (by simpa using hst)
          have hm : ∀ zs : List Value, mkv P t zs = .agg zs.toArray := fun zs => by simp [mkv, hu]
          rw [hm, hm, hr, hfo]
          have := str_loop (P := P) (d := d' + 1) (xs := xs) (ys := ys) (lv := leaves P n) (fun e le h => leaves_sz h) (fun e le xs ys w h h1 h2 => ih e le d' xs ys w h (by omega) h1 h2) fs.toList 0 l w h (by simpa using hx) (by simpa using hy)
          simpa using this
      | _ => simp at h
end

section ops
variable {P : Program} {Q : Post} {n : Nn} {g : Env} {w : World} {dst : Option Nat} {ty : TypeId} {pos : String} {af : Array Edge} {gu : Option (Nat × Bool)} {ops : Array Oper} {rest : List Oper} {d : Nat}
variable {t t' : TypeId} {x y z : Operand}

theorem run_equal_agg {k : Nat} {l : List Leaf} {td : TypeDesc} {xs ys : List Value} (hl : leaves P k t = some l) (hk : k ≤ 9999) (hu : P.underlying t = some td) (ht : isAggD td = true) (hx : fitsAll l xs = true) (hy : fitsAll l ys = true) :
    (Op.equal t (.agg xs.toArray) (.agg ys.toArray)).run P w = .ok (cellsEq xs ys) w := by
  have := equal_leaves k t l 9999 xs ys w hl hk hx hy
  have hm : ∀ zs : List Value, mkv P t zs = .agg zs.toArray := fun zs => by
    unfold mkv; rw [hu]; cases td <;> simp [isAggD] at ht <;> rfl
  rw [hm, hm] at this
  exact this
theorem E.eqlAgg (k : Nat) {l : List Leaf} {td : TypeDesc} {xs ys : List Value} (hx : look g x = some (.agg xs.toArray)) (hy : look g y = some (.agg ys.toArray)) (hl : leaves P k t = some l) (hk : Nat.ble k 9999 = true) (hu : P.underlying t = some td) (ht : isAggD td = true) (hg : P.eqGuardType P.depth t = false)
    (h1 : fitsAll l xs = true) (h2 : fitsAll l ys = true) : Ev P n g ⟨dst, .binOp .eql t x y t', ty, pos, af, gu⟩ w (.bool (cellsEq xs ys)) := fun a f => by
  have := run_equal_agg (w := w) hl (Nat.le_of_ble_eq_true hk) hu ht h1 h2
  simp [execOp, f.eval hx, f.eval hy, eqGuard, hg, binOp, this]
theorem E.neqAgg (k : Nat) {l : List Leaf} {td : TypeDesc} {xs ys : List Value} (hx : look g x = some (.agg xs.toArray)) (hy : look g y = some (.agg ys.toArray)) (hl : leaves P k t = some l) (hk : Nat.ble k 9999 = true) (hu : P.underlying t = some td) (ht : isAggD td = true) (hg : P.eqGuardType P.depth t = false)
    (h1 : fitsAll l xs = true) (h2 : fitsAll l ys = true) : Ev P n g ⟨dst, .binOp .neq t x y t', ty, pos, af, gu⟩ w (.bool (!(cellsEq xs ys))) := fun a f => by
  have := run_equal_agg (w := w) hl (Nat.le_of_ble_eq_true hk) hu ht h1 h2
  simp [execOp, f.eval hx, f.eval hy, eqGuard, hg, binOp, this]

/-! bytes -/
theorem fits_ub : ∀ (l : List UInt8), fitsAll (List.replicate l.length (lInt .u8)) (l.map ub) = true
  | [] => rfl
  | b :: l => by simp [List.replicate_succ, fitsAll, leafFits, fits_ub l]
theorem cellsEq_ub : ∀ (a b : List UInt8), cellsEq (a.map ub) (b.map ub) = decide (a = b)
  | [], [] => by simp [cellsEq]
  | [], _ :: _ => by simp [cellsEq]
  | _ :: _, [] => by simp [cellsEq]
  | x :: a, y :: b => by
    have h : ((x.toNat : Int) == (y.toNat : Int)) = decide (x = y) := by
      rw [Bool.eq_iff_iff]
      simp only [beq_iff_eq, decide_eq_true_eq]
      constructor
      · intro h; exact UInt8.toNat_inj.1 (by omega)
      · intro h; rw [h]
    simp only [List.map_cons, cellsEq, cellEq, cellsEq_ub a b, h]
    rw [Bool.eq_iff_iff]; simp

theorem fitsN {m : Nat} {a : List UInt8} (h : a.length = m) : fitsAll (List.replicate m (lInt .u8)) (a.map ub) = true := by subst h; exact fits_ub a
/-- an array of bytes -/
@[reducible] def idV (a : List UInt8) : Value := .agg (a.map ub).toArray
theorem E.eqId (k m : Nat) {td : TypeDesc} {a b : List UInt8} (hx : look g x = some (idV a)) (hy : look g y = some (idV b)) (hl : leaves P k t = some (List.replicate m (lInt .u8))) (hk : Nat.ble k 9999 = true) (hu : P.underlying t = some td) (ht : isAggD td = true) (hg : P.eqGuardType P.depth t = false)
    (h1 : a.length = m) (h2 : b.length = m) : Ev P n g ⟨dst, .binOp .eql t x y t', ty, pos, af, gu⟩ w (.bool (decide (a = b))) :=
  (E.eqlAgg k hx hy hl hk hu ht hg (fitsN h1) (fitsN h2)).isB (cellsEq_ub a b)
theorem E.neId (k m : Nat) {td : TypeDesc} {a b : List UInt8} (hx : look g x = some (idV a)) (hy : look g y = some (idV b)) (hl : leaves P k t = some (List.replicate m (lInt .u8))) (hk : Nat.ble k 9999 = true) (hu : P.underlying t = some td) (ht : isAggD td = true) (hg : P.eqGuardType P.depth t = false)
    (h1 : a.length = m) (h2 : b.length = m) : Ev P n g ⟨dst, .binOp .neq t x y t', ty, pos, af, gu⟩ w (.bool (decide (a ≠ b))) :=
  (E.neqAgg k hx hy hl hk hu ht hg (fitsN h1) (fitsN h2)).isB (by rw [cellsEq_ub]; simp)

/-! composite literals -/
def placesOf (P : Program) : List Field → Option (List (Nat × Nat))
  | [] => some []
  | f :: fs => match szOf P f.type with | none => none | some m => (placesOf P fs).map ((f.offset, m) :: ·)
theorem run_places : ∀ (fs : List Field) (pl : List (Nat × Nat)) (w : World), placesOf P fs = some pl → (fs.mapM fun f => (Prod.mk f.offset <$> sizeOf f.type : Sem (Nat × Nat))).run P w = .ok pl w
  | [], pl, w, h => by simp [placesOf] at h; subst h; simp
  | f :: fs, pl, w, h => by
    unfold placesOf at h
    split at h
    · cases h
    · rename_i m hm
      obtain ⟨p2, h2, rfl⟩ := Option.map_eq_some_iff.1 h
      have := run_places fs p2 w h2
      simp [List.mapM_cons, run_szOf hm, this]
/-- the places of the fields of a struct -/
def plOf (P : Program) (t : TypeId) : Option (List (Nat × Nat)) := match P.underlying t with | some (.struct fs) => placesOf P fs.toList | _ => none
def pairs (is : List Nat) (vs : List Value) : List (Nat × Value) := is.zip vs
theorem eval_pairs {a : Act} (f : Fr n g a) {parts : List (Nat × Operand)} {vs : List Value} (hv : lookAll g (parts.map (·.2)) = some vs) : parts.map (fun p => (p.1, a.eval p.2)) = (parts.map (·.1)).zip vs := by
  have h1 := f.evalAll hv
  subst h1
  clear hv
  induction parts with
  | nil => rfl
  | cons p ps ih => simp [ih]
theorem E.buildS {fs : Array Field} {zs : List Value} {pl : List (Nat × Nat)} {parts : List (Nat × Operand)} {vs : List Value} {cs : Array Value} (hv : lookAll g (parts.map (·.2)) = some vs) (hu : P.underlying t = some (.struct fs)) (hz : zeroOf P t = some (.agg zs.toArray)) (hp : placesOf P fs.toList = some pl)
    (hf : Instr.fill (pl.toArray[·]?) zs.toArray ((parts.map (·.1)).zip vs) = some cs) : Ev P n g ⟨dst, .build t parts.toArray, ty, pos, af, gu⟩ w (.agg cs) := fun a f => by
  have he := eval_pairs f hv
  have hm' : (fs.mapM fun f => (sizeOf f.type >>= fun m => pure (f.offset, m) : Sem (Nat × Nat))).run P w = .ok pl.toArray w := by
    rw [← Array.toArray_toList (xs := fs), List.mapM_toArray]
    simp [run_places fs.toList pl w hp]
  have e2 : (parts.toArray.map fun (p : Nat × Operand) => (p.1, a.eval p.2)).toList = (parts.map (·.1)).zip vs := by simpa using he
  simp only [execOp, Instr.build, Sem.run_bind, run_zeroOf hz, Result.andThen_ok, run_underlying hu, hm', Value.cells]
  simp only [e2, hf, Sem.run_pure, Result.andThen_ok]
theorem E.buildA {m : Nat} {e : TypeId} {sz : Nat} {zs : List Value} {parts : List (Nat × Operand)} {vs : List Value} {cs : Array Value} (hv : lookAll g (parts.map (·.2)) = some vs) (hu : P.underlying t = some (.array m e)) (hz : zeroOf P t = some (.agg zs.toArray)) (hs : szOf P e = some sz)
    (hf : Instr.fill (fun i => some (i * sz, sz)) zs.toArray ((parts.map (·.1)).zip vs) = some cs) : Ev P n g ⟨dst, .build t parts.toArray, ty, pos, af, gu⟩ w (.agg cs) := fun a f => by
  have he := eval_pairs f hv
  have e2 : (parts.toArray.map fun (p : Nat × Operand) => (p.1, a.eval p.2)).toList = (parts.map (·.1)).zip vs := by simpa using he
  simp only [execOp, Instr.build, Sem.run_bind, run_zeroOf hz, Result.andThen_ok, run_underlying hu, run_szOf hs, Value.cells]
  simp only [e2, hf, Sem.run_pure, Result.andThen_ok]

/-! results that lie in memory -/
theorem run_loadVar_at {b off : Nat} {cs : List Value} {td : TypeDesc} (hu : P.underlying t = some td) (ht : isAggD td = true) (hs : szOf P t = some cs.length) (hc : At w b off cs) : (loadVar t ⟨b, off, none⟩).run P w = .ok (.agg cs.toArray) w := by
  have := run_loadCells_list (P := P) w ⟨b, off, none⟩ cs (fun j v hj => by rw [add_at]; exact hc j v hj)
  simp [loadVar, run_isAgg hu, ht, run_szOf hs, this]
theorem X.retC {fn : Func} {F : Value → World → Prop} {p b off : Nat} {cs : List Value} {td : TypeDesc} (hr : fn.results = #[.cell p t]) (hp : lk g p = some (.pointer (some ⟨b, off, none⟩))) (hu : P.underlying t = some td) (ht : isAggD td = true) {m : Nat} (hs : szOf P t = some m) (hc : At w b off cs) (hl : cs.length = m)
    (h : F (.agg cs.toArray) w) (hn : n.dfs = [] := by rfl) : X (BodyQ P fn F) .ret n g w := X.leave0 hn fun a f => by
  subst hl
  refine ⟨.agg cs.toArray, ?_, h⟩
  simp [results, hr, asAddr, run_loadVar_at hu ht hs hc, f.known p _ hp]
theorem X.retCT {fn : Func} {F : Value → World → Prop} {p b off u : Nat} {v : Value} {cs : List Value} {td : TypeDesc} (hr : fn.results = #[.cell p t, .tmp u]) (hp : lk g p = some (.pointer (some ⟨b, off, none⟩))) (hv : lk g u = some v) (hu : P.underlying t = some td) (ht : isAggD td = true) {m : Nat} (hs : szOf P t = some m) (hc : At w b off cs) (hl : cs.length = m)
    (h : F (.tuple #[.agg cs.toArray, v]) w) (hn : n.dfs = [] := by rfl) : X (BodyQ P fn F) .ret n g w := X.leave0 hn fun a f => by
  subst hl
  refine ⟨.tuple #[.agg cs.toArray, v], ?_, h⟩
  simp [results, hr, asAddr, run_loadVar_at hu ht hs hc, f.known p _ hp, f.known u _ hv]
theorem X.retCTT {fn : Func} {F : Value → World → Prop} {p b off u u2 : Nat} {v v2 : Value} {cs : List Value} {td : TypeDesc} (hr : fn.results = #[.cell p t, .tmp u, .tmp u2]) (hp : lk g p = some (.pointer (some ⟨b, off, none⟩))) (hv : lk g u = some v) (hv2 : lk g u2 = some v2) (hu : P.underlying t = some td) (ht : isAggD td = true) {m : Nat} (hs : szOf P t = some m) (hc : At w b off cs) (hl : cs.length = m)
    (h : F (.tuple #[.agg cs.toArray, v, v2]) w) (hn : n.dfs = [] := by rfl) : X (BodyQ P fn F) .ret n g w := X.leave0 hn fun a f => by
  subst hl
  refine ⟨.tuple #[.agg cs.toArray, v, v2], ?_, h⟩
  simp [results, hr, asAddr, run_loadVar_at hu ht hs hc, f.known p _ hp, f.known u _ hv, f.known u2 _ hv2]
end ops
end Go.Eng
