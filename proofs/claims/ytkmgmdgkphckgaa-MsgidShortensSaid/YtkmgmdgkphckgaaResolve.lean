/-
  Resolve: msgid's and the reference's, one plain function.
-/
import Derived.Test.YtkmgmdgkphckgaaIds
import Derived.Test.YtkmgmdgkphckgaaRef11
namespace Go.Proofs.Ytkmgmdgkphckgaa
open Go.Eng Go.RowKit

/-- a slice value that reads as L, and stays -/
def OwnSl (w w' : World) (n : Nat) (L : List (List UInt8)) (v : Value) : Prop := (∃ ad cap, v = .slice ad n cap ∧ n ≤ cap ∧ SlE encI 32 w' ad n L) ∧ Mod [] w w'

theorem to_any (ad : Option Addr) (n cap : Nat) (L : List (List UInt8)) (w : World) (hs : SlE encI 32 w ad n L) (hn : n ≤ 40) :
    Ret Try.prog 25 #[.slice ad n cap] w fun v w' => OwnSl w w' n L v := by
  have hln := hs.len
  refine Ret.enter (n := 23) (args := [.slice ad n cap]) Try.func25 rfl rfl ?_
  refine C.keep [(0, _)] ⟨rfl, trivial⟩ ?_
  refine C.seq ?_
  refine C.region ?_
  refine R.ev rfl (E.assign rfl) ?_
  refine R.done ?_
  refine X.keep [(0, _)] ⟨rfl, trivial⟩ ?_
  refine X.next ?_
  refine C.seq ?_
  refine C.region ?_
  refine R.ev rfl (E.assign rfl) ?_
  refine R.done ?_
  refine X.keep [(0, _), (3, _)] ⟨rfl, rfl, trivial⟩ ?_
  refine X.next ?_
  refine C.seq ?_
  refine C.seq ?_
  refine C.region ?_
  refine R.ev rfl (E.assign rfl) ?_
  refine R.done ?_
  refine X.keep [(0, _), (3, _), (4, _)] ⟨rfl, rfl, rfl, trivial⟩ ?_
  refine X.next ?_
  refine C.block ?_
  refine C.loop (T := Nat × Value) [(0, _)] (fun (k, sv) => [(3, sv), (4, .int .i64 (k : Nat))]) (fun (k, sv) w' => k ≤ n ∧ w'.ownsRow w.heap.size 30 32 sv k ((L.take k).flatMap encI) ∧ Mod [] w w') (fun (k, _) => n - k) ((0, _)) ⟨rfl, rfl, rfl, trivial⟩ ⟨by omega, ⟨rfl, .inl ⟨rfl, rfl⟩⟩, Mod.refl _ _⟩ ?_
  rintro ⟨k, sv⟩ w1 ⟨hk, ho, hm⟩
  refine C.keep [(0, _), (3, _), (4, _)] ⟨rfl, rfl, rfl, trivial⟩ ?_
  refine C.seq ?_
  refine C.seq ?_
  refine C.cut [(0, _), (3, _), (4, _)] (fun (_ : Unit) => [(12, .bool (decide (k < n)))]) (fun _ w' => w1 = w') ⟨rfl, rfl, rfl, trivial⟩ ?_ ?_
  · refine C.region ?_
    refine R.ev rfl (E.move rfl) ?_
    refine R.ev rfl (E.move rfl) ?_
    refine R.ev rfl (E.lenSl rfl Try.underlying45) ?_
    refine R.ev rfl (E.lss rfl rfl) ?_
    refine R.ev rfl (E.move rfl) ?_
    refine R.split 9 rfl (fun h9 => ?_) (fun h9 => ?_)
    · refine R.gyes rfl rfl ?_
      refine R.ev rfl (E.move rfl) ?_
      refine R.gyes rfl rfl ?_
      refine R.ev rfl (E.lss rfl rfl) ?_
      refine R.ev rfl (E.pickT rfl rfl) ?_
      refine R.done ?_
      refine X.keep [(0, _), (3, _), (4, _), (12, _)] ⟨rfl, rfl, rfl, rfl, trivial⟩ ?_
      refine X.cut (()) ⟨lkV rfl ?_, rfl, rfl, rfl, trivial⟩ ?_
      all_goals try exact rfl
      simp_all
      try omega
    · refine R.gskip rfl rfl rfl ?_
      refine R.gskip rfl rfl rfl ?_
      refine R.ev rfl (E.pickF rfl rfl) ?_
      refine R.done ?_
      refine X.keep [(0, _), (3, _), (4, _), (12, _)] ⟨rfl, rfl, rfl, rfl, trivial⟩ ?_
      refine X.cut (()) ⟨lkV rfl ?_, rfl, rfl, rfl, trivial⟩ ?_
      all_goals try exact rfl
      simp_all
      try omega
  · rintro _ _ rfl
    refine X.keep [(0, _), (3, _), (4, _), (12, _)] ⟨rfl, rfl, rfl, rfl, trivial⟩ ?_
    refine X.next ?_
    refine C.cdec rfl (fun h12 => ?_) (fun h12 => ?_)
    · obtain ⟨y, hy, hym⟩ := hs.nth h12
      have hyl := hs.size y hym
      obtain ⟨b, off, rfl, hat, _⟩ := (hs.keep0 hm).get hy
      have hyl' : y.length = 32 := by simpa using hyl
      refine C.skip ?_
      refine X.next ?_
      refine C.seq ?_
      refine C.block ?_
      refine C.region ?_
      refine R.ev rfl (E.move rfl) ?_
      refine R.ev rfl (E.move rfl) ?_
      refine R.ev rfl (E.move rfl) ?_
      refine R.ev rfl (E.indexAddr rfl rfl Try.underlying45 Try.sz23 rfl (by first | omega | decide)) ?_
      refine R.ev rfl (E.loadRow rfl Try.underlying23 rfl Try.sz23 (by assumption) (by first | rfl | exact len_ub (by assumption) | simp [*])) ?_
      refine R.buildSliceA rfl Try.underlying50 Try.sz30 Try.zr30 rfl (by simp [*]) (by decide) (by decide) ?_
      intro b20 w20 n20
      refine R.append rfl rfl Try.underlying50 Try.by30 (by rfl) rfl ((n20.mod.own ho (by simp))) (n20.blk.at) (by simp [*]) (by simp [*, Value.oneCell']) (by omega) (by omega) (by omega) (by have := n20.mod.size; have := hm.size; omega) ?_
      intro sv' w4 ho4 hm4 hat4 hnil4
      refine R.ev rfl (E.assign rfl) ?_
      refine R.done ?_
      refine X.keep [(0, _), (3, _), (4, _)] ⟨rfl, rfl, rfl, trivial⟩ ?_
      refine X.blockNormal ?_
      refine X.next ?_
      refine C.region ?_
      refine R.ev rfl (E.move rfl) ?_
      refine R.ev rfl (E.add rfl rfl (by omega) (by omega)) ?_
      refine R.ev rfl (E.assign rfl) ?_
      refine R.done ?_
      refine X.keep [(0, _), (3, _), (4, _)] ⟨rfl, rfl, rfl, trivial⟩ ?_
      refine X.again (k + 1, sv') ⟨rfl, rfl, rfl, trivial⟩ ⟨by omega, ?_, (hm.tr n20.mod).tr' hm4 (fun x hx => (ho.lt x (by simpa using hx)).1)⟩ (by show _ - _ < _ - _; omega)
      rw [take_snoc hy, List.flatMap_append]; simpa using ho4
    · refine C.exit ?_
      refine X.thenExit ?_
      refine X.loopExit ?_
      refine X.blockExit ?_
      refine X.next ?_
      refine C.seq ?_
      refine C.region ?_
      refine R.ev rfl (E.move rfl) ?_
      refine R.ev rfl (E.assign rfl) ?_
      refine R.done ?_
      refine X.keep [(2, _)] ⟨rfl, trivial⟩ ?_
      refine X.next ?_
      refine C.ret ?_
      refine X.ret1 rfl rfl ?_
      have e : k = n := by omega
      subst e
      rw [List.take_of_length_le (by omega)] at ho
      obtain ⟨ad', cap', rfl, hs', hc'⟩ := SlE.ofOwn ho hs.size hln
      exact ⟨⟨_, _, rfl, hc', hs'⟩, hm⟩

def badHex (c : UInt8) : Bool := !isHexd c.toNat
theorem rdig_neg (c : UInt8) : rdig c < 0 ↔ badHex c = true := all256 (p := fun c => rdig c < 0 ↔ badHex c = true) (by decide +kernel) c
def tst (p : List UInt8) (f : List (List UInt8)) (a : List UInt8) : Bool := decide ((hexL a).take p.length = p) && !decide (a ∈ f)
def resF (p : List UInt8) (f : List (List UInt8)) (a : List UInt8) : List (List UInt8) := if tst p f a then f ++ [a] else f
def resL (p : List UInt8) (L : List (List UInt8)) : List (List UInt8) := L.foldl (resF p) []
def resolveR (p : List UInt8) (L : List (List UInt8)) : List UInt8 × Int :=
  if p.length < 4 then (zid, 4) else if 64 < p.length then (zid, 5) else if p.any badHex then (zid, 6) else
  if (resL p L).length = 0 then (zid, 8) else if (resL p L).length = 1 then ((resL p L).headD zid, 0) else (zid, 7)
theorem resL_snoc (p : List UInt8) {L : List (List UInt8)} {k : Nat} {y : List UInt8} (h : L[k]? = some y) : resL p (L.take (k + 1)) = resF p (resL p (L.take k)) y := by
  rw [take_snoc h, resL, List.foldl_append]; rfl
theorem resF_sub {p : List UInt8} {f : List (List UInt8)} {a x : List UInt8} (h : x ∈ resF p f a) : x ∈ f ∨ x = a := by
  unfold resF at h; split at h
  · simpa using h
  · exact .inl h
theorem resL_sub {p : List UInt8} : ∀ {L f : List (List UInt8)} {x : List UInt8}, x ∈ L.foldl (resF p) f → x ∈ f ∨ x ∈ L
  | [], f, x, h => .inl h
  | a :: L, f, x, h => by
    rcases resL_sub (L := L) h with h | h
    · rcases resF_sub h with h | h
      · exact .inl h
      · exact .inr (by simp [h])
    · exact .inr (by simp [h])
theorem resL_mem {p : List UInt8} {L : List (List UInt8)} {x : List UInt8} (h : x ∈ resL p L) : x ∈ L := by
  rcases resL_sub h with h | h
  · cases h
  · exact h
theorem resL_size {p : List UInt8} {L : List (List UInt8)} {k : Nat} (hs : ∀ y ∈ L, (encI y).length = 32) : ∀ y ∈ resL p (L.take k), (encI y).length = 32 := fun y hy => hs y (List.mem_of_mem_take (resL_mem hy))
theorem resL_len {p : List UInt8} : ∀ {L f : List (List UInt8)}, (L.foldl (resF p) f).length ≤ f.length + L.length
  | [], f => by simp
  | a :: L, f => by
    have := resL_len (p := p) (L := L) (f := resF p f a)
    have h2 : (resF p f a).length ≤ f.length + 1 := by unfold resF; split <;> simp
    simp only [List.foldl_cons, List.length_cons]; omega

theorem fit_id {w : World} (n : Nat) (x : List Value) (_ : x.length = 32) (h : Fit Try.prog w n 23 x) : ∃ y, x = encI y := by
  obtain ⟨a, _, h⟩ := fit_bytes h Try.underlying23 Try.underlying5 (by kernel_rfl) (by kernel_rfl)
  exact ⟨a, h⟩
theorem resolveR_len {p : List UInt8} {L : List (List UInt8)} (hs : ∀ y ∈ L, (encI y).length = 32) : (resolveR p L).1.length = 32 := by
  unfold resolveR
  repeat' split
  all_goals try rfl
  rename_i h1
  obtain ⟨y, hy⟩ := List.length_eq_one_iff.1 h1
  have : y ∈ resL p L := by rw [hy]; simp
  have := hs y (resL_mem this)
  rw [hy]; simpa using this

theorem refResolve_any (p : List UInt8) (ad : Option Addr) (n cap : Nat) (L : List (List UInt8)) (w : World) (hp : p.length ≤ 1000) (hs : SlE encI 32 w ad n L) (hn : n ≤ 40) :
    Ret Try.prog 24 #[str p, .slice ad n cap] w fun v w' => v = .tuple #[idV (resolveR p L).1, .int .i64 (resolveR p L).2] ∧ Mod [] w w' := by
  have hln := hs.len
  refine Ret.enter (n := 72) (args := [str p, .slice ad n cap]) Try.func24 rfl rfl ?_
  refine C.keep [(0, _), (1, _)] ⟨rfl, rfl, trivial⟩ ?_
  refine C.seq ?_
  refine C.region ?_
  refine R.allocA Try.zr30 rfl ?_
  intro b4 w4 n4
  refine R.ev rfl (E.assign rfl) ?_
  refine R.done ?_
  refine X.keep [(0, _), (1, _), (4, _)] ⟨rfl, rfl, rfl, trivial⟩ ?_
  refine X.next ?_
  refine C.seq ?_
  refine C.seq ?_
  refine C.region ?_
  have hge := n4.ge
  have hlt4 := n4.blk.lt
  have hsz4 := n4.mod.size
  refine R.ev rfl (E.move rfl) ?_
  refine R.ev rfl (E.lenStr rfl Try.underlying9) ?_
  refine R.ev rfl (E.lss rfl rfl) ?_
  refine R.done ?_
  refine X.keep [(0, _), (1, _), (4, _), (11, _)] ⟨rfl, rfl, rfl, rfl, trivial⟩ ?_
  refine X.next ?_
  refine C.cdec rfl (fun h11 => ?_) (fun h11 => ?_)
  · refine C.seq ?_
    refine C.region ?_
    refine R.ev rfl (E.buildA rfl Try.underlying30 Try.zr30 Try.sz5 rfl) ?_
    refine R.storeAll rfl rfl Try.sz30 (n4.blk) (by first | rfl | exact len_ub (by assumption) | simp [*]) (by first | rfl | exact len_ub (by assumption) | simp [*]) (by first | exact ub_all _ | simp [Value.oneCell']) ?_
    intro w5 k5 m5 s5
    refine R.ev rfl (E.assign rfl) ?_
    refine R.done ?_
    refine X.keep [(4, _), (5, _)] ⟨rfl, rfl, trivial⟩ ?_
    refine X.next ?_
    refine C.ret ?_
    refine X.thenRet ?_
    refine X.retCT rfl rfl rfl Try.underlying30 rfl Try.sz30 (k5.at) (by first | rfl | exact len_ub (by assumption) | simp [*]) ?_
    have e : resolveR p L = (zid, 4) := by rw [resolveR, if_pos (by omega)]
    rw [e]
    exact ⟨rfl, n4.mod.tr' m5 (by intro x hx; simp at hx; subst hx; omega)⟩
  · refine C.skip ?_
    refine X.next ?_
    refine C.seq ?_
    refine C.seq ?_
    refine C.region ?_
    refine R.ev rfl (E.move rfl) ?_
    refine R.ev rfl (E.lenStr rfl Try.underlying9) ?_
    refine R.ev rfl (E.gtr rfl rfl) ?_
    refine R.done ?_
    refine X.keep [(0, _), (1, _), (4, _), (15, _)] ⟨rfl, rfl, rfl, rfl, trivial⟩ ?_
    refine X.next ?_
    refine C.cdec rfl (fun h15 => ?_) (fun h15 => ?_)
    · refine C.seq ?_
      refine C.region ?_
      refine R.ev rfl (E.buildA rfl Try.underlying30 Try.zr30 Try.sz5 rfl) ?_
      refine R.storeAll rfl rfl Try.sz30 (n4.blk) (by first | rfl | exact len_ub (by assumption) | simp [*]) (by first | rfl | exact len_ub (by assumption) | simp [*]) (by first | exact ub_all _ | simp [Value.oneCell']) ?_
      intro w5 k5 m5 s5
      refine R.ev rfl (E.assign rfl) ?_
      refine R.done ?_
      refine X.keep [(4, _), (5, _)] ⟨rfl, rfl, trivial⟩ ?_
      refine X.next ?_
      refine C.ret ?_
      refine X.thenRet ?_
      refine X.retCT rfl rfl rfl Try.underlying30 rfl Try.sz30 (k5.at) (by first | rfl | exact len_ub (by assumption) | simp [*]) ?_
      have e : resolveR p L = (zid, 5) := by rw [resolveR, if_neg (by omega), if_pos (by omega)]
      rw [e]
      exact ⟨rfl, n4.mod.tr' m5 (by intro x hx; simp at hx; subst hx; omega)⟩
    · refine C.skip ?_
      refine X.next ?_
      refine C.seq ?_
      refine C.seq ?_
      refine C.region ?_
      refine R.ev rfl (E.assign rfl) ?_
      refine R.done ?_
      refine X.keep [(0, _), (1, _), (4, _), (6, _)] ⟨rfl, rfl, rfl, rfl, trivial⟩ ?_
      refine X.next ?_
      refine C.block ?_
      refine C.loop  [(0, _), (1, _), (4, _)] (fun k => [(6, .int .i64 (k : Nat))]) (fun k w' => k ≤ p.length ∧ w4 = w' ∧ (p.any badHex = (p.drop k).any badHex)) (fun k => p.length - k) (0) ⟨rfl, rfl, rfl, rfl, trivial⟩ ⟨by omega, rfl, rfl⟩ ?_
      rintro k _ ⟨hk, rfl, hany⟩
      refine C.keep [(0, _), (1, _), (4, _), (6, _)] ⟨rfl, rfl, rfl, rfl, trivial⟩ ?_
      refine C.seq ?_
      refine C.seq ?_
      refine C.region ?_
      refine R.ev rfl (E.move rfl) ?_
      refine R.ev rfl (E.move rfl) ?_
      refine R.ev rfl (E.lenStr rfl Try.underlying9) ?_
      refine R.ev rfl (E.lss rfl rfl) ?_
      refine R.done ?_
      refine X.keep [(0, _), (1, _), (4, _), (6, _), (20, _)] ⟨rfl, rfl, rfl, rfl, rfl, trivial⟩ ?_
      refine X.next ?_
      refine C.cdec rfl (fun h20 => ?_) (fun h20 => ?_)
      · have hlt : k < p.length := by omega
        rw [List.drop_eq_getElem_cons hlt, List.any_cons, show p[k] = p.getD k 0 by simp [hlt]] at hany
        refine C.skip ?_
        refine X.next ?_
        refine C.seq ?_
        refine C.block ?_
        refine C.seq ?_
        refine C.region ?_
        refine R.ev rfl (E.move rfl) ?_
        refine R.ev rfl (E.move rfl) ?_
        refine R.ev rfl (E.sindex rfl rfl Try.underlying9 rfl (by first | omega | decide)) ?_
        refine R.call ⟨_, _, Try.func41, rfl, by kernel_rfl⟩ rfl rfl (refDigit_any _ _) ?_
        rintro _ _ ⟨rfl, rfl⟩
        refine R.ev rfl (E.lss rfl rfl) ?_
        refine R.done ?_
        refine X.keep [(0, _), (1, _), (4, _), (6, _), (27, _)] ⟨rfl, rfl, rfl, rfl, rfl, trivial⟩ ?_
        refine X.next ?_
        refine C.cdec rfl (fun h27 => ?_) (fun h27 => ?_)
        · refine C.seq ?_
          refine C.region ?_
          refine R.ev rfl (E.buildA rfl Try.underlying30 Try.zr30 Try.sz5 rfl) ?_
          refine R.storeAll rfl rfl Try.sz30 (n4.blk) (by first | rfl | exact len_ub (by assumption) | simp [*]) (by first | rfl | exact len_ub (by assumption) | simp [*]) (by first | exact ub_all _ | simp [Value.oneCell']) ?_
          intro w5 k5 m5 s5
          refine R.ev rfl (E.assign rfl) ?_
          refine R.done ?_
          refine X.keep [(4, _), (5, _)] ⟨rfl, rfl, trivial⟩ ?_
          refine X.next ?_
          refine C.ret ?_
          refine X.blockRet ?_
          refine X.thenRet ?_
          refine X.loopRet ?_
          refine X.blockRet ?_
          refine X.thenRet ?_
          refine X.retCT rfl rfl rfl Try.underlying30 rfl Try.sz30 (k5.at) (by first | rfl | exact len_ub (by assumption) | simp [*]) ?_
          have e : resolveR p L = (zid, 6) := by rw [resolveR, if_neg (by omega), if_neg (by omega), if_pos (by rw [hany, (rdig_neg _).1 h27]; rfl)]
          rw [e]
          exact ⟨rfl, n4.mod.tr' m5 (by intro x hx; simp at hx; subst hx; omega)⟩
        · refine C.skip ?_
          refine X.blockNormal ?_
          refine X.next ?_
          refine C.region ?_
          refine R.ev rfl (E.move rfl) ?_
          refine R.ev rfl (E.add rfl rfl (by omega) (by omega)) ?_
          refine R.ev rfl (E.assign rfl) ?_
          refine R.done ?_
          refine X.keep [(0, _), (1, _), (4, _), (6, _)] ⟨rfl, rfl, rfl, rfl, trivial⟩ ?_
          refine X.again (k + 1) ⟨rfl, rfl, rfl, rfl, trivial⟩ ⟨by omega, rfl, ?_⟩ (by omega)
          rw [hany, show badHex (p.getD k 0) = false by rw [← Bool.not_eq_true]; exact fun h => h27 ((rdig_neg _).2 h), Bool.false_or]
      · refine C.exit ?_
        refine X.thenExit ?_
        refine X.loopExit ?_
        refine X.blockExit ?_
        refine X.next ?_
        refine C.seq ?_
        refine C.region ?_
        refine R.ev rfl (E.assign rfl) ?_
        refine R.done ?_
        refine X.keep [(0, _), (1, _), (4, _), (7, _)] ⟨rfl, rfl, rfl, rfl, trivial⟩ ?_
        refine X.next ?_
        refine C.seq ?_
        refine C.seq ?_
        refine C.region ?_
        refine R.ev rfl (E.assign rfl) ?_
        refine R.done ?_
        refine X.keep [(0, _), (1, _), (4, _), (7, _), (8, _)] ⟨rfl, rfl, rfl, rfl, rfl, trivial⟩ ?_
        refine X.next ?_
        refine C.block ?_
        refine C.loop (T := Nat × Value) [(0, _), (1, _), (4, _)] (fun (k, sv) => [(7, sv), (8, .int .i64 (k : Nat))]) (fun (k, sv) w' => k ≤ n ∧ w'.ownsRow w4.heap.size 30 32 sv (resL p (L.take k)).length ((resL p (L.take k)).flatMap encI) ∧ Mod [] w w' ∧ Blk w' b4 30 (zid.map ub) ∧ w4.heap.size ≤ w'.heap.size) (fun (k, _) => n - k) ((0, _)) ⟨rfl, rfl, rfl, rfl, rfl, trivial⟩ ⟨by omega, ⟨rfl, .inl ⟨rfl, rfl⟩⟩, n4.mod, n4.blk, Nat.le_refl _⟩ ?_
        have hgood : p.any badHex = false := by rw [hany, List.drop_eq_nil_of_le (by omega)]; rfl
        rintro ⟨k, sv⟩ w1 ⟨hk, ho, hm, hb4, hge1⟩
        have hoL := ho.lt
        have hrl : (resL p (L.take k)).length ≤ 40 := by have := resL_len (p := p) (L := L.take k) (f := []); simp at this; unfold resL; omega
        obtain ⟨ad7, cap7, rfl, hs7, hc7⟩ := SlE.ofOwn ho (resL_size hs.size) rfl
        refine C.keep [(0, _), (1, _), (4, _), (7, _), (8, _)] ⟨rfl, rfl, rfl, rfl, rfl, trivial⟩ ?_
        refine C.seq ?_
        refine C.seq ?_
        refine C.region ?_
        refine R.ev rfl (E.move rfl) ?_
        refine R.ev rfl (E.move rfl) ?_
        refine R.ev rfl (E.lenSl rfl Try.underlying50) ?_
        refine R.ev rfl (E.lss rfl rfl) ?_
        refine R.done ?_
        refine X.keep [(0, _), (1, _), (4, _), (7, _), (8, _), (32, _)] ⟨rfl, rfl, rfl, rfl, rfl, rfl, trivial⟩ ?_
        refine X.next ?_
        refine C.cdec rfl (fun h32 => ?_) (fun h32 => ?_)
        · have hlt : k < n := by omega
          obtain ⟨y, hy, hym⟩ := hs.nth hlt
          have hyl := hs.size y hym
          obtain ⟨b, off, rfl, hat, _⟩ := (hs.keep0 hm).get hy
          have hyl' : y.length = 32 := by simpa using hyl
          have hh := hexL_len y
          refine C.skip ?_
          refine X.next ?_
          refine C.seq ?_
          refine C.block ?_
          refine C.seq ?_
          refine C.cut [(0, _), (1, _), (4, _), (7, _), (8, _)] (fun (_ : Unit) => [(53, .bool (tst p (resL p (L.take k)) y))]) (fun _ w' => Mod [] w1 w') ⟨rfl, rfl, rfl, rfl, rfl, trivial⟩ ?_ ?_
          · refine C.region ?_
            refine R.ev rfl (E.move rfl) ?_
            refine R.ev rfl (E.move rfl) ?_
            refine R.ev rfl (E.indexAddr rfl rfl Try.underlying50 Try.sz30 rfl (by first | omega | decide)) ?_
            refine R.ev rfl (E.loadRow rfl Try.underlying30 rfl Try.sz30 (by assumption) (by first | rfl | exact len_ub (by assumption) | simp [*])) ?_
            refine R.call ⟨_, _, Try.func40, rfl, by kernel_rfl⟩ rfl rfl (refDigits_any y _ hyl') ?_
            rintro _ w3 ⟨rfl, m3⟩
            have hat3 := hat.keep m3 (by simp)
            refine R.ev rfl (E.move rfl) ?_
            refine R.ev rfl (E.lenStr rfl Try.underlying9) ?_
            refine R.ev rfl (E.ssliceH rfl rfl Try.underlying9 rfl (by omega)) ?_
            refine R.ev rfl (E.move rfl) ?_
            refine R.ev rfl (E.seql rfl rfl) ?_
            refine R.ev rfl (E.move rfl) ?_
            refine R.split 45 rfl (fun h45 => ?_) (fun h45 => ?_)
            · refine R.gyes rfl rfl ?_
              refine R.ev rfl (E.move rfl) ?_
              refine R.gyes rfl rfl ?_
              refine R.ev rfl (E.move rfl) ?_
              refine R.gyes rfl rfl ?_
              refine R.ev rfl (E.move rfl) ?_
              refine R.gyes rfl rfl ?_
              refine R.ev rfl (E.indexAddr rfl rfl Try.underlying50 Try.sz30 rfl (by first | omega | decide)) ?_
              refine R.gyes rfl rfl ?_
              refine R.ev rfl (E.loadRow rfl Try.underlying30 rfl Try.sz30 (by assumption) (by first | rfl | exact len_ub (by assumption) | simp [*])) ?_
              refine R.gyes rfl rfl ?_
              refine R.call ⟨_, _, Try.func28, rfl, by kernel_rfl⟩ rfl rfl (refHas_any ad7 _ _ _ y _ (hs7.keep0 m3) (by omega) hyl') ?_
              rintro _ w5 ⟨rfl, m5⟩
              refine R.gyes rfl rfl ?_
              refine R.ev rfl (E.not rfl) ?_
              refine R.ev rfl (E.pickT rfl rfl) ?_
              refine R.done ?_
              refine X.keep [(0, _), (1, _), (4, _), (7, _), (8, _), (53, _)] ⟨rfl, rfl, rfl, rfl, rfl, rfl, trivial⟩ ?_
              refine X.cut (()) ⟨lkV rfl ?_, rfl, rfl, rfl, rfl, rfl, trivial⟩ ?_
              all_goals first | exact m3.tr m5 | exact m3 | (simp_all [tst]; done)
            · refine R.gskip rfl rfl rfl ?_
              refine R.gskip rfl rfl rfl ?_
              refine R.gskip rfl rfl rfl ?_
              refine R.gskip rfl rfl rfl ?_
              refine R.gskip rfl rfl rfl ?_
              refine R.gskip rfl rfl rfl ?_
              refine R.gskip rfl rfl rfl ?_
              refine R.ev rfl (E.pickF rfl rfl) ?_
              refine R.done ?_
              refine X.keep [(0, _), (1, _), (4, _), (7, _), (8, _), (53, _)] ⟨rfl, rfl, rfl, rfl, rfl, rfl, trivial⟩ ?_
              refine X.cut (()) ⟨lkV rfl ?_, rfl, rfl, rfl, rfl, rfl, trivial⟩ ?_
              all_goals first | exact m3.tr m5 | exact m3 | (simp_all [tst]; done)
          · rintro _ w6 hJ
            refine X.keep [(0, _), (1, _), (4, _), (7, _), (8, _), (53, _)] ⟨rfl, rfl, rfl, rfl, rfl, rfl, trivial⟩ ?_
            refine X.next ?_
            refine C.cbool rfl (fun h53 => ?_) (fun h53 => ?_)
            · refine C.region ?_
              have hat6 := hat.keep hJ (by simp)
              refine R.ev rfl (E.move rfl) ?_
              refine R.ev rfl (E.move rfl) ?_
              refine R.ev rfl (E.move rfl) ?_
              refine R.ev rfl (E.indexAddr rfl rfl Try.underlying50 Try.sz30 rfl (by first | omega | decide)) ?_
              refine R.ev rfl (E.loadRow rfl Try.underlying30 rfl Try.sz30 (by assumption) (by first | rfl | exact len_ub (by assumption) | simp [*])) ?_
              refine R.buildSliceA rfl Try.underlying50 Try.sz30 Try.zr30 rfl (by simp [*]) (by decide) (by decide) ?_
              intro b59 w59 n59
              refine R.append rfl rfl Try.underlying50 Try.by30 (by rfl) rfl (((hJ.tr n59.mod).own ho (by simp))) (n59.blk.at) (by simp [*]) (by simp [*, Value.oneCell']) (by omega) (by omega) (by omega) (by have := n59.mod.size; have := hJ.size; omega) ?_
              intro sv' w7 ho7 hm7 hat7 hnil7
              refine R.ev rfl (E.assign rfl) ?_
              refine R.done ?_
              refine X.keep [(0, _), (1, _), (4, _), (7, _), (8, _)] ⟨rfl, rfl, rfl, rfl, rfl, trivial⟩ ?_
              refine X.blockNormal ?_
              refine X.next ?_
              refine C.region ?_
              refine R.ev rfl (E.move rfl) ?_
              refine R.ev rfl (E.add rfl rfl (by omega) (by omega)) ?_
              refine R.ev rfl (E.assign rfl) ?_
              refine R.done ?_
              refine X.keep [(0, _), (1, _), (4, _), (7, _), (8, _)] ⟨rfl, rfl, rfl, rfl, rfl, trivial⟩ ?_
              first
                | (refine X.again (k + 1, sv') ⟨rfl, rfl, rfl, rfl, rfl, trivial⟩ ⟨by omega, ?_, ((hm.tr hJ).tr n59.mod).tr' hm7 (fun x hx => by have := (hoL x (by simpa using hx)).1; omega), ((hb4.keep hJ (by simp)).keep n59.mod (by simp)).keep hm7 (fun hx => by have := (hoL _ (by simpa using hx)).1; omega), by have := hJ.size; have := n59.mod.size; have := hm7.size; omega⟩ (by show _ - _ < _ - _; omega)
                   rw [resL_snoc p hy, resF, if_pos h53, List.flatMap_append, List.length_append]
                   simpa using ho7)
                | (refine X.again (k + 1, _) ⟨rfl, rfl, rfl, rfl, rfl, trivial⟩ ⟨by omega, ?_, hm.tr hJ, hb4.keep hJ (by simp), by have := hJ.size; omega⟩ (by show _ - _ < _ - _; omega)
                   rw [resL_snoc p hy, resF, if_neg (by rw [h53]; decide)]
                   exact hJ.own ho (by simp))
            · refine C.skip ?_
              refine X.blockNormal ?_
              refine X.next ?_
              refine C.region ?_
              refine R.ev rfl (E.move rfl) ?_
              refine R.ev rfl (E.add rfl rfl (by omega) (by omega)) ?_
              refine R.ev rfl (E.assign rfl) ?_
              refine R.done ?_
              refine X.keep [(0, _), (1, _), (4, _), (7, _), (8, _)] ⟨rfl, rfl, rfl, rfl, rfl, trivial⟩ ?_
              first
                | (refine X.again (k + 1, sv') ⟨rfl, rfl, rfl, rfl, rfl, trivial⟩ ⟨by omega, ?_, ((hm.tr hJ).tr n59.mod).tr' hm7 (fun x hx => by have := (hoL x (by simpa using hx)).1; omega), ((hb4.keep hJ (by simp)).keep n59.mod (by simp)).keep hm7 (fun hx => by have := (hoL _ (by simpa using hx)).1; omega), by have := hJ.size; have := n59.mod.size; have := hm7.size; omega⟩ (by show _ - _ < _ - _; omega)
                   rw [resL_snoc p hy, resF, if_pos h53, List.flatMap_append, List.length_append]
                   simpa using ho7)
                | (refine X.again (k + 1, _) ⟨rfl, rfl, rfl, rfl, rfl, trivial⟩ ⟨by omega, ?_, hm.tr hJ, hb4.keep hJ (by simp), by have := hJ.size; omega⟩ (by show _ - _ < _ - _; omega)
                   rw [resL_snoc p hy, resF, if_neg (by rw [h53]; decide)]
                   exact hJ.own ho (by simp))
        · refine C.exit ?_
          refine X.thenExit ?_
          refine X.loopExit ?_
          refine X.blockExit ?_
          refine X.next ?_
          refine C.seq ?_
          refine C.seq ?_
          refine C.region ?_
          have e : k = n := by omega
          subst e
          have hTk : L.take k = L := List.take_of_length_le (by omega)
          have hlen : (resL p (L.take k)).length = (resL p L).length := by rw [hTk]
          have hR : resolveR p L = if (resL p L).length = 0 then (zid, 8) else if (resL p L).length = 1 then ((resL p L).headD zid, 0) else (zid, 7) := by rw [resolveR, if_neg (by omega), if_neg (by omega), if_neg (by rw [hgood]; decide)]
          rw [hR]
          refine R.ev rfl (E.move rfl) ?_
          refine R.ev rfl (E.lenSl rfl Try.underlying50) ?_
          refine R.done ?_
          refine X.keep [(4, _), (7, _), (62, _)] ⟨rfl, rfl, rfl, trivial⟩ ?_
          refine X.next ?_
          refine C.block ?_
          refine C.seq ?_
          refine C.region ?_
          refine R.ev rfl (E.eql rfl rfl) ?_
          refine R.ev rfl (E.assign rfl) ?_
          refine R.done ?_
          refine X.keep [(4, _), (7, _), (62, _), (63, _)] ⟨rfl, rfl, rfl, rfl, trivial⟩ ?_
          refine X.next ?_
          refine C.cdec rfl (fun h63 => ?_) (fun h63 => ?_)
          · refine C.seq ?_
            refine C.region ?_
            refine R.ev rfl (E.buildA rfl Try.underlying30 Try.zr30 Try.sz5 rfl) ?_
            refine R.storeAll rfl rfl Try.sz30 (hb4) (by first | rfl | exact len_ub (by assumption) | simp [*]) (by first | rfl | exact len_ub (by assumption) | simp [*]) (by first | exact ub_all _ | simp [Value.oneCell']) ?_
            intro w5 k5 m5 s5
            refine R.ev rfl (E.assign rfl) ?_
            refine R.done ?_
            refine X.keep [(4, _), (5, _)] ⟨rfl, rfl, trivial⟩ ?_
            refine X.next ?_
            refine C.ret ?_
            refine X.blockRet ?_
            refine X.thenRet ?_
            refine X.retCT rfl rfl rfl Try.underlying30 rfl Try.sz30 (k5.at) (by first | rfl | exact len_ub (by assumption) | simp [*]) ?_
            rw [if_pos (by omega)]
            exact ⟨rfl, hm.tr' m5 (by intro x hx; simp at hx; subst hx; omega)⟩
          · refine C.seq ?_
            refine C.region ?_
            refine R.ev rfl (E.eql rfl rfl) ?_
            refine R.ev rfl (E.assign rfl) ?_
            refine R.done ?_
            refine X.keep [(4, _), (7, _), (66, _)] ⟨rfl, rfl, rfl, trivial⟩ ?_
            refine X.next ?_
            refine C.cdec rfl (fun h66 => ?_) (fun h66 => ?_)
            · have h1 : (resL p L).length = 1 := by omega
              obtain ⟨y, hy⟩ := List.length_eq_one_iff.1 h1
              rw [hTk, hy] at hs7
              have hyl' : y.length = 32 := by simpa using hs7.size y (by simp)
              obtain ⟨b, off, rfl, hat, _⟩ := hs7.get (i := 0) (y := y) rfl
              refine C.seq ?_
              refine C.region ?_
              refine R.ev rfl (E.move rfl) ?_
              refine R.ev rfl (E.indexAddr (i := 0) rfl rfl Try.underlying50 Try.sz30 rfl (by omega)) ?_
              refine R.ev rfl (E.loadRow rfl Try.underlying30 rfl Try.sz30 (by assumption) (by first | rfl | exact len_ub (by assumption) | simp [*])) ?_
              refine R.storeAll rfl rfl Try.sz30 (hb4) (by first | rfl | exact len_ub (by assumption) | simp [*]) (by first | rfl | exact len_ub (by assumption) | simp [*]) (by first | exact ub_all _ | simp [Value.oneCell']) ?_
              intro w5 k5 m5 s5
              refine R.ev rfl (E.assign rfl) ?_
              refine R.done ?_
              refine X.keep [(4, _), (5, _)] ⟨rfl, rfl, trivial⟩ ?_
              refine X.next ?_
              refine C.ret ?_
              refine X.blockRet ?_
              refine X.thenRet ?_
              refine X.retCT rfl rfl rfl Try.underlying30 rfl Try.sz30 (k5.at) (by first | rfl | exact len_ub (by assumption) | simp [*]) ?_
              rw [if_neg (by omega), if_pos h1, hy]
              exact ⟨rfl, hm.tr' m5 (by intro x hx; simp at hx; subst hx; omega)⟩
            · refine C.skip ?_
              refine X.blockNormal ?_
              refine X.next ?_
              refine C.seq ?_
              refine C.region ?_
              refine R.ev rfl (E.buildA rfl Try.underlying30 Try.zr30 Try.sz5 rfl) ?_
              refine R.storeAll rfl rfl Try.sz30 (hb4) (by first | rfl | exact len_ub (by assumption) | simp [*]) (by first | rfl | exact len_ub (by assumption) | simp [*]) (by first | exact ub_all _ | simp [Value.oneCell']) ?_
              intro w5 k5 m5 s5
              refine R.ev rfl (E.assign rfl) ?_
              refine R.done ?_
              refine X.keep [(4, _), (5, _)] ⟨rfl, rfl, trivial⟩ ?_
              refine X.next ?_
              refine C.ret ?_
              refine X.retCT rfl rfl rfl Try.underlying30 rfl Try.sz30 (k5.at) (by first | rfl | exact len_ub (by assumption) | simp [*]) ?_
              rw [if_neg (by omega), if_neg (by omega)]
              exact ⟨rfl, hm.tr' m5 (by intro x hx; simp at hx; subst hx; omega)⟩

theorem resolve1_any (c : UInt8) (w : World) : Ret Try.prog 46 #[ub c] w fun v w' => v = .bool (badHex c) ∧ w = w' := by
  refine Ret.enter (n := 6) (args := [ub c]) Try.func46 rfl rfl ?_
  refine C.keep [(0, _)] ⟨rfl, trivial⟩ ?_
  refine C.seq ?_
  refine C.region ?_
  refine R.ev rfl (E.assign rfl) ?_
  refine R.done ?_
  refine X.keep [(0, _)] ⟨rfl, trivial⟩ ?_
  refine X.next ?_
  refine C.seq ?_
  refine C.region ?_
  refine R.ev rfl (E.move rfl) ?_
  refine R.call ⟨_, _, Try.func47, rfl, by kernel_rfl⟩ rfl rfl (isHexDigit_any _ _) ?_
  rintro _ _ ⟨rfl, rfl⟩
  refine R.ev rfl (E.not rfl) ?_
  refine R.ev rfl (E.assign rfl) ?_
  refine R.done ?_
  refine X.keep [(2, _)] ⟨rfl, trivial⟩ ?_
  refine X.next ?_
  refine C.ret ?_
  refine X.ret1 rfl rfl ?_
  exact ⟨rfl, rfl⟩

theorem resolve_any (p : List UInt8) (ad : Option Addr) (n cap : Nat) (L : List (List UInt8)) (w : World) (hp : p.length ≤ 1000) (hs : SlE encI 32 w ad n L) (hn : n ≤ 40) :
    Ret Try.prog 23 #[str p, .slice ad n cap] w fun v w' => v = .tuple #[idV (resolveR p L).1, .int .i64 (resolveR p L).2] ∧ Mod [] w w' := by
  have hln := hs.len
  refine Ret.enter (n := 59) (args := [str p, .slice ad n cap]) Try.func23 rfl rfl ?_
  refine C.keep [(0, _), (1, _)] ⟨rfl, rfl, trivial⟩ ?_
  skip
  refine C.seq ?_
  refine C.region ?_
  refine R.allocA Try.zr23 rfl ?_
  intro b4 w4 n4
  refine R.ev rfl (E.assign rfl) ?_
  refine R.done ?_
  refine X.keep [(0, _), (1, _), (4, _)] ⟨rfl, rfl, rfl, trivial⟩ ?_
  refine X.next ?_
  refine C.seq ?_
  refine C.block ?_
  refine C.seq ?_
  refine C.region ?_
  have hge := n4.ge
  have hlt4 := n4.blk.lt
  have hsz4 := n4.mod.size
  refine R.ev rfl (E.move rfl) ?_
  refine R.ev rfl (E.lenStr rfl Try.underlying9) ?_
  refine R.ev rfl (E.lss rfl rfl) ?_
  refine R.ev rfl (E.assign rfl) ?_
  refine R.done ?_
  refine X.keep [(0, _), (1, _), (4, _), (10, _)] ⟨rfl, rfl, rfl, rfl, trivial⟩ ?_
  refine X.next ?_
  refine C.cdec rfl (fun h11 => ?_) (fun h11 => ?_)
  · refine C.seq ?_
    refine C.region ?_
    refine R.ev rfl (E.buildA rfl Try.underlying23 Try.zr23 Try.sz5 rfl) ?_
    refine R.storeAll rfl rfl Try.sz23 (n4.blk) (by first | rfl | exact len_ub (by assumption) | simp [*]) (by first | rfl | exact len_ub (by assumption) | simp [*]) (by first | exact ub_all _ | simp [Value.oneCell']) ?_
    intro w5 k5 m5 s5
    refine R.ev rfl (E.assign rfl) ?_
    refine R.done ?_
    refine X.keep [(4, _), (5, _)] ⟨rfl, rfl, trivial⟩ ?_
    refine X.next ?_
    refine C.ret ?_
    refine X.blockRet ?_
    refine X.thenRet ?_
    refine X.retCT rfl rfl rfl Try.underlying23 rfl Try.sz23 (k5.at) (by first | rfl | exact len_ub (by assumption) | simp [*]) ?_
    have e : resolveR p L = (zid, 4) := by rw [resolveR, if_pos (by omega)]
    rw [e]
    exact ⟨rfl, n4.mod.tr' m5 (by intro x hx; simp at hx; subst hx; omega)⟩
  · refine C.seq ?_
    refine C.region ?_
    refine R.ev rfl (E.move rfl) ?_
    refine R.ev rfl (E.lenStr rfl Try.underlying9) ?_
    refine R.ev rfl (E.gtr rfl rfl) ?_
    refine R.ev rfl (E.assign rfl) ?_
    refine R.done ?_
    refine X.keep [(0, _), (1, _), (4, _), (15, _)] ⟨rfl, rfl, rfl, rfl, trivial⟩ ?_
    refine X.next ?_
    refine C.cdec rfl (fun h15 => ?_) (fun h15 => ?_)
    · refine C.seq ?_
      refine C.region ?_
      refine R.ev rfl (E.buildA rfl Try.underlying23 Try.zr23 Try.sz5 rfl) ?_
      refine R.storeAll rfl rfl Try.sz23 (n4.blk) (by first | rfl | exact len_ub (by assumption) | simp [*]) (by first | rfl | exact len_ub (by assumption) | simp [*]) (by first | exact ub_all _ | simp [Value.oneCell']) ?_
      intro w5 k5 m5 s5
      refine R.ev rfl (E.assign rfl) ?_
      refine R.done ?_
      refine X.keep [(4, _), (5, _)] ⟨rfl, rfl, trivial⟩ ?_
      refine X.next ?_
      refine C.ret ?_
      refine X.blockRet ?_
      refine X.thenRet ?_
      refine X.retCT rfl rfl rfl Try.underlying23 rfl Try.sz23 (k5.at) (by first | rfl | exact len_ub (by assumption) | simp [*]) ?_
      have e : resolveR p L = (zid, 5) := by rw [resolveR, if_neg (by omega), if_pos (by omega)]
      rw [e]
      exact ⟨rfl, n4.mod.tr' m5 (by intro x hx; simp at hx; subst hx; omega)⟩
    · refine C.seq ?_
      refine C.region ?_
      refine R.ev rfl (E.move rfl) ?_
      refine R.strBytes rfl Try.underlying9 Try.underlying35 Try.underlying5 rfl ?_
      intro b0 cap0 zs0 fr0 w0 hb0 hf0 hge0 hcap0 m0
      have hat0 : At w0 b0 0 (p.map ub) := at_of_row hb0
      have hb40 := n4.blk.keep m0 (by simp)
      have hm0 := n4.mod.tr m0
      have hsz0 := m0.size
      refine R.call ⟨_, _, Try.func45, rfl, by kernel_rfl⟩ rfl rfl (containsFunc_any b0 _ _ p 46 badHex _ rfl (by omega) hat0 ⟨_, _, Try.func46, rfl, by kernel_rfl⟩ resolve1_any) ?_
      rintro _ _ ⟨rfl, rfl⟩
      refine R.ev rfl (E.assign rfl) ?_
      refine R.done ?_
      refine X.keep [(0, _), (1, _), (4, _), (20, _)] ⟨rfl, rfl, rfl, rfl, trivial⟩ ?_
      refine X.next ?_
      refine C.cbool rfl (fun h20 => ?_) (fun h20 => ?_)
      · refine C.seq ?_
        refine C.region ?_
        refine R.ev rfl (E.buildA rfl Try.underlying23 Try.zr23 Try.sz5 rfl) ?_
        refine R.storeAll rfl rfl Try.sz23 (hb40) (by first | rfl | exact len_ub (by assumption) | simp [*]) (by first | rfl | exact len_ub (by assumption) | simp [*]) (by first | exact ub_all _ | simp [Value.oneCell']) ?_
        intro w5 k5 m5 s5
        refine R.ev rfl (E.assign rfl) ?_
        refine R.done ?_
        refine X.keep [(4, _), (5, _)] ⟨rfl, rfl, trivial⟩ ?_
        refine X.next ?_
        refine C.ret ?_
        refine X.blockRet ?_
        refine X.thenRet ?_
        refine X.retCT rfl rfl rfl Try.underlying23 rfl Try.sz23 (k5.at) (by first | rfl | exact len_ub (by assumption) | simp [*]) ?_
        have e : resolveR p L = (zid, 6) := by rw [resolveR, if_neg (by omega), if_neg (by omega), if_pos h20]
        rw [e]
        exact ⟨rfl, hm0.tr' m5 (by intro x hx; simp at hx; subst hx; omega)⟩
      · refine C.skip ?_
        refine X.blockNormal ?_
        refine X.next ?_
        refine C.seq ?_
        refine C.region ?_
        refine R.ev rfl (E.assign rfl) ?_
        refine R.done ?_
        refine X.keep [(0, _), (1, _), (4, _), (6, _)] ⟨rfl, rfl, rfl, rfl, trivial⟩ ?_
        refine X.next ?_
        refine C.seq ?_
        refine C.seq ?_
        refine C.region ?_
        refine R.ev rfl (E.move rfl) ?_
        refine R.ev rfl (E.lenSl rfl Try.underlying45) ?_
        refine R.ev rfl (E.move rfl) ?_
        refine R.done ?_
        refine X.keep [(0, _), (4, _), (6, _), (25, _), (26, _), (27, _)] ⟨rfl, rfl, rfl, rfl, rfl, rfl, trivial⟩ ?_
        refine X.next ?_
        refine C.block ?_
        refine C.loop (T := Nat × Value) [(0, _), (4, _), (25, _), (26, _)] (fun (k, sv) => [(6, sv), (27, .int .i64 (k : Nat))]) (fun (k, sv) w' => k ≤ n ∧ w'.ownsRow w4.heap.size 23 32 sv (resL p (L.take k)).length ((resL p (L.take k)).flatMap encI) ∧ Mod [] w w' ∧ Blk w' b4 23 (zid.map ub) ∧ w4.heap.size ≤ w'.heap.size) (fun (k, _) => n - k) ((0, _)) ⟨rfl, rfl, rfl, rfl, rfl, rfl, trivial⟩ ⟨by omega, ⟨rfl, .inl ⟨rfl, rfl⟩⟩, hm0, hb40, hsz0⟩ ?_
        rintro ⟨k, sv⟩ w1 ⟨hk, ho, hm, hb4, hge1⟩
        have hoL := ho.lt
        have hrl : (resL p (L.take k)).length ≤ 40 := by have := resL_len (p := p) (L := L.take k) (f := []); simp at this; unfold resL; omega
        obtain ⟨ad7, cap7, rfl, hs7, hc7⟩ := SlE.ofOwn ho (resL_size hs.size) rfl
        refine C.keep [(0, _), (4, _), (6, _), (25, _), (26, _), (27, _)] ⟨rfl, rfl, rfl, rfl, rfl, rfl, trivial⟩ ?_
        refine C.seq ?_
        refine C.region ?_
        refine R.ev rfl (E.lss rfl rfl) ?_
        refine R.done ?_
        refine X.keep [(0, _), (4, _), (6, _), (25, _), (26, _), (27, _), (28, _)] ⟨rfl, rfl, rfl, rfl, rfl, rfl, rfl, trivial⟩ ?_
        refine X.next ?_
        refine C.seq ?_
        refine C.cdec rfl (fun h32 => ?_) (fun h32 => ?_)
        · have hlt : k < n := by omega
          obtain ⟨y, hy, hym⟩ := hs.nth hlt
          have hyl := hs.size y hym
          obtain ⟨b, off, rfl, hat, _⟩ := (hs.keep0 hm).get hy
          have hyl' : y.length = 32 := by simpa using hyl
          have hh := hexL_len y
          refine C.skip ?_
          refine X.next ?_
          refine C.seq ?_
          refine C.block ?_
          refine C.seq ?_
          refine C.region ?_
          refine R.ev rfl (E.indexAddr rfl rfl Try.underlying45 Try.sz23 rfl (by first | omega | decide)) ?_
          refine R.ev rfl (E.loadRow rfl Try.underlying23 rfl Try.sz23 (by assumption) (by first | rfl | exact len_ub (by assumption) | simp [*])) ?_
          refine R.allocA Try.zr23 rfl ?_
          intro b8 w8 n8
          refine R.storeAll rfl rfl Try.sz23 (n8.blk) (by first | rfl | exact len_ub (by assumption) | simp [*]) (by first | rfl | exact len_ub (by assumption) | simp [*]) (by first | exact ub_all _ | simp [Value.oneCell']) ?_
          intro w9 k9 m9 s9
          have hat9 := k9.at
          have hm9 : Mod [] w1 w9 := n8.mod.tr' m9 (by intro x hx; simp at hx; subst hx; exact n8.ge)
          have hlt8 := k9.lt
          refine R.done ?_
          refine X.keep [(0, _), (4, _), (6, _), (8, _), (25, _), (26, _), (27, _)] ⟨rfl, rfl, rfl, rfl, rfl, rfl, rfl, trivial⟩ ?_
          refine X.next ?_
          refine C.seq ?_
          refine C.region ?_
          refine R.ev rfl (E.loadRow rfl Try.underlying23 rfl Try.sz23 (by assumption) (by first | rfl | exact len_ub (by assumption) | simp [*])) ?_
          refine R.call ⟨_, _, Try.func37, rfl, by kernel_rfl⟩ rfl rfl (digits_any y _ hyl') ?_
          rintro _ w10 ⟨rfl, m10⟩
          refine R.allocA Try.zr67 rfl ?_
          intro b9 w9 n9
          refine R.storeAll rfl rfl Try.sz67 (n9.blk) (by first | rfl | exact len_ub (by assumption) | simp [*]) (by first | rfl | exact len_ub (by assumption) | simp [*]) (by first | exact ub_all _ | simp [Value.oneCell']) ?_
          intro w11 k11 m11 s11
          have hat11 := k11.at
          have hge9 := n9.ge
          have hsz9 := hm9.size
          have hsz10 := m10.size
          have hm11 : Mod [] w1 w11 := ((hm9.tr m10).tr n9.mod).tr' m11 (by intro x hx; simp at hx; subst hx; omega)
          have hat8 : At w11 b8 0 (y.map ub) := ((hat9.keep m10 (by simp)).keep n9.mod (by simp)).keep m11 (by simp; omega)
          refine R.done ?_
          refine X.keep [(0, _), (4, _), (6, _), (8, _), (9, _), (25, _), (26, _), (27, _)] ⟨rfl, rfl, rfl, rfl, rfl, rfl, rfl, rfl, trivial⟩ ?_
          refine X.next ?_
          refine C.seq ?_
          refine C.cut [(0, _), (4, _), (6, _), (8, _), (25, _), (26, _), (27, _)] (fun (_ : Unit) => [(42, .bool (tst p (resL p (L.take k)) y))]) (fun _ w' => Mod [] w11 w') ⟨rfl, rfl, rfl, rfl, rfl, rfl, rfl, trivial⟩ ?_ ?_
          · refine C.region ?_
            refine R.ev rfl (E.sliceA rfl Try.underlying67 Try.sz5) ?_
            refine R.ev rfl (E.bytesStr (l := hexL y) rfl Try.underlying35 Try.underlying5 Try.underlying9 (by omega) hat11) ?_
            refine R.ev rfl (E.move rfl) ?_
            refine R.call ⟨_, _, Try.func48, rfl, by kernel_rfl⟩ rfl rfl (hasPrefix_any _ _ _) ?_
            rintro _ _ ⟨rfl, rfl⟩
            refine R.ev rfl (E.move rfl) ?_
            refine R.split 37 rfl (fun h37 => ?_) (fun h37 => ?_)
            · refine R.gyes rfl rfl ?_
              refine R.ev rfl (E.move rfl) ?_
              refine R.gyes rfl rfl ?_
              refine R.ev rfl (E.loadRow rfl Try.underlying23 rfl Try.sz23 (by assumption) (by first | rfl | exact len_ub (by assumption) | simp [*])) ?_
              refine R.gyes rfl rfl ?_
              refine R.call ⟨_, _, Try.func49, rfl, by kernel_rfl⟩ rfl rfl (contains_any ad7 _ _ _ y _ (hs7.keep0 hm11) (by omega) hyl') ?_
              rintro _ w5 ⟨rfl, m5⟩
              refine R.gyes rfl rfl ?_
              refine R.ev rfl (E.not rfl) ?_
              refine R.ev rfl (E.pickT rfl rfl) ?_
              refine R.done ?_
              refine X.keep [(0, _), (4, _), (6, _), (8, _), (25, _), (26, _), (27, _), (42, _)] ⟨rfl, rfl, rfl, rfl, rfl, rfl, rfl, rfl, trivial⟩ ?_
              refine X.cut (()) ⟨lkV rfl ?_, rfl, rfl, rfl, rfl, rfl, rfl, rfl, trivial⟩ ?_
              all_goals first | exact m5 | exact Mod.refl _ _ | (simp_all [tst]; done)
            · refine R.gskip rfl rfl rfl ?_
              refine R.gskip rfl rfl rfl ?_
              refine R.gskip rfl rfl rfl ?_
              refine R.gskip rfl rfl rfl ?_
              refine R.ev rfl (E.pickF rfl rfl) ?_
              refine R.done ?_
              refine X.keep [(0, _), (4, _), (6, _), (8, _), (25, _), (26, _), (27, _), (42, _)] ⟨rfl, rfl, rfl, rfl, rfl, rfl, rfl, rfl, trivial⟩ ?_
              refine X.cut (()) ⟨lkV rfl ?_, rfl, rfl, rfl, rfl, rfl, rfl, rfl, trivial⟩ ?_
              all_goals first | exact m5 | exact Mod.refl _ _ | (simp_all [tst]; done)
          · rintro _ w6 hJ'
            refine X.keep [(0, _), (4, _), (6, _), (8, _), (25, _), (26, _), (27, _), (42, _)] ⟨rfl, rfl, rfl, rfl, rfl, rfl, rfl, rfl, trivial⟩ ?_
            refine X.next ?_
            refine C.cbool rfl (fun h53 => ?_) (fun h53 => ?_)
            · have hJ := hm11.tr hJ'
              refine C.region ?_
              have hat6 := hat8.keep hJ' (by simp)
              refine R.ev rfl (E.move rfl) ?_
              refine R.ev rfl (E.loadRow rfl Try.underlying23 rfl Try.sz23 (by assumption) (by first | rfl | exact len_ub (by assumption) | simp [*])) ?_
              refine R.buildSliceA rfl Try.underlying45 Try.sz23 Try.zr23 rfl (by simp [*]) (by decide) (by decide) ?_
              intro b45 w45 n45
              refine R.append rfl rfl Try.underlying45 Try.by23 (by rfl) rfl (((hJ.tr n45.mod).own ho (by simp))) (n45.blk.at) (by simp [*]) (by simp [*, Value.oneCell']) (by omega) (by omega) (by omega) (by have := n45.mod.size; have := hJ.size; omega) ?_
              intro sv' w7 ho7 hm7 hat7 hnil7
              refine R.ev rfl (E.assign rfl) ?_
              refine R.done ?_
              refine X.keep [(0, _), (4, _), (6, _), (25, _), (26, _), (27, _)] ⟨rfl, rfl, rfl, rfl, rfl, rfl, trivial⟩ ?_
              refine X.blockNormal ?_
              refine X.next ?_
              refine C.region ?_
              refine R.ev rfl (E.add rfl rfl (by omega) (by omega)) ?_
              refine R.ev rfl (E.move rfl) ?_
              refine R.done ?_
              refine X.keep [(0, _), (4, _), (6, _), (25, _), (26, _), (27, _)] ⟨rfl, rfl, rfl, rfl, rfl, rfl, trivial⟩ ?_
              first
                | (refine X.again (k + 1, sv') ⟨rfl, rfl, rfl, rfl, rfl, rfl, trivial⟩ ⟨by omega, ?_, ((hm.tr hJ).tr n45.mod).tr' hm7 (fun x hx => by have := (hoL x (by simpa using hx)).1; omega), ((hb4.keep hJ (by simp)).keep n45.mod (by simp)).keep hm7 (fun hx => by have := (hoL _ (by simpa using hx)).1; omega), by have := hJ.size; have := n45.mod.size; have := hm7.size; omega⟩ (by show _ - _ < _ - _; omega)
                   rw [resL_snoc p hy, resF, if_pos h53, List.flatMap_append, List.length_append]
                   simpa using ho7)
                | (refine X.again (k + 1, _) ⟨rfl, rfl, rfl, rfl, rfl, rfl, trivial⟩ ⟨by omega, ?_, hm.tr hJ, hb4.keep hJ (by simp), by have := hJ.size; omega⟩ (by show _ - _ < _ - _; omega)
                   rw [resL_snoc p hy, resF, if_neg (by rw [h53]; decide)]
                   exact hJ.own ho (by simp))
            · have hJ := hm11.tr hJ'
              refine C.skip ?_
              refine X.blockNormal ?_
              refine X.next ?_
              refine C.region ?_
              refine R.ev rfl (E.add rfl rfl (by omega) (by omega)) ?_
              refine R.ev rfl (E.move rfl) ?_
              refine R.done ?_
              refine X.keep [(0, _), (4, _), (6, _), (25, _), (26, _), (27, _)] ⟨rfl, rfl, rfl, rfl, rfl, rfl, trivial⟩ ?_
              first
                | (refine X.again (k + 1, sv') ⟨rfl, rfl, rfl, rfl, rfl, rfl, trivial⟩ ⟨by omega, ?_, ((hm.tr hJ).tr n45.mod).tr' hm7 (fun x hx => by have := (hoL x (by simpa using hx)).1; omega), ((hb4.keep hJ (by simp)).keep n45.mod (by simp)).keep hm7 (fun hx => by have := (hoL _ (by simpa using hx)).1; omega), by have := hJ.size; have := n45.mod.size; have := hm7.size; omega⟩ (by show _ - _ < _ - _; omega)
                   rw [resL_snoc p hy, resF, if_pos h53, List.flatMap_append, List.length_append]
                   simpa using ho7)
                | (refine X.again (k + 1, _) ⟨rfl, rfl, rfl, rfl, rfl, rfl, trivial⟩ ⟨by omega, ?_, hm.tr hJ, hb4.keep hJ (by simp), by have := hJ.size; omega⟩ (by show _ - _ < _ - _; omega)
                   rw [resL_snoc p hy, resF, if_neg (by rw [h53]; decide)]
                   exact hJ.own ho (by simp))
        · refine C.exit ?_
          refine X.thenExit ?_
          refine X.loopExit ?_
          refine X.blockExit ?_
          refine X.next ?_
          refine C.seq ?_
          refine C.seq ?_
          refine C.region ?_
          have e : k = n := by omega
          subst e
          have hTk : L.take k = L := List.take_of_length_le (by omega)
          have hlen : (resL p (L.take k)).length = (resL p L).length := by rw [hTk]
          have hR : resolveR p L = if (resL p L).length = 0 then (zid, 8) else if (resL p L).length = 1 then ((resL p L).headD zid, 0) else (zid, 7) := by rw [resolveR, if_neg (by omega), if_neg (by omega), if_neg (by rw [h20]; decide)]
          rw [hR]
          refine R.ev rfl (E.move rfl) ?_
          refine R.ev rfl (E.lenSl rfl Try.underlying45) ?_
          refine R.done ?_
          refine X.keep [(4, _), (6, _), (49, _)] ⟨rfl, rfl, rfl, trivial⟩ ?_
          refine X.next ?_
          refine C.block ?_
          refine C.seq ?_
          refine C.region ?_
          refine R.ev rfl (E.eql rfl rfl) ?_
          refine R.ev rfl (E.assign rfl) ?_
          refine R.done ?_
          refine X.keep [(4, _), (6, _), (49, _), (50, _)] ⟨rfl, rfl, rfl, rfl, trivial⟩ ?_
          refine X.next ?_
          refine C.cdec rfl (fun h63 => ?_) (fun h63 => ?_)
          · refine C.seq ?_
            refine C.region ?_
            refine R.ev rfl (E.buildA rfl Try.underlying23 Try.zr23 Try.sz5 rfl) ?_
            refine R.storeAll rfl rfl Try.sz23 (hb4) (by first | rfl | exact len_ub (by assumption) | simp [*]) (by first | rfl | exact len_ub (by assumption) | simp [*]) (by first | exact ub_all _ | simp [Value.oneCell']) ?_
            intro w5 k5 m5 s5
            refine R.ev rfl (E.assign rfl) ?_
            refine R.done ?_
            refine X.keep [(4, _), (5, _)] ⟨rfl, rfl, trivial⟩ ?_
            refine X.next ?_
            refine C.ret ?_
            refine X.blockRet ?_
            refine X.thenRet ?_
            refine X.retCT rfl rfl rfl Try.underlying23 rfl Try.sz23 (k5.at) (by first | rfl | exact len_ub (by assumption) | simp [*]) ?_
            rw [if_pos (by omega)]
            exact ⟨rfl, hm.tr' m5 (by intro x hx; simp at hx; subst hx; omega)⟩
          · refine C.seq ?_
            refine C.region ?_
            refine R.ev rfl (E.eql rfl rfl) ?_
            refine R.ev rfl (E.assign rfl) ?_
            refine R.done ?_
            refine X.keep [(4, _), (6, _), (53, _)] ⟨rfl, rfl, rfl, trivial⟩ ?_
            refine X.next ?_
            refine C.cdec rfl (fun h66 => ?_) (fun h66 => ?_)
            · have h1 : (resL p L).length = 1 := by omega
              obtain ⟨y, hy⟩ := List.length_eq_one_iff.1 h1
              rw [hTk, hy] at hs7
              have hyl' : y.length = 32 := by simpa using hs7.size y (by simp)
              obtain ⟨b, off, rfl, hat, _⟩ := hs7.get (i := 0) (y := y) rfl
              refine C.seq ?_
              refine C.region ?_
              refine R.ev rfl (E.move rfl) ?_
              refine R.ev rfl (E.indexAddr (i := 0) rfl rfl Try.underlying45 Try.sz23 rfl (by omega)) ?_
              refine R.ev rfl (E.loadRow rfl Try.underlying23 rfl Try.sz23 (by assumption) (by first | rfl | exact len_ub (by assumption) | simp [*])) ?_
              refine R.storeAll rfl rfl Try.sz23 (hb4) (by first | rfl | exact len_ub (by assumption) | simp [*]) (by first | rfl | exact len_ub (by assumption) | simp [*]) (by first | exact ub_all _ | simp [Value.oneCell']) ?_
              intro w5 k5 m5 s5
              refine R.ev rfl (E.assign rfl) ?_
              refine R.done ?_
              refine X.keep [(4, _), (5, _)] ⟨rfl, rfl, trivial⟩ ?_
              refine X.next ?_
              refine C.ret ?_
              refine X.blockRet ?_
              refine X.thenRet ?_
              refine X.retCT rfl rfl rfl Try.underlying23 rfl Try.sz23 (k5.at) (by first | rfl | exact len_ub (by assumption) | simp [*]) ?_
              rw [if_neg (by omega), if_pos h1, hy]
              exact ⟨rfl, hm.tr' m5 (by intro x hx; simp at hx; subst hx; omega)⟩
            · refine C.skip ?_
              refine X.blockNormal ?_
              refine X.next ?_
              refine C.seq ?_
              refine C.region ?_
              refine R.ev rfl (E.buildA rfl Try.underlying23 Try.zr23 Try.sz5 rfl) ?_
              refine R.storeAll rfl rfl Try.sz23 (hb4) (by first | rfl | exact len_ub (by assumption) | simp [*]) (by first | rfl | exact len_ub (by assumption) | simp [*]) (by first | exact ub_all _ | simp [Value.oneCell']) ?_
              intro w5 k5 m5 s5
              refine R.ev rfl (E.assign rfl) ?_
              refine R.done ?_
              refine X.keep [(4, _), (5, _)] ⟨rfl, rfl, trivial⟩ ?_
              refine X.next ?_
              refine C.ret ?_
              refine X.retCT rfl rfl rfl Try.underlying23 rfl Try.sz23 (k5.at) (by first | rfl | exact len_ub (by assumption) | simp [*]) ?_
              rw [if_neg (by omega), if_neg (by omega)]
              exact ⟨rfl, hm.tr' m5 (by intro x hx; simp at hx; subst hx; omega)⟩
end Go.Proofs.Ytkmgmdgkphckgaa
