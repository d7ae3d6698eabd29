/-
  bulletinlaw11.known returns true; parsing what was printed.
-/
import Derived.Test.YtkmgmdgkphckgaaParse
namespace Go.Proofs.Ytkmgmdgkphckgaa
open Go.Eng Go.RowKit

theorem hexc_hx : ∀ n : Nat, n < 16 → isHx (hexc n) = true ∧ hv (hexc n) = n := by decide
theorem unhex_hex : ∀ (a : List UInt8), unhexL (hexL a) = a
  | [] => rfl
  | b :: a => by
    have h1 := (hexc_hx (b.toNat / 16) (by have := b.toNat_lt; omega)).2
    have h2 := (hexc_hx (b.toNat % 16) (by omega)).2
    simp only [hexL, unhexL, h1, h2, unhex_hex a]
    congr 1
    rw [show 16 * (b.toNat / 16) + b.toNat % 16 = b.toNat by omega]
    simp
theorem hexL_get {a : List UInt8} {k : Nat} (h : k < 2 * a.length) : isHx ((hexL a).getD k 0) = true := by
  induction a generalizing k with
  | nil => simp at h
  | cons b a ih =>
    have h1 := (hexc_hx (b.toNat / 16) (by have := b.toNat_lt; omega)).1
    have h2 := (hexc_hx (b.toNat % 16) (by omega)).1
    match k with
    | 0 => simpa [hexL] using h1
    | 1 => simpa [hexL] using h2
    | k + 2 =>
      have := ih (k := k) (by simp at h; omega)
      simpa [hexL] using this
theorem findFrom_none_of {p : Nat → Bool} : ∀ (f k : Nat), (∀ i, k ≤ i → i < k + f → p i = false) → findFrom p f k = none
  | 0, _, _ => rfl
  | f + 1, k, h => by
    unfold findFrom
    rw [if_neg (by rw [h k (by omega) (by omega)]; decide)]
    exact findFrom_none_of f (k + 1) (fun i h1 h2 => h i (by omega) (by omega))
theorem printL_len (a : List UInt8) : (printL a).length = 2 * a.length + 7 := by simp [printL, prefixL, tailL, hexL_len]
theorem printL_get {a : List UInt8} (k : Nat) : (printL a).getD k 0 = if k < 1 then 60 else if k < 2 * a.length + 1 then (hexL a).getD (k - 1) 0 else tailL.getD (k - (2 * a.length + 1)) 0 := by
  have hl := hexL_len a
  unfold printL prefixL
  cases k with
  | zero => simp
  | succ k =>
    rw [if_neg (by omega)]
    simp only [List.cons_append, List.nil_append, List.getD_cons_succ]
    split
    · rename_i h
      simp only [List.getD_eq_getElem?_getD]
      rw [List.getElem?_append_left (by omega)]; simp
    · rename_i h
      simp only [List.getD_eq_getElem?_getD]
      rw [List.getElem?_append_right (by omega)]
      rw [show k + 1 - (2 * a.length + 1) = k - (hexL a).length by omega]
theorem print_mid (a : List UInt8) (ha : a.length = 32) : ((printL a).drop 1).take 64 = hexL a := by
  have hl := hexL_len a
  unfold printL prefixL
  simp
  rw [List.take_append_of_le_length (by omega), List.take_of_length_le (by omega)]
theorem parse_print (a : List UInt8) (ha : a.length = 32) : parseR (printL a) = (a, 0, 0) := by
  have hpl := printL_len a
  have hn : findFrom (unfit (printL a)) (min (printL a).length 71) 0 = none := by
    refine findFrom_none_of _ _ (fun i _ hi => ?_)
    unfold unfit
    rw [printL_get]
    unfold fitsB
    by_cases h1 : i < 1
    · simp [h1]
    · rw [if_neg h1, if_neg h1]
      by_cases h2 : i < 65
      · rw [if_pos h2, if_pos (by omega), hexL_get (by omega)]; rfl
      · rw [if_neg h2, if_neg (by omega), ha]; simp
  unfold parseR
  rw [hn]
  simp only []
  rw [if_neg (by omega), if_neg (by omega), print_mid a ha, unhex_hex]

def id10 : List UInt8 := List.replicate 31 0 ++ [10]
def id1 : List UInt8 := 1 :: List.replicate 31 0

set_option maxRecDepth 10000 in
theorem known_any (w : World) : Ret Try.prog 15 #[] w fun v w' => v = .bool true ∧ Mod [] w w' := by
  have h10 : id10.length = 32 := rfl
  refine Ret.enter (n := 68) (args := []) Try.func15 rfl rfl ?_
  refine C.keep [] trivial ?_
  refine C.seq ?_
  refine C.region ?_
  refine R.ev rfl (E.assign rfl) ?_
  refine R.done ?_
  refine X.keep [] trivial ?_
  refine X.next ?_
  refine C.seq ?_
  refine C.region ?_
  refine R.ev rfl ((E.buildA (cs := (id10.map ub).toArray) rfl Try.underlying23 Try.zr23 Try.sz5 (by rfl))) ?_
  refine R.call ⟨_, _, Try.func13, rfl, by kernel_rfl⟩ rfl rfl (print_any id10 _ rfl) ?_
  rintro _ w1 ⟨rfl, m1⟩
  refine R.ev rfl (E.assign rfl) ?_
  refine R.done ?_
  refine X.keep [(1, _)] ⟨rfl, trivial⟩ ?_
  refine X.next ?_
  refine C.seq ?_
  refine C.region ?_
  refine R.ev rfl (E.move rfl) ?_
  refine R.call ⟨_, _, Try.func14, rfl, by kernel_rfl⟩ rfl rfl (parse_any (printL id10) _ (by decide)) ?_
  rw [parse_print id10 rfl]
  rintro _ w3 ⟨rfl, m3⟩
  refine R.ev rfl (E.move rfl) ?_
  refine R.ev rfl (E.extract rfl rfl) ?_
  refine R.ev rfl (E.extract rfl rfl) ?_
  refine R.ev rfl (E.extract rfl rfl) ?_
  refine R.allocA Try.zr23 rfl ?_
  intro b2 w2 n2
  refine R.storeAll rfl rfl Try.sz23 (n2.blk) (by first | rfl | exact len_ub (by assumption) | simp [*]) (by first | rfl | exact len_ub (by assumption) | simp [*]) (by first | exact ub_all _ | simp [Value.oneCell']) ?_
  intro w4 k4 m4 s4
  refine R.ev rfl (E.assign rfl) ?_
  refine R.ev rfl (E.assign rfl) ?_
  refine R.done ?_
  refine X.keep [(1, _), (2, _), (4, _)] ⟨rfl, rfl, rfl, trivial⟩ ?_
  refine X.next ?_
  refine C.seq ?_
  refine C.region ?_
  refine R.call ⟨_, _, Try.func21, rfl, by kernel_rfl⟩ rfl rfl (site_any [97, 46, 46, 98] _ (by decide)) ?_
  rintro _ _ ⟨rfl, rfl⟩
  refine R.ev rfl (E.move rfl) ?_
  refine R.ev rfl (E.extract rfl rfl) ?_
  refine R.ev rfl (E.extract rfl rfl) ?_
  refine R.ev rfl (E.assign rfl) ?_
  refine R.ev rfl (E.assign rfl) ?_
  refine R.done ?_
  refine X.keep [(1, _), (2, _), (4, _), (5, _), (6, _)] ⟨rfl, rfl, rfl, rfl, rfl, trivial⟩ ?_
  refine X.next ?_
  refine C.seq ?_
  refine C.region ?_
  refine R.call ⟨_, _, Try.func21, rfl, by kernel_rfl⟩ rfl rfl (site_any [110, 101, 119, 115, 46, 101, 120, 97, 109, 112, 108, 101, 45, 49] _ (by decide)) ?_
  rintro _ _ ⟨rfl, rfl⟩
  refine R.ev rfl (E.move rfl) ?_
  refine R.ev rfl (E.extract rfl rfl) ?_
  refine R.ev rfl (E.extract rfl rfl) ?_
  refine R.ev rfl (E.assign rfl) ?_
  refine R.ev rfl (E.assign rfl) ?_
  refine R.done ?_
  refine X.keep [(1, _), (2, _), (4, _), (5, _), (6, _), (7, _), (8, _)] ⟨rfl, rfl, rfl, rfl, rfl, rfl, rfl, trivial⟩ ?_
  refine X.next ?_
  refine C.seq ?_
  refine C.region ?_
  refine R.ev rfl (E.move rfl) ?_
  refine R.ev rfl (E.lenStr rfl Try.underlying9) ?_
  refine R.ev rfl ((E.eql rfl rfl).isT (by decide)) ?_
  refine R.ev rfl (E.move rfl) ?_
  refine R.gyes rfl rfl ?_
  refine R.ev rfl (E.move rfl) ?_
  refine R.gyes rfl rfl ?_
  refine R.ev rfl (E.ssliceL (a := 63) rfl rfl Try.underlying9 rfl (by decide)) ?_
  refine R.gyes rfl rfl ?_
  refine R.ev rfl ((E.seql rfl rfl).isT (by decide)) ?_
  refine R.ev rfl (E.pickT rfl rfl) ?_
  refine R.ev rfl (E.move rfl) ?_
  refine R.gyes rfl rfl ?_
  refine R.ev rfl (E.move rfl) ?_
  refine R.gyes rfl rfl ?_
  refine R.ev rfl ((E.eql rfl rfl).isT rfl) ?_
  refine R.ev rfl (E.pickT rfl rfl) ?_
  refine R.ev rfl (E.move rfl) ?_
  refine R.gyes rfl rfl ?_
  refine R.ev rfl (E.loadRow rfl Try.underlying23 rfl Try.sz23 k4.at rfl) ?_
  refine R.gyes rfl rfl ?_
  refine R.ev rfl ((E.buildA (cs := (id10.map ub).toArray) rfl Try.underlying23 Try.zr23 Try.sz5 (by rfl))) ?_
  refine R.gyes rfl rfl ?_
  refine R.ev rfl ((E.eqId (a := id10) (b := id10) 10 32 rfl rfl Try.lv23 rfl Try.underlying23 rfl Try.gd23 rfl rfl).isT rfl) ?_
  refine R.ev rfl (E.pickT rfl rfl) ?_
  refine R.ev rfl (E.move rfl) ?_
  refine R.gyes rfl rfl ?_
  refine R.ev rfl (E.move rfl) ?_
  refine R.gyes rfl rfl ?_
  refine R.ev rfl ((E.eql rfl rfl).isT (by decide)) ?_
  refine R.ev rfl (E.pickT rfl rfl) ?_
  refine R.ev rfl (E.move rfl) ?_
  refine R.gyes rfl rfl ?_
  refine R.ev rfl (E.move rfl) ?_
  refine R.gyes rfl rfl ?_
  refine R.ev rfl ((E.eql rfl rfl).isT (by decide)) ?_
  refine R.ev rfl (E.pickT rfl rfl) ?_
  refine R.ev rfl (E.move rfl) ?_
  refine R.gyes rfl rfl ?_
  refine R.ev rfl (E.move rfl) ?_
  refine R.gyes rfl rfl ?_
  refine R.ev rfl ((E.eql rfl rfl).isT (by decide)) ?_
  refine R.ev rfl (E.pickT rfl rfl) ?_
  refine R.ev rfl (E.move rfl) ?_
  refine R.gyes rfl rfl ?_
  refine R.ev rfl (E.move rfl) ?_
  refine R.gyes rfl rfl ?_
  refine R.ev rfl ((E.eql rfl rfl).isT (by decide)) ?_
  refine R.ev rfl (E.pickT rfl rfl) ?_
  refine R.ev rfl (E.move rfl) ?_
  refine R.gyes rfl rfl ?_
  refine R.ev rfl ((E.buildA (cs := (zid.map ub).toArray) rfl Try.underlying23 Try.zr23 Try.sz5 (by rfl))) ?_
  refine R.gyes rfl rfl ?_
  refine R.call ⟨_, _, Try.func18, rfl, by kernel_rfl⟩ rfl rfl (isZero_any zid _ rfl) ?_
  rintro _ w5 ⟨rfl, m5⟩
  refine R.slot 60 (.bool true) rfl rfl ?_
  refine R.ev rfl (E.pickT rfl rfl) ?_
  refine R.ev rfl (E.move rfl) ?_
  refine R.gyes rfl rfl ?_
  refine R.ev rfl ((E.buildA (cs := (zid.map ub).toArray) rfl Try.underlying23 Try.zr23 Try.sz5 (by rfl))) ?_
  refine R.gyes rfl rfl ?_
  refine R.ev rfl ((E.buildA (cs := (id1.map ub).toArray) rfl Try.underlying23 Try.zr23 Try.sz5 (by rfl))) ?_
  refine R.gyes rfl rfl ?_
  refine R.call ⟨_, _, Try.func19, rfl, by kernel_rfl⟩ rfl rfl (compare_any zid id1 _ rfl rfl) ?_
  rintro _ w6 ⟨rfl, m6⟩
  refine R.gyes rfl rfl ?_
  refine R.ev rfl ((E.eql rfl rfl).isT (by decide)) ?_
  refine R.ev rfl (E.pickT rfl rfl) ?_
  refine R.ev rfl (E.assign rfl) ?_
  refine R.done ?_
  refine X.keep [(0, _)] ⟨rfl, trivial⟩ ?_
  refine X.next ?_
  refine C.ret ?_
  refine X.ret1 rfl rfl ?_
  have hge := n2.ge
  have := m1.size
  have := m3.size
  exact ⟨rfl, ((((m1.tr m3).tr n2.mod).tr' m4 (by intro x hx; simp at hx; subst hx; omega)).tr m5).tr m6⟩
end Go.Proofs.Ytkmgmdgkphckgaa
