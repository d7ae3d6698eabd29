/-
  Chapter 41: the reference's Successors and Path; pick.
-/
import Derived.Test.YtmjmichghfepkaaSupY
namespace Go.Proofs.Ytmjmichghfepkaa
open Go.Eng Go.RowKit Go.Sort
variable {K : Kn} {Hs Rs : List Hl} {F : Hl} {w : World} {v : Value} {L : List RR}
def encN (n : Nat) : List Value := [.int .i64 (n : Int)]
instance : Enc encN 1 := ⟨fun _ => rfl, fun o u hu => by simp [encN] at hu; subst hu; rfl⟩
def rowAt (L : List RR) (j : Nat) : RR := (L[j]?).getD rz
def rowsOf (L : List RR) (J : List Nat) : List RR := J.map (rowAt L)
theorem rowAt_eq {j : Nat} {x : RR} (h : L[j]? = some x) : rowAt L j = x := by rw [rowAt, h]; rfl
theorem ssB_ins {l : List RR} {a : Nat} {y : RR} (h : SS ltB l) (h1 : ∀ z ∈ l.take a, ltB z y = true) (h2 : ∀ z ∈ l.drop a, ltB y z = true) : SS ltB (l.take a ++ [y] ++ l.drop a) := by
  have h0 := h
  rw [SS, ← List.take_append_drop a l, List.pairwise_append] at h0
  obtain ⟨p1, p2, p3⟩ := h0
  rw [SS, List.append_assoc, List.pairwise_append]
  refine ⟨p1, ?_, fun z hz u hu => ?_⟩
  · rw [List.singleton_append, List.pairwise_cons]
    exact ⟨h2, p2⟩
  · rw [List.singleton_append, List.mem_cons] at hu
    rcases hu with rfl | hu
    · exact h1 z hz
    · exact p3 z hz u hu
theorem rsucc_any {i : Nat} {x : RR} (hn : (L.map RR.id).Nodup) (hx : L[i]? = some x) (hs : Sat K w Hs) [hr : KRow encR 82 K v L] (hL : L.length ≤ 100000) : Ret Try.prog 41 #[v, .int .i64 (i : Nat)] w fun r w' => ∃ K' J, KLe K K' ∧ KRow encN 1 K' r J ∧ (∀ j ∈ J, j < L.length) ∧ SS ltB (rowsOf L J) ∧ (∀ y, y ∈ rowsOf L J ↔ y ∈ succs L x) ∧ Sat K' w' Hs := by
  obtain ⟨ad, cap, rfl, hsl, hc⟩ := hr.ex
  have hi := (List.getElem?_eq_some_iff.1 hx).1
  obtain ⟨x', bk, of, hx', mx, lx, rfl, Ax⟩ := (hs.to (Hs := [])).el (i := i) (ad := ad) (n := L.length) (c := cap) hi
  obtain rfl : x = x' := by rw [hx] at hx'; simpa using hx'
  have elL : ∀ {K1 : Kn} {w1 : World} {j : Nat} {z : RR}, KLe K K1 → Sat K1 w1 Hs → L[j]? = some z → ∀ w', Sat K1 w' [] → At w' bk (of + j * 82) (encR z) := fun hk1 hs1 hz => by
    have : KRow encR 82 _ (.slice (some ⟨bk, of, none⟩) L.length cap) L := KRow.mono (k := hk1) (h := hr)
    exact (hs1.to (Hs := [])).elAt (b := bk) (off := of) (n := L.length) cap hz
  refine Ret.enter (n := 97) (args := [.slice (some ⟨bk, of, none⟩) L.length cap, .int .i64 (i : Nat)]) Try.func41 rfl rfl ?_
  refine C.keep [(0, _), (1, _)] ⟨rfl, rfl, trivial⟩ ?_
  refine C.seq ?_
  refine C.region ?_
  refine R.ev rfl (E.assign rfl) ?_
  refine R.done ?_
  refine X.keep [(0, _), (1, _)] ⟨rfl, rfl, trivial⟩ ?_
  refine X.next ?_
  refine C.seq ?_
  refine C.region ?_
  refine R.ev rfl (E.assign rfl) ?_
  refine R.done ?_
  refine X.keep [(0, _), (1, _), (5, _)] ⟨rfl, rfl, rfl, trivial⟩ ?_
  refine X.next ?_
  refine C.seq ?_
  refine C.seq ?_
  refine C.region ?_
  refine R.ev rfl (E.assign rfl) ?_
  refine R.done ?_
  refine X.keep [(0, _), (1, _), (5, _), (6, _)] ⟨rfl, rfl, rfl, rfl, trivial⟩ ?_
  refine X.next ?_
  refine C.block ?_
  refine C.loop (T := Nat × Kn × List Nat × Value) [(0, _), (1, _)] (fun (k, _, _, v) => [(5, v), (6, .int .i64 (k : Nat))]) (fun (k, K1, Jo, v) w' => k ≤ L.length ∧ Jo.length ≤ k ∧ (∀ j ∈ Jo, j < k) ∧ SS ltB (rowsOf L Jo) ∧ (∀ y, y ∈ rowsOf L Jo ↔ y ∈ (L.take k).filter (valid x)) ∧ KLe K K1 ∧ KRow encN 1 K1 v Jo ∧ Sat K1 w' Hs) (fun (k, _) => L.length - k) ((0, K, [], .slice none 0 0)) ⟨rfl, rfl, rfl, rfl, trivial⟩ ⟨Nat.zero_le _, Nat.zero_le _, by simp, by simp [rowsOf, SS], by simp [rowsOf], KLe.refl K, KRow.nil, hs⟩ ?_
  rintro ⟨k, K1, Jo, v1⟩ w1 ⟨hk, hlo, hjb, hss, hmem, hk1, hr1, hs⟩
  obtain ⟨ad1, cap1, rfl, hsl1, hc1⟩ := hr1.ex
  have Ax1 := elL hk1 hs hx
  refine C.keep [(0, _), (1, _), (5, _), (6, _)] ⟨rfl, rfl, rfl, rfl, trivial⟩ ?_
  refine C.seq ?_
  refine C.seq ?_
  refine C.region ?_
  refine R.ev rfl (E.move rfl) ?_
  refine R.ev rfl (E.move rfl) ?_
  refine R.ev rfl (E.lenSl rfl Try.underlying22) ?_
  refine R.ev rfl (E.lss rfl rfl) ?_
  refine R.done ?_
  refine X.keep [(0, _), (1, _), (5, _), (6, _), (12, _)] ⟨rfl, rfl, rfl, rfl, rfl, trivial⟩ ?_
  refine X.next ?_
  refine C.cdec rfl (fun h12 => ?_) (fun h12 => ?_)
  obtain ⟨y, hy⟩ : ∃ y, L[k]? = some y := ⟨_, List.getElem?_eq_getElem (by omega)⟩
  have Ay := elL hk1 hs hy
  have hsn : (L.take (k + 1)).filter (valid x) = (L.take k).filter (valid x) ++ if valid x y then [y] else [] := by rw [take_snoc hy, List.filter_append]; cases hv : valid x y <;> simp [hv]
  refine C.skip ?_
  refine X.next ?_
  refine C.seq ?_
  refine C.block ?_
  refine C.seq ?_
  refine C.seq ?_
  refine C.drawn (SatS hs) ([3, 7], [0, 1, 2, 4, 5, 6, 9]) (by kernel_rfl) ?_
  have hs := hs.drew
  refine D.evP 0 rfl (by kernel_rfl) rfl (fun _ => hs.to) (fun _ => E.move rfl) ?_
  refine D.evP 1 rfl (by kernel_rfl) rfl (fun _ => hs.to) (fun _ => E.move rfl) ?_
  refine D.evP 2 rfl (by kernel_rfl) rfl (fun _ => hs.to) (fun _ => E.indexAddr (i := i) rfl rfl Try.underlying22 Try.sz26 rfl (by omega)) ?_
  refine D.evP 4 rfl (by kernel_rfl) rfl (fun _ => hs.to) (fun _ => E.move rfl) ?_
  refine D.evP 5 rfl (by kernel_rfl) rfl (fun _ => hs.to) (fun _ => E.move rfl) ?_
  refine D.evP 6 rfl (by kernel_rfl) rfl (fun _ => hs.to) (fun _ => E.indexAddr (i := k) rfl rfl Try.underlying22 Try.sz26 rfl (by omega)) ?_
  refine D.ev 3 rfl (by kernel_rfl) rfl hs.to (fun _ hS => E.loadRow rfl Try.underlying26 rfl Try.sz26 (Ax1 _ hS.to) (Enc.len _)) ?_
  refine D.ev 7 rfl (by kernel_rfl) rfl hs.to (fun _ hS => E.loadRow rfl Try.underlying26 rfl Try.sz26 (Ay _ hS.to) (Enc.len _)) ?_
  refine D.act 8 rfl (by kernel_rfl) ?_
  refine R.call ⟨_, _, Try.func19, rfl, by kernel_rfl⟩ rfl rfl (rvalid_any x y hs) ?_
  rintro _ w5 ⟨rfl, hs⟩
  refine D.backT (by kernel_rfl) ?_
  refine D.evP 9 rfl (by kernel_rfl) rfl (np (by kernel_rfl)) (fun _ => (E.not rfl).isB (c := !(valid x y)) rfl) ?_
  refine D.done rfl (by kernel_rfl) ?_
  refine X.keep [(0, _), (1, _), (5, _), (6, _), (24, _)] ⟨rfl, rfl, rfl, rfl, rfl, trivial⟩ ?_
  refine X.next ?_
  refine C.cbool rfl (fun h24 => ?_) (fun h24 => ?_)
  have h24' : valid x y = false := by simpa using h24
  have hnx : Jo.length ≤ k + 1 ∧ (∀ j ∈ Jo, j < k + 1) ∧ SS ltB (rowsOf L Jo) ∧ (∀ y, y ∈ rowsOf L Jo ↔ y ∈ (L.take (k + 1)).filter (valid x)) ∧ KLe K K1 ∧ KRow encN 1 K1 (.slice ad1 Jo.length cap1) Jo := ⟨by omega, fun j hj => by have := hjb j hj; omega, hss, fun a => by rw [hsn, h24']; simpa using hmem a, hk1, hr1⟩
  generalize hvn : Value.slice ad1 Jo.length cap1 = vn at hnx ⊢
  obtain ⟨K2, Jn, hK2, hJn⟩ : ∃ K2 Jn, K2 = K1 ∧ Jn = Jo := ⟨_, _, rfl, rfl⟩
  rw [← hK2, ← hJn] at hnx
  have hs : Sat K2 w5 Hs := by rw [hK2]; exact hs
  refine C.exit ?_
  refine X.thenExit ?_
  refine X.blockExit ?_
  refine X.next ?_
  refine C.region ?_
  refine R.ev rfl (E.move rfl) ?_
  refine R.ev rfl (E.add rfl rfl (by omega) (by omega)) ?_
  refine R.ev rfl (E.assign rfl) ?_
  refine R.done ?_
  refine X.keep [(0, _), (1, _), (5, _), (6, _)] ⟨rfl, rfl, rfl, rfl, trivial⟩ ?_
  exact X.again (k + 1, K2, Jn, vn) ⟨rfl, rfl, rfl, rfl, trivial⟩ ⟨by omega, hnx.1, hnx.2.1, hnx.2.2.1, hnx.2.2.2.1, hnx.2.2.2.2.1, hnx.2.2.2.2.2, hs⟩ (by show _ - _ < _ - _; omega)
  have h24' : valid x y = true := by simpa using h24
  have hyn : ∀ u ∈ rowsOf L Jo, u.id ≠ y.id := fun u hu e0 => by
    have hz2 := (List.mem_filter.1 ((hmem _).1 hu)).1
    have h0 := hn
    rw [← List.take_append_drop k L, List.map_append, List.nodup_append] at h0
    exact h0.2.2 u.id (List.mem_map.2 ⟨u, hz2, rfl⟩) y.id (by rw [chk_at hy]; simp) e0
  have hrl : (rowsOf L Jo).length = Jo.length := by simp [rowsOf]
  refine C.skip ?_
  refine X.next ?_
  refine C.seq ?_
  refine C.region ?_
  refine R.ev rfl (E.move rfl) ?_
  refine R.ev rfl (E.lenSl rfl Try.underlying70) ?_
  refine R.ev rfl (E.assign rfl) ?_
  refine R.done ?_
  refine X.keep [(0, _), (1, _), (5, _), (6, _), (7, _)] ⟨rfl, rfl, rfl, rfl, rfl, trivial⟩ ?_
  refine X.next ?_
  refine C.seq ?_
  refine C.block ?_
  refine C.loop  [(0, _), (1, _), (5, _), (6, _)] (fun a => [(7, .int .i64 (a : Nat))]) (fun a w' => a ≤ Jo.length ∧ (∀ j z, a ≤ j → (rowsOf L Jo)[j]? = some z → ltB y z = true) ∧ Sat K1 w' Hs) (fun a => a) (Jo.length) ⟨rfl, rfl, rfl, rfl, rfl, trivial⟩ ⟨Nat.le_refl _, fun j z h1 h2 => by have := (List.getElem?_eq_some_iff.1 h2).1; omega, hs⟩ ?_
  rintro a w2 ⟨ha, hgt, hs⟩
  refine C.keep [(0, _), (1, _), (5, _), (6, _), (7, _)] ⟨rfl, rfl, rfl, rfl, rfl, trivial⟩ ?_
  refine C.seq ?_
  refine C.seq ?_
  refine C.drawn (SatS hs) ([7, 13, 16, 23, 29, 32, 39, 45, 48], [0, 1, 2, 3, 4, 5, 6, 8, 9, 10, 11, 12, 14, 15, 17, 18, 19, 20, 21, 22, 24, 25, 26, 27, 28, 30, 31, 33, 34, 35, 36, 37, 38, 40, 41, 42, 43, 44, 46, 47, 50, 51, 52]) (by kernel_rfl) ?_
  have hs := hs.drew
  refine D.evP 0 rfl (by kernel_rfl) rfl (fun _ => hs.to) (fun _ => E.move rfl) ?_
  refine D.evP 1 rfl (by kernel_rfl) rfl (fun _ => hs.to) (fun _ => E.gtr rfl rfl) ?_
  refine D.evP 2 rfl (by kernel_rfl) rfl (fun _ => hs.to) (fun _ => E.move rfl) ?_
  refine D.split 29 rfl (fun h29 => ?_) (fun h29 => ?_)
  have ha0 : 0 < a := by have := of_decide_eq_true h29; omega
  obtain ⟨jz, bk_j, of_j, hj, mj, lj, rfl, Aj0⟩ := (hs.to (Hs := [])).el (i := a - 1) (ad := ad1) (n := Jo.length) (c := cap1) (by omega)
  have Aj : ∀ w', Sat K1 w' [] → w'.cell? ⟨bk_j, of_j + (a - 1) * 1, none⟩ = some (.int .i64 (jz : Int)) := fun w' h => Aj0 w' h 0 _ rfl
  have hjl : jz < L.length := by have := hjb jz mj; omega
  obtain ⟨z, hz⟩ : ∃ z, L[jz]? = some z := ⟨_, List.getElem?_eq_getElem hjl⟩
  have Az := elL hk1 hs hz
  have hzS : (rowsOf L Jo)[a - 1]? = some z := by rw [rowsOf, List.getElem?_map, hj, Option.map_some, rowAt_eq hz]
  refine D.evPG 3 rfl (by kernel_rfl) rfl rfl rfl (fun _ => hs.to) (fun _ => E.move rfl) ?_
  refine D.evPG 4 rfl (by kernel_rfl) rfl rfl rfl (fun _ => hs.to) (fun _ => E.move rfl) ?_
  refine D.evPG 5 rfl (by kernel_rfl) rfl rfl rfl (fun _ => hs.to) (fun _ => E.indexAddr (i := k) rfl rfl Try.underlying22 Try.sz26 rfl (by omega)) ?_
  refine D.evPG 6 rfl (by kernel_rfl) rfl rfl rfl (fun _ => hs.to) (fun _ => E.fieldAddrN 48 rfl Try.underlying26 rfl Try.sz3 rfl) ?_
  refine D.evPG 8 rfl (by kernel_rfl) rfl rfl rfl (fun _ => hs.to) (fun _ => E.move rfl) ?_
  refine D.evPG 9 rfl (by kernel_rfl) rfl rfl rfl (fun _ => hs.to) (fun _ => E.move rfl) ?_
  refine D.evPG 10 rfl (by kernel_rfl) rfl rfl rfl (fun _ => hs.to) (fun _ => E.move rfl) ?_
  refine D.evPG 11 rfl (by kernel_rfl) rfl rfl rfl (fun _ => hs.to) (fun _ => (E.sub rfl rfl (by omega) (by omega)).isI (c := ((a - 1 : Nat) : Int)) (by omega)) ?_
  refine D.evPG 12 rfl (by kernel_rfl) rfl rfl rfl (fun _ => hs.to) (fun _ => E.indexAddr (i := a - 1) rfl rfl Try.underlying70 Try.sz3 rfl (by omega)) ?_
  refine D.evG 7 rfl (by kernel_rfl) rfl rfl rfl hs.to (fun _ hS => E.load1 rfl Try.underlying3 rfl (At.cellC (Ay _ hS.to))) ?_
  refine D.evG 13 rfl (by kernel_rfl) rfl rfl rfl hs.to (fun _ hS => E.load1 rfl Try.underlying3 rfl (Aj _ hS.to)) ?_
  refine D.evPG 14 rfl (by kernel_rfl) rfl rfl rfl (fun _ => hs.to) (fun _ => E.indexAddr (i := jz) rfl rfl Try.underlying22 Try.sz26 rfl (by omega)) ?_
  refine D.evPG 15 rfl (by kernel_rfl) rfl rfl rfl (fun _ => hs.to) (fun _ => E.fieldAddrN 48 rfl Try.underlying26 rfl Try.sz3 rfl) ?_
  refine D.evG 16 rfl (by kernel_rfl) rfl rfl rfl hs.to (fun _ hS => E.load1 rfl Try.underlying3 rfl (At.cellC (Az _ hS.to))) ?_
  refine D.evPG 17 rfl (by kernel_rfl) rfl rfl rfl (fun _ => hs.to) (fun _ => E.gtr rfl rfl) ?_
  refine D.evPG 18 rfl (by kernel_rfl) rfl rfl rfl (fun _ => hs.to) (fun _ => E.move rfl) ?_
  refine D.split 45 rfl (fun h45 => ?_) (fun h45 => ?_)
  refine D.skipP 19 rfl (by kernel_rfl) rfl rfl rfl (fun _ => hs.to) ?_
  refine D.skipP 20 rfl (by kernel_rfl) rfl rfl rfl (fun _ => hs.to) ?_
  refine D.skipP 21 rfl (by kernel_rfl) rfl rfl rfl (fun _ => hs.to) ?_
  refine D.skipP 22 rfl (by kernel_rfl) rfl rfl rfl (fun _ => hs.to) ?_
  refine D.skipP 24 rfl (by kernel_rfl) rfl rfl rfl (fun _ => hs.to) ?_
  refine D.skipP 25 rfl (by kernel_rfl) rfl rfl rfl (fun _ => hs.to) ?_
  refine D.skipP 26 rfl (by kernel_rfl) rfl rfl rfl (fun _ => hs.to) ?_
  refine D.skipP 27 rfl (by kernel_rfl) rfl rfl rfl (fun _ => hs.to) ?_
  refine D.skipP 28 rfl (by kernel_rfl) rfl rfl rfl (fun _ => hs.to) ?_
  refine D.skip 23 rfl (by kernel_rfl) rfl rfl rfl hs.to ?_
  refine D.skip 29 rfl (by kernel_rfl) rfl rfl rfl hs.to ?_
  refine D.skipP 30 rfl (by kernel_rfl) rfl rfl rfl (fun _ => hs.to) ?_
  refine D.skipP 31 rfl (by kernel_rfl) rfl rfl rfl (fun _ => hs.to) ?_
  refine D.skip 32 rfl (by kernel_rfl) rfl rfl rfl hs.to ?_
  refine D.skipP 33 rfl (by kernel_rfl) rfl rfl rfl (fun _ => hs.to) ?_
  refine D.skipP 34 rfl (by kernel_rfl) rfl rfl rfl (fun _ => hs.to) ?_
  refine D.undefP 35 rfl (by kernel_rfl) rfl rfl (fun _ => hs.to) ?_
  refine D.undefP 36 rfl (by kernel_rfl) rfl rfl (fun _ => hs.to) ?_
  refine D.undefP 37 rfl (by kernel_rfl) rfl rfl (fun _ => hs.to) ?_
  refine D.undefP 38 rfl (by kernel_rfl) rfl rfl (fun _ => hs.to) ?_
  refine D.undefP 40 rfl (by kernel_rfl) rfl rfl (fun _ => hs.to) ?_
  refine D.undefP 41 rfl (by kernel_rfl) rfl rfl (fun _ => hs.to) ?_
  refine D.undefP 42 rfl (by kernel_rfl) rfl rfl (fun _ => hs.to) ?_
  refine D.undefP 43 rfl (by kernel_rfl) rfl rfl (fun _ => hs.to) ?_
  refine D.undefP 44 rfl (by kernel_rfl) rfl rfl (fun _ => hs.to) ?_
  refine D.undef 39 rfl (by kernel_rfl) rfl rfl hs.to ?_
  refine D.undef 45 rfl (by kernel_rfl) rfl rfl hs.to ?_
  refine D.undefP 46 rfl (by kernel_rfl) rfl rfl (fun _ => hs.to) ?_
  refine D.undefP 47 rfl (by kernel_rfl) rfl rfl (fun _ => hs.to) ?_
  refine D.undef 48 rfl (by kernel_rfl) rfl rfl hs.to ?_
  refine D.act 49 rfl (by kernel_rfl) ?_
  refine R.gundef rfl rfl ?_
  refine D.backT (by kernel_rfl) ?_
  refine D.skipP 50 rfl (by kernel_rfl) rfl rfl rfl (np (by kernel_rfl)) ?_
  refine D.evPG 51 rfl (by kernel_rfl) rfl rfl rfl (np (by kernel_rfl)) (fun _ => E.pickT rfl rfl) ?_
  refine D.evP 52 rfl (by kernel_rfl) rfl (np (by kernel_rfl)) (fun _ => E.pickT rfl rfl) ?_
  refine D.done rfl (by kernel_rfl) ?_
  refine X.keep [(0, _), (1, _), (5, _), (6, _), (7, _), (79, _)] ⟨rfl, rfl, rfl, rfl, rfl, rfl, trivial⟩ ?_
  refine X.next ?_
  refine C.ctrue rfl ?_
  refine C.skip ?_
  refine X.next ?_
  refine C.block ?_
  refine C.region ?_
  refine R.ev rfl (E.move rfl) ?_
  refine R.ev rfl ((E.sub rfl rfl (by omega) (by omega)).isI (c := ((a - 1 : Nat) : Int)) (by omega)) ?_
  refine R.ev rfl (E.assign rfl) ?_
  refine R.done ?_
  refine X.keep [(0, _), (1, _), (5, _), (6, _), (7, _)] ⟨rfl, rfl, rfl, rfl, rfl, trivial⟩ ?_
  refine X.blockNormal ?_
  have hyz : ltB y z = true := by
    first
      | (rw [ltB_E h61]; exact h79)
      | exact ltB_T h45
  exact X.again (a - 1) ⟨rfl, rfl, rfl, rfl, rfl, trivial⟩ ⟨by omega, fun j z' h1 h2 => by
    rcases Nat.lt_or_ge j a with h | h
    · obtain rfl : j = a - 1 := by omega
      rw [hzS] at h2; simp at h2; subst h2; exact hyz
    · exact hgt j z' h h2, hs⟩ (by omega)
  refine D.evPG 19 rfl (by kernel_rfl) rfl rfl rfl (fun _ => hs.to) (fun _ => E.move rfl) ?_
  refine D.evPG 20 rfl (by kernel_rfl) rfl rfl rfl (fun _ => hs.to) (fun _ => E.move rfl) ?_
  refine D.evPG 21 rfl (by kernel_rfl) rfl rfl rfl (fun _ => hs.to) (fun _ => E.indexAddr (i := k) rfl rfl Try.underlying22 Try.sz26 rfl (by omega)) ?_
  refine D.evPG 22 rfl (by kernel_rfl) rfl rfl rfl (fun _ => hs.to) (fun _ => E.fieldAddrN 48 rfl Try.underlying26 rfl Try.sz3 rfl) ?_
  refine D.evPG 24 rfl (by kernel_rfl) rfl rfl rfl (fun _ => hs.to) (fun _ => E.move rfl) ?_
  refine D.evPG 25 rfl (by kernel_rfl) rfl rfl rfl (fun _ => hs.to) (fun _ => E.move rfl) ?_
  refine D.evPG 26 rfl (by kernel_rfl) rfl rfl rfl (fun _ => hs.to) (fun _ => E.move rfl) ?_
  refine D.evPG 27 rfl (by kernel_rfl) rfl rfl rfl (fun _ => hs.to) (fun _ => (E.sub rfl rfl (by omega) (by omega)).isI (c := ((a - 1 : Nat) : Int)) (by omega)) ?_
  refine D.evPG 28 rfl (by kernel_rfl) rfl rfl rfl (fun _ => hs.to) (fun _ => E.indexAddr (i := a - 1) rfl rfl Try.underlying70 Try.sz3 rfl (by omega)) ?_
  refine D.evG 23 rfl (by kernel_rfl) rfl rfl rfl hs.to (fun _ hS => E.load1 rfl Try.underlying3 rfl (At.cellC (Ay _ hS.to))) ?_
  refine D.evG 29 rfl (by kernel_rfl) rfl rfl rfl hs.to (fun _ hS => E.load1 rfl Try.underlying3 rfl (Aj _ hS.to)) ?_
  refine D.evPG 30 rfl (by kernel_rfl) rfl rfl rfl (fun _ => hs.to) (fun _ => E.indexAddr (i := jz) rfl rfl Try.underlying22 Try.sz26 rfl (by omega)) ?_
  refine D.evPG 31 rfl (by kernel_rfl) rfl rfl rfl (fun _ => hs.to) (fun _ => E.fieldAddrN 48 rfl Try.underlying26 rfl Try.sz3 rfl) ?_
  refine D.evG 32 rfl (by kernel_rfl) rfl rfl rfl hs.to (fun _ hS => E.load1 rfl Try.underlying3 rfl (At.cellC (Az _ hS.to))) ?_
  refine D.evPG 33 rfl (by kernel_rfl) rfl rfl rfl (fun _ => hs.to) (fun _ => E.eql rfl rfl) ?_
  refine D.evPG 34 rfl (by kernel_rfl) rfl rfl rfl (fun _ => hs.to) (fun _ => E.move rfl) ?_
  refine D.split 61 rfl (fun h61 => ?_) (fun h61 => ?_)
  refine D.evPG 35 rfl (by kernel_rfl) rfl rfl rfl (fun _ => hs.to) (fun _ => E.move rfl) ?_
  refine D.evPG 36 rfl (by kernel_rfl) rfl rfl rfl (fun _ => hs.to) (fun _ => E.move rfl) ?_
  refine D.evPG 37 rfl (by kernel_rfl) rfl rfl rfl (fun _ => hs.to) (fun _ => E.indexAddr (i := k) rfl rfl Try.underlying22 Try.sz26 rfl (by omega)) ?_
  refine D.evPG 38 rfl (by kernel_rfl) rfl rfl rfl (fun _ => hs.to) (fun _ => E.fieldAddrN 0 rfl Try.underlying26 rfl Try.sz23 rfl) ?_
  refine D.evPG 40 rfl (by kernel_rfl) rfl rfl rfl (fun _ => hs.to) (fun _ => E.move rfl) ?_
  refine D.evPG 41 rfl (by kernel_rfl) rfl rfl rfl (fun _ => hs.to) (fun _ => E.move rfl) ?_
  refine D.evPG 42 rfl (by kernel_rfl) rfl rfl rfl (fun _ => hs.to) (fun _ => E.move rfl) ?_
  refine D.evPG 43 rfl (by kernel_rfl) rfl rfl rfl (fun _ => hs.to) (fun _ => (E.sub rfl rfl (by omega) (by omega)).isI (c := ((a - 1 : Nat) : Int)) (by omega)) ?_
  refine D.evPG 44 rfl (by kernel_rfl) rfl rfl rfl (fun _ => hs.to) (fun _ => E.indexAddr (i := a - 1) rfl rfl Try.underlying70 Try.sz3 rfl (by omega)) ?_
  refine D.evG 39 rfl (by kernel_rfl) rfl rfl rfl hs.to (fun _ hS => E.loadRow (cs := y.id.1.map ub) rfl Try.underlying23 rfl Try.sz23 (Ay _ hS.to).app.1 (encV_len y.id)) ?_
  refine D.evG 45 rfl (by kernel_rfl) rfl rfl rfl hs.to (fun _ hS => E.load1 rfl Try.underlying3 rfl (Aj _ hS.to)) ?_
  refine D.evPG 46 rfl (by kernel_rfl) rfl rfl rfl (fun _ => hs.to) (fun _ => E.indexAddr (i := jz) rfl rfl Try.underlying22 Try.sz26 rfl (by omega)) ?_
  refine D.evPG 47 rfl (by kernel_rfl) rfl rfl rfl (fun _ => hs.to) (fun _ => E.fieldAddrN 0 rfl Try.underlying26 rfl Try.sz23 rfl) ?_
  refine D.evG 48 rfl (by kernel_rfl) rfl rfl rfl hs.to (fun _ hS => E.loadRow (cs := z.id.1.map ub) rfl Try.underlying23 rfl Try.sz23 (Az _ hS.to).app.1 (encV_len z.id)) ?_
  refine D.act 49 rfl (by kernel_rfl) ?_
  refine R.gyes rfl rfl ?_
  refine R.call ⟨_, _, Try.func46, rfl, by kernel_rfl⟩ rfl rfl (before_any y.id z.id hs) ?_
  rintro _ w749 ⟨rfl, hs⟩
  refine D.backT (by kernel_rfl) ?_
  refine D.evPG 50 rfl (by kernel_rfl) rfl rfl rfl (np (by kernel_rfl)) (fun _ => E.pickT rfl rfl) ?_
  refine D.evPG 51 rfl (by kernel_rfl) rfl rfl rfl (np (by kernel_rfl)) (fun _ => E.pickF rfl rfl) ?_
  refine D.evP 52 rfl (by kernel_rfl) rfl (np (by kernel_rfl)) (fun _ => E.pickT rfl rfl) ?_
  refine D.done rfl (by kernel_rfl) ?_
  refine X.keep [(0, _), (1, _), (5, _), (6, _), (7, _), (79, _)] ⟨rfl, rfl, rfl, rfl, rfl, rfl, trivial⟩ ?_
  refine X.next ?_
  refine C.cbool rfl (fun h79 => ?_) (fun h79 => ?_)
  refine C.skip ?_
  refine X.next ?_
  refine C.block ?_
  refine C.region ?_
  refine R.ev rfl (E.move rfl) ?_
  refine R.ev rfl ((E.sub rfl rfl (by omega) (by omega)).isI (c := ((a - 1 : Nat) : Int)) (by omega)) ?_
  refine R.ev rfl (E.assign rfl) ?_
  refine R.done ?_
  refine X.keep [(0, _), (1, _), (5, _), (6, _), (7, _)] ⟨rfl, rfl, rfl, rfl, rfl, trivial⟩ ?_
  refine X.blockNormal ?_
  have hyz : ltB y z = true := by
    first
      | (rw [ltB_E h61]; exact h79)
      | exact ltB_T h45
  exact X.again (a - 1) ⟨rfl, rfl, rfl, rfl, rfl, trivial⟩ ⟨by omega, fun j z' h1 h2 => by
    rcases Nat.lt_or_ge j a with h | h
    · obtain rfl : j = a - 1 := by omega
      rw [hzS] at h2; simp at h2; subst h2; exact hyz
    · exact hgt j z' h h2, hs⟩ (by omega)
  refine C.exit ?_
  refine X.thenExit ?_
  refine X.loopExit ?_
  refine X.blockExit ?_
  refine X.next ?_
  refine C.seq ?_
  refine C.region ?_
  have hle : ∀ u ∈ (rowsOf L Jo).take a, ltB u y = true := by
    intro u hu
    have huL := List.mem_of_mem_take hu
    obtain ⟨j, hj2, hju⟩ := List.getElem_of_mem hu
    have hj1 : j < a := by simp at hj2; omega
    have tot : ∀ {s : RR}, s ∈ rowsOf L Jo → ltB y s = false → ltB s y = true := fun {s} hs0 h0 => by
      cases hc : ltB s y with
      | true => rfl
      | false => exact absurd (ltB_tot hc h0) (hyn s hs0)
    first
      | (have hyz : ltB y z = false := by
           first
             | (rw [ltB_E h61]; exact h79)
             | exact ltB_F h45 h61
         have mz : z ∈ rowsOf L Jo := List.mem_of_getElem? hzS
         have hu2 : (rowsOf L Jo)[j]? = some u := by rw [← hju, List.getElem_take, List.getElem?_eq_getElem]
         rcases Nat.lt_or_ge j (a - 1) with h | h
         · obtain ⟨h3, h4⟩ := List.getElem?_eq_some_iff.1 hu2
           obtain ⟨h5, h6⟩ := List.getElem?_eq_some_iff.1 hzS
           have := List.pairwise_iff_getElem.1 hss j (a - 1) h3 h5 h
           rw [h4, h6] at this
           exact ltB_swo.trans _ _ _ this (tot mz hyz)
         · obtain rfl : j = a - 1 := by omega
           rw [hzS] at hu2; simp at hu2; subst hu2; exact tot mz hyz)
      | (have := of_decide_eq_false h29; omega)
  have eR : rowsOf L (Jo.take a ++ [k] ++ Jo.drop a) = (rowsOf L Jo).take a ++ [y] ++ (rowsOf L Jo).drop a := by
    simp only [rowsOf, List.map_append, List.map_take, List.map_drop, List.map_cons, List.map_nil, rowAt_eq hy]
  have hnew : SS ltB (rowsOf L (Jo.take a ++ [k] ++ Jo.drop a)) := by
    rw [eR]
    refine ssB_ins hss hle (fun z hz => ?_)
    obtain ⟨j, hj, hjz⟩ := List.getElem_of_mem hz
    refine hgt (a + j) z (by omega) ?_
    rw [← hjz, List.getElem_drop, List.getElem?_eq_getElem]
  have hmem' : ∀ u, u ∈ rowsOf L (Jo.take a ++ [k] ++ Jo.drop a) ↔ u ∈ (L.take (k + 1)).filter (valid x) := fun u => by
    rw [eR]
    have : u ∈ (rowsOf L Jo).take a ++ [y] ++ (rowsOf L Jo).drop a ↔ u = y ∨ u ∈ rowsOf L Jo := ins_mem
    rw [this, hmem, hsn, h24', List.mem_append]
    simp only [if_true, List.mem_singleton]
    exact Or.comm
  have hjb' : ∀ j ∈ Jo.take a ++ [k] ++ Jo.drop a, j < k + 1 := fun j hj => by
    have : j ∈ Jo.take a ++ [k] ++ Jo.drop a ↔ j = k ∨ j ∈ Jo := ins_mem
    rcases this.1 hj with rfl | h
    · omega
    · have := hjb j h; omega
  have k1 := hr1.first (i := a) ha
  have k2 := hr1.behind (i := a) ha
  have hl1 : (Jo.take a).length = a := by rw [List.length_take]; omega
  have hl2 : (Jo.drop a).length = Jo.length - a := List.length_drop
  refine R.sbuild0 (enc := encN) hs Try.underlying70 Try.sz3 rfl ?_
  intro v82 w82 F82 r82 nn82 hs
  refine R.ev rfl (E.move rfl) ?_
  refine R.ev rfl (E.move rfl) ?_
  refine R.ev rfl (E.sliceH rfl rfl Try.underlying70 Try.sz3 rfl (by omega)) ?_
  refine R.cappSl hs rfl rfl Try.underlying70 Try.by3 (by rfl) rfl (by decide) (by (simp only [List.length_append, List.length_cons, List.length_nil] at *; omega)) (by (simp only [List.length_append, List.length_cons, List.length_nil] at *; omega)) ?_
  intro v86 w86 F86 r86 hs
  rw [List.nil_append] at r86
  refine R.ev rfl (E.assign rfl) ?_
  refine R.done ?_
  refine X.keep [(0, _), (1, _), (5, _), (6, _), (7, _), (8, _)] ⟨rfl, rfl, rfl, rfl, rfl, rfl, trivial⟩ ?_
  refine X.next ?_
  refine C.seq ?_
  refine C.region ?_
  refine R.ev rfl (E.move rfl) ?_
  refine R.ev rfl (E.move rfl) ?_
  refine R.buildSlice1 (parts := [(0, .tmp 88)]) (vs := [_]) rfl rfl rfl Try.underlying70 Try.sz3 Try.zr3 rfl (by simp [Value.oneCell']) (by decide) ?_
  intro b89 w89 n89
  have hs := hs.new n89
  refine R.capp1 (k) hs rfl rfl Try.underlying70 Try.by3 (by rfl) rfl (by exact hs.ldA) (by decide) (by omega) (by omega) ?_
  intro v90 w90 F90 r90 hs
  refine R.ev rfl (E.assign rfl) ?_
  refine R.done ?_
  refine X.keep [(0, _), (1, _), (5, _), (6, _), (7, _), (8, _)] ⟨rfl, rfl, rfl, rfl, rfl, rfl, trivial⟩ ?_
  refine X.next ?_
  refine C.region ?_
  refine R.ev rfl (E.move rfl) ?_
  refine R.ev rfl (E.move rfl) ?_
  refine R.ev rfl (E.move rfl) ?_
  refine R.ev rfl (E.sliceLs (a := a) rfl rfl Try.underlying70 Try.sz3 rfl (by omega)) ?_
  refine R.cappSl hs rfl rfl Try.underlying70 Try.by3 (by rfl) rfl (by decide) (by (simp only [List.length_append, List.length_cons, List.length_nil] at *; omega)) (by (simp only [List.length_append, List.length_cons, List.length_nil] at *; omega)) ?_
  intro v95 w95 F95 r95 hs
  obtain ⟨K2, hk2, r2, hs⟩ := r95.freezeK (hs.front (F := F95))
  have hs : Sat K2 _ Hs := hs.to
  have hnx : (Jo.take a ++ [k] ++ Jo.drop a).length ≤ k + 1 ∧ (∀ j ∈ Jo.take a ++ [k] ++ Jo.drop a, j < k + 1) ∧ SS ltB (rowsOf L (Jo.take a ++ [k] ++ Jo.drop a)) ∧ (∀ u, u ∈ rowsOf L (Jo.take a ++ [k] ++ Jo.drop a) ↔ u ∈ (L.take (k + 1)).filter (valid x)) ∧ KLe K K2 ∧ KRow encN 1 K2 v95 (Jo.take a ++ [k] ++ Jo.drop a) := ⟨by simp; omega, hjb', hnew, hmem', hk1.trans hk2, r2⟩
  generalize Jo.take a ++ [k] ++ Jo.drop a = Jn at hnx
  generalize v95 = vn at hnx ⊢
  refine R.ev rfl (E.assign rfl) ?_
  refine R.done ?_
  refine X.keep [(0, _), (1, _), (5, _), (6, _)] ⟨rfl, rfl, rfl, rfl, trivial⟩ ?_
  refine X.blockNormal ?_
  refine X.next ?_
  refine C.region ?_
  refine R.ev rfl (E.move rfl) ?_
  refine R.ev rfl (E.add rfl rfl (by omega) (by omega)) ?_
  refine R.ev rfl (E.assign rfl) ?_
  refine R.done ?_
  refine X.keep [(0, _), (1, _), (5, _), (6, _)] ⟨rfl, rfl, rfl, rfl, trivial⟩ ?_
  exact X.again (k + 1, K2, Jn, vn) ⟨rfl, rfl, rfl, rfl, trivial⟩ ⟨by omega, hnx.1, hnx.2.1, hnx.2.2.1, hnx.2.2.2.1, hnx.2.2.2.2.1, hnx.2.2.2.2.2, hs⟩ (by show _ - _ < _ - _; omega)
  refine D.skipP 35 rfl (by kernel_rfl) rfl rfl rfl (fun _ => hs.to) ?_
  refine D.skipP 36 rfl (by kernel_rfl) rfl rfl rfl (fun _ => hs.to) ?_
  refine D.skipP 37 rfl (by kernel_rfl) rfl rfl rfl (fun _ => hs.to) ?_
  refine D.skipP 38 rfl (by kernel_rfl) rfl rfl rfl (fun _ => hs.to) ?_
  refine D.skipP 40 rfl (by kernel_rfl) rfl rfl rfl (fun _ => hs.to) ?_
  refine D.skipP 41 rfl (by kernel_rfl) rfl rfl rfl (fun _ => hs.to) ?_
  refine D.skipP 42 rfl (by kernel_rfl) rfl rfl rfl (fun _ => hs.to) ?_
  refine D.skipP 43 rfl (by kernel_rfl) rfl rfl rfl (fun _ => hs.to) ?_
  refine D.skipP 44 rfl (by kernel_rfl) rfl rfl rfl (fun _ => hs.to) ?_
  refine D.skip 39 rfl (by kernel_rfl) rfl rfl rfl hs.to ?_
  refine D.skip 45 rfl (by kernel_rfl) rfl rfl rfl hs.to ?_
  refine D.skipP 46 rfl (by kernel_rfl) rfl rfl rfl (fun _ => hs.to) ?_
  refine D.skipP 47 rfl (by kernel_rfl) rfl rfl rfl (fun _ => hs.to) ?_
  refine D.skip 48 rfl (by kernel_rfl) rfl rfl rfl hs.to ?_
  refine D.act 49 rfl (by kernel_rfl) ?_
  refine R.gskip rfl rfl rfl ?_
  refine D.backT (by kernel_rfl) ?_
  refine D.evPG 50 rfl (by kernel_rfl) rfl rfl rfl (np (by kernel_rfl)) (fun _ => E.pickF rfl rfl) ?_
  refine D.evPG 51 rfl (by kernel_rfl) rfl rfl rfl (np (by kernel_rfl)) (fun _ => E.pickF rfl rfl) ?_
  refine D.evP 52 rfl (by kernel_rfl) rfl (np (by kernel_rfl)) (fun _ => E.pickT rfl rfl) ?_
  refine D.done rfl (by kernel_rfl) ?_
  refine X.keep [(0, _), (1, _), (5, _), (6, _), (7, _), (79, _)] ⟨rfl, rfl, rfl, rfl, rfl, rfl, trivial⟩ ?_
  refine X.next ?_
  refine C.cfalse rfl ?_
  refine C.exit ?_
  refine X.thenExit ?_
  refine X.loopExit ?_
  refine X.blockExit ?_
  refine X.next ?_
  refine C.seq ?_
  refine C.region ?_
  have hle : ∀ u ∈ (rowsOf L Jo).take a, ltB u y = true := by
    intro u hu
    have huL := List.mem_of_mem_take hu
    obtain ⟨j, hj2, hju⟩ := List.getElem_of_mem hu
    have hj1 : j < a := by simp at hj2; omega
    have tot : ∀ {s : RR}, s ∈ rowsOf L Jo → ltB y s = false → ltB s y = true := fun {s} hs0 h0 => by
      cases hc : ltB s y with
      | true => rfl
      | false => exact absurd (ltB_tot hc h0) (hyn s hs0)
    first
      | (have hyz : ltB y z = false := by
           first
             | (rw [ltB_E h61]; exact h79)
             | exact ltB_F h45 h61
         have mz : z ∈ rowsOf L Jo := List.mem_of_getElem? hzS
         have hu2 : (rowsOf L Jo)[j]? = some u := by rw [← hju, List.getElem_take, List.getElem?_eq_getElem]
         rcases Nat.lt_or_ge j (a - 1) with h | h
         · obtain ⟨h3, h4⟩ := List.getElem?_eq_some_iff.1 hu2
           obtain ⟨h5, h6⟩ := List.getElem?_eq_some_iff.1 hzS
           have := List.pairwise_iff_getElem.1 hss j (a - 1) h3 h5 h
           rw [h4, h6] at this
           exact ltB_swo.trans _ _ _ this (tot mz hyz)
         · obtain rfl : j = a - 1 := by omega
           rw [hzS] at hu2; simp at hu2; subst hu2; exact tot mz hyz)
      | (have := of_decide_eq_false h29; omega)
  have eR : rowsOf L (Jo.take a ++ [k] ++ Jo.drop a) = (rowsOf L Jo).take a ++ [y] ++ (rowsOf L Jo).drop a := by
    simp only [rowsOf, List.map_append, List.map_take, List.map_drop, List.map_cons, List.map_nil, rowAt_eq hy]
  have hnew : SS ltB (rowsOf L (Jo.take a ++ [k] ++ Jo.drop a)) := by
    rw [eR]
    refine ssB_ins hss hle (fun z hz => ?_)
    obtain ⟨j, hj, hjz⟩ := List.getElem_of_mem hz
    refine hgt (a + j) z (by omega) ?_
    rw [← hjz, List.getElem_drop, List.getElem?_eq_getElem]
  have hmem' : ∀ u, u ∈ rowsOf L (Jo.take a ++ [k] ++ Jo.drop a) ↔ u ∈ (L.take (k + 1)).filter (valid x) := fun u => by
    rw [eR]
    have : u ∈ (rowsOf L Jo).take a ++ [y] ++ (rowsOf L Jo).drop a ↔ u = y ∨ u ∈ rowsOf L Jo := ins_mem
    rw [this, hmem, hsn, h24', List.mem_append]
    simp only [if_true, List.mem_singleton]
    exact Or.comm
  have hjb' : ∀ j ∈ Jo.take a ++ [k] ++ Jo.drop a, j < k + 1 := fun j hj => by
    have : j ∈ Jo.take a ++ [k] ++ Jo.drop a ↔ j = k ∨ j ∈ Jo := ins_mem
    rcases this.1 hj with rfl | h
    · omega
    · have := hjb j h; omega
  have k1 := hr1.first (i := a) ha
  have k2 := hr1.behind (i := a) ha
  have hl1 : (Jo.take a).length = a := by rw [List.length_take]; omega
  have hl2 : (Jo.drop a).length = Jo.length - a := List.length_drop
  refine R.sbuild0 (enc := encN) hs Try.underlying70 Try.sz3 rfl ?_
  intro v82 w82 F82 r82 nn82 hs
  refine R.ev rfl (E.move rfl) ?_
  refine R.ev rfl (E.move rfl) ?_
  refine R.ev rfl (E.sliceH rfl rfl Try.underlying70 Try.sz3 rfl (by omega)) ?_
  refine R.cappSl hs rfl rfl Try.underlying70 Try.by3 (by rfl) rfl (by decide) (by (simp only [List.length_append, List.length_cons, List.length_nil] at *; omega)) (by (simp only [List.length_append, List.length_cons, List.length_nil] at *; omega)) ?_
  intro v86 w86 F86 r86 hs
  rw [List.nil_append] at r86
  refine R.ev rfl (E.assign rfl) ?_
  refine R.done ?_
  refine X.keep [(0, _), (1, _), (5, _), (6, _), (7, _), (8, _)] ⟨rfl, rfl, rfl, rfl, rfl, rfl, trivial⟩ ?_
  refine X.next ?_
  refine C.seq ?_
  refine C.region ?_
  refine R.ev rfl (E.move rfl) ?_
  refine R.ev rfl (E.move rfl) ?_
  refine R.buildSlice1 (parts := [(0, .tmp 88)]) (vs := [_]) rfl rfl rfl Try.underlying70 Try.sz3 Try.zr3 rfl (by simp [Value.oneCell']) (by decide) ?_
  intro b89 w89 n89
  have hs := hs.new n89
  refine R.capp1 (k) hs rfl rfl Try.underlying70 Try.by3 (by rfl) rfl (by exact hs.ldA) (by decide) (by omega) (by omega) ?_
  intro v90 w90 F90 r90 hs
  refine R.ev rfl (E.assign rfl) ?_
  refine R.done ?_
  refine X.keep [(0, _), (1, _), (5, _), (6, _), (7, _), (8, _)] ⟨rfl, rfl, rfl, rfl, rfl, rfl, trivial⟩ ?_
  refine X.next ?_
  refine C.region ?_
  refine R.ev rfl (E.move rfl) ?_
  refine R.ev rfl (E.move rfl) ?_
  refine R.ev rfl (E.move rfl) ?_
  refine R.ev rfl (E.sliceLs (a := a) rfl rfl Try.underlying70 Try.sz3 rfl (by omega)) ?_
  refine R.cappSl hs rfl rfl Try.underlying70 Try.by3 (by rfl) rfl (by decide) (by (simp only [List.length_append, List.length_cons, List.length_nil] at *; omega)) (by (simp only [List.length_append, List.length_cons, List.length_nil] at *; omega)) ?_
  intro v95 w95 F95 r95 hs
  obtain ⟨K2, hk2, r2, hs⟩ := r95.freezeK (hs.front (F := F95))
  have hs : Sat K2 _ Hs := hs.to
  have hnx : (Jo.take a ++ [k] ++ Jo.drop a).length ≤ k + 1 ∧ (∀ j ∈ Jo.take a ++ [k] ++ Jo.drop a, j < k + 1) ∧ SS ltB (rowsOf L (Jo.take a ++ [k] ++ Jo.drop a)) ∧ (∀ u, u ∈ rowsOf L (Jo.take a ++ [k] ++ Jo.drop a) ↔ u ∈ (L.take (k + 1)).filter (valid x)) ∧ KLe K K2 ∧ KRow encN 1 K2 v95 (Jo.take a ++ [k] ++ Jo.drop a) := ⟨by simp; omega, hjb', hnew, hmem', hk1.trans hk2, r2⟩
  generalize Jo.take a ++ [k] ++ Jo.drop a = Jn at hnx
  generalize v95 = vn at hnx ⊢
  refine R.ev rfl (E.assign rfl) ?_
  refine R.done ?_
  refine X.keep [(0, _), (1, _), (5, _), (6, _)] ⟨rfl, rfl, rfl, rfl, trivial⟩ ?_
  refine X.blockNormal ?_
  refine X.next ?_
  refine C.region ?_
  refine R.ev rfl (E.move rfl) ?_
  refine R.ev rfl (E.add rfl rfl (by omega) (by omega)) ?_
  refine R.ev rfl (E.assign rfl) ?_
  refine R.done ?_
  refine X.keep [(0, _), (1, _), (5, _), (6, _)] ⟨rfl, rfl, rfl, rfl, trivial⟩ ?_
  exact X.again (k + 1, K2, Jn, vn) ⟨rfl, rfl, rfl, rfl, trivial⟩ ⟨by omega, hnx.1, hnx.2.1, hnx.2.2.1, hnx.2.2.2.1, hnx.2.2.2.2.1, hnx.2.2.2.2.2, hs⟩ (by show _ - _ < _ - _; omega)
  refine D.skipP 3 rfl (by kernel_rfl) rfl rfl rfl (fun _ => hs.to) ?_
  refine D.skipP 4 rfl (by kernel_rfl) rfl rfl rfl (fun _ => hs.to) ?_
  refine D.skipP 5 rfl (by kernel_rfl) rfl rfl rfl (fun _ => hs.to) ?_
  refine D.skipP 6 rfl (by kernel_rfl) rfl rfl rfl (fun _ => hs.to) ?_
  refine D.skipP 8 rfl (by kernel_rfl) rfl rfl rfl (fun _ => hs.to) ?_
  refine D.skipP 9 rfl (by kernel_rfl) rfl rfl rfl (fun _ => hs.to) ?_
  refine D.skipP 10 rfl (by kernel_rfl) rfl rfl rfl (fun _ => hs.to) ?_
  refine D.skipP 11 rfl (by kernel_rfl) rfl rfl rfl (fun _ => hs.to) ?_
  refine D.skipP 12 rfl (by kernel_rfl) rfl rfl rfl (fun _ => hs.to) ?_
  refine D.skip 7 rfl (by kernel_rfl) rfl rfl rfl hs.to ?_
  refine D.skip 13 rfl (by kernel_rfl) rfl rfl rfl hs.to ?_
  refine D.skipP 14 rfl (by kernel_rfl) rfl rfl rfl (fun _ => hs.to) ?_
  refine D.skipP 15 rfl (by kernel_rfl) rfl rfl rfl (fun _ => hs.to) ?_
  refine D.skip 16 rfl (by kernel_rfl) rfl rfl rfl hs.to ?_
  refine D.skipP 17 rfl (by kernel_rfl) rfl rfl rfl (fun _ => hs.to) ?_
  refine D.skipP 18 rfl (by kernel_rfl) rfl rfl rfl (fun _ => hs.to) ?_
  refine D.undefP 19 rfl (by kernel_rfl) rfl rfl (fun _ => hs.to) ?_
  refine D.undefP 20 rfl (by kernel_rfl) rfl rfl (fun _ => hs.to) ?_
  refine D.undefP 21 rfl (by kernel_rfl) rfl rfl (fun _ => hs.to) ?_
  refine D.undefP 22 rfl (by kernel_rfl) rfl rfl (fun _ => hs.to) ?_
  refine D.undefP 24 rfl (by kernel_rfl) rfl rfl (fun _ => hs.to) ?_
  refine D.undefP 25 rfl (by kernel_rfl) rfl rfl (fun _ => hs.to) ?_
  refine D.undefP 26 rfl (by kernel_rfl) rfl rfl (fun _ => hs.to) ?_
  refine D.undefP 27 rfl (by kernel_rfl) rfl rfl (fun _ => hs.to) ?_
  refine D.undefP 28 rfl (by kernel_rfl) rfl rfl (fun _ => hs.to) ?_
  refine D.undef 23 rfl (by kernel_rfl) rfl rfl hs.to ?_
  refine D.undef 29 rfl (by kernel_rfl) rfl rfl hs.to ?_
  refine D.undefP 30 rfl (by kernel_rfl) rfl rfl (fun _ => hs.to) ?_
  refine D.undefP 31 rfl (by kernel_rfl) rfl rfl (fun _ => hs.to) ?_
  refine D.undef 32 rfl (by kernel_rfl) rfl rfl hs.to ?_
  refine D.undefP 33 rfl (by kernel_rfl) rfl rfl (fun _ => hs.to) ?_
  refine D.undefP 34 rfl (by kernel_rfl) rfl rfl (fun _ => hs.to) ?_
  refine D.undefP 35 rfl (by kernel_rfl) rfl rfl (fun _ => hs.to) ?_
  refine D.undefP 36 rfl (by kernel_rfl) rfl rfl (fun _ => hs.to) ?_
  refine D.undefP 37 rfl (by kernel_rfl) rfl rfl (fun _ => hs.to) ?_
  refine D.undefP 38 rfl (by kernel_rfl) rfl rfl (fun _ => hs.to) ?_
  refine D.undefP 40 rfl (by kernel_rfl) rfl rfl (fun _ => hs.to) ?_
  refine D.undefP 41 rfl (by kernel_rfl) rfl rfl (fun _ => hs.to) ?_
  refine D.undefP 42 rfl (by kernel_rfl) rfl rfl (fun _ => hs.to) ?_
  refine D.undefP 43 rfl (by kernel_rfl) rfl rfl (fun _ => hs.to) ?_
  refine D.undefP 44 rfl (by kernel_rfl) rfl rfl (fun _ => hs.to) ?_
  refine D.undef 39 rfl (by kernel_rfl) rfl rfl hs.to ?_
  refine D.undef 45 rfl (by kernel_rfl) rfl rfl hs.to ?_
  refine D.undefP 46 rfl (by kernel_rfl) rfl rfl (fun _ => hs.to) ?_
  refine D.undefP 47 rfl (by kernel_rfl) rfl rfl (fun _ => hs.to) ?_
  refine D.undef 48 rfl (by kernel_rfl) rfl rfl hs.to ?_
  refine D.act 49 rfl (by kernel_rfl) ?_
  refine R.gundef rfl rfl ?_
  refine D.backT (by kernel_rfl) ?_
  refine D.undefP 50 rfl (by kernel_rfl) rfl rfl (np (by kernel_rfl)) ?_
  refine D.skipP 51 rfl (by kernel_rfl) rfl rfl rfl (np (by kernel_rfl)) ?_
  refine D.evP 52 rfl (by kernel_rfl) rfl (np (by kernel_rfl)) (fun _ => E.pickF rfl rfl) ?_
  refine D.done rfl (by kernel_rfl) ?_
  refine X.keep [(0, _), (1, _), (5, _), (6, _), (7, _), (79, _)] ⟨rfl, rfl, rfl, rfl, rfl, rfl, trivial⟩ ?_
  refine X.next ?_
  refine C.cfalse rfl ?_
  refine C.exit ?_
  refine X.thenExit ?_
  refine X.loopExit ?_
  refine X.blockExit ?_
  refine X.next ?_
  refine C.seq ?_
  refine C.region ?_
  have hle : ∀ u ∈ (rowsOf L Jo).take a, ltB u y = true := by
    intro u hu
    have huL := List.mem_of_mem_take hu
    obtain ⟨j, hj2, hju⟩ := List.getElem_of_mem hu
    have hj1 : j < a := by simp at hj2; omega
    have tot : ∀ {s : RR}, s ∈ rowsOf L Jo → ltB y s = false → ltB s y = true := fun {s} hs0 h0 => by
      cases hc : ltB s y with
      | true => rfl
      | false => exact absurd (ltB_tot hc h0) (hyn s hs0)
    first
      | (have hyz : ltB y z = false := by
           first
             | (rw [ltB_E h61]; exact h79)
             | exact ltB_F h45 h61
         have mz : z ∈ rowsOf L Jo := List.mem_of_getElem? hzS
         have hu2 : (rowsOf L Jo)[j]? = some u := by rw [← hju, List.getElem_take, List.getElem?_eq_getElem]
         rcases Nat.lt_or_ge j (a - 1) with h | h
         · obtain ⟨h3, h4⟩ := List.getElem?_eq_some_iff.1 hu2
           obtain ⟨h5, h6⟩ := List.getElem?_eq_some_iff.1 hzS
           have := List.pairwise_iff_getElem.1 hss j (a - 1) h3 h5 h
           rw [h4, h6] at this
           exact ltB_swo.trans _ _ _ this (tot mz hyz)
         · obtain rfl : j = a - 1 := by omega
           rw [hzS] at hu2; simp at hu2; subst hu2; exact tot mz hyz)
      | (have := of_decide_eq_false h29; omega)
  have eR : rowsOf L (Jo.take a ++ [k] ++ Jo.drop a) = (rowsOf L Jo).take a ++ [y] ++ (rowsOf L Jo).drop a := by
    simp only [rowsOf, List.map_append, List.map_take, List.map_drop, List.map_cons, List.map_nil, rowAt_eq hy]
  have hnew : SS ltB (rowsOf L (Jo.take a ++ [k] ++ Jo.drop a)) := by
    rw [eR]
    refine ssB_ins hss hle (fun z hz => ?_)
    obtain ⟨j, hj, hjz⟩ := List.getElem_of_mem hz
    refine hgt (a + j) z (by omega) ?_
    rw [← hjz, List.getElem_drop, List.getElem?_eq_getElem]
  have hmem' : ∀ u, u ∈ rowsOf L (Jo.take a ++ [k] ++ Jo.drop a) ↔ u ∈ (L.take (k + 1)).filter (valid x) := fun u => by
    rw [eR]
    have : u ∈ (rowsOf L Jo).take a ++ [y] ++ (rowsOf L Jo).drop a ↔ u = y ∨ u ∈ rowsOf L Jo := ins_mem
    rw [this, hmem, hsn, h24', List.mem_append]
    simp only [if_true, List.mem_singleton]
    exact Or.comm
  have hjb' : ∀ j ∈ Jo.take a ++ [k] ++ Jo.drop a, j < k + 1 := fun j hj => by
    have : j ∈ Jo.take a ++ [k] ++ Jo.drop a ↔ j = k ∨ j ∈ Jo := ins_mem
    rcases this.1 hj with rfl | h
    · omega
    · have := hjb j h; omega
  have k1 := hr1.first (i := a) ha
  have k2 := hr1.behind (i := a) ha
  have hl1 : (Jo.take a).length = a := by rw [List.length_take]; omega
  have hl2 : (Jo.drop a).length = Jo.length - a := List.length_drop
  refine R.sbuild0 (enc := encN) hs Try.underlying70 Try.sz3 rfl ?_
  intro v82 w82 F82 r82 nn82 hs
  refine R.ev rfl (E.move rfl) ?_
  refine R.ev rfl (E.move rfl) ?_
  refine R.ev rfl (E.sliceH rfl rfl Try.underlying70 Try.sz3 rfl (by omega)) ?_
  refine R.cappSl hs rfl rfl Try.underlying70 Try.by3 (by rfl) rfl (by decide) (by (simp only [List.length_append, List.length_cons, List.length_nil] at *; omega)) (by (simp only [List.length_append, List.length_cons, List.length_nil] at *; omega)) ?_
  intro v86 w86 F86 r86 hs
  rw [List.nil_append] at r86
  refine R.ev rfl (E.assign rfl) ?_
  refine R.done ?_
  refine X.keep [(0, _), (1, _), (5, _), (6, _), (7, _), (8, _)] ⟨rfl, rfl, rfl, rfl, rfl, rfl, trivial⟩ ?_
  refine X.next ?_
  refine C.seq ?_
  refine C.region ?_
  refine R.ev rfl (E.move rfl) ?_
  refine R.ev rfl (E.move rfl) ?_
  refine R.buildSlice1 (parts := [(0, .tmp 88)]) (vs := [_]) rfl rfl rfl Try.underlying70 Try.sz3 Try.zr3 rfl (by simp [Value.oneCell']) (by decide) ?_
  intro b89 w89 n89
  have hs := hs.new n89
  refine R.capp1 (k) hs rfl rfl Try.underlying70 Try.by3 (by rfl) rfl (by exact hs.ldA) (by decide) (by omega) (by omega) ?_
  intro v90 w90 F90 r90 hs
  refine R.ev rfl (E.assign rfl) ?_
  refine R.done ?_
  refine X.keep [(0, _), (1, _), (5, _), (6, _), (7, _), (8, _)] ⟨rfl, rfl, rfl, rfl, rfl, rfl, trivial⟩ ?_
  refine X.next ?_
  refine C.region ?_
  refine R.ev rfl (E.move rfl) ?_
  refine R.ev rfl (E.move rfl) ?_
  refine R.ev rfl (E.move rfl) ?_
  refine R.ev rfl (E.sliceLs (a := a) rfl rfl Try.underlying70 Try.sz3 rfl (by omega)) ?_
  refine R.cappSl hs rfl rfl Try.underlying70 Try.by3 (by rfl) rfl (by decide) (by (simp only [List.length_append, List.length_cons, List.length_nil] at *; omega)) (by (simp only [List.length_append, List.length_cons, List.length_nil] at *; omega)) ?_
  intro v95 w95 F95 r95 hs
  obtain ⟨K2, hk2, r2, hs⟩ := r95.freezeK (hs.front (F := F95))
  have hs : Sat K2 _ Hs := hs.to
  have hnx : (Jo.take a ++ [k] ++ Jo.drop a).length ≤ k + 1 ∧ (∀ j ∈ Jo.take a ++ [k] ++ Jo.drop a, j < k + 1) ∧ SS ltB (rowsOf L (Jo.take a ++ [k] ++ Jo.drop a)) ∧ (∀ u, u ∈ rowsOf L (Jo.take a ++ [k] ++ Jo.drop a) ↔ u ∈ (L.take (k + 1)).filter (valid x)) ∧ KLe K K2 ∧ KRow encN 1 K2 v95 (Jo.take a ++ [k] ++ Jo.drop a) := ⟨by simp; omega, hjb', hnew, hmem', hk1.trans hk2, r2⟩
  generalize Jo.take a ++ [k] ++ Jo.drop a = Jn at hnx
  generalize v95 = vn at hnx ⊢
  refine R.ev rfl (E.assign rfl) ?_
  refine R.done ?_
  refine X.keep [(0, _), (1, _), (5, _), (6, _)] ⟨rfl, rfl, rfl, rfl, trivial⟩ ?_
  refine X.blockNormal ?_
  refine X.next ?_
  refine C.region ?_
  refine R.ev rfl (E.move rfl) ?_
  refine R.ev rfl (E.add rfl rfl (by omega) (by omega)) ?_
  refine R.ev rfl (E.assign rfl) ?_
  refine R.done ?_
  refine X.keep [(0, _), (1, _), (5, _), (6, _)] ⟨rfl, rfl, rfl, rfl, trivial⟩ ?_
  exact X.again (k + 1, K2, Jn, vn) ⟨rfl, rfl, rfl, rfl, trivial⟩ ⟨by omega, hnx.1, hnx.2.1, hnx.2.2.1, hnx.2.2.2.1, hnx.2.2.2.2.1, hnx.2.2.2.2.2, hs⟩ (by show _ - _ < _ - _; omega)
  refine C.exit ?_
  refine X.thenExit ?_
  refine X.loopExit ?_
  refine X.blockExit ?_
  refine X.next ?_
  refine C.seq ?_
  refine C.region ?_
  refine R.ev rfl (E.move rfl) ?_
  refine R.ev rfl (E.assign rfl) ?_
  refine R.done ?_
  refine X.keep [(4, _)] ⟨rfl, trivial⟩ ?_
  refine X.next ?_
  refine C.ret ?_
  refine X.ret1 rfl rfl ?_
  rw [List.take_of_length_le (show L.length ≤ k by omega)] at hmem
  exact ⟨K1, Jo, hk1, hr1, fun j hj => by have := hjb j hj; omega, hss, hmem, hs⟩
theorem rpath_any {i : Nat} {x : RR} (hn : (L.map RR.id).Nodup) (hx : L[i]? = some x) (hs : Sat K w Hs) [hr : KRow encR 82 K v L] (hL : L.length ≤ 10000) : Ret Try.prog 38 #[v, .int .i64 (i : Nat)] w fun r w' => ∃ K' J, KLe K K' ∧ KRow encN 1 K' r J ∧ (∀ j ∈ J, j < L.length) ∧ ((PathR L x (rowsOf L J)) ∨ ((∀ q, ¬ PathR L x q) ∧ J = [])) ∧ Sat K' w' Hs := by
  have o1 : OneC v := ⟨KRow.oneC' hr⟩
  obtain ⟨ad, cap, rfl, hsl, hc⟩ := hr.ex
  have mx : x ∈ L := List.mem_of_getElem? hx
  refine Ret.enter (n := 26) (args := [.slice ad L.length cap, .int .i64 (i : Nat)]) Try.func38 rfl rfl ?_
  refine C.keep [(0, _), (1, _)] ⟨rfl, rfl, trivial⟩ ?_
  refine C.seq ?_
  refine C.region ?_
  refine R.ev rfl (E.assign rfl) ?_
  refine R.done ?_
  refine X.keep [(0, _), (1, _)] ⟨rfl, rfl, trivial⟩ ?_
  refine X.next ?_
  refine C.seq ?_
  refine C.region ?_
  refine R.ev rfl (E.assign rfl) ?_
  refine R.done ?_
  refine X.keep [(0, _), (1, _), (5, _)] ⟨rfl, rfl, rfl, trivial⟩ ?_
  refine X.next ?_
  refine C.seq ?_
  refine C.block ?_
  refine C.loop (T := List Nat × Nat × RR × Kn × Value × Hl) [(0, _)] (fun (_, i, _, _, v, _) => [(1, .int .i64 (i : Nat)), (5, v)]) (fun (Jo, i, y, K1, v, F1) w' => Way L x (rowsOf L Jo) y ∧ L[i]? = some y ∧ (∀ j ∈ Jo, j < L.length) ∧ KLe K K1 ∧ RowL 3 encN 1 v Jo F1 ∧ Sat K1 w' (F1 :: Hs)) (fun (Jo, _) => L.length + 1 - Jo.length) (([], i, x, K, .slice none 0 0, [])) ⟨rfl, rfl, rfl, trivial⟩ ⟨Way.start x, hx, by simp, KLe.refl K, RowL.nil _ _ _, hs.nil⟩ ?_
  rintro ⟨Jo, i1, y, K1, v1, F1⟩ w1 ⟨hway, hy, hjb, hk1, r1, hs⟩
  have hil := (List.getElem?_eq_some_iff.1 hy).1
  obtain ⟨ad1, cap1, rfl, hc1, hcm1, _⟩ := r1.val
  unfold maxLen at hcm1
  have hrl : (rowsOf L Jo).length = Jo.length := by simp [rowsOf]
  refine C.keep [(0, _), (1, _), (5, _)] ⟨rfl, rfl, rfl, trivial⟩ ?_
  refine C.seq ?_
  refine C.seq ?_
  refine C.region ?_
  refine R.ev rfl (E.move rfl) ?_
  refine R.ev rfl (E.lenSl rfl Try.underlying70) ?_
  refine R.ev rfl (E.move rfl) ?_
  refine R.ev rfl (E.lenSl rfl Try.underlying22) ?_
  refine R.ev rfl (E.leq rfl rfl) ?_
  refine R.done ?_
  refine X.keep [(0, _), (1, _), (5, _), (11, _)] ⟨rfl, rfl, rfl, rfl, trivial⟩ ?_
  refine X.next ?_
  refine C.cdec rfl (fun h11 => ?_) (fun h11 => ?_)
  refine C.skip ?_
  refine X.next ?_
  refine C.block ?_
  refine C.seq ?_
  refine C.region ?_
  refine R.ev rfl (E.move rfl) ?_
  refine R.ev rfl (E.move rfl) ?_
  refine R.buildSlice1 (parts := [(0, .tmp 13)]) (vs := [_]) rfl rfl rfl Try.underlying70 Try.sz3 Try.zr3 rfl (by simp [Value.oneCell']) (by decide) ?_
  intro b14 w14 n14
  have hs := hs.new n14
  refine R.capp1 (i1) hs rfl rfl Try.underlying70 Try.by3 (by rfl) rfl (by exact hs.ldA) (by decide) (by omega) (by omega) ?_
  intro v15 w15 F15 r15 hs
  have o15 : OneC v15 := ⟨RowL.oneC⟩
  refine R.ev rfl (E.assign rfl) ?_
  refine R.done ?_
  refine X.keep [(0, _), (1, _), (5, _)] ⟨rfl, rfl, rfl, trivial⟩ ?_
  refine X.next ?_
  refine C.seq ?_
  refine C.region ?_
  refine R.ev rfl (E.move rfl) ?_
  refine R.ev rfl (E.move rfl) ?_
  refine R.call ⟨_, _, Try.func41, rfl, by kernel_rfl⟩ rfl rfl (rsucc_any hn hy hs (by omega)) ?_
  rintro v18 w18 ⟨K2, Js, hk2, rs, hjs, hss, hms, hs⟩
  obtain ⟨ad18, cap18, rfl, hsl18, hc18⟩ := rs.ex
  have eR : rowsOf L (Jo ++ [i1]) = rowsOf L Jo ++ [y] := by simp only [rowsOf, List.map_append, List.map_cons, List.map_nil, rowAt_eq hy]
  have hjb2 : ∀ j ∈ Jo ++ [i1], j < L.length := fun j hj => by
    rcases List.mem_append.1 hj with h | h
    · exact hjb j h
    · simp at h; subst h; exact hil
  have hJl : Js.length ≤ 10000 := by
    have h1 := nodup_len (hss.nodup ltB_swo) (m := L) (fun u hu => succs_sub ((hms u).1 hu))
    simp [rowsOf] at h1; omega
  refine R.ev rfl (E.assign rfl) ?_
  refine R.done ?_
  refine X.keep [(0, _), (5, _), (6, _)] ⟨rfl, rfl, rfl, trivial⟩ ?_
  refine X.next ?_
  refine C.seq ?_
  refine C.seq ?_
  refine C.region ?_
  refine R.ev rfl (E.move rfl) ?_
  refine R.ev rfl (E.lenSl rfl Try.underlying70) ?_
  refine R.ev rfl (E.eql rfl rfl) ?_
  refine R.done ?_
  refine X.keep [(0, _), (5, _), (6, _), (21, _)] ⟨rfl, rfl, rfl, rfl, trivial⟩ ?_
  refine X.next ?_
  refine C.cdec rfl (fun h21 => ?_) (fun h21 => ?_)
  refine C.seq ?_
  refine C.region ?_
  refine R.ev rfl (E.move rfl) ?_
  refine R.ev rfl (E.assign rfl) ?_
  refine R.done ?_
  refine X.keep [(4, _)] ⟨rfl, trivial⟩ ?_
  refine X.next ?_
  refine C.ret ?_
  refine X.thenRet ?_
  refine X.blockRet ?_
  refine X.loopRet ?_
  refine X.blockRet ?_
  refine X.thenRet ?_
  refine X.ret1 rfl rfl ?_
  have hs0 : succs L y = [] := by
    cases hsu : succs L y with
    | nil => rfl
    | cons u l =>
      have := (hms u).2 (by rw [hsu]; simp)
      rw [List.length_eq_zero_iff.1 (show Js.length = 0 by omega)] at this
      simp [rowsOf] at this
  obtain ⟨K3, hk3, rr3, hs⟩ := r15.freezeK (hs.front (F := F15))
  exact ⟨K3, _, (hk1.trans hk2).trans hk3, rr3, hjb2, .inl (by rw [eR]; exact hway.fin hs0), hs.to⟩
  refine C.skip ?_
  refine X.next ?_
  refine C.region ?_
  obtain ⟨jz, bk_j, of_j, hj, mj, lj, rfl, Aj0⟩ := (hs.to (Hs := [])).el (i := 0) (ad := ad18) (n := Js.length) (c := cap18) (by omega)
  obtain ⟨z, hz⟩ : ∃ z, L[jz]? = some z := ⟨_, List.getElem?_eq_getElem (hjs jz mj)⟩
  have hzS : (rowsOf L Js)[0]? = some z := by rw [rowsOf, List.getElem?_map, hj, Option.map_some, rowAt_eq hz]
  have hbest : Best (succs L y) z := ⟨(hms z).1 (List.mem_of_getElem? hzS), fun u hu => by
    obtain ⟨j, hj, hju⟩ := List.getElem_of_mem ((hms u).2 hu)
    obtain ⟨h5, h6⟩ := List.getElem?_eq_some_iff.1 hzS
    rcases Nat.eq_zero_or_pos j with h0 | h0
    · subst h0; rw [h6] at hju; rw [← hju]; exact ltB_swo.irrefl _
    · have := List.pairwise_iff_getElem.1 hss 0 j h5 hj h0
      rw [h6, hju] at this
      exact asym ltB_swo this⟩
  refine R.ev rfl (E.move rfl) ?_
  refine R.ev rfl (E.indexAddr (i := 0) rfl rfl Try.underlying70 Try.sz3 rfl (by omega)) ?_
  refine R.ev rfl (E.load1 rfl Try.underlying3 rfl (Aj0 _ hs.to 0 _ rfl)) ?_
  refine R.ev rfl (E.assign rfl) ?_
  refine R.done ?_
  refine X.keep [(0, _), (1, _), (5, _)] ⟨rfl, rfl, rfl, trivial⟩ ?_
  refine X.blockNormal ?_
  exact X.again (Jo ++ [i1], jz, z, K2, v15, F15) ⟨rfl, rfl, rfl, trivial⟩ ⟨by rw [eR]; exact hway.step hn hbest, hz, hjb2, hk1.trans hk2, r15, hs.to⟩ (by show _ - _ < _ - _; rw [List.length_append, List.length_singleton]; omega)
  refine C.exit ?_
  refine X.thenExit ?_
  refine X.loopExit ?_
  refine X.blockExit ?_
  refine X.next ?_
  refine C.seq ?_
  refine C.region ?_
  refine R.ev rfl (E.assign rfl) ?_
  refine R.done ?_
  refine X.keep [(4, _)] ⟨rfl, trivial⟩ ?_
  refine X.next ?_
  refine C.ret ?_
  refine X.ret1 rfl rfl ?_
  exact ⟨K1, [], hk1, KRow.nil, by simp, .inr ⟨hway.long hn mx (by omega), rfl⟩, hs.to⟩
theorem pick_any {J : List Nat} {vj : Value} (hJ : ∀ j ∈ J, j < L.length) (hJl : J.length ≤ 100000) (hs : Sat K w Hs) [hr : KRow encR 82 K v L] [hj : KRow encN 1 K vj J] (hL : L.length ≤ 10000) : Ret Try.prog 40 #[v, vj] w fun r w' => ∃ F', RowL 23 encV 32 r ((rowsOf L J).map RR.id) F' ∧ Sat K w' (F' :: Hs) := by
  obtain ⟨ad, cap, rfl, hsl, hc⟩ := hr.ex
  obtain ⟨adj, capj, rfl, hslj, hcj⟩ := hj.ex
  refine Ret.enter (n := 25) (args := [.slice ad L.length cap, .slice adj J.length capj]) Try.func40 rfl rfl ?_
  refine C.keep [(0, _), (1, _)] ⟨rfl, rfl, trivial⟩ ?_
  refine C.seq ?_
  refine C.region ?_
  refine R.ev rfl (E.assign rfl) ?_
  refine R.done ?_
  refine X.keep [(0, _), (1, _)] ⟨rfl, rfl, trivial⟩ ?_
  refine X.next ?_
  refine C.seq ?_
  refine C.region ?_
  refine R.ev rfl (E.assign rfl) ?_
  refine R.done ?_
  refine X.keep [(0, _), (1, _), (5, _)] ⟨rfl, rfl, rfl, trivial⟩ ?_
  refine X.next ?_
  refine C.seq ?_
  refine C.seq ?_
  refine C.region ?_
  refine R.ev rfl (E.assign rfl) ?_
  refine R.done ?_
  refine X.keep [(0, _), (1, _), (5, _), (6, _)] ⟨rfl, rfl, rfl, rfl, trivial⟩ ?_
  refine X.next ?_
  refine C.block ?_
  refine C.loop (T := Nat × Value × Hl) [(0, _), (1, _)] (fun (k, v, _) => [(5, v), (6, .int .i64 (k : Nat))]) (fun (k, v, F1) w' => k ≤ J.length ∧ RowL 23 encV 32 v ((rowsOf L (J.take k)).map RR.id) F1 ∧ Sat K w' (F1 :: Hs)) (fun (k, _) => J.length - k) ((0, .slice none 0 0, [])) ⟨rfl, rfl, rfl, rfl, trivial⟩ ⟨Nat.zero_le _, RowL.nil _ _ _, hs.nil⟩ ?_
  rintro ⟨k, v1, F1⟩ w1 ⟨hk, r1, hs⟩
  have hml : ((rowsOf L (J.take k)).map RR.id).length ≤ 100000 := by simp [rowsOf]; omega
  refine C.keep [(0, _), (1, _), (5, _), (6, _)] ⟨rfl, rfl, rfl, rfl, trivial⟩ ?_
  refine C.seq ?_
  refine C.seq ?_
  refine C.region ?_
  refine R.ev rfl (E.move rfl) ?_
  refine R.ev rfl (E.move rfl) ?_
  refine R.ev rfl (E.lenSl rfl Try.underlying70) ?_
  refine R.ev rfl (E.lss rfl rfl) ?_
  refine R.done ?_
  refine X.keep [(0, _), (1, _), (5, _), (6, _), (10, _)] ⟨rfl, rfl, rfl, rfl, rfl, trivial⟩ ?_
  refine X.next ?_
  refine C.cdec rfl (fun h10 => ?_) (fun h10 => ?_)
  obtain ⟨jz, bk_j, of_j, hjz, mj, lj, rfl, Aj0⟩ := (hs.to (Hs := [])).el (i := k) (ad := adj) (n := J.length) (c := capj) (by omega)
  have hjl := hJ jz mj
  obtain ⟨z, bk_z, of_z, hz, mz, lz, rfl, Az⟩ := (hs.to (Hs := [])).el (i := jz) (ad := ad) (n := L.length) (c := cap) hjl
  have eR : rowsOf L (J.take (k + 1)) = rowsOf L (J.take k) ++ [z] := by rw [take_snoc hjz]; simp only [rowsOf, List.map_append, List.map_cons, List.map_nil, rowAt_eq hz]
  refine C.skip ?_
  refine X.next ?_
  refine C.seq ?_
  refine C.block ?_
  refine C.region ?_
  refine R.ev rfl (E.move rfl) ?_
  refine R.ev rfl (E.move rfl) ?_
  refine R.ev rfl (E.move rfl) ?_
  refine R.ev rfl (E.move rfl) ?_
  refine R.ev rfl (E.indexAddr (i := k) rfl rfl Try.underlying70 Try.sz3 rfl (by omega)) ?_
  refine R.ev rfl (E.load1 rfl Try.underlying3 rfl (Aj0 _ hs.to 0 _ rfl)) ?_
  refine R.ev rfl (E.indexAddr (i := jz) rfl rfl Try.underlying22 Try.sz26 rfl (by omega)) ?_
  refine R.ev rfl (E.fieldAddrN 0 rfl Try.underlying26 rfl Try.sz23 rfl) ?_
  refine R.ev rfl (E.loadRow (cs := z.id.1.map ub) rfl Try.underlying23 rfl Try.sz23 (Az _ hs.to).app.1 (encV_len z.id)) ?_
  refine R.buildSliceA rfl Try.underlying49 Try.sz23 Try.zr23 rfl (by exact encV_len _) (by decide) (by decide) ?_
  intro b22 w22 n22
  have hs := hs.new n22
  refine R.capp1 (z.id) hs rfl rfl Try.underlying49 Try.by23 (by rfl) rfl (by exact hs.ldA) (by decide) (by omega) (by omega) ?_
  intro v23 w23 F23 r23 hs
  refine R.ev rfl (E.assign rfl) ?_
  refine R.done ?_
  refine X.keep [(0, _), (1, _), (5, _), (6, _)] ⟨rfl, rfl, rfl, rfl, trivial⟩ ?_
  refine X.blockNormal ?_
  refine X.next ?_
  refine C.region ?_
  refine R.ev rfl (E.move rfl) ?_
  refine R.ev rfl (E.add rfl rfl (by omega) (by omega)) ?_
  refine R.ev rfl (E.assign rfl) ?_
  refine R.done ?_
  refine X.keep [(0, _), (1, _), (5, _), (6, _)] ⟨rfl, rfl, rfl, rfl, trivial⟩ ?_
  exact X.again (k + 1, v23, F23) ⟨rfl, rfl, rfl, rfl, trivial⟩ ⟨by omega, by rw [eR, List.map_append]; exact r23, hs.to⟩ (by show _ - _ < _ - _; omega)
  refine C.exit ?_
  refine X.thenExit ?_
  refine X.loopExit ?_
  refine X.blockExit ?_
  refine X.next ?_
  refine C.seq ?_
  refine C.region ?_
  refine R.ev rfl (E.move rfl) ?_
  refine R.ev rfl (E.assign rfl) ?_
  refine R.done ?_
  refine X.keep [(4, _)] ⟨rfl, trivial⟩ ?_
  refine X.next ?_
  refine C.ret ?_
  refine X.ret1 rfl rfl ?_
  exact ⟨F1, by rw [List.take_of_length_le (by omega)] at r1; exact r1, hs⟩
end Go.Proofs.Ytmjmichghfepkaa
