/-
  package bulletinref25: Encode, Decode.
-/
import Derived.Test.YtobhhnfckhbeeaaHisD
namespace Go.Eng
theorem Rd.bytesA {K : Kn} {Hs : List Hl} {b off m c : Nat} {M : List UInt8} (hm : M.length = m) (hc : m ≤ c) (h : ∀ w, Sat K w Hs → At w b off (M.map ub)) : Rd encB 1 K Hs (.slice (some ⟨b, off, none⟩) m c) M :=
  ⟨some ⟨b, off, none⟩, c, by rw [hm], by omega, fun _ _ => rfl, fun w hs => ⟨rfl, fun _ _ => rfl, fun _ => ⟨b, off, rfl, by rw [encB_map]; exact h w hs⟩⟩⟩
end Go.Eng
namespace Go.Proofs.Ytobhhnfckhbeeaa
open Go.Eng Go.RowKit Go.Sort
variable {K : Kn} {Hs Rs : List Hl} {F G : Hl} {w : World} {p : Nat} {s : Hi} {L : List HEnt} {v : Value} {P : List UInt8}
theorem four_any (n : Int) (h0 : 0 ≤ n) (h1 : n < 4294967296) (hs : Sat K w Hs) : Ret Try.prog 65 #[.int .i64 n] w fun r w' => ∃ b F, r = .slice (some ⟨b, 0, none⟩) 4 4 ∧ RowL 5 encB 1 r (num4 n) F ∧ Sat K w' (F :: Hs) := by
  refine Ret.enter (n := 18) (args := [.int .i64 n]) Try.func65 rfl rfl ?_
  refine C.keep [(0, _)] ⟨rfl, trivial⟩ ?_
  refine C.seq ?_
  refine C.region ?_
  refine R.ev rfl (E.assign rfl) ?_
  refine R.done ?_
  refine X.keep [(0, _)] ⟨rfl, trivial⟩ ?_
  refine X.next ?_
  refine C.seq ?_
  refine C.region ?_
  refine R.ev rfl (E.move rfl) ?_
  refine R.ev rfl (E.quo rfl rfl (by omega) (by omega) (by omega)) ?_
  refine R.ev rfl ((E.conv rfl Try.underlying3 Try.underlying5).as (u := ub (byteAt n 24)) ((wrapU8 _).trans (by simp [byteAt]))) ?_
  refine R.ev rfl (E.move rfl) ?_
  refine R.ev rfl (E.quo rfl rfl (by omega) (by omega) (by omega)) ?_
  refine R.ev rfl (E.rem rfl rfl (by omega) (Int.ediv_nonneg h0 (by omega))) ?_
  refine R.ev rfl ((E.conv rfl Try.underlying3 Try.underlying5).as (u := ub (byteAt n 16)) ((wrapU8 _).trans (by simp [byteAt]))) ?_
  refine R.ev rfl (E.move rfl) ?_
  refine R.ev rfl (E.quo rfl rfl (by omega) (by omega) (by omega)) ?_
  refine R.ev rfl (E.rem rfl rfl (by omega) (Int.ediv_nonneg h0 (by omega))) ?_
  refine R.ev rfl ((E.conv rfl Try.underlying3 Try.underlying5).as (u := ub (byteAt n 8)) ((wrapU8 _).trans (by simp [byteAt]))) ?_
  refine R.ev rfl (E.move rfl) ?_
  refine R.ev rfl (E.rem rfl rfl (by omega) (by omega)) ?_
  refine R.ev rfl ((E.conv rfl Try.underlying3 Try.underlying5).as (u := ub (byteAt n 0)) ((wrapU8 _).trans (by simp [byteAt]))) ?_
  refine R.buildSlice1 (parts := [(0, .tmp 5), (1, .tmp 9), (2, .tmp 13), (3, .tmp 16)]) (vs := [_, _, _, _]) rfl rfl rfl Try.underlying69 Try.sz5 Try.zr5 rfl (by simp [Value.oneCell']) (by decide) ?_
  intro b17 w17 n17
  have hs := hs.new n17
  refine R.ev rfl (E.assign rfl) ?_
  refine R.done ?_
  refine X.keep [(2, _)] ⟨rfl, trivial⟩ ?_
  refine X.next ?_
  refine C.ret ?_
  refine X.ret1 rfl rfl ?_
  exact ⟨b17, _, rfl, ⟨⟨rfl, .inr ⟨b17, 4, [], rfl, rfl, Nat.le_refl _, by unfold maxLen; omega, rfl⟩⟩, fun y _ => rfl⟩, hs⟩
theorem rnum_any (hs : Sat K w Hs) [hr : KRow encB 1 K v P] (h4 : 4 ≤ P.length) : Ret Try.prog 62 #[v] w fun r w' => r = .int .i64 (beNat (P.take 4) : Nat) ∧ Sat K w' Hs := by
  obtain ⟨ad, cap, rfl, hsl, hc⟩ := hr.ex
  obtain ⟨bk, of, rfl, hat⟩ := hsl.at_ (by intro e; rw [e] at h4; simp at h4)
  rw [encB_map] at hat
  obtain ⟨a, b, c, d, r, rfl⟩ : ∃ a b c d r, P = a :: b :: c :: d :: r := by
    match P, h4 with
    | a :: b :: c :: d :: r, _ => exact ⟨a, b, c, d, r, rfl⟩
  have A0 : ∀ w', Sat K w' Hs → w'.cell? ⟨bk, of + 0 * 1, none⟩ = some (ub a) := fun w' h => hat.at h 0 _ rfl
  have A1 : ∀ w', Sat K w' Hs → w'.cell? ⟨bk, of + 1 * 1, none⟩ = some (ub b) := fun w' h => hat.at h 1 _ rfl
  have A2 : ∀ w', Sat K w' Hs → w'.cell? ⟨bk, of + 2 * 1, none⟩ = some (ub c) := fun w' h => hat.at h 2 _ rfl
  have A3 : ∀ w', Sat K w' Hs → w'.cell? ⟨bk, of + 3 * 1, none⟩ = some (ub d) := fun w' h => hat.at h 3 _ rfl
  have ha := a.toNat_lt
  have hb := b.toNat_lt
  have hc' := c.toNat_lt
  have hd := d.toNat_lt
  refine Ret.enter (n := 25) (args := [.slice (some ⟨bk, of, none⟩) (a :: b :: c :: d :: r).length cap]) Try.func62 rfl rfl ?_
  refine C.keep [(0, _)] ⟨rfl, trivial⟩ ?_
  refine C.seq ?_
  refine C.region ?_
  refine R.ev rfl (E.assign rfl) ?_
  refine R.done ?_
  refine X.keep [(0, _)] ⟨rfl, trivial⟩ ?_
  refine X.next ?_
  refine C.seq ?_
  refine C.drawn (SatS hs) ([2, 7, 13, 19], [0, 1, 3, 4, 5, 6, 8, 9, 10, 11, 12, 14, 15, 16, 17, 18, 20, 21, 22]) (by kernel_rfl) ?_
  have hs := hs.drew
  refine D.evP 0 rfl (by kernel_rfl) rfl (fun _ => hs.to) (fun _ => E.move rfl) ?_
  refine D.evP 1 rfl (by kernel_rfl) rfl (fun _ => hs.to) (fun _ => E.indexAddr (i := 0) rfl rfl Try.underlying69 Try.sz5 rfl (by simp)) ?_
  refine D.evP 5 rfl (by kernel_rfl) rfl (fun _ => hs.to) (fun _ => E.move rfl) ?_
  refine D.evP 6 rfl (by kernel_rfl) rfl (fun _ => hs.to) (fun _ => E.indexAddr (i := 1) rfl rfl Try.underlying69 Try.sz5 rfl (by simp)) ?_
  refine D.evP 11 rfl (by kernel_rfl) rfl (fun _ => hs.to) (fun _ => E.move rfl) ?_
  refine D.evP 12 rfl (by kernel_rfl) rfl (fun _ => hs.to) (fun _ => E.indexAddr (i := 2) rfl rfl Try.underlying69 Try.sz5 rfl (by simp)) ?_
  refine D.evP 17 rfl (by kernel_rfl) rfl (fun _ => hs.to) (fun _ => E.move rfl) ?_
  refine D.evP 18 rfl (by kernel_rfl) rfl (fun _ => hs.to) (fun _ => E.indexAddr (i := 3) rfl rfl Try.underlying69 Try.sz5 rfl (by simp)) ?_
  refine D.ev 2 rfl (by kernel_rfl) rfl hs.to (fun _ hS => E.load1 rfl Try.underlying5 rfl (A0 _ hS)) ?_
  refine D.evP 3 rfl (by kernel_rfl) rfl (fun _ => hs.to) (fun _ => (E.conv rfl Try.underlying5 Try.underlying3).isI (c := (a.toNat : Int)) (wrap_i64 (by omega) (by omega))) ?_
  refine D.evP 4 rfl (by kernel_rfl) rfl (fun _ => hs.to) (fun _ => E.mul rfl rfl (by omega) (by omega)) ?_
  refine D.ev 7 rfl (by kernel_rfl) rfl hs.to (fun _ hS => E.load1 rfl Try.underlying5 rfl (A1 _ hS)) ?_
  refine D.evP 8 rfl (by kernel_rfl) rfl (fun _ => hs.to) (fun _ => (E.conv rfl Try.underlying5 Try.underlying3).isI (c := (b.toNat : Int)) (wrap_i64 (by omega) (by omega))) ?_
  refine D.evP 9 rfl (by kernel_rfl) rfl (fun _ => hs.to) (fun _ => E.mul rfl rfl (by omega) (by omega)) ?_
  refine D.evP 10 rfl (by kernel_rfl) rfl (fun _ => hs.to) (fun _ => E.add rfl rfl (by omega) (by omega)) ?_
  refine D.ev 13 rfl (by kernel_rfl) rfl hs.to (fun _ hS => E.load1 rfl Try.underlying5 rfl (A2 _ hS)) ?_
  refine D.evP 14 rfl (by kernel_rfl) rfl (fun _ => hs.to) (fun _ => (E.conv rfl Try.underlying5 Try.underlying3).isI (c := (c.toNat : Int)) (wrap_i64 (by omega) (by omega))) ?_
  refine D.evP 15 rfl (by kernel_rfl) rfl (fun _ => hs.to) (fun _ => E.mul rfl rfl (by omega) (by omega)) ?_
  refine D.evP 16 rfl (by kernel_rfl) rfl (fun _ => hs.to) (fun _ => E.add rfl rfl (by omega) (by omega)) ?_
  refine D.ev 19 rfl (by kernel_rfl) rfl hs.to (fun _ hS => E.load1 rfl Try.underlying5 rfl (A3 _ hS)) ?_
  refine D.evP 20 rfl (by kernel_rfl) rfl (fun _ => hs.to) (fun _ => (E.conv rfl Try.underlying5 Try.underlying3).isI (c := (d.toNat : Int)) (wrap_i64 (by omega) (by omega))) ?_
  refine D.evP 21 rfl (by kernel_rfl) rfl (fun _ => hs.to) (fun _ => E.add rfl rfl (by omega) (by omega)) ?_
  refine D.evP 22 rfl (by kernel_rfl) rfl (fun _ => hs.to) (fun _ => E.assign rfl) ?_
  refine D.done rfl (by kernel_rfl) ?_
  refine X.keep [(2, _)] ⟨rfl, trivial⟩ ?_
  refine X.next ?_
  refine C.ret ?_
  refine X.ret1 rfl rfl ?_
  exact ⟨by simp only [List.take_succ_cons, List.take_zero, beNat, List.foldl_cons, List.foldl_nil]; congr 1; omega, hs⟩
theorem rencode_any (c : Int) (hc0 : 0 ≤ c ∧ c ≤ 105190559) (hck : ∀ x ∈ L, x.check = 0) (hL : L.length ≤ 1000) (hs : Sat K w Hs) [hr : KRow encH 36 K v L] : Ret Try.prog 39 #[v, .int .i64 c] w fun r w' => ∃ F', RowL 5 encB 1 r (bytesH c L) F' ∧ Sat K w' (F' :: Hs) := by
  obtain ⟨ad, cap, rfl, hsl, hc⟩ := hr.ex
  have n0 := num4_len c
  refine Ret.enter (n := 57) (args := [.slice ad L.length cap, .int .i64 c]) Try.func39 rfl rfl ?_
  refine C.keep [(0, _), (1, _)] ⟨rfl, rfl, trivial⟩ ?_
  refine C.seq ?_
  refine C.region ?_
  refine R.ev rfl (E.assign rfl) ?_
  refine R.done ?_
  refine X.keep [(0, _), (1, _)] ⟨rfl, rfl, trivial⟩ ?_
  refine X.next ?_
  refine C.seq ?_
  refine C.region ?_
  refine R.ev rfl (E.move rfl) ?_
  refine R.call ⟨_, _, Try.func65, rfl, by kernel_rfl⟩ rfl rfl (four_any c hc0.1 (by omega) hs) ?_
  rintro _ w9 ⟨b9, F9, rfl, r9, hs⟩
  refine R.ev rfl (E.assign rfl) ?_
  refine R.done ?_
  refine X.keep [(0, _), (5, _)] ⟨rfl, rfl, trivial⟩ ?_
  refine X.next ?_
  refine C.seq ?_
  refine C.seq ?_
  refine C.region ?_
  refine R.ev rfl (E.assign rfl) ?_
  refine R.done ?_
  refine X.keep [(0, _), (5, _), (6, _)] ⟨rfl, rfl, rfl, trivial⟩ ?_
  refine X.next ?_
  refine C.block ?_
  refine C.loop (T := Nat × Value × Hl) [(0, _)] (fun (k, v, _) => [(5, v), (6, .int .i64 (k : Nat))]) (fun (k, v', G') w' => k ≤ L.length ∧ RowL 5 encB 1 v' (num4 c ++ (L.take k).flatMap entH) G' ∧ Sat K w' (G' :: Hs)) (fun (k, _) => L.length - k) ((0, _, F9)) ⟨rfl, rfl, rfl, trivial⟩ ⟨by omega, by simpa using r9, hs⟩ ?_
  rintro ⟨k, v1, G1⟩ w1 ⟨hk, r1, hs⟩
  have hlen : (num4 c ++ (L.take k).flatMap entH).length ≤ 1000000 := by rw [List.length_append, entsH_len, List.length_take]; omega
  generalize hB : num4 c ++ (L.take k).flatMap entH = B at r1 hlen
  refine C.keep [(0, _), (5, _), (6, _)] ⟨rfl, rfl, rfl, trivial⟩ ?_
  refine C.seq ?_
  refine C.seq ?_
  refine C.region ?_
  refine R.ev rfl (E.move rfl) ?_
  refine R.ev rfl (E.move rfl) ?_
  refine R.ev rfl (E.lenSl rfl Try.underlying36) ?_
  refine R.ev rfl (E.lss rfl rfl) ?_
  refine R.done ?_
  refine X.keep [(0, _), (5, _), (6, _), (13, _)] ⟨rfl, rfl, rfl, rfl, trivial⟩ ?_
  refine X.next ?_
  refine C.cdec rfl (fun h13 => ?_) (fun h13 => ?_)
  · obtain ⟨y, bk_y, of_y, hy, my, ly, rfl, Ay⟩ := (hs.to (Hs := [])).el (i := k) (ad := ad) (n := L.length) (c := cap) (by omega)
    have ay := Ay _ hs.to
    obtain ⟨ca, cd, hst⟩ := check0 (hck y my)
    have hyl := y.id.2
    have n1 := num4_len y.arr
    have n2 := num4_len y.date
    refine C.skip ?_
    refine X.next ?_
    refine C.seq ?_
    refine C.block ?_
    refine C.seq ?_
    refine C.region ?_
    refine R.ev rfl (E.move rfl) ?_
    refine R.ev rfl (E.move rfl) ?_
    refine R.ev rfl (E.indexAddr rfl rfl Try.underlying36 Try.sz24 rfl (by first | omega | decide)) ?_
    first | refine R.ev rfl (E.fieldAddr0 34 rfl Try.underlying24 rfl Try.sz3 rfl) ?_ | refine R.ev rfl (E.fieldAddrN 34 rfl Try.underlying24 rfl Try.sz3 rfl) ?_
    refine R.ev rfl (E.load1 rfl Try.underlying3 rfl (by first | exact hs.ldc | exact hs.ld rfl | exact hs.ld (by assumption) | exact by assumption | exact At.cellC (by assumption))) ?_
    refine R.ev rfl (E.assign rfl) ?_
    refine R.done ?_
    refine X.keep [(0, _), (5, _), (6, _), (7, _)] ⟨rfl, rfl, rfl, rfl, trivial⟩ ?_
    refine X.next ?_
    refine C.seq ?_
    refine C.seq ?_
    refine C.region ?_
    refine R.ev rfl (E.move rfl) ?_
    refine R.ev rfl (E.move rfl) ?_
    refine R.ev rfl (E.indexAddr rfl rfl Try.underlying36 Try.sz24 rfl (by first | omega | decide)) ?_
    first | refine R.ev rfl (E.fieldAddr0 35 rfl Try.underlying24 rfl Try.sz4 rfl) ?_ | refine R.ev rfl (E.fieldAddrN 35 rfl Try.underlying24 rfl Try.sz4 rfl) ?_
    refine R.ev rfl (E.load1 rfl Try.underlying4 rfl (by first | exact hs.ldc | exact hs.ld rfl | exact hs.ld (by assumption) | exact by assumption | exact At.cellC (by assumption))) ?_
    refine R.done ?_
    refine X.keep [(0, _), (5, _), (6, _), (7, _), (25, _)] ⟨rfl, rfl, rfl, rfl, rfl, trivial⟩ ?_
    refine X.next ?_
    refine C.cut [(0, _), (5, _), (6, _)] (fun (_ : Unit) => [(7, .int .i64 (flagI y))]) (fun _ w' => Sat K w' (G1 :: Hs)) ⟨rfl, rfl, rfl, trivial⟩ ?_ ?_
    · refine C.cbool rfl (fun h25 => ?_) (fun h25 => ?_)
      · have hfl : y.state + 2 = flagI y := by rw [flagI, h25]; rfl
        refine C.region ?_
        refine R.ev rfl (E.move rfl) ?_
        refine R.ev rfl ((E.add rfl rfl (by omega) (by omega)).isI (c := flagI y) hfl) ?_
        refine R.ev rfl (E.assign rfl) ?_
        refine R.done ?_
        refine X.keep [(0, _), (5, _), (6, _), (7, _)] ⟨rfl, rfl, rfl, rfl, trivial⟩ ?_
        first
          | exact X.cut (()) ⟨lkV rfl rfl, rfl, rfl, rfl, trivial⟩ hs.to
          | (rw [hfl]; exact X.cut (()) ⟨lkV rfl rfl, rfl, rfl, rfl, trivial⟩ hs.to)
      · have hfl : y.state = flagI y := by rw [flagI, h25]; simp
        refine C.skip ?_
        first
          | exact X.cut (()) ⟨lkV rfl rfl, rfl, rfl, rfl, trivial⟩ hs.to
          | (rw [hfl]; exact X.cut (()) ⟨lkV rfl rfl, rfl, rfl, rfl, trivial⟩ hs.to)
    · rintro _ w25 hs
      refine X.keep [(0, _), (5, _), (6, _), (7, _)] ⟨rfl, rfl, rfl, rfl, trivial⟩ ?_
      refine X.next ?_
      refine C.seq ?_
      refine C.region ?_
      refine R.ev rfl (E.move rfl) ?_
      refine R.ev rfl (E.move rfl) ?_
      refine R.ev rfl (E.move rfl) ?_
      refine R.ev rfl (E.indexAddr rfl rfl Try.underlying36 Try.sz24 rfl (by first | omega | decide)) ?_
      first | refine R.ev rfl (E.fieldAddr0 0 rfl Try.underlying24 rfl Try.sz22 rfl) ?_ | refine R.ev rfl (E.fieldAddrN 0 rfl Try.underlying24 rfl Try.sz22 rfl) ?_
      refine R.ev rfl ((E.sliceA rfl Try.underlying22 Try.sz5).as (u := .slice (some ⟨bk_y, of_y + k * 36 + 0, none⟩) 32 32) rfl) ?_
      have hrd : Rd encB 1 K (G1 :: Hs) (.slice (some ⟨bk_y, of_y + k * 36 + 0, none⟩) 32 32) y.id.1 := Rd.bytesA hyl (by omega) (fun w' h => (Ay w' h.to).app.1)
      refine R.cappSl hs rfl rfl Try.underlying69 Try.by5 (by rfl) rfl (by decide) (by first | omega | (simp only [List.length_append, List.length_cons, List.length_nil] at *; omega)) (by first | omega | (simp only [List.length_append, List.length_cons, List.length_nil] at *; omega)) ?_
      intro v34 w34 F34 r34 hs
      refine R.ev rfl (E.assign rfl) ?_
      refine R.done ?_
      refine X.keep [(0, _), (5, _), (6, _), (7, _)] ⟨rfl, rfl, rfl, rfl, trivial⟩ ?_
      refine X.next ?_
      refine C.seq ?_
      refine C.region ?_
      have ay := Ay _ hs.to
      refine R.ev rfl (E.move rfl) ?_
      refine R.ev rfl (E.move rfl) ?_
      refine R.ev rfl (E.move rfl) ?_
      refine R.ev rfl (E.indexAddr rfl rfl Try.underlying36 Try.sz24 rfl (by first | omega | decide)) ?_
      first | refine R.ev rfl (E.fieldAddr0 32 rfl Try.underlying24 rfl Try.sz3 rfl) ?_ | refine R.ev rfl (E.fieldAddrN 32 rfl Try.underlying24 rfl Try.sz3 rfl) ?_
      refine R.ev rfl (E.load1 rfl Try.underlying3 rfl (by first | exact hs.ldc | exact hs.ld rfl | exact hs.ld (by assumption) | exact by assumption | exact At.cellC (by assumption))) ?_
      refine R.call ⟨_, _, Try.func65, rfl, by kernel_rfl⟩ rfl rfl (four_any y.arr ca.1 (by omega) hs) ?_
      rintro _ w96 ⟨b96, F96, rfl, r96, hs⟩
      refine R.cappSl hs rfl rfl Try.underlying69 Try.by5 (by rfl) rfl (by decide) (by first | omega | (simp only [List.length_append, List.length_cons, List.length_nil] at *; omega)) (by first | omega | (simp only [List.length_append, List.length_cons, List.length_nil] at *; omega)) ?_
      intro v42 w42 F42 r42 hs
      refine R.ev rfl (E.assign rfl) ?_
      refine R.done ?_
      refine X.keep [(0, _), (5, _), (6, _), (7, _)] ⟨rfl, rfl, rfl, rfl, trivial⟩ ?_
      refine X.next ?_
      refine C.seq ?_
      refine C.region ?_
      have ay := Ay _ hs.to
      refine R.ev rfl (E.move rfl) ?_
      refine R.ev rfl (E.move rfl) ?_
      refine R.ev rfl (E.move rfl) ?_
      refine R.ev rfl (E.indexAddr rfl rfl Try.underlying36 Try.sz24 rfl (by first | omega | decide)) ?_
      first | refine R.ev rfl (E.fieldAddr0 33 rfl Try.underlying24 rfl Try.sz3 rfl) ?_ | refine R.ev rfl (E.fieldAddrN 33 rfl Try.underlying24 rfl Try.sz3 rfl) ?_
      refine R.ev rfl (E.load1 rfl Try.underlying3 rfl (by first | exact hs.ldc | exact hs.ld rfl | exact hs.ld (by assumption) | exact by assumption | exact At.cellC (by assumption))) ?_
      refine R.call ⟨_, _, Try.func65, rfl, by kernel_rfl⟩ rfl rfl (four_any y.date cd.1 (by omega) hs) ?_
      rintro _ w106 ⟨b106, F106, rfl, r106, hs⟩
      refine R.cappSl hs rfl rfl Try.underlying69 Try.by5 (by rfl) rfl (by decide) (by first | omega | (simp only [List.length_append, List.length_cons, List.length_nil] at *; omega)) (by first | omega | (simp only [List.length_append, List.length_cons, List.length_nil] at *; omega)) ?_
      intro v50 w50 F50 r50 hs
      refine R.ev rfl (E.assign rfl) ?_
      refine R.done ?_
      refine X.keep [(0, _), (5, _), (6, _), (7, _)] ⟨rfl, rfl, rfl, rfl, trivial⟩ ?_
      refine X.next ?_
      refine C.region ?_
      refine R.ev rfl (E.move rfl) ?_
      refine R.ev rfl (E.move rfl) ?_
      refine R.ev rfl ((E.conv rfl Try.underlying3 Try.underlying5).as (u := ub (byteAt (flagI y) 0)) (wrapU8 _)) ?_
      refine R.buildSlice1 (parts := [(0, .tmp 53)]) (vs := [_]) rfl rfl rfl Try.underlying69 Try.sz5 Try.zr5 rfl (by simp [Value.oneCell']) (by decide) ?_
      intro b54 w54 n54
      have hs := hs.new n54
      refine R.capp1 (byteAt (flagI y) 0) hs rfl rfl Try.underlying69 Try.by5 (by rfl) rfl (by first | exact hs.ldA | exact hs.ldP rfl | exact by assumption) (by decide) (by first | omega | (simp only [List.length_append, List.length_cons, List.length_nil] at *; omega)) (by first | omega | (simp only [List.length_append, List.length_cons, List.length_nil] at *; omega)) ?_
      intro v55 w55 F55 r55 hs
      refine R.ev rfl (E.assign rfl) ?_
      refine R.done ?_
      refine X.keep [(0, _), (5, _), (6, _)] ⟨rfl, rfl, rfl, trivial⟩ ?_
      refine X.blockNormal ?_
      refine X.next ?_
      refine C.region ?_
      refine R.ev rfl (E.move rfl) ?_
      refine R.ev rfl (E.add rfl rfl (by omega) (by omega)) ?_
      refine R.ev rfl (E.assign rfl) ?_
      refine R.done ?_
      refine X.keep [(0, _), (5, _), (6, _)] ⟨rfl, rfl, rfl, trivial⟩ ?_
      exact X.again (k + 1, v55, F55) ⟨rfl, rfl, rfl, trivial⟩ ⟨by omega, by rw [take_snoc hy, List.flatMap_append, ← List.append_assoc, hB]; simpa [entH, List.append_assoc] using r55, hs.to⟩ (by show _ - _ < _ - _; omega)
  · refine C.exit ?_
    refine X.thenExit ?_
    refine X.loopExit ?_
    refine X.blockExit ?_
    refine X.next ?_
    refine C.seq ?_
    refine C.region ?_
    refine R.ev rfl (E.move rfl) ?_
    refine R.ev rfl (E.assign rfl) ?_
    refine R.done ?_
    refine X.keep [(4, _)] ⟨rfl, trivial⟩ ?_
    refine X.next ?_
    refine C.ret ?_
    refine X.ret1 rfl rfl ?_
    rw [show k = L.length by omega, List.take_length] at hB
    exact ⟨G1, by rw [bytesH, hB]; exact r1, hs.to⟩
/-! Decode -/
theorem encH_copy (o : HEnt) (a : Vec 32) : (encH o).take 0 ++ (a.1.take 32).map ub ++ (encH o).drop (0 + (a.1.take 32).length) = encH { o with id := a } := by
  have h1 : a.1.take 32 = a.1 := List.take_of_length_le (by rw [a.2]; omega)
  rw [h1, a.2, encH, encH, List.take_zero, List.nil_append]
  congr 1
  rw [List.drop_append_of_le_length (by rw [List.length_map, o.id.2]; omega), List.drop_eq_nil_of_le (by rw [List.length_map, o.id.2]; omega), List.nil_append]
theorem encH_arr (o : HEnt) (d : Int) : (encH o).set 32 (.int .i64 d) = encH { o with arr := d } := by
  rw [encH, encH, List.set_append_right _ _ (by rw [List.length_map, o.id.2]; omega), List.length_map, o.id.2]; rfl
theorem encH_date (o : HEnt) (d : Int) : (encH o).set 33 (.int .i64 d) = encH { o with date := d } := by
  rw [encH, encH, List.set_append_right _ _ (by rw [List.length_map, o.id.2]; omega), List.length_map, o.id.2]; rfl
theorem encH_state (o : HEnt) (d : Int) : (encH o).set 34 (.int .i64 d) = encH { o with state := d } := by
  rw [encH, encH, List.set_append_right _ _ (by rw [List.length_map, o.id.2]; omega), List.length_map, o.id.2]; rfl
theorem encH_perm (o : HEnt) (d : Bool) : (encH o).set 35 (.bool d) = encH { o with perm := d } := by
  rw [encH, encH, List.set_append_right _ _ (by rw [List.length_map, o.id.2]; omega), List.length_map, o.id.2]; rfl
theorem chunk_sub {k i m : Nat} (h : i + m ≤ 41) : ((chunk P k).drop i).take m = (P.drop (4 + 41 * k + i)).take m := by
  rw [chunk, List.drop_take, List.take_take, List.drop_drop, Nat.min_eq_left (by omega)]
theorem chunk_fl {k : Nat} {c : UInt8} (h : P[4 + 41 * k + 40]? = some c) : flOf (chunk P k) = c := by
  obtain ⟨h1, h2⟩ := List.getElem?_eq_some_iff.1 h
  rw [flOf, chunk, List.drop_take, List.drop_drop, List.drop_eq_getElem_cons h1, h2]; rfl
def RDPost (K : Kn) (Hs : List Hl) (P : List UInt8) (r : Value) (w' : World) : Prop :=
  ((∀ c Dx, ¬ GoodB P c Dx) ∧ r = .tuple #[.slice none 0 0, .int .i64 0, .int .i64 3] ∧ Sat K w' Hs) ∨ ∃ c Dx K' v', GoodB P c Dx ∧ r = .tuple #[v', .int .i64 c, .int .i64 0] ∧ KLe K K' ∧ KRow encH 36 K' v' Dx ∧ Sat K' w' Hs
theorem rdecode_any (hs : Sat K w Hs) [hr : KRow encB 1 K v P] (hP : P.length ≤ 10000) : Ret Try.prog 37 #[v] w (RDPost K Hs P) := by
  obtain ⟨ad, cap, rfl, hsl, hc⟩ := hr.ex
  refine Ret.enter (n := 104) (args := [.slice ad P.length cap]) Try.func37 rfl rfl ?_
  refine C.keep [(0, _)] ⟨rfl, trivial⟩ ?_
  refine C.seq ?_
  refine C.region ?_
  refine R.ev rfl (E.assign rfl) ?_
  refine R.ev rfl (E.assign rfl) ?_
  refine R.ev rfl (E.assign rfl) ?_
  refine R.done ?_
  refine X.keep [(0, _)] ⟨rfl, trivial⟩ ?_
  refine X.next ?_
  refine C.seq ?_
  refine C.seq ?_
  refine C.region ?_
  refine R.ev rfl (E.move rfl) ?_
  refine R.ev rfl (E.lenSl rfl Try.underlying69) ?_
  refine R.ev rfl (E.lss rfl rfl) ?_
  refine R.ev rfl (E.move rfl) ?_
  refine R.split 11 rfl (fun h11 => ?_) (fun h11 => ?_)
  · refine R.gskip rfl rfl rfl ?_
    refine R.gskip rfl rfl rfl ?_
    refine R.gskip rfl rfl rfl ?_
    refine R.gskip rfl rfl rfl ?_
    refine R.ev rfl (E.pickT rfl rfl) ?_
    refine R.ev rfl (E.move rfl) ?_
    refine R.gskip rfl rfl rfl ?_
    refine R.gskip rfl rfl rfl ?_
    refine R.gskip rfl rfl rfl ?_
    refine R.gskip rfl rfl rfl ?_
    refine R.ev rfl (E.pickT rfl rfl) ?_
    refine R.done ?_
    refine X.keep [(0, _), (22, _)] ⟨rfl, rfl, trivial⟩ ?_
    refine X.next ?_
    refine C.ctrue rfl ?_
    refine C.seq ?_
    refine C.region ?_
    refine R.ev rfl (E.assign rfl) ?_
    refine R.ev rfl (E.assign rfl) ?_
    refine R.ev rfl (E.assign rfl) ?_
    refine R.done ?_
    refine X.keep [(2, _), (3, _), (4, _)] ⟨rfl, rfl, rfl, trivial⟩ ?_
    refine X.next ?_
    refine C.ret ?_
    refine X.thenRet ?_
    refine X.ret3 rfl rfl rfl rfl ?_
    refine .inl ⟨fun c Dx g => ?_, rfl, hs.to⟩
    obtain ⟨g1, g2, g3⟩ := g.head
    first
      | (have := of_decide_eq_true h11; omega)
      | (have := of_decide_eq_true h17; omega)
      | (rw [g3, g.cut] at h22; simp at h22)
  · refine R.gyes rfl rfl ?_
    refine R.ev rfl (E.move rfl) ?_
    refine R.gyes rfl rfl ?_
    refine R.ev rfl (E.lenSl rfl Try.underlying69) ?_
    refine R.gyes rfl rfl ?_
    refine R.ev rfl (E.rem rfl rfl (by omega) (by omega)) ?_
    refine R.gyes rfl rfl ?_
    refine R.ev rfl (E.neq rfl rfl) ?_
    refine R.ev rfl (E.pickF rfl rfl) ?_
    refine R.ev rfl (E.move rfl) ?_
    refine R.split 17 rfl (fun h17 => ?_) (fun h17 => ?_)
    · refine R.gskip rfl rfl rfl ?_
      refine R.gskip rfl rfl rfl ?_
      refine R.gskip rfl rfl rfl ?_
      refine R.gskip rfl rfl rfl ?_
      refine R.ev rfl (E.pickT rfl rfl) ?_
      refine R.done ?_
      refine X.keep [(0, _), (22, _)] ⟨rfl, rfl, trivial⟩ ?_
      refine X.next ?_
      refine C.ctrue rfl ?_
      refine C.seq ?_
      refine C.region ?_
      refine R.ev rfl (E.assign rfl) ?_
      refine R.ev rfl (E.assign rfl) ?_
      refine R.ev rfl (E.assign rfl) ?_
      refine R.done ?_
      refine X.keep [(2, _), (3, _), (4, _)] ⟨rfl, rfl, rfl, trivial⟩ ?_
      refine X.next ?_
      refine C.ret ?_
      refine X.thenRet ?_
      refine X.ret3 rfl rfl rfl rfl ?_
      refine .inl ⟨fun c Dx g => ?_, rfl, hs.to⟩
      obtain ⟨g1, g2, g3⟩ := g.head
      first
        | (have := of_decide_eq_true h11; omega)
        | (have := of_decide_eq_true h17; omega)
        | (rw [g3, g.cut] at h22; simp at h22)
    · refine R.gyes rfl rfl ?_
      have h4 : 4 ≤ P.length := by have := of_decide_eq_false h11; omega
      have hmod : P.length % 41 = 4 := by have := of_decide_eq_false h17; omega
      refine R.ev rfl (E.move rfl) ?_
      refine R.gyes rfl rfl ?_
      refine R.call ⟨_, _, Try.func62, rfl, by kernel_rfl⟩ rfl rfl (rnum_any (P := P) hs h4) ?_
      rintro _ w1 ⟨rfl, hs⟩
      refine R.gyes rfl rfl ?_
      refine R.call ⟨_, _, Try.func42, rfl, by kernel_rfl⟩ rfl rfl (minute_any _ _) ?_
      rintro _ _ ⟨rfl, rfl⟩
      refine R.gyes rfl rfl ?_
      refine R.ev rfl ((E.not rfl).isB (c := !(isMin (beNat (P.take 4) : Nat))) rfl) ?_
      refine R.ev rfl (E.pickF rfl rfl) ?_
      refine R.done ?_
      refine X.keep [(0, _), (22, _)] ⟨rfl, rfl, trivial⟩ ?_
      refine X.next ?_
      refine C.cbool rfl (fun h22 => ?_) (fun h22 => ?_)
      · refine C.seq ?_
        refine C.region ?_
        refine R.ev rfl (E.assign rfl) ?_
        refine R.ev rfl (E.assign rfl) ?_
        refine R.ev rfl (E.assign rfl) ?_
        refine R.done ?_
        refine X.keep [(2, _), (3, _), (4, _)] ⟨rfl, rfl, rfl, trivial⟩ ?_
        refine X.next ?_
        refine C.ret ?_
        refine X.thenRet ?_
        refine X.ret3 rfl rfl rfl rfl ?_
        refine .inl ⟨fun c Dx g => ?_, rfl, hs.to⟩
        obtain ⟨g1, g2, g3⟩ := g.head
        first
          | (have := of_decide_eq_true h11; omega)
          | (have := of_decide_eq_true h17; omega)
          | (rw [g3, g.cut] at h22; simp at h22)
      · refine C.skip ?_
        refine X.next ?_
        refine C.seq ?_
        refine C.region ?_
        have hm : isMin (beNat (P.take 4) : Nat) = true := by simpa using h22
        have hpre0 := PreB.start h4 hm
        refine R.ev rfl (E.assign rfl) ?_
        refine R.done ?_
        refine X.keep [(0, _), (5, _)] ⟨rfl, rfl, trivial⟩ ?_
        refine X.next ?_
        refine C.seq ?_
        refine C.seq ?_
        refine C.region ?_
        refine R.ev rfl (E.assign rfl) ?_
        refine R.done ?_
        refine X.keep [(0, _), (5, _), (6, _)] ⟨rfl, rfl, rfl, trivial⟩ ?_
        refine X.next ?_
        refine C.block ?_
        refine C.loop (T := List HEnt × Value × Hl) [(0, _)] (fun (Dx, v, _) => [(5, v), (6, .int .i64 ((4 + 41 * Dx.length : Nat) : Int))]) (fun (Dx, v, F) w' => PreB P (beNat (P.take 4) : Nat) Dx ∧ RowL 24 encH 36 v Dx F ∧ Sat K w' (F :: Hs)) (fun (Dx, _) => P.length - 41 * Dx.length) (([], .slice none 0 0, [])) ⟨rfl, rfl, rfl, trivial⟩ ⟨hpre0, RowL.nil _ _ _, hs.nil⟩ ?_
        rintro ⟨Dx, v1, F1⟩ w2 ⟨hpre, r1, hs⟩
        have hlen := hpre.len
        obtain ⟨ad1, cap1, rfl, _⟩ := r1.val
        generalize hat : 4 + 41 * Dx.length = at_ at hlen
        refine C.keep [(0, _), (5, _), (6, _)] ⟨rfl, rfl, rfl, trivial⟩ ?_
        refine C.seq ?_
        refine C.seq ?_
        refine C.region ?_
        refine R.ev rfl (E.move rfl) ?_
        refine R.ev rfl (E.move rfl) ?_
        refine R.ev rfl (E.lenSl rfl Try.underlying69) ?_
        refine R.ev rfl (E.lss rfl rfl) ?_
        refine R.done ?_
        refine X.keep [(0, _), (5, _), (6, _), (26, _)] ⟨rfl, rfl, rfl, rfl, trivial⟩ ?_
        refine X.next ?_
        refine C.cdec rfl (fun h26 => ?_) (fun h26 => ?_)
        · have hch : at_ + 41 ≤ P.length := by omega
          have hcl : (chunk P Dx.length).length = 41 := chunk_len (by omega)
          have k1 := hr.part (i := at_) (j := at_ + 32) (by omega) (by omega)
          have k2 := hr.part (i := at_ + 32) (j := at_ + 36) (by omega) (by omega)
          have k3 := hr.part (i := at_ + 36) (j := at_ + 40) (by omega) (by omega)
          rw [show at_ + 32 - at_ = 32 by omega] at k1
          rw [show at_ + 36 - (at_ + 32) = 4 by omega] at k2
          rw [show at_ + 40 - (at_ + 36) = 4 by omega] at k3
          obtain ⟨fl, bk, of, hfl, _, _, rfl, Afl⟩ := (hs.to (Hs := [])).el (i := at_ + 40) (ad := ad) (n := P.length) (c := cap) (by omega)
          have efl : flOf (chunk P Dx.length) = fl := chunk_fl (by rw [hat]; exact hfl)
          have hflt := fl.toNat_lt
          have eid : (decX (chunk P Dx.length)).id.1 = (P.drop at_).take 32 := by
            have := chunk_sub (P := P) (k := Dx.length) (i := 0) (m := 32) (by omega)
            rw [List.drop_zero, hat, Nat.add_zero] at this
            rw [← this]; simp only [decX]; rw [dif_pos hcl]
          have ear : (decX (chunk P Dx.length)).arr = ((beNat (((P.drop (at_ + 32)).take 4).take 4) : Nat) : Int) := by
            have := chunk_sub (P := P) (k := Dx.length) (i := 32) (m := 4) (by omega)
            rw [List.take_take, Nat.min_self, ← hat, ← this]; rfl
          have eda : (decX (chunk P Dx.length)).date = ((beNat (((P.drop (at_ + 36)).take 4).take 4) : Nat) : Int) := by
            have := chunk_sub (P := P) (k := Dx.length) (i := 36) (m := 4) (by omega)
            rw [List.take_take, Nat.min_self, ← hat, ← this]; rfl
          have est : (decX (chunk P Dx.length)).state = ((fl.toNat % 2 : Nat) : Int) := by rw [← efl]; rfl
          have epm : (decX (chunk P Dx.length)).perm = decide (2 ≤ fl.toNat) := by rw [← efl]; rfl
          have eok : okX (chunk P Dx.length) = (decide (fl.toNat < 4) && decide ((decX (chunk P Dx.length)).check = 0)) := by rw [okX, efl]
          generalize hx : decX (chunk P Dx.length) = x at eid ear eda est epm eok
          refine C.skip ?_
          refine X.next ?_
          refine C.seq ?_
          refine C.block ?_
          refine C.seq ?_
          refine C.region ?_
          refine R.sallocA hs Try.zr24 rfl ?_
          intro b7 w7 hs
          refine R.done ?_
          refine X.keep [(0, _), (5, _), (6, _), (7, _)] ⟨rfl, rfl, rfl, rfl, trivial⟩ ?_
          refine X.next ?_
          refine C.seq ?_
          refine C.drawn (SatS hs) ([], [0, 1, 2, 3, 4, 5, 6]) (by kernel_rfl) ?_
          have hs := hs.drew
          first | refine D.evP 0 rfl (by kernel_rfl) rfl (np (by kernel_rfl)) (fun _ => E.fieldAddr0 0 rfl Try.underlying24 rfl Try.sz22 rfl) ?_ | refine D.evP 0 rfl (by kernel_rfl) rfl (np (by kernel_rfl)) (fun _ => E.fieldAddrN 0 rfl Try.underlying24 rfl Try.sz22 rfl) ?_
          refine D.evP 1 rfl (by kernel_rfl) rfl (np (by kernel_rfl)) (fun _ => (E.sliceA rfl Try.underlying22 Try.sz5).as (u := .slice (some ⟨b7, 0, none⟩) 32 32) rfl) ?_
          refine D.evP 2 rfl (by kernel_rfl) rfl (np (by kernel_rfl)) (fun _ => E.move rfl) ?_
          refine D.evP 3 rfl (by kernel_rfl) rfl (np (by kernel_rfl)) (fun _ => E.move rfl) ?_
          refine D.evP 4 rfl (by kernel_rfl) rfl (np (by kernel_rfl)) (fun _ => E.move rfl) ?_
          refine D.evP 5 rfl (by kernel_rfl) rfl (np (by kernel_rfl)) (fun _ => (E.add rfl rfl (by omega) (by omega)).isI (c := ((at_ + 32 : Nat) : Int)) (by omega)) ?_
          refine D.evP 6 rfl (by kernel_rfl) rfl (np (by kernel_rfl)) (fun _ => (E.sliceLHs (a := at_) (b := at_ + 32) rfl rfl rfl Try.underlying69 Try.sz5 (by omega) rfl (by omega) (by omega)).as (u := .slice (subAd (some ⟨bk, of, none⟩) cap at_ 1) 32 (cap - at_)) (by congr 1; omega)) ?_
          refine D.act 7 rfl (by kernel_rfl) ?_
          have hs : Sat K _ (row b7 24 (encH hz) :: F1 :: Hs) := hs
          refine R.ccopyB hs rfl rfl Try.underlying69 Try.sz5 rfl (M := (P.drop at_).take 32) (by intro e; have := congrArg List.length e; simp at this; omega) (by rw [Enc.len]; decide) ?_
          intro w36 hs
          have ecp := encH_copy hz x.id
          rw [eid] at ecp
          rw [ecp] at hs
          refine D.backT (by kernel_rfl) ?_
          refine D.done rfl (by kernel_rfl) ?_
          refine X.keep [(0, _), (5, _), (6, _), (7, _)] ⟨rfl, rfl, rfl, rfl, trivial⟩ ?_
          refine X.next ?_
          refine C.seq ?_
          refine C.drawn (SatS hs) ([], [0, 1, 2, 3, 4, 5, 7, 8, 9, 10, 11, 12, 14, 16]) (by kernel_rfl) ?_
          have hs := hs.drew
          refine D.evP 0 rfl (by kernel_rfl) rfl (np (by kernel_rfl)) (fun _ => E.move rfl) ?_
          refine D.evP 1 rfl (by kernel_rfl) rfl (np (by kernel_rfl)) (fun _ => E.move rfl) ?_
          refine D.evP 2 rfl (by kernel_rfl) rfl (np (by kernel_rfl)) (fun _ => (E.add rfl rfl (by omega) (by omega)).isI (c := ((at_ + 32 : Nat) : Int)) (by omega)) ?_
          refine D.evP 3 rfl (by kernel_rfl) rfl (np (by kernel_rfl)) (fun _ => E.move rfl) ?_
          refine D.evP 4 rfl (by kernel_rfl) rfl (np (by kernel_rfl)) (fun _ => (E.add rfl rfl (by omega) (by omega)).isI (c := ((at_ + 36 : Nat) : Int)) (by omega)) ?_
          refine D.evP 5 rfl (by kernel_rfl) rfl (np (by kernel_rfl)) (fun _ => (E.sliceLHs (a := at_ + 32) (b := at_ + 36) rfl rfl rfl Try.underlying69 Try.sz5 rfl rfl (by omega) (by omega)).as (u := .slice (subAd (some ⟨bk, of, none⟩) cap (at_ + 32) 1) 4 (cap - (at_ + 32))) (by congr 1; omega)) ?_
          refine D.evP 7 rfl (by kernel_rfl) rfl (np (by kernel_rfl)) (fun _ => E.move rfl) ?_
          refine D.evP 8 rfl (by kernel_rfl) rfl (np (by kernel_rfl)) (fun _ => E.move rfl) ?_
          refine D.evP 9 rfl (by kernel_rfl) rfl (np (by kernel_rfl)) (fun _ => (E.add rfl rfl (by omega) (by omega)).isI (c := ((at_ + 36 : Nat) : Int)) (by omega)) ?_
          refine D.evP 10 rfl (by kernel_rfl) rfl (np (by kernel_rfl)) (fun _ => E.move rfl) ?_
          refine D.evP 11 rfl (by kernel_rfl) rfl (np (by kernel_rfl)) (fun _ => (E.add rfl rfl (by omega) (by omega)).isI (c := ((at_ + 40 : Nat) : Int)) (by omega)) ?_
          refine D.evP 12 rfl (by kernel_rfl) rfl (np (by kernel_rfl)) (fun _ => (E.sliceLHs (a := at_ + 36) (b := at_ + 40) rfl rfl rfl Try.underlying69 Try.sz5 rfl rfl (by omega) (by omega)).as (u := .slice (subAd (some ⟨bk, of, none⟩) cap (at_ + 36) 1) 4 (cap - (at_ + 36))) (by congr 1; omega)) ?_
          refine D.act 6 rfl (by kernel_rfl) ?_
          refine R.call ⟨_, _, Try.func62, rfl, by kernel_rfl⟩ rfl rfl (rnum_any (P := (P.drop (at_ + 32)).take 4) hs (by simp; omega)) ?_
          rintro _ w43 ⟨rfl, hs⟩
          rw [← ear]
          refine D.backT (by kernel_rfl) ?_
          refine D.act 13 rfl (by kernel_rfl) ?_
          refine R.call ⟨_, _, Try.func62, rfl, by kernel_rfl⟩ rfl rfl (rnum_any (P := (P.drop (at_ + 36)).take 4) hs (by simp; omega)) ?_
          rintro _ w50 ⟨rfl, hs⟩
          rw [← eda]
          refine D.backT (by kernel_rfl) ?_
          first | refine D.evP 14 rfl (by kernel_rfl) rfl (np (by kernel_rfl)) (fun _ => E.fieldAddr0 32 rfl Try.underlying24 rfl Try.sz3 rfl) ?_ | refine D.evP 14 rfl (by kernel_rfl) rfl (np (by kernel_rfl)) (fun _ => E.fieldAddrN 32 rfl Try.underlying24 rfl Try.sz3 rfl) ?_
          refine D.act 15 rfl (by kernel_rfl) ?_
          refine R.cstore1 hs rfl rfl Try.sz3 (by rw [Enc.len]; decide) rfl ?_
          intro w915 hs
          rw [encH_arr] at hs
          refine D.backT (by kernel_rfl) ?_
          first | refine D.evP 16 rfl (by kernel_rfl) rfl (np (by kernel_rfl)) (fun _ => E.fieldAddr0 33 rfl Try.underlying24 rfl Try.sz3 rfl) ?_ | refine D.evP 16 rfl (by kernel_rfl) rfl (np (by kernel_rfl)) (fun _ => E.fieldAddrN 33 rfl Try.underlying24 rfl Try.sz3 rfl) ?_
          refine D.act 17 rfl (by kernel_rfl) ?_
          refine R.cstore1 hs rfl rfl Try.sz3 (by rw [Enc.len]; decide) rfl ?_
          intro w917 hs
          rw [encH_date] at hs
          refine D.backT (by kernel_rfl) ?_
          refine D.done rfl (by kernel_rfl) ?_
          refine X.keep [(0, _), (5, _), (6, _), (7, _)] ⟨rfl, rfl, rfl, rfl, trivial⟩ ?_
          refine X.next ?_
          refine C.seq ?_
          refine C.drawn (SatS hs) ([4, 11], [0, 1, 2, 3, 5, 6, 7, 8, 9, 10, 12, 13, 15]) (by kernel_rfl) ?_
          have hs := hs.drew
          refine D.evP 0 rfl (by kernel_rfl) rfl (fun _ => hs.to) (fun _ => E.move rfl) ?_
          refine D.evP 1 rfl (by kernel_rfl) rfl (fun _ => hs.to) (fun _ => E.move rfl) ?_
          refine D.evP 2 rfl (by kernel_rfl) rfl (fun _ => hs.to) (fun _ => (E.add rfl rfl (by omega) (by omega)).isI (c := ((at_ + 40 : Nat) : Int)) (by omega)) ?_
          refine D.evP 3 rfl (by kernel_rfl) rfl (fun _ => hs.to) (fun _ => E.indexAddr (i := at_ + 40) rfl rfl Try.underlying69 Try.sz5 rfl (by omega)) ?_
          refine D.evP 7 rfl (by kernel_rfl) rfl (fun _ => hs.to) (fun _ => E.move rfl) ?_
          refine D.evP 8 rfl (by kernel_rfl) rfl (fun _ => hs.to) (fun _ => E.move rfl) ?_
          refine D.evP 9 rfl (by kernel_rfl) rfl (fun _ => hs.to) (fun _ => (E.add rfl rfl (by omega) (by omega)).isI (c := ((at_ + 40 : Nat) : Int)) (by omega)) ?_
          refine D.evP 10 rfl (by kernel_rfl) rfl (fun _ => hs.to) (fun _ => E.indexAddr (i := at_ + 40) rfl rfl Try.underlying69 Try.sz5 rfl (by omega)) ?_
          refine D.ev 4 rfl (by kernel_rfl) rfl hs.to (fun _ hS => E.load1 rfl Try.underlying5 rfl (Afl _ hS.to 0 _ rfl)) ?_
          refine D.evP 5 rfl (by kernel_rfl) rfl (fun _ => hs.to) (fun _ => (E.conv rfl Try.underlying5 Try.underlying3).isI (c := (fl.toNat : Int)) (wrap_i64 (by omega) (by omega))) ?_
          refine D.evP 6 rfl (by kernel_rfl) rfl (fun _ => hs.to) (fun _ => (E.rem rfl rfl (by omega) (by omega)).isI (c := x.state) (by rw [est]; omega)) ?_
          refine D.ev 11 rfl (by kernel_rfl) rfl hs.to (fun _ hS => E.load1 rfl Try.underlying5 rfl (Afl _ hS.to 0 _ rfl)) ?_
          refine D.evP 12 rfl (by kernel_rfl) rfl (fun _ => hs.to) (fun _ => (E.geq rfl rfl).isB (c := x.perm) (by rw [epm, decide_eq_decide]; omega)) ?_
          first | refine D.evP 13 rfl (by kernel_rfl) rfl (fun _ => hs.to) (fun _ => E.fieldAddr0 34 rfl Try.underlying24 rfl Try.sz3 rfl) ?_ | refine D.evP 13 rfl (by kernel_rfl) rfl (fun _ => hs.to) (fun _ => E.fieldAddrN 34 rfl Try.underlying24 rfl Try.sz3 rfl) ?_
          refine D.act 14 rfl (by kernel_rfl) ?_
          refine R.cstore1 hs rfl rfl Try.sz3 (by rw [Enc.len]; decide) rfl ?_
          intro w1014 hs
          rw [encH_state] at hs
          refine D.backT (by kernel_rfl) ?_
          first | refine D.evP 15 rfl (by kernel_rfl) rfl (np (by kernel_rfl)) (fun _ => E.fieldAddr0 35 rfl Try.underlying24 rfl Try.sz4 rfl) ?_ | refine D.evP 15 rfl (by kernel_rfl) rfl (np (by kernel_rfl)) (fun _ => E.fieldAddrN 35 rfl Try.underlying24 rfl Try.sz4 rfl) ?_
          refine D.act 16 rfl (by kernel_rfl) ?_
          refine R.cstore1 hs rfl rfl Try.sz4 (by rw [Enc.len]; decide) rfl ?_
          intro w1016 hs
          rw [encH_perm] at hs
          have hs : Sat K w1016 (row b7 24 (encH x) :: F1 :: Hs) := hs
          refine D.backT (by kernel_rfl) ?_
          refine D.done rfl (by kernel_rfl) ?_
          refine X.keep [(0, _), (5, _), (6, _), (7, _)] ⟨rfl, rfl, rfl, rfl, trivial⟩ ?_
          refine X.next ?_
          refine C.seq ?_
          refine C.seq ?_
          refine C.drawn (SatS hs) ([4, 7, 22, 24], [0, 1, 2, 3, 5, 6, 9, 10, 11, 12, 13, 14, 15, 16, 17, 18, 19, 20, 21, 23, 26, 27, 28]) (by kernel_rfl) ?_
          have hs := hs.drew
          refine D.evP 0 rfl (by kernel_rfl) rfl (fun _ => hs.to) (fun _ => E.move rfl) ?_
          refine D.evP 1 rfl (by kernel_rfl) rfl (fun _ => hs.to) (fun _ => E.move rfl) ?_
          refine D.evP 2 rfl (by kernel_rfl) rfl (fun _ => hs.to) (fun _ => (E.add rfl rfl (by omega) (by omega)).isI (c := ((at_ + 40 : Nat) : Int)) (by omega)) ?_
          refine D.evP 3 rfl (by kernel_rfl) rfl (fun _ => hs.to) (fun _ => E.indexAddr (i := at_ + 40) rfl rfl Try.underlying69 Try.sz5 rfl (by omega)) ?_
          refine D.ev 4 rfl (by kernel_rfl) rfl hs.to (fun _ hS => E.load1 rfl Try.underlying5 rfl (Afl _ hS.to 0 _ rfl)) ?_
          refine D.evP 5 rfl (by kernel_rfl) rfl (fun _ => hs.to) (fun _ => (E.gtr rfl rfl).isB (c := decide (3 < fl.toNat)) (by rw [decide_eq_decide]; omega)) ?_
          refine D.evP 6 rfl (by kernel_rfl) rfl (fun _ => hs.to) (fun _ => E.move rfl) ?_
          refine D.split 74 rfl (fun h74 => ?_) (fun h74 => ?_)
          · refine D.skip 7 rfl (by kernel_rfl) rfl rfl rfl hs.to ?_
            refine D.act 8 rfl (by kernel_rfl) ?_
            refine R.gskip rfl rfl rfl ?_
            refine D.back hs.to ?_
            refine D.skipP 9 rfl (by kernel_rfl) rfl rfl rfl (fun _ => hs.to) ?_
            refine D.evP 10 rfl (by kernel_rfl) rfl (fun _ => hs.to) (fun _ => E.pickT rfl rfl) ?_
            refine D.evP 11 rfl (by kernel_rfl) rfl (fun _ => hs.to) (fun _ => E.move rfl) ?_
            refine D.skipP 12 rfl (by kernel_rfl) rfl rfl rfl (fun _ => hs.to) ?_
            refine D.skipP 13 rfl (by kernel_rfl) rfl rfl rfl (fun _ => hs.to) ?_
            refine D.skipP 14 rfl (by kernel_rfl) rfl rfl rfl (fun _ => hs.to) ?_
            refine D.skipP 15 rfl (by kernel_rfl) rfl rfl rfl (fun _ => hs.to) ?_
            refine D.undefP 16 rfl (by kernel_rfl) rfl rfl (fun _ => hs.to) ?_
            refine D.undefP 17 rfl (by kernel_rfl) rfl rfl (fun _ => hs.to) ?_
            refine D.undefP 18 rfl (by kernel_rfl) rfl rfl (fun _ => hs.to) ?_
            refine D.undefP 19 rfl (by kernel_rfl) rfl rfl (fun _ => hs.to) ?_
            refine D.undefP 20 rfl (by kernel_rfl) rfl rfl (fun _ => hs.to) ?_
            refine D.undefP 21 rfl (by kernel_rfl) rfl rfl (fun _ => hs.to) ?_
            refine D.undefP 23 rfl (by kernel_rfl) rfl rfl (fun _ => hs.to) ?_
            refine D.undef 22 rfl (by kernel_rfl) rfl rfl hs.to ?_
            refine D.undef 24 rfl (by kernel_rfl) rfl rfl hs.to ?_
            refine D.act 25 rfl (by kernel_rfl) ?_
            refine R.gundef rfl rfl ?_
            refine D.backT (by kernel_rfl) ?_
            refine D.undefP 26 rfl (by kernel_rfl) rfl rfl (np (by kernel_rfl)) ?_
            refine D.skipP 27 rfl (by kernel_rfl) rfl rfl rfl (np (by kernel_rfl)) ?_
            refine D.evP 28 rfl (by kernel_rfl) rfl (np (by kernel_rfl)) (fun _ => E.pickT rfl rfl) ?_
            refine D.done rfl (by kernel_rfl) ?_
            refine X.keep [(0, _), (5, _), (6, _), (7, _), (96, _)] ⟨rfl, rfl, rfl, rfl, rfl, trivial⟩ ?_
            refine X.next ?_
            refine C.ctrue rfl ?_
            refine C.seq ?_
            refine C.region ?_
            refine R.ev rfl (E.assign rfl) ?_
            refine R.ev rfl (E.assign rfl) ?_
            refine R.ev rfl (E.assign rfl) ?_
            refine R.done ?_
            refine X.keep [(2, _), (3, _), (4, _)] ⟨rfl, rfl, rfl, trivial⟩ ?_
            refine X.next ?_
            refine C.ret ?_
            refine X.thenRet ?_
            refine X.blockRet ?_
            refine X.thenRet ?_
            refine X.loopRet ?_
            refine X.blockRet ?_
            refine X.thenRet ?_
            refine X.ret3 rfl rfl rfl rfl ?_
            refine .inl ⟨fun c' D' g => ?_, rfl, hs.to⟩
            obtain ⟨n1, n2⟩ := hpre.next g (by omega)
            rw [eok, Bool.and_eq_true, decide_eq_true_eq, decide_eq_true_eq] at n1
            first
              | (have := n2 z mz
                 rw [hx, ltH] at this
                 rw [this] at h96
                 simp at h96)
              | (have := of_decide_eq_true h79
                 exact this n1.2)
              | (have := of_decide_eq_true h74
                 omega)
          · refine D.evG 7 rfl (by kernel_rfl) rfl rfl rfl hs.to (fun _ hS => E.loadRowC rfl Try.underlying24 rfl Try.sz24 (by first | exact ⟨hS.ldA, by first | rfl | assumption | exact encV_len _ | exact Enc.len _ | exact len_ub (by assumption)⟩ | exact ⟨hS.ldP rfl, by first | rfl | assumption | exact encV_len _ | exact Enc.len _ | exact len_ub (by assumption)⟩ | exact ⟨hS.ldM rfl rfl, by first | rfl | assumption | exact encV_len _ | exact Enc.len _ | exact len_ub (by assumption)⟩ | exact ⟨hS.ldM (by assumption) (by first | rfl | assumption), by first | rfl | assumption | exact encV_len _ | exact Enc.len _ | exact len_ub (by assumption)⟩ | exact ⟨by assumption, by first | rfl | assumption | exact encV_len _ | exact Enc.len _ | exact len_ub (by assumption)⟩ | exact ⟨(by assumption : ∀ w', Sat _ w' _ → At w' _ _ _) _ hS, by first | rfl | assumption | exact encV_len _ | exact Enc.len _ | exact len_ub (by assumption)⟩ | exact hS.ldp | exact At.partC (by assumption) | exact At.partC ((by assumption : ∀ w', Sat _ w' _ → At w' _ _ _) _ hS))) ?_
            refine D.act 8 rfl (by kernel_rfl) ?_
            refine R.gyes rfl rfl ?_
            refine R.call ⟨_, _, Try.func16, rfl, by kernel_rfl⟩ rfl rfl (rcheck_any x hs) ?_
            rintro _ w118 ⟨rfl, hs⟩
            refine D.back hs.to ?_
            refine D.evPG 9 rfl (by kernel_rfl) rfl rfl rfl (fun _ => hs.to) (fun _ => E.neq rfl rfl) ?_
            refine D.evP 10 rfl (by kernel_rfl) rfl (fun _ => hs.to) (fun _ => E.pickF rfl rfl) ?_
            refine D.evP 11 rfl (by kernel_rfl) rfl (fun _ => hs.to) (fun _ => E.move rfl) ?_
            refine D.split 79 rfl (fun h79 => ?_) (fun h79 => ?_)
            · refine D.skipP 12 rfl (by kernel_rfl) rfl rfl rfl (fun _ => hs.to) ?_
              refine D.skipP 13 rfl (by kernel_rfl) rfl rfl rfl (fun _ => hs.to) ?_
              refine D.skipP 14 rfl (by kernel_rfl) rfl rfl rfl (fun _ => hs.to) ?_
              refine D.skipP 15 rfl (by kernel_rfl) rfl rfl rfl (fun _ => hs.to) ?_
              refine D.undefP 16 rfl (by kernel_rfl) rfl rfl (fun _ => hs.to) ?_
              refine D.undefP 17 rfl (by kernel_rfl) rfl rfl (fun _ => hs.to) ?_
              refine D.undefP 18 rfl (by kernel_rfl) rfl rfl (fun _ => hs.to) ?_
              refine D.undefP 19 rfl (by kernel_rfl) rfl rfl (fun _ => hs.to) ?_
              refine D.undefP 20 rfl (by kernel_rfl) rfl rfl (fun _ => hs.to) ?_
              refine D.undefP 21 rfl (by kernel_rfl) rfl rfl (fun _ => hs.to) ?_
              refine D.undefP 23 rfl (by kernel_rfl) rfl rfl (fun _ => hs.to) ?_
              refine D.undef 22 rfl (by kernel_rfl) rfl rfl hs.to ?_
              refine D.undef 24 rfl (by kernel_rfl) rfl rfl hs.to ?_
              refine D.act 25 rfl (by kernel_rfl) ?_
              refine R.gundef rfl rfl ?_
              refine D.backT (by kernel_rfl) ?_
              refine D.undefP 26 rfl (by kernel_rfl) rfl rfl (np (by kernel_rfl)) ?_
              refine D.skipP 27 rfl (by kernel_rfl) rfl rfl rfl (np (by kernel_rfl)) ?_
              refine D.evP 28 rfl (by kernel_rfl) rfl (np (by kernel_rfl)) (fun _ => E.pickT rfl rfl) ?_
              refine D.done rfl (by kernel_rfl) ?_
              refine X.keep [(0, _), (5, _), (6, _), (7, _), (96, _)] ⟨rfl, rfl, rfl, rfl, rfl, trivial⟩ ?_
              refine X.next ?_
              refine C.ctrue rfl ?_
              refine C.seq ?_
              refine C.region ?_
              refine R.ev rfl (E.assign rfl) ?_
              refine R.ev rfl (E.assign rfl) ?_
              refine R.ev rfl (E.assign rfl) ?_
              refine R.done ?_
              refine X.keep [(2, _), (3, _), (4, _)] ⟨rfl, rfl, rfl, trivial⟩ ?_
              refine X.next ?_
              refine C.ret ?_
              refine X.thenRet ?_
              refine X.blockRet ?_
              refine X.thenRet ?_
              refine X.loopRet ?_
              refine X.blockRet ?_
              refine X.thenRet ?_
              refine X.ret3 rfl rfl rfl rfl ?_
              refine .inl ⟨fun c' D' g => ?_, rfl, hs.to⟩
              obtain ⟨n1, n2⟩ := hpre.next g (by omega)
              rw [eok, Bool.and_eq_true, decide_eq_true_eq, decide_eq_true_eq] at n1
              first
                | (have := n2 z mz
                   rw [hx, ltH] at this
                   rw [this] at h96
                   simp at h96)
                | (have := of_decide_eq_true h79
                   exact this n1.2)
                | (have := of_decide_eq_true h74
                   omega)
            · refine D.evPG 12 rfl (by kernel_rfl) rfl rfl rfl (fun _ => hs.to) (fun _ => E.move rfl) ?_
              refine D.evPG 13 rfl (by kernel_rfl) rfl rfl rfl (fun _ => hs.to) (fun _ => E.lenSl rfl Try.underlying36) ?_
              refine D.evPG 14 rfl (by kernel_rfl) rfl rfl rfl (fun _ => hs.to) (fun _ => (E.gtr rfl rfl).isB (c := decide (0 < Dx.length)) (by rw [decide_eq_decide]; omega)) ?_
              refine D.evPG 15 rfl (by kernel_rfl) rfl rfl rfl (fun _ => hs.to) (fun _ => E.move rfl) ?_
              refine D.split 83 rfl (fun h83 => ?_) (fun h83 => ?_)
              · have hD0 := of_decide_eq_true h83
                obtain ⟨z, bk_z, of_z, hz_, mz, lz, rfl, Az⟩ := hs.el (i := Dx.length - 1) (ad := ad1) (n := Dx.length) (c := cap1) (by omega)
                refine D.evPG 16 rfl (by kernel_rfl) rfl rfl rfl (fun _ => hs.to) (fun _ => E.move rfl) ?_
                refine D.evPG 17 rfl (by kernel_rfl) rfl rfl rfl (fun _ => hs.to) (fun _ => E.move rfl) ?_
                refine D.evPG 18 rfl (by kernel_rfl) rfl rfl rfl (fun _ => hs.to) (fun _ => E.lenSl rfl Try.underlying36) ?_
                refine D.evPG 19 rfl (by kernel_rfl) rfl rfl rfl (fun _ => hs.to) (fun _ => (E.sub rfl rfl (by omega) (by omega)).isI (c := ((Dx.length - 1 : Nat) : Int)) (by omega)) ?_
                refine D.evPG 20 rfl (by kernel_rfl) rfl rfl rfl (fun _ => hs.to) (fun _ => E.indexAddr (i := Dx.length - 1) rfl rfl Try.underlying36 Try.sz24 rfl (by omega)) ?_
                first | refine D.evPG 21 rfl (by kernel_rfl) rfl rfl rfl (fun _ => hs.to) (fun _ => E.fieldAddr0 0 rfl Try.underlying24 rfl Try.sz22 rfl) ?_ | refine D.evPG 21 rfl (by kernel_rfl) rfl rfl rfl (fun _ => hs.to) (fun _ => E.fieldAddrN 0 rfl Try.underlying24 rfl Try.sz22 rfl) ?_
                first | refine D.evPG 23 rfl (by kernel_rfl) rfl rfl rfl (fun _ => hs.to) (fun _ => E.fieldAddr0 0 rfl Try.underlying24 rfl Try.sz22 rfl) ?_ | refine D.evPG 23 rfl (by kernel_rfl) rfl rfl rfl (fun _ => hs.to) (fun _ => E.fieldAddrN 0 rfl Try.underlying24 rfl Try.sz22 rfl) ?_
                refine D.evG 22 rfl (by kernel_rfl) rfl rfl rfl hs.to (fun _ hS => E.loadRow rfl Try.underlying22 rfl Try.sz22 (Az _ hS).app.1 (encV_len z.id)) ?_
                refine D.evG 24 rfl (by kernel_rfl) rfl rfl rfl hs.to (fun _ hS => E.loadRowC rfl Try.underlying22 rfl Try.sz22 (hS.ldp)) ?_
                refine D.act 25 rfl (by kernel_rfl) ?_
                refine R.gyes rfl rfl ?_
                refine R.call ⟨_, _, Try.func63, rfl, by kernel_rfl⟩ rfl rfl (before_any z.id x.id hs) ?_
                rintro _ w1125 ⟨rfl, hs⟩
                refine D.backT (by kernel_rfl) ?_
                refine D.evPG 26 rfl (by kernel_rfl) rfl rfl rfl (np (by kernel_rfl)) (fun _ => (E.not rfl).isB (c := !(ltV z.id x.id)) rfl) ?_
                refine D.evPG 27 rfl (by kernel_rfl) rfl rfl rfl (np (by kernel_rfl)) (fun _ => E.pickT rfl rfl) ?_
                refine D.evP 28 rfl (by kernel_rfl) rfl (np (by kernel_rfl)) (fun _ => E.pickF rfl rfl) ?_
                refine D.done rfl (by kernel_rfl) ?_
                refine X.keep [(0, _), (5, _), (6, _), (7, _), (96, _)] ⟨rfl, rfl, rfl, rfl, rfl, trivial⟩ ?_
                refine X.next ?_
                refine C.cbool rfl (fun h96 => ?_) (fun h96 => ?_)
                · refine C.seq ?_
                  refine C.region ?_
                  refine R.ev rfl (E.assign rfl) ?_
                  refine R.ev rfl (E.assign rfl) ?_
                  refine R.ev rfl (E.assign rfl) ?_
                  refine R.done ?_
                  refine X.keep [(2, _), (3, _), (4, _)] ⟨rfl, rfl, rfl, trivial⟩ ?_
                  refine X.next ?_
                  refine C.ret ?_
                  refine X.thenRet ?_
                  refine X.blockRet ?_
                  refine X.thenRet ?_
                  refine X.loopRet ?_
                  refine X.blockRet ?_
                  refine X.thenRet ?_
                  refine X.ret3 rfl rfl rfl rfl ?_
                  refine .inl ⟨fun c' D' g => ?_, rfl, hs.to⟩
                  obtain ⟨n1, n2⟩ := hpre.next g (by omega)
                  rw [eok, Bool.and_eq_true, decide_eq_true_eq, decide_eq_true_eq] at n1
                  first
                    | (have := n2 z mz
                       rw [hx, ltH] at this
                       rw [this] at h96
                       simp at h96)
                    | (have := of_decide_eq_true h79
                       exact this n1.2)
                    | (have := of_decide_eq_true h74
                       omega)
                · refine C.skip ?_
                  refine X.next ?_
                  refine C.region ?_
                  have hok : okX (chunk P Dx.length) = true := by
                    rw [eok, Bool.and_eq_true, decide_eq_true_eq, decide_eq_true_eq]
                    have q1 := of_decide_eq_false h74
                    have q2 := of_decide_eq_false h79
                    exact ⟨by omega, Decidable.not_not.1 q2⟩
                  have hlt : ∀ y ∈ Dx, ltH y x = true := by
                    first
                      | exact ltH_last hpre.ss hz_ (show ltV z.id x.id = true by simpa using h96)
                      | (have h0 : Dx.length = 0 := by have := of_decide_eq_false h83; omega
                         intro y hy
                         rw [List.length_eq_zero_iff.1 h0] at hy; cases hy)
                  have hpre2 := hpre.step (by omega) hok (by rw [hx]; exact hlt)
                  rw [hx] at hpre2
                  have hDl : Dx.length ≤ 10000 := by omega
                  refine R.ev rfl (E.move rfl) ?_
                  refine R.ev rfl (E.loadRowC rfl Try.underlying24 rfl Try.sz24 (by first | exact ⟨hs.ldA, by first | rfl | assumption | exact encV_len _ | exact Enc.len _ | exact len_ub (by assumption)⟩ | exact ⟨hs.ldP rfl, by first | rfl | assumption | exact encV_len _ | exact Enc.len _ | exact len_ub (by assumption)⟩ | exact ⟨hs.ldM rfl rfl, by first | rfl | assumption | exact encV_len _ | exact Enc.len _ | exact len_ub (by assumption)⟩ | exact ⟨hs.ldM (by assumption) (by first | rfl | assumption), by first | rfl | assumption | exact encV_len _ | exact Enc.len _ | exact len_ub (by assumption)⟩ | exact ⟨by assumption, by first | rfl | assumption | exact encV_len _ | exact Enc.len _ | exact len_ub (by assumption)⟩ | exact hs.ldp | exact At.partC (by assumption))) ?_
                  refine R.buildSliceA rfl Try.underlying36 Try.sz24 Try.zr24 rfl (by first | rfl | assumption | exact encV_len _ | exact Enc.len _ | simp [*]) (by decide) (by decide) ?_
                  intro b99 w99 n99
                  have hs := hs.new n99
                  refine R.capp1 (x) hs rfl rfl Try.underlying36 Try.by24 (by rfl) rfl (by first | exact hs.ldA | exact hs.ldP rfl | exact by assumption) (by decide) (by first | omega | (simp only [List.length_append, List.length_cons, List.length_nil] at *; omega)) (by first | omega | (simp only [List.length_append, List.length_cons, List.length_nil] at *; omega)) ?_
                  intro v100 w100 F100 r100 hs
                  refine R.ev rfl (E.assign rfl) ?_
                  refine R.done ?_
                  refine X.keep [(0, _), (5, _), (6, _)] ⟨rfl, rfl, rfl, trivial⟩ ?_
                  refine X.blockNormal ?_
                  refine X.next ?_
                  refine C.region ?_
                  refine R.ev rfl (E.move rfl) ?_
                  refine R.ev rfl ((E.add rfl rfl (by omega) (by omega)).isI (c := ((4 + 41 * (Dx ++ [x]).length : Nat) : Int)) (by rw [List.length_append, List.length_singleton]; omega)) ?_
                  refine R.ev rfl (E.assign rfl) ?_
                  refine R.done ?_
                  refine X.keep [(0, _), (5, _), (6, _)] ⟨rfl, rfl, rfl, trivial⟩ ?_
                  exact X.again (Dx ++ [x], v100, F100) ⟨rfl, rfl, rfl, trivial⟩ ⟨hpre2, r100, hs.to⟩ (by show _ - _ < _ - _; rw [List.length_append, List.length_singleton]; omega)
              · refine D.skipP 16 rfl (by kernel_rfl) rfl rfl rfl (fun _ => hs.to) ?_
                refine D.skipP 17 rfl (by kernel_rfl) rfl rfl rfl (fun _ => hs.to) ?_
                refine D.skipP 18 rfl (by kernel_rfl) rfl rfl rfl (fun _ => hs.to) ?_
                refine D.skipP 19 rfl (by kernel_rfl) rfl rfl rfl (fun _ => hs.to) ?_
                refine D.skipP 20 rfl (by kernel_rfl) rfl rfl rfl (fun _ => hs.to) ?_
                refine D.skipP 21 rfl (by kernel_rfl) rfl rfl rfl (fun _ => hs.to) ?_
                refine D.skipP 23 rfl (by kernel_rfl) rfl rfl rfl (fun _ => hs.to) ?_
                refine D.skip 22 rfl (by kernel_rfl) rfl rfl rfl hs.to ?_
                refine D.skip 24 rfl (by kernel_rfl) rfl rfl rfl hs.to ?_
                refine D.act 25 rfl (by kernel_rfl) ?_
                refine R.gskip rfl rfl rfl ?_
                refine D.backT (by kernel_rfl) ?_
                refine D.skipP 26 rfl (by kernel_rfl) rfl rfl rfl (np (by kernel_rfl)) ?_
                refine D.evPG 27 rfl (by kernel_rfl) rfl rfl rfl (np (by kernel_rfl)) (fun _ => E.pickF rfl rfl) ?_
                refine D.evP 28 rfl (by kernel_rfl) rfl (np (by kernel_rfl)) (fun _ => E.pickF rfl rfl) ?_
                refine D.done rfl (by kernel_rfl) ?_
                refine X.keep [(0, _), (5, _), (6, _), (7, _), (96, _)] ⟨rfl, rfl, rfl, rfl, rfl, trivial⟩ ?_
                refine X.next ?_
                refine C.cfalse rfl ?_
                refine C.skip ?_
                refine X.next ?_
                refine C.region ?_
                have hok : okX (chunk P Dx.length) = true := by
                  rw [eok, Bool.and_eq_true, decide_eq_true_eq, decide_eq_true_eq]
                  have q1 := of_decide_eq_false h74
                  have q2 := of_decide_eq_false h79
                  exact ⟨by omega, Decidable.not_not.1 q2⟩
                have hlt : ∀ y ∈ Dx, ltH y x = true := by
                  first
                    | exact ltH_last hpre.ss hz_ (show ltV z.id x.id = true by simpa using h96)
                    | (have h0 : Dx.length = 0 := by have := of_decide_eq_false h83; omega
                       intro y hy
                       rw [List.length_eq_zero_iff.1 h0] at hy; cases hy)
                have hpre2 := hpre.step (by omega) hok (by rw [hx]; exact hlt)
                rw [hx] at hpre2
                have hDl : Dx.length ≤ 10000 := by omega
                refine R.ev rfl (E.move rfl) ?_
                refine R.ev rfl (E.loadRowC rfl Try.underlying24 rfl Try.sz24 (by first | exact ⟨hs.ldA, by first | rfl | assumption | exact encV_len _ | exact Enc.len _ | exact len_ub (by assumption)⟩ | exact ⟨hs.ldP rfl, by first | rfl | assumption | exact encV_len _ | exact Enc.len _ | exact len_ub (by assumption)⟩ | exact ⟨hs.ldM rfl rfl, by first | rfl | assumption | exact encV_len _ | exact Enc.len _ | exact len_ub (by assumption)⟩ | exact ⟨hs.ldM (by assumption) (by first | rfl | assumption), by first | rfl | assumption | exact encV_len _ | exact Enc.len _ | exact len_ub (by assumption)⟩ | exact ⟨by assumption, by first | rfl | assumption | exact encV_len _ | exact Enc.len _ | exact len_ub (by assumption)⟩ | exact hs.ldp | exact At.partC (by assumption))) ?_
                refine R.buildSliceA rfl Try.underlying36 Try.sz24 Try.zr24 rfl (by first | rfl | assumption | exact encV_len _ | exact Enc.len _ | simp [*]) (by decide) (by decide) ?_
                intro b99 w99 n99
                have hs := hs.new n99
                refine R.capp1 (x) hs rfl rfl Try.underlying36 Try.by24 (by rfl) rfl (by first | exact hs.ldA | exact hs.ldP rfl | exact by assumption) (by decide) (by first | omega | (simp only [List.length_append, List.length_cons, List.length_nil] at *; omega)) (by first | omega | (simp only [List.length_append, List.length_cons, List.length_nil] at *; omega)) ?_
                intro v100 w100 F100 r100 hs
                refine R.ev rfl (E.assign rfl) ?_
                refine R.done ?_
                refine X.keep [(0, _), (5, _), (6, _)] ⟨rfl, rfl, rfl, trivial⟩ ?_
                refine X.blockNormal ?_
                refine X.next ?_
                refine C.region ?_
                refine R.ev rfl (E.move rfl) ?_
                refine R.ev rfl ((E.add rfl rfl (by omega) (by omega)).isI (c := ((4 + 41 * (Dx ++ [x]).length : Nat) : Int)) (by rw [List.length_append, List.length_singleton]; omega)) ?_
                refine R.ev rfl (E.assign rfl) ?_
                refine R.done ?_
                refine X.keep [(0, _), (5, _), (6, _)] ⟨rfl, rfl, rfl, trivial⟩ ?_
                exact X.again (Dx ++ [x], v100, F100) ⟨rfl, rfl, rfl, trivial⟩ ⟨hpre2, r100, hs.to⟩ (by show _ - _ < _ - _; rw [List.length_append, List.length_singleton]; omega)
        · refine C.exit ?_
          refine X.thenExit ?_
          refine X.loopExit ?_
          refine X.blockExit ?_
          refine X.next ?_
          refine C.seq ?_
          refine C.region ?_
          refine R.ev rfl (E.move rfl) ?_
          refine R.ev rfl (E.move rfl) ?_
          refine R.call ⟨_, _, Try.func62, rfl, by kernel_rfl⟩ rfl rfl (rnum_any (P := P) hs h4) ?_
          rintro _ w14 ⟨rfl, hs⟩
          refine R.ev rfl (E.assign rfl) ?_
          refine R.ev rfl (E.assign rfl) ?_
          refine R.ev rfl (E.assign rfl) ?_
          refine R.done ?_
          refine X.keep [(2, _), (3, _), (4, _)] ⟨rfl, rfl, rfl, trivial⟩ ?_
          refine X.next ?_
          refine C.ret ?_
          refine X.ret3 rfl rfl rfl rfl ?_
          obtain ⟨K2, hk2, rr, hs⟩ := r1.freezeK (hs.front (F := F1))
          exact .inr ⟨_, Dx, K2, _, hpre.good (by omega), rfl, hk2, rr, hs.to⟩
end Go.Proofs.Ytobhhnfckhbeeaa
