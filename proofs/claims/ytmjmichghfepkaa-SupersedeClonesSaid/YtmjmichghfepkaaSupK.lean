/-
  Chapter 41: arguments; the examples of the document.
-/
import Derived.Test.YtmjmichghfepkaaSupD
namespace Go.Eng
theorem argv_struct {P : Program} {w : World} {t : TypeId} {v : Value} {fs : Array Field} (h : ArgV P w t v) (hu : P.underlying t = some (.struct fs)) : ∃ n cs, Fit P w n t cs ∧ v = .agg cs.toArray := by
  obtain ⟨n, cs, hf, hm⟩ := h
  rw [hu] at hm
  exact ⟨n, cs, hf, hm⟩
end Go.Eng
namespace Go.Proofs.Ytmjmichghfepkaa
open Go.Eng Go.RowKit Go.Sort
theorem list82 {x : List Value} (h : x.length = 82) : ∃ l a c b d, x = l ++ (a ++ ([c] ++ (b ++ [d]))) ∧ l.length = 32 ∧ a.length = 16 ∧ b.length = 32 := by
  refine ⟨x.take 32, (x.drop 32).take 16, x[48], (x.drop 49).take 32, x[81], ?_, by simp [h], by simp [h], by simp [h]⟩
  have e1 := List.take_append_drop 32 x
  have e2 := List.take_append_drop 16 (x.drop 32)
  have e3 : x.drop 48 = x[48] :: x.drop 49 := List.drop_eq_getElem_cons (by omega)
  have e4 := List.take_append_drop 32 (x.drop 49)
  have e5 : x.drop 81 = x[81] :: x.drop 82 := List.drop_eq_getElem_cons (by omega)
  rw [List.drop_drop] at e2 e4
  rw [show x.drop 82 = [] from List.drop_eq_nil_of_le (by omega)] at e5
  rw [← e5, e4, List.singleton_append, ← e3, e2, e1]
theorem fit_r {w : World} (n : Nat) (x : List Value) (hx : x.length = 82) (h : Fit Try.prog w n 26 x) : ∃ y, x = encR y := by
  obtain ⟨n', _, hf⟩ := fit_struct h Try.underlying26
  obtain ⟨l, a, c, b, d, rfl, hl, ha, hb⟩ := list82 hx
  have f0 : Fit Try.prog w n' 23 (((l ++ (a ++ ([c] ++ (b ++ [d])))).drop 0).take (Try.prog.cellsOf 23)) := hf 0 _ rfl
  have f1 : Fit Try.prog w n' 24 (((l ++ (a ++ ([c] ++ (b ++ [d])))).drop 32).take (Try.prog.cellsOf 24)) := hf 1 _ rfl
  have f2 : Fit Try.prog w n' 3 (((l ++ (a ++ ([c] ++ (b ++ [d])))).drop 48).take (Try.prog.cellsOf 3)) := hf 2 _ rfl
  have f3 : Fit Try.prog w n' 23 (((l ++ (a ++ ([c] ++ (b ++ [d])))).drop 49).take (Try.prog.cellsOf 23)) := hf 3 _ rfl
  have f4 : Fit Try.prog w n' 5 (((l ++ (a ++ ([c] ++ (b ++ [d])))).drop 81).take (Try.prog.cellsOf 5)) := hf 4 _ rfl
  have c0 : Try.prog.cellsOf 3 = 1 := by kernel_rfl
  have c1 : Try.prog.cellsOf 23 = 32 := by kernel_rfl
  have c2 : Try.prog.cellsOf 24 = 16 := by kernel_rfl
  have c3 : Try.prog.cellsOf 5 = 1 := by kernel_rfl
  simp only [c0, c1, c2, c3] at f0 f1 f2 f3 f4
  have d1 : (l ++ (a ++ ([c] ++ (b ++ [d])))).drop 32 = a ++ ([c] ++ (b ++ [d])) := List.drop_left' hl
  have d2 : (l ++ (a ++ ([c] ++ (b ++ [d])))).drop 48 = [c] ++ (b ++ [d]) := by rw [show 48 = 32 + 16 from rfl, ← List.drop_drop, d1]; exact List.drop_left' ha
  have d3 : (l ++ (a ++ ([c] ++ (b ++ [d])))).drop 49 = b ++ [d] := by rw [show 49 = 48 + 1 from rfl, ← List.drop_drop, d2]; rfl
  have d4 : (l ++ (a ++ ([c] ++ (b ++ [d])))).drop 81 = [d] := by rw [show 81 = 49 + 32 from rfl, ← List.drop_drop, d3]; exact List.drop_left' hb
  rw [List.drop_zero, List.take_left' hl] at f0
  rw [d1, List.take_left' ha] at f1
  rw [d2] at f2
  rw [d3, List.take_left' hb] at f3
  rw [d4] at f4
  obtain ⟨i, hi, rfl⟩ := fit_bytes (m := 32) f0 Try.underlying23 Try.underlying5 c3 c1
  obtain ⟨j, hj, rfl⟩ := fit_bytes (m := 16) f1 Try.underlying24 Try.underlying5 c3 c2
  obtain ⟨n1, hn1, _⟩ := fit_int f2 Try.underlying3
  obtain ⟨q, hq, rfl⟩ := fit_bytes (m := 32) f3 Try.underlying23 Try.underlying5 c3 c1
  obtain ⟨g, hg⟩ := fit_u8 f4 Try.underlying5
  simp only [List.singleton_append, List.take_succ_cons, List.take_zero, List.cons.injEq, and_true] at hn1 hg
  subst hn1 hg
  exact ⟨⟨⟨i, hi⟩, ⟨j, hj⟩, n1, ⟨q, hq⟩, g⟩, rfl⟩
theorem argv_r {w : World} {v : Value} (h : ArgV Try.prog w 26 v) : ∃ y, v = .agg (encR y).toArray := by
  obtain ⟨n, cs, hf, hm⟩ := argv_struct h Try.underlying26
  obtain ⟨n', hl, _⟩ := fit_struct hf Try.underlying26
  obtain ⟨y, rfl⟩ := fit_r n cs (by rw [hl]; kernel_rfl) hf
  exact ⟨y, hm⟩
theorem argv_rs {w : World} {v : Value} (h : ArgV Try.prog w 22 v) : ∃ ad cap L, v = .slice ad L.length cap ∧ L.length ≤ cap ∧ cap ≤ maxLen ∧ KRow encR 82 (Kn.of w) v L :=
  argv_slK h Try.underlying22 (by kernel_rfl) (by decide) fit_r

variable {K : Kn} {Hs Rs : List Hl} {F : Hl} {w : World} {v : Value} {L : List RR}
def vid (b : UInt8) : Vec 32 := ⟨b :: List.replicate 31 0, rfl⟩
abbrev k1 : RA := ⟨⟨vid 1, vz16, 10, vz, 0⟩, none, 0, 0⟩
abbrev k2 : RA := ⟨⟨vid 2, vz16, 11, vid 1, 0⟩, none, 0, 0⟩
abbrev k3 : RA := ⟨⟨vid 3, vz16, 12, vid 1, 0⟩, none, 0, 0⟩
abbrev k4 : RA := ⟨⟨vid 4, vz16, 13, vid 2, 0⟩, none, 0, 0⟩
theorem gok0 {x : RR} (h : x.g = 0) : GOk K ⟨x, none, 0, 0⟩ := by
  unfold GOk
  rw [h, show grp 0 = [] from rfl]
  exact KRow.nil
theorem gl0 {A : List RA} (h : ∀ y ∈ A, y.x.g = 0 ∧ y = ⟨y.x, none, 0, 0⟩) : GL K A := fun y hy => by
  obtain ⟨h1, h2⟩ := h y hy
  rw [h2]; exact gok0 h1
theorem ss_perm {I J : List (Vec 32)} (h : SS ltV I) (hp : I.Perm J) {Q : List (Vec 32)} (hq : SS ltV Q) (hj : ∀ a, a ∈ J ↔ a ∈ Q) : I = Q := ss_ext ltV_swo h hq fun a => by rw [hp.mem_iff, hj]
theorem known_any (hs : Sat K w Hs) : Ret Try.prog 16 #[] w fun v w' => v = .bool true ∧ Sat K w' Hs := by
  refine Ret.enter (n := 135) (args := []) Try.func16 rfl rfl ?_
  refine C.keep [] trivial ?_
  refine C.seq ?_
  refine C.region ?_
  refine R.ev rfl (E.assign rfl) ?_
  refine R.done ?_
  refine X.keep [] trivial ?_
  refine X.next ?_
  refine C.seq ?_
  refine C.region ?_
  refine R.ev rfl ((E.buildA rfl Try.underlying37 Try.zr37 Try.sz5 rfl).as (u := .agg (encV (vid 1)).toArray) (by rfl)) ?_
  refine R.ev rfl (E.buildG (r := encA k1) rfl Try.underlying42 Try.zr42 Try.ql42 (by kernel_rfl) (by kernel_rfl) ⟨⟨_, rfl, by rfl⟩, ⟨_, rfl, by rfl⟩, trivial⟩ (by rfl)) ?_
  refine R.sallocA hs Try.zr42 rfl ?_
  intro b1 w1 hs
  refine R.cstoreAll hs rfl rfl Try.sz42 (by rfl) (by rfl) (by exact Enc.one _) ?_
  intro w1_3 hs
  try simp only [List.set_cons_zero, List.set_cons_succ] at hs
  refine R.done ?_
  refine X.keep [(1, _)] ⟨rfl, trivial⟩ ?_
  refine X.next ?_
  refine C.seq ?_
  refine C.region ?_
  refine R.ev rfl ((E.buildA rfl Try.underlying37 Try.zr37 Try.sz5 rfl).as (u := .agg (encV (vid 2)).toArray) (by rfl)) ?_
  refine R.ev rfl (E.fieldAddr0 0 rfl Try.underlying42 rfl Try.sz37 rfl) ?_
  refine R.ev rfl (E.loadRowC rfl Try.underlying37 rfl Try.sz37 (by exact ⟨hs.ldP rfl, by rfl⟩)) ?_
  refine R.ev rfl (E.buildG (r := encA k2) rfl Try.underlying42 Try.zr42 Try.ql42 (by kernel_rfl) (by kernel_rfl) ⟨⟨_, rfl, by rfl⟩, ⟨_, rfl, by rfl⟩, ⟨_, rfl, by rfl⟩, trivial⟩ (by rfl)) ?_
  refine R.sallocA hs Try.zr42 rfl ?_
  intro b2 w2 hs
  refine R.cstoreAll hs rfl rfl Try.sz42 (by rfl) (by rfl) (by exact Enc.one _) ?_
  intro w2_5 hs
  try simp only [List.set_cons_zero, List.set_cons_succ] at hs
  refine R.done ?_
  refine X.keep [(1, _), (2, _)] ⟨rfl, rfl, trivial⟩ ?_
  refine X.next ?_
  refine C.seq ?_
  refine C.region ?_
  refine R.ev rfl ((E.buildA rfl Try.underlying37 Try.zr37 Try.sz5 rfl).as (u := .agg (encV (vid 3)).toArray) (by rfl)) ?_
  refine R.ev rfl (E.fieldAddr0 0 rfl Try.underlying42 rfl Try.sz37 rfl) ?_
  refine R.ev rfl (E.loadRowC rfl Try.underlying37 rfl Try.sz37 (by exact ⟨hs.ldP rfl, by rfl⟩)) ?_
  refine R.ev rfl (E.buildG (r := encA k3) rfl Try.underlying42 Try.zr42 Try.ql42 (by kernel_rfl) (by kernel_rfl) ⟨⟨_, rfl, by rfl⟩, ⟨_, rfl, by rfl⟩, ⟨_, rfl, by rfl⟩, trivial⟩ (by rfl)) ?_
  refine R.sallocA hs Try.zr42 rfl ?_
  intro b3 w3 hs
  refine R.cstoreAll hs rfl rfl Try.sz42 (by rfl) (by rfl) (by exact Enc.one _) ?_
  intro w3_5 hs
  try simp only [List.set_cons_zero, List.set_cons_succ] at hs
  refine R.done ?_
  refine X.keep [(1, _), (2, _), (3, _)] ⟨rfl, rfl, rfl, trivial⟩ ?_
  refine X.next ?_
  refine C.seq ?_
  refine C.region ?_
  refine R.ev rfl ((E.buildA rfl Try.underlying37 Try.zr37 Try.sz5 rfl).as (u := .agg (encV (vid 4)).toArray) (by rfl)) ?_
  refine R.ev rfl (E.fieldAddr0 0 rfl Try.underlying42 rfl Try.sz37 rfl) ?_
  refine R.ev rfl (E.loadRowC rfl Try.underlying37 rfl Try.sz37 (by exact ⟨hs.ldP rfl, by rfl⟩)) ?_
  refine R.ev rfl (E.buildG (r := encA k4) rfl Try.underlying42 Try.zr42 Try.ql42 (by kernel_rfl) (by kernel_rfl) ⟨⟨_, rfl, by rfl⟩, ⟨_, rfl, by rfl⟩, ⟨_, rfl, by rfl⟩, trivial⟩ (by rfl)) ?_
  refine R.sallocA hs Try.zr42 rfl ?_
  intro b4 w4 hs
  refine R.cstoreAll hs rfl rfl Try.sz42 (by rfl) (by rfl) (by exact Enc.one _) ?_
  intro w4_5 hs
  try simp only [List.set_cons_zero, List.set_cons_succ] at hs
  refine R.done ?_
  refine X.keep [(1, _), (2, _), (3, _), (4, _)] ⟨rfl, rfl, rfl, rfl, trivial⟩ ?_
  refine X.next ?_
  refine C.seq ?_
  refine C.region ?_
  refine R.ev rfl (E.loadRowC rfl Try.underlying42 rfl Try.sz42 (by exact ⟨hs.ldA, by rfl⟩)) ?_
  refine R.ev rfl (E.loadRowC rfl Try.underlying42 rfl Try.sz42 (by exact ⟨hs.ldA, by rfl⟩)) ?_
  refine R.ev rfl (E.loadRowC rfl Try.underlying42 rfl Try.sz42 (by exact ⟨hs.ldA, by rfl⟩)) ?_
  refine R.cbuild (enc := encA) [k1, k2, k3] (parts := [(0, .tmp 28), (1, .tmp 29), (2, .tmp 30)]) hs rfl rfl rfl rfl Try.underlying27 Try.sz42 Try.zr42 rfl (by decide) (by decide) (by decide) ?_
  intro b31 w31 r31 hs
  refine R.call ⟨_, _, Try.func22, rfl, by kernel_rfl⟩ rfl rfl (ends_any (A := [k1, k2, k3]) hs (gl0 (by simp)) (by decide)) ?_
  rintro _ w5 ⟨v5, I5, F5, rfl, r5, _, h5, hs⟩
  have c5 : (chk ([k1, k2, k3].map RA.x)).2 = 0 := by decide
  obtain ⟨s5, p5⟩ := h5 c5
  obtain rfl : I5 = [vid 3] := by rw [show chosen ([k1, k2, k3].map RA.x) false = [vid 3] by decide] at p5; exact List.perm_singleton.1 p5
  obtain ⟨ad5, cap5, rfl, _⟩ := r5.val
  refine R.ev rfl (E.move rfl) ?_
  refine R.ev rfl (E.extract rfl rfl) ?_
  refine R.ev rfl (E.extract rfl rfl) ?_
  refine R.ev rfl (E.assign rfl) ?_
  refine R.ev rfl (E.assign rfl) ?_
  refine R.done ?_
  refine X.keep [(1, _), (2, _), (3, _), (4, _), (5, _), (6, _)] ⟨rfl, rfl, rfl, rfl, rfl, rfl, trivial⟩ ?_
  refine X.next ?_
  refine C.seq ?_
  refine C.region ?_
  refine R.ev rfl (E.loadRowC rfl Try.underlying42 rfl Try.sz42 (by exact ⟨hs.ldA, by rfl⟩)) ?_
  refine R.ev rfl (E.loadRowC rfl Try.underlying42 rfl Try.sz42 (by exact ⟨hs.ldA, by rfl⟩)) ?_
  refine R.ev rfl (E.loadRowC rfl Try.underlying42 rfl Try.sz42 (by exact ⟨hs.ldA, by rfl⟩)) ?_
  refine R.ev rfl (E.loadRowC rfl Try.underlying42 rfl Try.sz42 (by exact ⟨hs.ldA, by rfl⟩)) ?_
  refine R.cbuild (enc := encA) [k4, k3, k2, k1] (parts := [(0, .tmp 36), (1, .tmp 37), (2, .tmp 38), (3, .tmp 39)]) hs rfl rfl rfl rfl Try.underlying27 Try.sz42 Try.zr42 rfl (by decide) (by decide) (by decide) ?_
  intro b40 w40 r40 hs
  refine R.call ⟨_, _, Try.func23, rfl, by kernel_rfl⟩ rfl rfl (withd_any (A := [k4, k3, k2, k1]) hs (gl0 (by simp)) (by decide)) ?_
  rintro _ w6 ⟨v6, I6, F6, rfl, r6, _, h6, hs⟩
  have c6 : (chk ([k4, k3, k2, k1].map RA.x)).2 = 0 := by decide
  obtain ⟨s6, p6⟩ := h6 c6
  obtain rfl : I6 = [vid 1, vid 2] := by rw [show chosen ([k4, k3, k2, k1].map RA.x) true = [vid 2, vid 1] by decide] at p6; exact ss_perm s6 p6 (by simp [SS]; decide) (by simp [or_comm])
  obtain ⟨ad6, cap6, rfl, _⟩ := r6.val
  refine R.ev rfl (E.move rfl) ?_
  refine R.ev rfl (E.extract rfl rfl) ?_
  refine R.ev rfl (E.extract rfl rfl) ?_
  refine R.ev rfl (E.assign rfl) ?_
  refine R.ev rfl (E.assign rfl) ?_
  refine R.done ?_
  refine X.keep [(1, _), (2, _), (3, _), (4, _), (5, _), (6, _), (7, _), (8, _)] ⟨rfl, rfl, rfl, rfl, rfl, rfl, rfl, rfl, trivial⟩ ?_
  refine X.next ?_
  refine C.seq ?_
  refine C.region ?_
  refine R.ev rfl (E.loadRowC rfl Try.underlying42 rfl Try.sz42 (by exact ⟨hs.ldA, by rfl⟩)) ?_
  refine R.ev rfl (E.loadRowC rfl Try.underlying42 rfl Try.sz42 (by exact ⟨hs.ldA, by rfl⟩)) ?_
  refine R.cbuild (enc := encA) [k2, k3] (parts := [(0, .tmp 45), (1, .tmp 46)]) hs rfl rfl rfl rfl Try.underlying27 Try.sz42 Try.zr42 rfl (by decide) (by decide) (by decide) ?_
  intro b47 w47 r47 hs
  refine R.call ⟨_, _, Try.func22, rfl, by kernel_rfl⟩ rfl rfl (ends_any (A := [k2, k3]) hs (gl0 (by simp)) (by decide)) ?_
  rintro _ w7 ⟨v7, I7, F7, rfl, r7, _, h7, hs⟩
  have c7 : (chk ([k2, k3].map RA.x)).2 = 0 := by decide
  obtain ⟨s7, p7⟩ := h7 c7
  obtain rfl : I7 = [vid 3] := by rw [show chosen ([k2, k3].map RA.x) false = [vid 3] by decide] at p7; exact List.perm_singleton.1 p7
  obtain ⟨ad7, cap7, rfl, _⟩ := r7.val
  refine R.ev rfl (E.move rfl) ?_
  refine R.ev rfl (E.extract rfl rfl) ?_
  refine R.ev rfl (E.extract rfl rfl) ?_
  refine R.ev rfl (E.assign rfl) ?_
  refine R.ev rfl (E.assign rfl) ?_
  refine R.done ?_
  refine X.keep [(1, _), (2, _), (3, _), (4, _), (5, _), (6, _), (7, _), (8, _), (9, _), (10, _)] ⟨rfl, rfl, rfl, rfl, rfl, rfl, rfl, rfl, rfl, rfl, trivial⟩ ?_
  refine X.next ?_
  refine C.seq ?_
  refine C.region ?_
  refine R.ev rfl (E.loadRowC rfl Try.underlying42 rfl Try.sz42 (by exact ⟨hs.ldA, by rfl⟩)) ?_
  refine R.ev rfl (E.loadRowC rfl Try.underlying42 rfl Try.sz42 (by exact ⟨hs.ldA, by rfl⟩)) ?_
  refine R.cbuild (enc := encA) [k1, k4] (parts := [(0, .tmp 52), (1, .tmp 53)]) hs rfl rfl rfl rfl Try.underlying27 Try.sz42 Try.zr42 rfl (by decide) (by decide) (by decide) ?_
  intro b54 w54 r54 hs
  refine R.call ⟨_, _, Try.func22, rfl, by kernel_rfl⟩ rfl rfl (ends_any (A := [k1, k4]) hs (gl0 (by simp)) (by decide)) ?_
  rintro _ w8 ⟨v8, I8, F8, rfl, r8, _, h8, hs⟩
  have c8 : (chk ([k1, k4].map RA.x)).2 = 0 := by decide
  obtain ⟨s8, p8⟩ := h8 c8
  have l8 : I8.length = 2 := by rw [p8.length_eq]; decide
  obtain ⟨ad8, cap8, rfl, _⟩ := r8.val
  refine R.ev rfl (E.move rfl) ?_
  refine R.ev rfl (E.extract rfl rfl) ?_
  refine R.ev rfl (E.extract rfl rfl) ?_
  refine R.ev rfl (E.assign rfl) ?_
  refine R.ev rfl (E.assign rfl) ?_
  refine R.done ?_
  refine X.keep [(1, _), (2, _), (3, _), (5, _), (6, _), (7, _), (8, _), (9, _), (10, _), (11, _), (12, _)] ⟨rfl, rfl, rfl, rfl, rfl, rfl, rfl, rfl, rfl, rfl, rfl, trivial⟩ ?_
  refine X.next ?_
  refine C.seq ?_
  refine C.drawn (SatS hs) ([10, 12, 27, 29, 35, 37, 52, 54, 67, 68, 72, 73], [0, 1, 2, 3, 4, 5, 6, 7, 8, 9, 11, 13, 14, 15, 16, 17, 18, 19, 20, 21, 22, 23, 24, 25, 26, 28, 30, 31, 32, 33, 34, 36, 38, 39, 40, 41, 42, 43, 44, 45, 46, 47, 48, 49, 50, 51, 53, 55, 56, 57, 58, 59, 60, 61, 62, 63, 64, 65, 66, 70, 71, 75, 76, 77]) (by kernel_rfl) ?_
  have hs := hs.drew
  obtain ⟨y5, bk5, of5, hy5, _, ly5, rfl, Ay5⟩ := hs.el (i := 0) (ad := ad5) (n := 1) (c := cap5) (by decide)
  obtain rfl : vid 3 = y5 := by simpa using hy5
  obtain ⟨y6, bk6, of6, hy6, _, ly6, rfl, Ay6⟩ := hs.el (i := 0) (ad := ad6) (n := 2) (c := cap6) (by decide)
  obtain rfl : vid 1 = y6 := by simpa using hy6
  have Az6 := hs.elAt (b := bk6) (off := of6) (n := 2) cap6 (i := 1) (y := vid 2) rfl
  obtain ⟨y7, bk7, of7, hy7, _, ly7, rfl, Ay7⟩ := hs.el (i := 0) (ad := ad7) (n := 1) (c := cap7) (by decide)
  obtain rfl : vid 3 = y7 := by simpa using hy7
  refine D.evP 0 rfl (by kernel_rfl) rfl (fun _ => hs.to) (fun _ => E.move rfl) ?_
  refine D.evP 1 rfl (by kernel_rfl) rfl (fun _ => hs.to) (fun _ => (E.eql rfl rfl).isT c5) ?_
  refine D.evP 2 rfl (by kernel_rfl) rfl (fun _ => hs.to) (fun _ => E.move rfl) ?_
  refine D.evPG 3 rfl (by kernel_rfl) rfl rfl rfl (fun _ => hs.to) (fun _ => E.move rfl) ?_
  refine D.evPG 4 rfl (by kernel_rfl) rfl rfl rfl (fun _ => hs.to) (fun _ => E.lenSl rfl Try.underlying40) ?_
  refine D.evPG 5 rfl (by kernel_rfl) rfl rfl rfl (fun _ => hs.to) (fun _ => (E.eql rfl rfl).isT rfl) ?_
  refine D.evP 6 rfl (by kernel_rfl) rfl (fun _ => hs.to) (fun _ => E.pickT rfl rfl) ?_
  refine D.evP 7 rfl (by kernel_rfl) rfl (fun _ => hs.to) (fun _ => E.move rfl) ?_
  refine D.evPG 8 rfl (by kernel_rfl) rfl rfl rfl (fun _ => hs.to) (fun _ => E.move rfl) ?_
  refine D.evPG 9 rfl (by kernel_rfl) rfl rfl rfl (fun _ => hs.to) (fun _ => E.indexAddr (i := 0) rfl rfl Try.underlying40 Try.sz37 rfl (by decide)) ?_
  refine D.evPG 11 rfl (by kernel_rfl) rfl rfl rfl (fun _ => hs.to) (fun _ => E.fieldAddr0 0 rfl Try.underlying42 rfl Try.sz37 rfl) ?_
  refine D.evG 10 rfl (by kernel_rfl) rfl rfl rfl hs.to (fun _ hS => E.loadRow rfl Try.underlying37 rfl Try.sz37 (Ay5 _ hS) ly5) ?_
  refine D.evG 12 rfl (by kernel_rfl) rfl rfl rfl hs.to (fun _ hS => E.loadRowC rfl Try.underlying37 rfl Try.sz37 (by exact ⟨hS.ldP rfl, by rfl⟩)) ?_
  refine D.evPG 13 rfl (by kernel_rfl) rfl rfl rfl (fun _ => hs.to) (fun _ => (E.eqV 10 rfl rfl Try.lv37 rfl Try.underlying37 rfl Try.gd37).isB (c := true) (by simp)) ?_
  refine D.evP 14 rfl (by kernel_rfl) rfl (fun _ => hs.to) (fun _ => E.pickT rfl rfl) ?_
  refine D.evP 15 rfl (by kernel_rfl) rfl (fun _ => hs.to) (fun _ => E.move rfl) ?_
  refine D.evPG 16 rfl (by kernel_rfl) rfl rfl rfl (fun _ => hs.to) (fun _ => E.move rfl) ?_
  refine D.evPG 17 rfl (by kernel_rfl) rfl rfl rfl (fun _ => hs.to) (fun _ => (E.eql rfl rfl).isT c6) ?_
  refine D.evP 18 rfl (by kernel_rfl) rfl (fun _ => hs.to) (fun _ => E.pickT rfl rfl) ?_
  refine D.evP 19 rfl (by kernel_rfl) rfl (fun _ => hs.to) (fun _ => E.move rfl) ?_
  refine D.evPG 20 rfl (by kernel_rfl) rfl rfl rfl (fun _ => hs.to) (fun _ => E.move rfl) ?_
  refine D.evPG 21 rfl (by kernel_rfl) rfl rfl rfl (fun _ => hs.to) (fun _ => E.lenSl rfl Try.underlying40) ?_
  refine D.evPG 22 rfl (by kernel_rfl) rfl rfl rfl (fun _ => hs.to) (fun _ => (E.eql rfl rfl).isT rfl) ?_
  refine D.evP 23 rfl (by kernel_rfl) rfl (fun _ => hs.to) (fun _ => E.pickT rfl rfl) ?_
  refine D.evP 24 rfl (by kernel_rfl) rfl (fun _ => hs.to) (fun _ => E.move rfl) ?_
  refine D.evPG 25 rfl (by kernel_rfl) rfl rfl rfl (fun _ => hs.to) (fun _ => E.move rfl) ?_
  refine D.evPG 26 rfl (by kernel_rfl) rfl rfl rfl (fun _ => hs.to) (fun _ => E.indexAddr (i := 0) rfl rfl Try.underlying40 Try.sz37 rfl (by decide)) ?_
  refine D.evPG 28 rfl (by kernel_rfl) rfl rfl rfl (fun _ => hs.to) (fun _ => E.fieldAddr0 0 rfl Try.underlying42 rfl Try.sz37 rfl) ?_
  refine D.evG 27 rfl (by kernel_rfl) rfl rfl rfl hs.to (fun _ hS => E.loadRow rfl Try.underlying37 rfl Try.sz37 (Ay6 _ hS) ly6) ?_
  refine D.evG 29 rfl (by kernel_rfl) rfl rfl rfl hs.to (fun _ hS => E.loadRowC rfl Try.underlying37 rfl Try.sz37 (by exact ⟨hS.ldP rfl, by rfl⟩)) ?_
  refine D.evPG 30 rfl (by kernel_rfl) rfl rfl rfl (fun _ => hs.to) (fun _ => (E.eqV 10 rfl rfl Try.lv37 rfl Try.underlying37 rfl Try.gd37).isB (c := true) (by simp)) ?_
  refine D.evP 31 rfl (by kernel_rfl) rfl (fun _ => hs.to) (fun _ => E.pickT rfl rfl) ?_
  refine D.evP 32 rfl (by kernel_rfl) rfl (fun _ => hs.to) (fun _ => E.move rfl) ?_
  refine D.evPG 33 rfl (by kernel_rfl) rfl rfl rfl (fun _ => hs.to) (fun _ => E.move rfl) ?_
  refine D.evPG 34 rfl (by kernel_rfl) rfl rfl rfl (fun _ => hs.to) (fun _ => E.indexAddr (i := 1) rfl rfl Try.underlying40 Try.sz37 rfl (by decide)) ?_
  refine D.evPG 36 rfl (by kernel_rfl) rfl rfl rfl (fun _ => hs.to) (fun _ => E.fieldAddr0 0 rfl Try.underlying42 rfl Try.sz37 rfl) ?_
  refine D.evG 35 rfl (by kernel_rfl) rfl rfl rfl hs.to (fun _ hS => E.loadRow rfl Try.underlying37 rfl Try.sz37 (Az6 _ hS) rfl) ?_
  refine D.evG 37 rfl (by kernel_rfl) rfl rfl rfl hs.to (fun _ hS => E.loadRowC rfl Try.underlying37 rfl Try.sz37 (by exact ⟨hS.ldP rfl, by rfl⟩)) ?_
  refine D.evPG 38 rfl (by kernel_rfl) rfl rfl rfl (fun _ => hs.to) (fun _ => (E.eqV 10 rfl rfl Try.lv37 rfl Try.underlying37 rfl Try.gd37).isB (c := true) (by simp)) ?_
  refine D.evP 39 rfl (by kernel_rfl) rfl (fun _ => hs.to) (fun _ => E.pickT rfl rfl) ?_
  refine D.evP 40 rfl (by kernel_rfl) rfl (fun _ => hs.to) (fun _ => E.move rfl) ?_
  refine D.evPG 41 rfl (by kernel_rfl) rfl rfl rfl (fun _ => hs.to) (fun _ => E.move rfl) ?_
  refine D.evPG 42 rfl (by kernel_rfl) rfl rfl rfl (fun _ => hs.to) (fun _ => (E.eql rfl rfl).isT c7) ?_
  refine D.evP 43 rfl (by kernel_rfl) rfl (fun _ => hs.to) (fun _ => E.pickT rfl rfl) ?_
  refine D.evP 44 rfl (by kernel_rfl) rfl (fun _ => hs.to) (fun _ => E.move rfl) ?_
  refine D.evPG 45 rfl (by kernel_rfl) rfl rfl rfl (fun _ => hs.to) (fun _ => E.move rfl) ?_
  refine D.evPG 46 rfl (by kernel_rfl) rfl rfl rfl (fun _ => hs.to) (fun _ => E.lenSl rfl Try.underlying40) ?_
  refine D.evPG 47 rfl (by kernel_rfl) rfl rfl rfl (fun _ => hs.to) (fun _ => (E.eql rfl rfl).isT rfl) ?_
  refine D.evP 48 rfl (by kernel_rfl) rfl (fun _ => hs.to) (fun _ => E.pickT rfl rfl) ?_
  refine D.evP 49 rfl (by kernel_rfl) rfl (fun _ => hs.to) (fun _ => E.move rfl) ?_
  refine D.evPG 50 rfl (by kernel_rfl) rfl rfl rfl (fun _ => hs.to) (fun _ => E.move rfl) ?_
  refine D.evPG 51 rfl (by kernel_rfl) rfl rfl rfl (fun _ => hs.to) (fun _ => E.indexAddr (i := 0) rfl rfl Try.underlying40 Try.sz37 rfl (by decide)) ?_
  refine D.evPG 53 rfl (by kernel_rfl) rfl rfl rfl (fun _ => hs.to) (fun _ => E.fieldAddr0 0 rfl Try.underlying42 rfl Try.sz37 rfl) ?_
  refine D.evG 52 rfl (by kernel_rfl) rfl rfl rfl hs.to (fun _ hS => E.loadRow rfl Try.underlying37 rfl Try.sz37 (Ay7 _ hS) ly7) ?_
  refine D.evG 54 rfl (by kernel_rfl) rfl rfl rfl hs.to (fun _ hS => E.loadRowC rfl Try.underlying37 rfl Try.sz37 (by exact ⟨hS.ldP rfl, by rfl⟩)) ?_
  refine D.evPG 55 rfl (by kernel_rfl) rfl rfl rfl (fun _ => hs.to) (fun _ => (E.eqV 10 rfl rfl Try.lv37 rfl Try.underlying37 rfl Try.gd37).isB (c := true) (by simp)) ?_
  refine D.evP 56 rfl (by kernel_rfl) rfl (fun _ => hs.to) (fun _ => E.pickT rfl rfl) ?_
  refine D.evP 57 rfl (by kernel_rfl) rfl (fun _ => hs.to) (fun _ => E.move rfl) ?_
  refine D.evPG 58 rfl (by kernel_rfl) rfl rfl rfl (fun _ => hs.to) (fun _ => E.move rfl) ?_
  refine D.evPG 59 rfl (by kernel_rfl) rfl rfl rfl (fun _ => hs.to) (fun _ => (E.eql rfl rfl).isT c8) ?_
  refine D.evP 60 rfl (by kernel_rfl) rfl (fun _ => hs.to) (fun _ => E.pickT rfl rfl) ?_
  refine D.evP 61 rfl (by kernel_rfl) rfl (fun _ => hs.to) (fun _ => E.move rfl) ?_
  refine D.evPG 62 rfl (by kernel_rfl) rfl rfl rfl (fun _ => hs.to) (fun _ => E.move rfl) ?_
  refine D.evPG 63 rfl (by kernel_rfl) rfl rfl rfl (fun _ => hs.to) (fun _ => E.lenSl rfl Try.underlying40) ?_
  refine D.evPG 64 rfl (by kernel_rfl) rfl rfl rfl (fun _ => hs.to) (fun _ => (E.eql rfl rfl).isT (by rw [l8]; rfl)) ?_
  refine D.evP 65 rfl (by kernel_rfl) rfl (fun _ => hs.to) (fun _ => E.pickT rfl rfl) ?_
  refine D.evP 66 rfl (by kernel_rfl) rfl (fun _ => hs.to) (fun _ => E.move rfl) ?_
  refine D.evG 67 rfl (by kernel_rfl) rfl rfl rfl hs.to (fun _ hS => E.loadRowC rfl Try.underlying42 rfl Try.sz42 (by exact ⟨hS.ldA, by rfl⟩)) ?_
  refine D.evG 68 rfl (by kernel_rfl) rfl rfl rfl hs.to (fun _ hS => E.loadRowC rfl Try.underlying42 rfl Try.sz42 (by exact ⟨hS.ldA, by rfl⟩)) ?_
  refine D.act 69 rfl (by kernel_rfl) ?_
  refine R.gyes rfl rfl ?_
  refine R.call ⟨_, _, Try.func20, rfl, by kernel_rfl⟩ rfl rfl (outd_any (x := k3) (y := k2) (gok0 rfl) (gok0 rfl) hs) ?_
  rintro _ w969 ⟨rfl, hs⟩
  rw [show outd k3.x k2.x = true by decide]
  refine D.back hs.to ?_
  refine D.evP 70 rfl (by kernel_rfl) rfl (fun _ => hs.to) (fun _ => E.pickT rfl rfl) ?_
  refine D.evP 71 rfl (by kernel_rfl) rfl (fun _ => hs.to) (fun _ => E.move rfl) ?_
  refine D.evG 72 rfl (by kernel_rfl) rfl rfl rfl hs.to (fun _ hS => E.loadRowC rfl Try.underlying42 rfl Try.sz42 (by exact ⟨hS.ldA, by rfl⟩)) ?_
  refine D.evG 73 rfl (by kernel_rfl) rfl rfl rfl hs.to (fun _ hS => E.loadRowC rfl Try.underlying42 rfl Try.sz42 (by exact ⟨hS.ldA, by rfl⟩)) ?_
  refine D.act 74 rfl (by kernel_rfl) ?_
  refine R.gyes rfl rfl ?_
  refine R.call ⟨_, _, Try.func20, rfl, by kernel_rfl⟩ rfl rfl (outd_any (x := k2) (y := k3) (gok0 rfl) (gok0 rfl) hs) ?_
  rintro _ w974 ⟨rfl, hs⟩
  rw [show outd k2.x k3.x = false by decide]
  refine D.backT (by kernel_rfl) ?_
  refine D.evPG 75 rfl (by kernel_rfl) rfl rfl rfl (np (by kernel_rfl)) (fun _ => (E.not rfl).isB (c := true) rfl) ?_
  refine D.evP 76 rfl (by kernel_rfl) rfl (np (by kernel_rfl)) (fun _ => E.pickT rfl rfl) ?_
  refine D.evP 77 rfl (by kernel_rfl) rfl (np (by kernel_rfl)) (fun _ => E.assign rfl) ?_
  refine D.done rfl (by kernel_rfl) ?_
  refine X.keep [(0, _)] ⟨rfl, trivial⟩ ?_
  refine X.next ?_
  refine C.ret ?_
  refine X.ret1 rfl rfl ?_
  exact ⟨rfl, hs.to⟩
end Go.Proofs.Ytmjmichghfepkaa
