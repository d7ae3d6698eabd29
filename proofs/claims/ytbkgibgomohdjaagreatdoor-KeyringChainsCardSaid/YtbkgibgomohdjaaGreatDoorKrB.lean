/-
 Chapter 19: keyrings in memory: New, Has, Len, insert, Add.
-/
import Derived.Test.YtbkgibgomohdjaaGreatDoorKrA
import Derived.Test.YtbkgibgomohdjaaGreatDoorMapR
import Derived.Test.YtbkgibgomohdjaaGreatDoorMapE
namespace Go.Eng
open Go.RowKit
section
variable {P : Program} {n : Nn} {g : Env} {w : World} {dst : Option Nat} {ty : TypeId} {pos : String} {af : Array Edge} {gu : Option (Nat × Bool)} {t t' : TypeId} {x y : Operand}
theorem E.mapNilF {kt et : TypeId} {b : Nat} (hx : look g x = some (.map (some b))) (hy : look g y = some (.map none)) (hu : P.underlying t = some (.map kt et)) : Ev P n g ⟨dst, .binOp .eql t x y t', ty, pos, af, gu⟩ w (.bool false) := fun a f => by
 have : (Op.equal t (.map (some b)) (.map none)).run P w = .ok false w := by
   show (Op.equalIn (9999 + 1) t (.map (some b)) (.map none)).run P w = _
   unfold Op.equalIn
   simp [run_underlying hu]
 simp [execOp, f.eval hx, f.eval hy, eqGuard, binOp, this]
end
theorem Sat.cut4 {K : Kn} {w : World} {A B C D : Hl} {R : List Hl} (h : Sat K w ((A ++ (B ++ (C ++ D))) :: R)) : Sat K w (A :: B :: C :: D :: R) := h.perm (by simp)
theorem Sat.join4 {K : Kn} {w : World} {A B C D : Hl} {R : List Hl} (h : Sat K w (A :: B :: C :: D :: R)) : Sat K w ((A ++ (B ++ (C ++ D))) :: R) := h.perm (by simp)
theorem Sat.repl {K : Kn} {w : World} {A B : Hl} {R : List Hl} (h : Sat K w (A :: R)) (p : A.Perm B) : Sat K w (B :: R) := h.perm (by simpa using (p.symm.append_right _))
end Go.Eng
namespace Go.Proofs.YtbkgibgomohdjaaGreatDoor
open Go.Eng Go.RowKit Go.Sort
abbrev ekI (a : Vec 32) : Value := .agg (encV a).toArray
abbrev ekT (s : Slot) : Value := .agg (encT s).toArray
abbrev evV (v : Value) : Value := v
theorem slot_lv : leaves Tryz.prog 10 88 = some (List.replicate 16 (lInt .u8) ++ [lInt .i64]) := by kernel_rfl
instance : KeyEnc Tryz.prog 37 ekI := KeyEnc.of (enc := encV) Tryz.lv37 (by decide) Tryz.underlying37 rfl (fun a => fitsN a.2) cellsEq_vec
instance : KeyEnc Tryz.prog 88 ekT := KeyEnc.of (enc := encT) slot_lv (by decide) Tryz.underlying88 rfl (fun s => fitsAll_mk (fitsN s.1.2) rfl) (fun _ _ => encT_eq)
instance : ZeroEnc Tryz.prog 88 ekT (kvz16, 0) := ⟨Tryz.zr88⟩
instance : ZeroEnc Tryz.prog 82 evV (.slice none 0 0) := ⟨Tryz.zr82⟩
abbrev MVl := List (Slot × Value)
class KrL (p : Nat) (MK : outParam MKn) (MR : outParam MRo) (F : outParam Hl) : Prop where
 ex : ∃ m1 G1 m2 V G2 Xh, F = row p 86 [m1, m2] ++ (G1 ++ (G2 ++ Xh)) ∧ MapL ekI ekT m1 MK G1 ∧ MapL ekT evV m2 V G2 ∧ AllR 90 encO 84 V MR Xh
class KrIn (p : Nat) (MK : outParam MKn) (MR : outParam MRo) (Hs : List Hl) : Prop where
 ex : ∃ m1 G1 m2 V G2 Xh, InH p (.cells [m1, m2].toArray 86 (0, 0)) Hs ∧ MapL ekI ekT m1 MK G1 ∧ FIn G1 Hs ∧ MapL ekT evV m2 V G2 ∧ FIn G2 Hs ∧ AllR 90 encO 84 V MR Xh ∧ FIn Xh Hs
instance {p : Nat} {MK : MKn} {MR : MRo} {A : Hl} {Hs : List Hl} [h : KrIn p MK MR Hs] : KrIn p MK MR (A :: Hs) := ⟨by
 obtain ⟨m1, G1, m2, V, G2, Xh, h1, h2, h3, h4, h5, h6, h7⟩ := h.ex
 exact ⟨m1, G1, m2, V, G2, Xh, inferInstance, h2, inferInstance, h4, inferInstance, h6, inferInstance⟩⟩
instance {p : Nat} {MK : MKn} {MR : MRo} {F : Hl} {Hs : List Hl} [h : KrL p MK MR F] [k : FIn F Hs] : KrIn p MK MR Hs := ⟨by
 obtain ⟨m1, G1, m2, V, G2, Xh, rfl, h1, h2, h3⟩ := h.ex
 exact ⟨m1, G1, m2, V, G2, Xh, k.app.1.row, h1, k.app.2.app.1, h2, k.app.2.app.2.app.1, h3, k.app.2.app.2.app.2⟩⟩
theorem KrL.mk' {p : Nat} {MK : MKn} {MR : MRo} {m1 m2 : Value} {G1 G2 Xh : Hl} {V : MVl} (h1 : MapL ekI ekT m1 MK G1) (h2 : MapL ekT evV m2 V G2) (h3 : AllR 90 encO 84 V MR Xh) : KrL p MK MR (row p 86 [m1, m2] ++ (G1 ++ (G2 ++ Xh))) := ⟨m1, G1, m2, V, G2, Xh, rfl, h1, h2, h3⟩
variable {K : Kn} {Hs Rs : List Hl} {F : Hl} {w : World} {v : Value} {L : List RO} {p : Nat} {MK : MKn} {MR : MRo}
/-- the slice of a slot may be read -/
theorem allR_rd {V : MVl} {Xh : Hl} (h : AllR 90 encO 84 V MR Xh) [k : FIn Xh Hs] (s : Slot) : Rd encO 84 K Hs ((lkM V s).getD (.slice none 0 0)) ((lkM MR s).getD []) := by
 obtain ⟨Fk, G, h1, h2, _⟩ := h.open_ s
 have : FIn Fk Hs := k.mono fun p hp => h2.mem_iff.2 (by simp [hp])
 infer_instance
theorem new_any (hs : Sat K w Hs) : Ret Tryz.prog 14 #[] w fun v w' => ∃ p F, v = ptr p ∧ KrL p [] [] F ∧ Sat K w' (F :: Hs) := by
 refine Ret.enter (n := 5) (args := []) Tryz.func14 rfl rfl ?_
 refine C.keep [] trivial (C.seq (C.region (R.ev rfl (E.assign rfl) (R.done (X.keep [] trivial (X.next (C.seq (C.region ?_))))))))
 refine R.cmake hs Tryz.underlying83 (ekT) rfl ?_
 intro v1 w1 F1 m1 hs
 refine R.cmake hs Tryz.underlying84 (evV) rfl ?_
 intro v2 w2 F2 m2 hs
 refine R.ev rfl (E.buildG (r := [v1, v2]) rfl Tryz.underlying86 Tryz.zr86 Tryz.ql86 (by kernel_rfl) (by kernel_rfl) ⟨⟨_, rfl, by obtain ⟨b', _, _, rfl, _⟩ := m1.ex; rfl⟩, ⟨_, rfl, by obtain ⟨b', _, _, rfl, _⟩ := m2.ex; rfl⟩, trivial⟩ (by obtain ⟨b', _, _, rfl, _⟩ := m1.ex; obtain ⟨b'', _, _, rfl, _⟩ := m2.ex; rfl)) ?_
 refine R.sboxA hs rfl rfl ?_
 intro b4 w4 hs
 refine R.ev rfl (E.assign rfl) (R.done (X.keep [(0, _)] ⟨rfl, trivial⟩ (X.next (C.ret (X.ret1 rfl rfl ?_)))))
 have hs : Sat K _ (row b4 86 [v1, v2] :: F1 :: F2 :: [] :: Hs) := (hs.nil).to
 exact ⟨b4, _, rfl, KrL.mk' m1 m2 AllR.nil, hs.join4⟩
theorem len_any (hI : KInv MK MR L) (hs : Sat K w Hs) [hw : KrIn p MK MR Hs] : Ret Tryz.prog 18 #[ptr p] w fun r w' => r = .int .i64 L.length ∧ Sat K w' Hs := by
 obtain ⟨m1, G1, m2, V, G2, Xh, _, hm1, _, hm2, _, _, _⟩ := hw.ex
 rw [← hI.kl]
 refine Ret.enter (n := 10) (args := [ptr p]) Tryz.func18 rfl rfl ?_
 refine C.keep [(0, _)] ⟨rfl, trivial⟩ (C.seq (C.region (R.ev rfl (E.assign rfl) (R.done (X.keep [(0, _)] ⟨rfl, trivial⟩ (X.next (C.seq (C.seq ?_))))))))
 refine C.region (R.ev rfl (E.move rfl) (R.ev rfl (E.eqlNilF rfl rfl Tryz.underlying24) (R.done (X.keep [(0, _), (4, _)] ⟨rfl, rfl, trivial⟩ (X.next (C.cfalse rfl (C.skip (X.next ?_))))))))
 refine C.seq (C.region (R.ev rfl (E.move rfl) (R.ev rfl (E.nilCheck rfl) (R.ev rfl (E.fieldAddr0 0 rfl Tryz.underlying86 rfl Tryz.sz83 rfl) (R.ev rfl (E.load1 rfl Tryz.underlying83 rfl (by exact hs.ld rfl)) (R.ev rfl (E.lenM hs rfl Tryz.underlying83) (R.ev rfl (E.assign rfl) (R.done ?_))))))))
 refine X.keep [(2, _)] ⟨rfl, trivial⟩ (X.next (C.ret (X.ret1 rfl rfl ?_)))
 exact ⟨rfl, hs⟩
theorem has_any (a : Vec 32) (hI : KInv MK MR L) (hs : Sat K w Hs) [hw : KrIn p MK MR Hs] : Ret Tryz.prog 34 #[ptr p, idV a.1] w fun r w' => r = .bool (hasR L a) ∧ Sat K w' Hs := by
 obtain ⟨m1, G1, m2, V, G2, Xh, _, hm1, _, hm2, _, _, _⟩ := hw.ex
 have e1 := encV_len a
 refine Ret.enter (n := 19) (args := [ptr p, idV a.1]) Tryz.func34 rfl rfl ?_
 refine C.keep [(0, _), (1, _)] ⟨rfl, rfl, trivial⟩ (C.seq (C.region ?_))
 refine R.sboxA hs rfl rfl ?_
 intro b3 w3 hs
 refine R.ev rfl (E.assign rfl) (R.done (X.keep [(0, _), (3, _)] ⟨rfl, rfl, trivial⟩ (X.next (C.seq (C.seq (C.region (R.ev rfl (E.move rfl) (R.ev rfl (E.eqlNilF rfl rfl Tryz.underlying24) ?_))))))))
 refine R.done (X.keep [(0, _), (3, _), (8, _)] ⟨rfl, rfl, rfl, trivial⟩ (X.next (C.cfalse rfl (C.skip (X.next (C.seq ?_))))))
 refine C.drawn (SatS hs) ([3, 4, 5], [0, 1, 2, 6, 7, 8, 11]) (by kernel_rfl) ?_
 have hs := hs.drew
 refine D.evP 0 rfl (by kernel_rfl) rfl (fun _ => hs.to) (fun _ => E.move rfl) (D.evP 1 rfl (by kernel_rfl) rfl (fun _ => hs.to) (fun _ => E.nilCheck rfl) (D.evP 2 rfl (by kernel_rfl) rfl (fun _ => hs.to) (fun _ => E.fieldAddr0 0 rfl Tryz.underlying86 rfl Tryz.sz83 rfl) (D.ev 3 rfl (by kernel_rfl) rfl hs.to (fun _ hS => E.load1 rfl Tryz.underlying83 rfl (by exact hS.ld rfl)) (D.ev 4 rfl (by kernel_rfl) rfl hs.to (fun _ hS => E.loadRowC rfl Tryz.underlying37 rfl Tryz.sz37 (by exact ⟨hS.ldA, by assumption⟩)) (D.ev 5 rfl (by kernel_rfl) rfl hs.to (fun _ hS => E.lookupDok hS rfl rfl Tryz.underlying83 _ (by rfl)) (D.evP 6 rfl (by kernel_rfl) rfl (fun _ => hs.to) (fun _ => E.move rfl) (D.evP 7 rfl (by kernel_rfl) rfl (fun _ => hs.to) (fun _ => E.extract rfl rfl) (D.evP 8 rfl (by kernel_rfl) rfl (fun _ => hs.to) (fun _ => E.extract rfl rfl) ?_))))))))
 refine D.act 9 rfl (by kernel_rfl) ?_
 refine R.sallocA hs Tryz.zr88 rfl ?_
 intro b5 w5 hs
 refine D.back hs.to (D.act 10 rfl (by kernel_rfl) ?_)
 refine R.cstoreAll hs rfl rfl Tryz.sz88 (by rfl) (by exact Enc.len _) (by exact Enc.one _) ?_
 intro w3_10 hs
 try simp only [List.set_cons_zero, List.set_cons_succ] at hs
 refine D.backT (by kernel_rfl) (D.evP 11 rfl (by kernel_rfl) rfl (np (by kernel_rfl)) (fun _ => E.assign rfl) (D.done rfl (by kernel_rfl) (X.keep [(6, _)] ⟨rfl, trivial⟩ (X.next (C.seq (C.region (R.ev rfl (E.move rfl) (R.ev rfl (E.assign rfl) ?_))))))))
 refine R.done (X.keep [(4, _)] ⟨rfl, trivial⟩ (X.next (C.ret (X.ret1 rfl rfl ?_))))
 exact ⟨by rw [← hI.kd], hs.to⟩
def AddP (K : Kn) (Rs : List Hl) (p : Nat) (L : List RO) (w' : World) : Prop := ∃ MK' MR' F', KInv MK' MR' L ∧ KrL p MK' MR' F' ∧ Sat K w' (F' :: Rs)
theorem insert_any {r : RO} (hg : Good r) (hh : hasR L r.id = false) (hI : KInv MK MR L) (hlen : L.length < 1000000) (hs : Sat K w (F :: Rs)) [hw : KrL p MK MR F] : Ret Tryz.prog 35 #[ptr p, .agg (encO r).toArray] w fun _ w' => AddP K Rs p (L ++ [r]) w' := by
 obtain ⟨m1, G1, m2, V, G2, Xh, rfl, hm1, hm2, hX⟩ := hw.ex
 obtain ⟨bm1, _, _, rfl, _⟩ := hm1.ex
 obtain ⟨bm2, _, _, rfl, _⟩ := hm2.ex
 obtain ⟨Fk, G, hk1, hk2, hk3⟩ := hX.open_ (rsl r)
 have hs := hs.cut4
 have hs : Sat K w ((Fk ++ G) :: row p 86 [.map (some bm1), .map (some bm2)] :: G1 :: G2 :: Rs) := (hs.front (F := Xh)).repl hk2
 have hs := hs.cut
 have hkl : ((lkM MR (rsl r)).getD []).length ≤ L.length := by rw [(hI.sl (rsl r)).length_eq]; exact List.length_filter_le _ _
 refine Ret.enter (n := 34) (args := [ptr p, .agg (encO r).toArray]) Tryz.func35 rfl rfl ?_
 refine C.keep [(0, _), (1, _)] ⟨rfl, rfl, trivial⟩ (C.seq (C.region ?_))
 refine R.sboxA hs rfl rfl ?_
 intro b3 w3 hs
 refine R.done (X.keep [(0, _), (3, _)] ⟨rfl, rfl, trivial⟩ (X.next (C.seq (C.seq (C.region (R.ev rfl (E.move rfl) (R.ev rfl (E.nilCheck rfl) (R.ev rfl (E.fieldAddr0 0 rfl Tryz.underlying86 rfl Tryz.sz83 rfl) ?_))))))))
 refine R.ev rfl (E.load1 rfl Tryz.underlying83 rfl (by exact hs.ld rfl)) (R.ev rfl (E.mapNilF rfl rfl Tryz.underlying83) (R.done (X.keep [(0, _), (3, _), (8, _)] ⟨rfl, rfl, rfl, trivial⟩ (X.next (C.cfalse rfl (C.skip (X.next (C.seq ?_))))))))
 refine C.drawn (SatS hs) ([3, 5, 7], [0, 1, 2, 4, 6]) (by kernel_rfl) ?_
 have hs := hs.drew
 refine D.evP 0 rfl (by kernel_rfl) rfl (fun _ => hs.to) (fun _ => E.move rfl) (D.evP 1 rfl (by kernel_rfl) rfl (fun _ => hs.to) (fun _ => E.nilCheck rfl) (D.evP 2 rfl (by kernel_rfl) rfl (fun _ => hs.to) (fun _ => E.fieldAddr0 0 rfl Tryz.underlying86 rfl Tryz.sz83 rfl) (D.evP 4 rfl (by kernel_rfl) rfl (fun _ => hs.to) (fun _ => E.fieldAddr0 0 rfl Tryz.underlying90 rfl Tryz.sz37 rfl) (D.evP 6 rfl (by kernel_rfl) rfl (fun _ => hs.to) (fun _ => E.fieldAddr0 32 rfl Tryz.underlying90 rfl Tryz.sz88 rfl) (D.ev 3 rfl (by kernel_rfl) rfl hs.to (fun _ hS => E.load1 rfl Tryz.underlying83 rfl (by exact hS.ld rfl)) (D.ev 5 rfl (by kernel_rfl) rfl hs.to (fun _ hS => E.loadRowC rfl Tryz.underlying37 rfl Tryz.sz37 (by exact ⟨hS.ldP rfl, by exact encV_len _⟩)) ?_))))))
 refine D.ev 7 rfl (by kernel_rfl) rfl hs.to (fun _ hS => E.loadRowC (cs := encT (rsl r)) rfl Tryz.underlying88 rfl Tryz.sz88 hS.ldp) ?_
 refine D.act 8 rfl (by kernel_rfl) ?_
 refine R.cput (r.id) (rsl r) hs rfl rfl rfl Tryz.underlying83 (by rfl) (by rfl) ?_
 intro w3_8 F3_8 m3_8 hs
 refine D.backT (by kernel_rfl) (D.done rfl (by kernel_rfl) (X.keep [(0, _), (3, _)] ⟨rfl, rfl, trivial⟩ (X.next ?_)))
 refine C.drawn (SatS hs) ([3, 5, 6], [0, 1, 2, 4, 9, 11]) (by kernel_rfl) ?_
 have hs := hs.drew
 refine D.evP 0 rfl (by kernel_rfl) rfl (fun _ => hs.to) (fun _ => E.move rfl) (D.evP 1 rfl (by kernel_rfl) rfl (fun _ => hs.to) (fun _ => E.nilCheck rfl) (D.evP 2 rfl (by kernel_rfl) rfl (fun _ => hs.to) (fun _ => E.fieldAddr0 1 rfl Tryz.underlying86 rfl Tryz.sz84 rfl) (D.evP 4 rfl (by kernel_rfl) rfl (fun _ => hs.to) (fun _ => E.fieldAddr0 32 rfl Tryz.underlying90 rfl Tryz.sz88 rfl) (D.ev 3 rfl (by kernel_rfl) rfl hs.to (fun _ hS => E.load1 rfl Tryz.underlying84 rfl (by exact hS.ld rfl)) ?_))))
 refine D.ev 5 rfl (by kernel_rfl) rfl hs.to (fun _ hS => E.loadRowC (cs := encT (rsl r)) rfl Tryz.underlying88 rfl Tryz.sz88 hS.ldp) ?_
 refine D.ev 6 rfl (by kernel_rfl) rfl hs.to (fun _ hS => E.loadRowC rfl Tryz.underlying90 rfl Tryz.sz90 (by exact ⟨hS.ldA, by exact Enc.len _⟩)) (D.act 7 rfl (by kernel_rfl) (R.buildSliceA rfl Tryz.underlying82 Tryz.sz90 Tryz.zr90 rfl (by exact Enc.len _) (by decide) (by decide) ?_))
 intro b30 w30 n30
 have hs := hs.new n30
 refine D.back hs.to (D.act 8 rfl (by kernel_rfl) ?_)
 refine R.centry (ev := evV) (rsl r) hs rfl rfl Tryz.underlying84 rfl (by decide) ?_
 intro s48 w48 F48 st48 hs
 refine D.backT (by kernel_rfl) (D.evP 9 rfl (by kernel_rfl) rfl (np (by kernel_rfl)) (fun _ => E.extract rfl rfl) (D.evP 11 rfl (by kernel_rfl) rfl (np (by kernel_rfl)) (fun _ => E.extract rfl rfl) (D.act 10 rfl (by kernel_rfl) ?_)))
 refine R.capp1 (r) hs rfl rfl Tryz.underlying82 Tryz.by90 (by rfl) rfl (by exact hs.ldA) (by decide) (by omega) (by omega) ?_
 intro v32 w32 F32 r32 hs
 refine D.backT (by kernel_rfl) (D.act 12 rfl (by kernel_rfl) ?_)
 refine R.cstamp (F := F48) (h := st48) (ev := evV) (k := rsl r) v32 hs rfl rfl rfl rfl ?_
 intro w412 F412 m412 hs
 rw [putM_twice] at m412
 refine D.backT (by kernel_rfl) (D.done rfl (by kernel_rfl) (X.keep [] trivial (X.bodyNormal (X.ret0 rfl ?_))))
 obtain ⟨Xh', hX1, hX2⟩ := hk3 _ _ _ r32
 have hs : Sat K _ (F32 :: G :: row p 86 [.map (some bm1), .map (some bm2)] :: F3_8 :: F412 :: Rs) := hs.to
 have hs := hs.join.repl hX2.symm
 have hs : Sat K _ (row p 86 [.map (some bm1), .map (some bm2)] :: F3_8 :: F412 :: Xh' :: Rs) := hs.to
 exact ⟨_, _, _, hI.ins hg hh, KrL.mk' m3_8 m412 hX1, hs.join4⟩
end Go.Proofs.YtbkgibgomohdjaaGreatDoor
