/-
 Package sha256: what its functions compute, in plain words.
-/
import Derived.Test.YtbkgibgomohdjaaGreatDoorKeyI
namespace Go.Eng
open Go.RowKit
section
variable {P : Program} {n : Nn} {g : Env} {w : World} {dst : Option Nat} {ty : TypeId} {pos : String} {af : Array Edge} {gu : Option (Nat × Bool)} {x y : Operand} {t t' : TypeId}
theorem E.indexAddrW (i : Nat) {b len : Nat} {j : Int} {k : IntKind} {e : TypeId} (hx : look g x = some (.pointer (some ⟨b, 0, none⟩))) (hy : look g y = some (.int k j)) (hu : P.underlying t = some (.array len e)) (hs : szOf P e = some 1) (hj : j = (i : Int)) (hi : i < len) :
   Ev P n g ⟨dst, .indexAddr t x y, ty, pos, af, gu⟩ w (.pointer (some ⟨b, i, none⟩)) := by
 have := E.indexAddrA (w := w) (n := n) (dst := dst) (ty := ty) (pos := pos) (af := af) (gu := gu) hx hy hu hs hj hi
 rwa [Nat.zero_add, Nat.mul_one] at this
theorem E.sliceAL {bk off len a : Nat} {j : Int} {k : IntKind} {e : TypeId} (hx : look g x = some (.pointer (some ⟨bk, off, none⟩))) (hy : look g y = some (.int k j)) (hu : P.underlying t = some (.array (len + 1) e)) (hs : szOf P e = some 1) (hj : j = (a : Int)) (h1 : a < len + 1) :
   Ev P n g ⟨dst, .slice t x (some y) none none, ty, pos, af, gu⟩ w (.slice (some ⟨bk, off + a, none⟩) (len + 1 - a) (len + 1 - a)) := fun s f => by
 subst hj
 have h2 : ¬ (len + 1 = a) := by omega
 have h3 : ¬ ((len : Int) + 1 < a) := by omega
 have h4 : ((len : Int) + 1 - a).toNat = len + 1 - a := by omega
 have h5 : a ≤ len + 1 := by omega
 simp [execOp, f.eval hx, f.eval hy, Instr.sliceAt, Instr.slice, Instr.sureAddr, Instr.sliceBounds, Instr.sliceBound, asIntOf, run_underlying hu, run_szOf hs, Addr.add, h2, h3, h4, h5]
/-- an array of single cells, all of them given in order -/
theorem fill_ones : ∀ (vs pre suf : List Value), suf.length = vs.length → (∀ v ∈ vs, v.cells = #[v]) → Instr.fill (fun i => some (i * 1, 1)) (pre ++ suf).toArray ((List.range' pre.length vs.length).zip vs) = some (pre ++ vs).toArray
 | [], pre, suf, h, _ => by
   obtain rfl : suf = [] := List.length_eq_zero_iff.1 h
   rfl
 | v :: vs, pre, [], h, _ => by simp at h
 | v :: vs, pre, s :: suf, h, hc => by
   have hv : v.cells = #[v] := hc v (by simp)
   rw [List.length_cons, List.range'_succ, List.zip_cons_cons]
   simp only [Instr.fill, hv, Nat.mul_one]
   rw [if_neg (by simp)]
   have e : ((#[v] : Array Value).zipIdx.foldl (fun (cs : Array Value) (x : Value × Nat) => match x with | (c, j) => cs.setIfInBounds (pre.length + j) c) (pre ++ s :: suf).toArray) = ((pre ++ [v]) ++ suf).toArray := by
     rw [← Array.foldl_toList, Array.toList_zipIdx]
     simp only [List.zipIdx_cons, List.zipIdx_nil, List.foldl_cons, List.foldl_nil, Nat.add_zero]
     apply Array.ext'
     simp [List.set_append]
   rw [e]
   have := fill_ones vs (pre ++ [v]) suf (by simpa using h) (fun u hu => hc u (by simp [hu]))
   simpa using this
theorem E.buildFull {m : Nat} {e : TypeId} {zs : List Value} {parts : List (Nat × Operand)} {vs : List Value} (hv : lookAll g (parts.map (·.2)) = some vs) (hu : P.underlying t = some (.array m e)) (hz : zeroOf P t = some (.agg zs.toArray)) (hs : szOf P e = some 1) (hp : parts.map (·.1) = List.range m) (hl : vs.length = m) (hzl : zs.length = m) (hc : ∀ v ∈ vs, v.oneCell' = true) :
   Ev P n g ⟨dst, .build t parts.toArray, ty, pos, af, gu⟩ w (.agg vs.toArray) := by
 have h1 : ∀ v ∈ vs, v.cells = #[v] := fun v hvm => by have := hc v hvm; cases v <;> first | rfl | simp [Value.oneCell'] at this
 refine E.buildA hv hu hz hs ?_
 have := fill_ones vs [] zs (by omega) h1
 rw [hp, ← hl, List.range_eq_range']
 simpa using this
end
end Go.Eng
namespace Go.Proofs.YtbkgibgomohdjaaGreatDoor
open Go.Eng Go.RowKit Go.Sort
variable {K K' : Kn} {Hs Rs : List Hl} {F : Hl} {w : World} {v : Value}
@[reducible] def ptr (p : Nat) : Value := .pointer (some ⟨p, 0, none⟩)
instance {l : List Wd} : OneL (l.map uw) := ⟨fun u hu => by obtain ⟨a, _, rfl⟩ := List.mem_map.1 hu; rfl⟩
def encSt (s : St) : List Value := s.l.map uw
instance : Enc encSt 8 := ⟨fun _ => rfl, fun s u hu => by obtain ⟨a, _, rfl⟩ := List.mem_map.1 hu; rfl⟩
instance {s : St} : CellOf (encSt s) 0 (uw s.a) := ⟨rfl⟩
instance {s : St} : CellOf (encSt s) 1 (uw s.b) := ⟨rfl⟩
instance {s : St} : CellOf (encSt s) 2 (uw s.c) := ⟨rfl⟩
instance {s : St} : CellOf (encSt s) 3 (uw s.d) := ⟨rfl⟩
instance {s : St} : CellOf (encSt s) 4 (uw s.e) := ⟨rfl⟩
instance {s : St} : CellOf (encSt s) 5 (uw s.f) := ⟨rfl⟩
instance {s : St} : CellOf (encSt s) 6 (uw s.g) := ⟨rfl⟩
instance {s : St} : CellOf (encSt s) 7 (uw s.i) := ⟨rfl⟩
/-- the table of the constants lies where the program's text lays it -/
class HasKc (K : Kn) : Prop where
 at_ : KAt K 1 0 (kcL.map uw)
instance {K K' : Kn} [k : KLe K K'] [h : HasKc K] : HasKc K' := ⟨h.at_.mono k.le⟩
theorem kc_ld [h : HasKc K] (hs : Sat K w Hs) {k : Nat} (hk : k < 64) : w.cell? ⟨1, k, none⟩ = some (uw (kc k)) := by
 have := (h.at_.at hs) k (uw (kc k)) (by rw [List.getElem?_map, kc_at hk]; rfl)
 rwa [Nat.zero_add] at this
theorem neg_and : ∀ n : Nat, n < 32 → 0 < n → IntKind.u64.wrap ((BitVec.ofInt IntKind.u64.bits (IntKind.u64.wrap (-(n : Int))) &&& BitVec.ofInt IntKind.u64.bits 31).toNat : Int) = ((32 - n : Nat) : Int) := by decide +kernel
theorem rl32_any {x : Wd} (n : Nat) (h1 : 0 < n) (h2 : n < 32) (hs : Sat K w Hs) : Ret Tryz.prog 101 #[uw x, .int .i64 (-(n : Int))] w fun v w' => v = uw (rr x n) ∧ Sat K w' Hs := by
 refine Ret.enter (n := 17) (args := [uw x, .int .i64 (-(n : Int))]) Tryz.func101 rfl rfl ?_
 refine C.keep [(0, _), (1, _)] ⟨rfl, rfl, trivial⟩ (C.seq (C.region (R.ev rfl (E.assign rfl) (R.done (X.keep [(0, _), (1, _)] ⟨rfl, rfl, trivial⟩ (X.next (C.seq (C.region ?_))))))))
 refine R.ev rfl (E.move rfl) (R.ev rfl (E.conv rfl Tryz.underlying3 Tryz.underlying112) ?_)
 refine R.ev rfl ((E.and rfl rfl).isI (c := ((32 - n : Nat) : Int)) (neg_and n h2 h1)) ?_
 refine R.ev rfl (E.assign rfl) (R.done (X.keep [(0, _), (5, _)] ⟨rfl, rfl, trivial⟩ (X.next (C.seq (C.region (R.ev rfl (E.move rfl) (R.ev rfl (E.move rfl) ?_)))))))
 refine R.ev rfl (E.wshl (j := 32 - n) rfl rfl (by omega)) ?_
 refine R.ev rfl (E.move rfl) (R.ev rfl (E.move rfl) ?_)
 refine R.ev rfl ((E.subW rfl rfl).isI (c := ((n : Nat) : Int)) (by rw [IntKind.wrap_u64]; omega)) ?_
 refine R.ev rfl (E.wshr (j := n) rfl rfl (by omega)) ?_
 refine R.ev rfl (E.wor rfl rfl) (R.ev rfl (E.assign rfl) (R.done (X.keep [(4, _)] ⟨rfl, trivial⟩ (X.next (C.ret (X.ret1 rfl rfl ?_))))))
 exact ⟨by rw [BitVec.or_comm]; rfl, hs⟩
theorem rot_any {x : Wd} (n : Nat) (h1 : 0 < n) (h2 : n < 32) (hs : Sat K w Hs) : Ret Tryz.prog 98 #[uw x, .int .i64 (n : Int)] w fun v w' => v = uw (rr x n) ∧ Sat K w' Hs := by
 refine Ret.enter (n := 9) (args := [uw x, .int .i64 (n : Int)]) Tryz.func98 rfl rfl ?_
 refine C.keep [(0, _), (1, _)] ⟨rfl, rfl, trivial⟩ (C.seq (C.region (R.ev rfl (E.assign rfl) (R.done (X.keep [(0, _), (1, _)] ⟨rfl, rfl, trivial⟩ (X.next (C.seq (C.region ?_))))))))
 refine R.ev rfl (E.move rfl) (R.ev rfl (E.move rfl) (R.ev rfl (E.neg rfl (by omega) (by omega)) ?_))
 refine R.call ⟨_, _, Tryz.func101, rfl, by kernel_rfl⟩ rfl rfl (rl32_any n h1 h2 hs) ?_
 rintro _ w2 ⟨rfl, hs⟩
 refine R.ev rfl (E.assign rfl) (R.done (X.keep [(4, _)] ⟨rfl, trivial⟩ (X.next (C.ret (X.ret1 rfl rfl ?_)))))
 exact ⟨rfl, hs⟩
theorem round_any (s : St) (k u : Wd) (hs : Sat K w Hs) : Ret Tryz.prog 99 #[.agg (encSt s).toArray, uw k, uw u] w fun v w' => v = .agg (encSt (s.rd k u)).toArray ∧ Sat K w' Hs := by
 refine Ret.enter (n := 93) (args := [.agg (encSt s).toArray, uw k, uw u]) Tryz.func99 rfl rfl ?_
 refine C.keep [(0, _), (1, _), (2, _)] ⟨rfl, rfl, rfl, trivial⟩ (C.seq (C.region ?_))
 refine R.sboxA hs rfl rfl ?_
 intro b3 w3 hs
 refine R.sallocA hs Tryz.zr170 rfl ?_
 intro b6 w6 hs
 refine R.done (X.keep [(1, _), (2, _), (3, _), (6, _)] ⟨rfl, rfl, rfl, rfl, trivial⟩ (X.next (C.seq ?_)))
 refine C.drawn (SatS hs) ([1, 4, 8], [0, 3, 6, 7, 10, 11]) (by kernel_rfl) ?_
 have hs := hs.drew
 refine D.evP 0 rfl (by kernel_rfl) rfl (fun _ => hs.to) (fun _ => E.fieldAddr0 0 rfl Tryz.underlying170 rfl Tryz.sz133 rfl) (D.evP 3 rfl (by kernel_rfl) rfl (fun _ => hs.to) (fun _ => E.fieldAddr0 0 rfl Tryz.underlying170 rfl Tryz.sz133 rfl) (D.evP 7 rfl (by kernel_rfl) rfl (fun _ => hs.to) (fun _ => E.fieldAddr0 0 rfl Tryz.underlying170 rfl Tryz.sz133 rfl) (D.ev 1 rfl (by kernel_rfl) rfl hs.to (fun _ hS => E.load1 rfl Tryz.underlying133 rfl (by exact hS.ldc)) (D.ev 4 rfl (by kernel_rfl) rfl hs.to (fun _ hS => E.load1 rfl Tryz.underlying133 rfl (by exact hS.ldc)) (D.ev 8 rfl (by kernel_rfl) rfl hs.to (fun _ hS => E.load1 rfl Tryz.underlying133 rfl (by exact hS.ldc)) (D.act 2 rfl (by kernel_rfl) ?_))))))
 refine R.call ⟨_, _, Tryz.func98, rfl, by kernel_rfl⟩ rfl rfl (rot_any 2 (by decide) (by decide) hs) ?_
 rintro _ w13 ⟨rfl, hs⟩
 refine D.back hs.to (D.act 5 rfl (by kernel_rfl) ?_)
 refine R.call ⟨_, _, Tryz.func98, rfl, by kernel_rfl⟩ rfl rfl (rot_any 13 (by decide) (by decide) hs) ?_
 rintro _ w16 ⟨rfl, hs⟩
 refine D.back hs.to (D.evP 6 rfl (by kernel_rfl) rfl (fun _ => hs.to) (fun _ => E.wxor rfl rfl) (D.act 9 rfl (by kernel_rfl) ?_))
 refine R.call ⟨_, _, Tryz.func98, rfl, by kernel_rfl⟩ rfl rfl (rot_any 22 (by decide) (by decide) hs) ?_
 rintro _ w20 ⟨rfl, hs⟩
 refine D.backT (by kernel_rfl) (D.evP 10 rfl (by kernel_rfl) rfl (np (by kernel_rfl)) (fun _ => E.wxor rfl rfl) (D.evP 11 rfl (by kernel_rfl) rfl (np (by kernel_rfl)) (fun _ => E.assign rfl) (D.done rfl (by kernel_rfl) (X.keep [(1, _), (2, _), (3, _), (6, _), (7, _)] ⟨rfl, rfl, rfl, rfl, rfl, trivial⟩ (X.next (C.seq ?_))))))
 refine C.drawn (SatS hs) ([1, 4, 8], [0, 3, 6, 7, 10, 11]) (by kernel_rfl) ?_
 have hs := hs.drew
 refine D.evP 0 rfl (by kernel_rfl) rfl (fun _ => hs.to) (fun _ => E.fieldAddr0 4 rfl Tryz.underlying170 rfl Tryz.sz133 rfl) (D.evP 3 rfl (by kernel_rfl) rfl (fun _ => hs.to) (fun _ => E.fieldAddr0 4 rfl Tryz.underlying170 rfl Tryz.sz133 rfl) (D.evP 7 rfl (by kernel_rfl) rfl (fun _ => hs.to) (fun _ => E.fieldAddr0 4 rfl Tryz.underlying170 rfl Tryz.sz133 rfl) (D.ev 1 rfl (by kernel_rfl) rfl hs.to (fun _ hS => E.load1 rfl Tryz.underlying133 rfl (by exact hS.ldc)) (D.ev 4 rfl (by kernel_rfl) rfl hs.to (fun _ hS => E.load1 rfl Tryz.underlying133 rfl (by exact hS.ldc)) (D.ev 8 rfl (by kernel_rfl) rfl hs.to (fun _ hS => E.load1 rfl Tryz.underlying133 rfl (by exact hS.ldc)) (D.act 2 rfl (by kernel_rfl) ?_))))))
 refine R.call ⟨_, _, Tryz.func98, rfl, by kernel_rfl⟩ rfl rfl (rot_any 6 (by decide) (by decide) hs) ?_
 rintro _ w24 ⟨rfl, hs⟩
 refine D.back hs.to (D.act 5 rfl (by kernel_rfl) ?_)
 refine R.call ⟨_, _, Tryz.func98, rfl, by kernel_rfl⟩ rfl rfl (rot_any 11 (by decide) (by decide) hs) ?_
 rintro _ w27 ⟨rfl, hs⟩
 refine D.back hs.to (D.evP 6 rfl (by kernel_rfl) rfl (fun _ => hs.to) (fun _ => E.wxor rfl rfl) (D.act 9 rfl (by kernel_rfl) ?_))
 refine R.call ⟨_, _, Tryz.func98, rfl, by kernel_rfl⟩ rfl rfl (rot_any 25 (by decide) (by decide) hs) ?_
 rintro _ w31 ⟨rfl, hs⟩
 refine D.backT (by kernel_rfl) (D.evP 10 rfl (by kernel_rfl) rfl (np (by kernel_rfl)) (fun _ => E.wxor rfl rfl) (D.evP 11 rfl (by kernel_rfl) rfl (np (by kernel_rfl)) (fun _ => E.assign rfl) (D.done rfl (by kernel_rfl) (X.keep [(1, _), (2, _), (3, _), (6, _), (7, _), (8, _)] ⟨rfl, rfl, rfl, rfl, rfl, rfl, trivial⟩ (X.next (C.seq (C.region (R.ev rfl (E.fieldAddr0 7 rfl Tryz.underlying170 rfl Tryz.sz133 rfl) ?_))))))))
 refine R.ev rfl (E.load1 rfl Tryz.underlying133 rfl (by exact hs.ldc)) (R.ev rfl (E.move rfl) (R.ev rfl (E.wadd rfl rfl) (R.ev rfl (E.fieldAddr0 4 rfl Tryz.underlying170 rfl Tryz.sz133 rfl) (R.ev rfl (E.load1 rfl Tryz.underlying133 rfl (by exact hs.ldc)) (R.ev rfl (E.fieldAddr0 5 rfl Tryz.underlying170 rfl Tryz.sz133 rfl) (R.ev rfl (E.load1 rfl Tryz.underlying133 rfl (by exact hs.ldc)) (R.ev rfl (E.wand rfl rfl) (R.ev rfl (E.fieldAddr0 4 rfl Tryz.underlying170 rfl Tryz.sz133 rfl) ?_))))))))
 refine R.ev rfl (E.load1 rfl Tryz.underlying133 rfl (by exact hs.ldc)) (R.ev rfl (E.wnot rfl) (R.ev rfl (E.fieldAddr0 6 rfl Tryz.underlying170 rfl Tryz.sz133 rfl) (R.ev rfl (E.load1 rfl Tryz.underlying133 rfl (by exact hs.ldc)) (R.ev rfl (E.wand rfl rfl) (R.ev rfl (E.wxor rfl rfl) (R.ev rfl (E.wadd rfl rfl) (R.ev rfl (E.move rfl) (R.ev rfl (E.wadd rfl rfl) ?_))))))))
 refine R.ev rfl (E.move rfl) (R.ev rfl (E.wadd rfl rfl) (R.ev rfl (E.assign rfl) (R.done (X.keep [(3, _), (6, _), (7, _), (9, _)] ⟨rfl, rfl, rfl, rfl, trivial⟩ (X.next (C.seq (C.region (R.ev rfl (E.move rfl) ?_))))))))
 refine R.ev rfl (E.fieldAddr0 0 rfl Tryz.underlying170 rfl Tryz.sz133 rfl) (R.ev rfl (E.load1 rfl Tryz.underlying133 rfl (by exact hs.ldc)) (R.ev rfl (E.fieldAddr0 1 rfl Tryz.underlying170 rfl Tryz.sz133 rfl) (R.ev rfl (E.load1 rfl Tryz.underlying133 rfl (by exact hs.ldc)) (R.ev rfl (E.wand rfl rfl) (R.ev rfl (E.fieldAddr0 0 rfl Tryz.underlying170 rfl Tryz.sz133 rfl) (R.ev rfl (E.load1 rfl Tryz.underlying133 rfl (by exact hs.ldc)) (R.ev rfl (E.fieldAddr0 2 rfl Tryz.underlying170 rfl Tryz.sz133 rfl) (R.ev rfl (E.load1 rfl Tryz.underlying133 rfl (by exact hs.ldc)) ?_))))))))
 refine R.ev rfl (E.wand rfl rfl) (R.ev rfl (E.wxor rfl rfl) (R.ev rfl (E.fieldAddr0 1 rfl Tryz.underlying170 rfl Tryz.sz133 rfl) (R.ev rfl (E.load1 rfl Tryz.underlying133 rfl (by exact hs.ldc)) (R.ev rfl (E.fieldAddr0 2 rfl Tryz.underlying170 rfl Tryz.sz133 rfl) (R.ev rfl (E.load1 rfl Tryz.underlying133 rfl (by exact hs.ldc)) (R.ev rfl (E.wand rfl rfl) (R.ev rfl (E.wxor rfl rfl) (R.ev rfl (E.wadd rfl rfl) ?_))))))))
 refine R.ev rfl (E.assign rfl) (R.done (X.keep [(3, _), (6, _), (9, _), (10, _)] ⟨rfl, rfl, rfl, rfl, trivial⟩ (X.next (C.seq (C.region (R.ev rfl (E.move rfl) (R.ev rfl (E.move rfl) (R.ev rfl (E.wadd rfl rfl) ?_))))))))
 refine R.ev rfl (E.fieldAddr0 0 rfl Tryz.underlying170 rfl Tryz.sz133 rfl) (R.ev rfl (E.load1 rfl Tryz.underlying133 rfl (by exact hs.ldc)) (R.ev rfl (E.fieldAddr0 1 rfl Tryz.underlying170 rfl Tryz.sz133 rfl) (R.ev rfl (E.load1 rfl Tryz.underlying133 rfl (by exact hs.ldc)) (R.ev rfl (E.fieldAddr0 2 rfl Tryz.underlying170 rfl Tryz.sz133 rfl) (R.ev rfl (E.load1 rfl Tryz.underlying133 rfl (by exact hs.ldc)) (R.ev rfl (E.fieldAddr0 3 rfl Tryz.underlying170 rfl Tryz.sz133 rfl) (R.ev rfl (E.load1 rfl Tryz.underlying133 rfl (by exact hs.ldc)) (R.ev rfl (E.move rfl) ?_))))))))
 refine R.ev rfl (E.wadd rfl rfl) (R.ev rfl (E.fieldAddr0 4 rfl Tryz.underlying170 rfl Tryz.sz133 rfl) (R.ev rfl (E.load1 rfl Tryz.underlying133 rfl (by exact hs.ldc)) (R.ev rfl (E.fieldAddr0 5 rfl Tryz.underlying170 rfl Tryz.sz133 rfl) (R.ev rfl (E.load1 rfl Tryz.underlying133 rfl (by exact hs.ldc)) (R.ev rfl (E.fieldAddr0 6 rfl Tryz.underlying170 rfl Tryz.sz133 rfl) (R.ev rfl (E.load1 rfl Tryz.underlying133 rfl (by exact hs.ldc)) ?_))))))
 refine R.ev rfl (E.buildG (r := encSt (s.rd k u)) rfl Tryz.underlying170 Tryz.zr170 Tryz.ql170 (by kernel_rfl) (by kernel_rfl) ⟨⟨_, rfl, by rfl⟩, ⟨_, rfl, by rfl⟩, ⟨_, rfl, by rfl⟩, ⟨_, rfl, by rfl⟩, ⟨_, rfl, by rfl⟩, ⟨_, rfl, by rfl⟩, ⟨_, rfl, by rfl⟩, ⟨_, rfl, by rfl⟩, trivial⟩ (by rfl)) ?_
 refine R.cstoreAll hs rfl rfl Tryz.sz170 (by rfl) (by rfl) (by exact Enc.one _) ?_
 intro w5_20 hs
 try simp only [List.set_cons_zero, List.set_cons_succ] at hs
 refine R.done (X.keep [(6, _)] ⟨rfl, trivial⟩ (X.next (C.ret ?_)))
 refine X.resC rfl rfl Tryz.underlying170 rfl Tryz.sz170 (by exact ⟨hs.ldA, by rfl⟩) ?_
 exact ⟨rfl, hs.to⟩
theorem plus_any (s u : St) (hs : Sat K w Hs) : Ret Tryz.prog 100 #[.agg (encSt s).toArray, .agg (encSt u).toArray] w fun v w' => v = .agg (encSt (s.add u)).toArray ∧ Sat K w' Hs := by
 refine Ret.enter (n := 46) (args := [.agg (encSt s).toArray, .agg (encSt u).toArray]) Tryz.func100 rfl rfl ?_
 refine C.keep [(0, _), (1, _)] ⟨rfl, rfl, trivial⟩ (C.seq (C.region ?_))
 refine R.sboxA hs rfl rfl ?_
 intro b2 w2 hs
 refine R.sboxA hs rfl rfl ?_
 intro b3 w3 hs
 refine R.sallocA hs Tryz.zr170 rfl ?_
 intro b4 w4 hs
 refine R.done (X.keep [(2, _), (3, _), (4, _)] ⟨rfl, rfl, rfl, trivial⟩ (X.next (C.seq (C.region (R.ev rfl (E.fieldAddr0 0 rfl Tryz.underlying170 rfl Tryz.sz133 rfl) (R.ev rfl (E.load1 rfl Tryz.underlying133 rfl (by exact hs.ldc)) (R.ev rfl (E.fieldAddr0 0 rfl Tryz.underlying170 rfl Tryz.sz133 rfl) (R.ev rfl (E.load1 rfl Tryz.underlying133 rfl (by exact hs.ldc)) ?_))))))))
 refine R.ev rfl (E.wadd rfl rfl) (R.ev rfl (E.fieldAddr0 1 rfl Tryz.underlying170 rfl Tryz.sz133 rfl) (R.ev rfl (E.load1 rfl Tryz.underlying133 rfl (by exact hs.ldc)) (R.ev rfl (E.fieldAddr0 1 rfl Tryz.underlying170 rfl Tryz.sz133 rfl) (R.ev rfl (E.load1 rfl Tryz.underlying133 rfl (by exact hs.ldc)) (R.ev rfl (E.wadd rfl rfl) (R.ev rfl (E.fieldAddr0 2 rfl Tryz.underlying170 rfl Tryz.sz133 rfl) (R.ev rfl (E.load1 rfl Tryz.underlying133 rfl (by exact hs.ldc)) (R.ev rfl (E.fieldAddr0 2 rfl Tryz.underlying170 rfl Tryz.sz133 rfl) ?_))))))))
 refine R.ev rfl (E.load1 rfl Tryz.underlying133 rfl (by exact hs.ldc)) (R.ev rfl (E.wadd rfl rfl) (R.ev rfl (E.fieldAddr0 3 rfl Tryz.underlying170 rfl Tryz.sz133 rfl) (R.ev rfl (E.load1 rfl Tryz.underlying133 rfl (by exact hs.ldc)) (R.ev rfl (E.fieldAddr0 3 rfl Tryz.underlying170 rfl Tryz.sz133 rfl) (R.ev rfl (E.load1 rfl Tryz.underlying133 rfl (by exact hs.ldc)) (R.ev rfl (E.wadd rfl rfl) (R.ev rfl (E.fieldAddr0 4 rfl Tryz.underlying170 rfl Tryz.sz133 rfl) (R.ev rfl (E.load1 rfl Tryz.underlying133 rfl (by exact hs.ldc)) ?_))))))))
 refine R.ev rfl (E.fieldAddr0 4 rfl Tryz.underlying170 rfl Tryz.sz133 rfl) (R.ev rfl (E.load1 rfl Tryz.underlying133 rfl (by exact hs.ldc)) (R.ev rfl (E.wadd rfl rfl) (R.ev rfl (E.fieldAddr0 5 rfl Tryz.underlying170 rfl Tryz.sz133 rfl) (R.ev rfl (E.load1 rfl Tryz.underlying133 rfl (by exact hs.ldc)) (R.ev rfl (E.fieldAddr0 5 rfl Tryz.underlying170 rfl Tryz.sz133 rfl) (R.ev rfl (E.load1 rfl Tryz.underlying133 rfl (by exact hs.ldc)) (R.ev rfl (E.wadd rfl rfl) (R.ev rfl (E.fieldAddr0 6 rfl Tryz.underlying170 rfl Tryz.sz133 rfl) ?_))))))))
 refine R.ev rfl (E.load1 rfl Tryz.underlying133 rfl (by exact hs.ldc)) (R.ev rfl (E.fieldAddr0 6 rfl Tryz.underlying170 rfl Tryz.sz133 rfl) (R.ev rfl (E.load1 rfl Tryz.underlying133 rfl (by exact hs.ldc)) (R.ev rfl (E.wadd rfl rfl) (R.ev rfl (E.fieldAddr0 7 rfl Tryz.underlying170 rfl Tryz.sz133 rfl) (R.ev rfl (E.load1 rfl Tryz.underlying133 rfl (by exact hs.ldc)) (R.ev rfl (E.fieldAddr0 7 rfl Tryz.underlying170 rfl Tryz.sz133 rfl) (R.ev rfl (E.load1 rfl Tryz.underlying133 rfl (by exact hs.ldc)) (R.ev rfl (E.wadd rfl rfl) ?_))))))))
 refine R.ev rfl (E.buildG (r := encSt (s.add u)) rfl Tryz.underlying170 Tryz.zr170 Tryz.ql170 (by kernel_rfl) (by kernel_rfl) ⟨⟨_, rfl, by rfl⟩, ⟨_, rfl, by rfl⟩, ⟨_, rfl, by rfl⟩, ⟨_, rfl, by rfl⟩, ⟨_, rfl, by rfl⟩, ⟨_, rfl, by rfl⟩, ⟨_, rfl, by rfl⟩, ⟨_, rfl, by rfl⟩, trivial⟩ (by rfl)) ?_
 refine R.cstoreAll hs rfl rfl Tryz.sz170 (by rfl) (by rfl) (by exact Enc.one _) ?_
 intro w1_41 hs
 try simp only [List.set_cons_zero, List.set_cons_succ] at hs
 refine R.done (X.keep [(4, _)] ⟨rfl, trivial⟩ (X.next (C.ret ?_)))
 refine X.resC rfl rfl Tryz.underlying170 rfl Tryz.sz170 (by exact ⟨hs.ldA, by rfl⟩) ?_
 exact ⟨rfl, hs.to⟩
theorem ring_ld {m : Nat → Wd} {t : Nat} {l : List Wd} (h : RingOk m t l) (ht : 16 ≤ t) {d : Nat} (h1 : 1 ≤ d) (h2 : d ≤ 16) : (l.map uw)[(t - d) % 16]? = some (uw (sw m (t - d))) := by
 rw [List.getElem?_map, h.at_ (t - d) (by omega) (by omega)]; rfl
theorem ring_cur {m : Nat → Wd} {t : Nat} {l : List Wd} (h : RingOk m (t + 1) l) : (l.map uw)[t % 16]? = some (uw (sw m t)) := by
 rw [List.getElem?_map, h.at_ t (by omega) (by omega)]; rfl
theorem process_any (h : St) {l0 : List Wd} {m : Nat → Wd} (hr : RingOk m 0 l0) [HasKc K] (hs : Sat K w Hs) : Ret Tryz.prog 95 #[.agg (encSt h).toArray, .agg (l0.map uw).toArray] w fun v w' => v = .agg (encSt (h.add (stN m h 64))).toArray ∧ Sat K w' Hs := by
 have hl0 := hr.len
 refine Ret.enter (n := 71) (args := [.agg (encSt h).toArray, .agg (l0.map uw).toArray]) Tryz.func95 rfl rfl ?_
 refine C.keep [(0, _), (1, _)] ⟨rfl, rfl, trivial⟩ (C.seq (C.region ?_))
 refine R.sboxA hs rfl rfl ?_
 intro b2 w2 hs
 refine R.sboxA hs rfl rfl ?_
 intro b3 w3 hs
 refine R.sallocA hs Tryz.zr170 rfl ?_
 intro b4 w4 hs
 refine R.done (X.keep [(2, _), (3, _), (4, _)] ⟨rfl, rfl, rfl, trivial⟩ (X.next (C.seq (C.region (R.ev rfl (E.loadRowC rfl Tryz.underlying170 rfl Tryz.sz170 (by exact ⟨hs.ldA, by rfl⟩)) ?_)))))
 refine R.sallocA hs Tryz.zr170 rfl ?_
 intro b5 w5 hs
 refine R.cstoreAll hs rfl rfl Tryz.sz170 (by rfl) (by rfl) (by exact Enc.one _) ?_
 intro w1_2 hs
 try simp only [List.set_cons_zero, List.set_cons_succ] at hs
 refine R.done (X.keep [(2, _), (3, _), (4, _), (5, _)] ⟨rfl, rfl, rfl, rfl, trivial⟩ (X.next (C.seq (C.seq (C.region (R.ev rfl (E.move rfl) (R.done (X.keep [(2, _), (3, _), (4, _), (5, _), (12, _)] ⟨rfl, rfl, rfl, rfl, rfl, trivial⟩ ?_))))))))
 refine X.next (C.block ?_)
 refine C.loop (T := Nat × List Wd) [(2, _), (3, _), (4, _), (5, _)] (fun (k, _) => [(12, .int .i64 (k : Nat))]) (fun (k, l) w' => k ≤ 64 ∧ RingOk m k l ∧ Sat K w' (row b5 170 (encSt (stN m h k)) :: row b4 170 (encSt ⟨0, 0, 0, 0, 0, 0, 0, 0⟩) :: row b3 176 (l.map uw) :: row b2 170 (encSt h) :: Hs)) (fun (k, _) => 64 - k) ((0, l0)) ⟨rfl, rfl, rfl, rfl, rfl, trivial⟩ ⟨Nat.zero_le _, hr, hs⟩ ?_
 rintro ⟨k, l⟩ w1 ⟨hk, hr1, hs⟩
 have hll := hr1.len
 refine C.keep [(2, _), (3, _), (4, _), (5, _), (12, _)] ⟨rfl, rfl, rfl, rfl, rfl, trivial⟩ (C.seq (C.region (R.ev rfl (E.lss rfl rfl) (R.done (X.keep [(2, _), (3, _), (4, _), (5, _), (12, _), (13, _)] ⟨rfl, rfl, rfl, rfl, rfl, rfl, trivial⟩ (X.next (C.seq ?_)))))))
 refine C.cdec rfl (fun h13 => ?_) (fun h13 => ?_)
 refine C.skip (X.next (C.seq (C.block (C.seq (C.region (R.ev rfl (E.move rfl) (R.ev rfl (E.assign rfl) (R.done ?_))))))))
 refine X.keep [(2, _), (3, _), (4, _), (5, _), (6, _), (12, _)] ⟨rfl, rfl, rfl, rfl, rfl, rfl, trivial⟩ (X.next (C.seq (C.seq (C.region (R.ev rfl (E.move rfl) (R.ev rfl (E.geq rfl rfl) (R.done (X.keep [(2, _), (3, _), (4, _), (5, _), (6, _), (12, _), (16, _)] ⟨rfl, rfl, rfl, rfl, rfl, rfl, rfl, trivial⟩ ?_))))))))
 refine X.next ?_
 refine C.cut [(2, _), (3, _), (4, _), (5, _), (6, _), (12, _)] (fun (l2 : List Wd) => []) (fun l2 w' => RingOk m (k + 1) l2 ∧ Sat K w' (row b5 170 (encSt (stN m h k)) :: row b4 170 (encSt ⟨0, 0, 0, 0, 0, 0, 0, 0⟩) :: row b3 176 (l2.map uw) :: row b2 170 (encSt h) :: Hs)) ⟨rfl, rfl, rfl, rfl, rfl, rfl, trivial⟩ ?_ ?_
 refine C.cdec rfl (fun h16 => ?_) (fun h16 => ?_)
 refine C.seq ?_
 refine C.drawn (SatS hs) ([4, 9], [0, 1, 2, 3, 5, 6, 7, 8, 10, 11]) (by kernel_rfl) ?_
 have hs := hs.drew
 refine D.evP 0 rfl (by kernel_rfl) rfl (fun _ => hs.to) (fun _ => E.move rfl) (D.evP 1 rfl (by kernel_rfl) rfl (fun _ => hs.to) (fun _ => E.sub rfl rfl (by omega) (by omega)) ?_)
 refine D.evP 2 rfl (by kernel_rfl) rfl (fun _ => hs.to) (fun _ => (E.rem rfl rfl (by omega) (by omega)).isI (c := (((k - 15) % 16 : Nat) : Int)) (by omega)) ?_
 refine D.evP 3 rfl (by kernel_rfl) rfl (fun _ => hs.to) (fun _ => E.indexAddrW ((k - 15) % 16) rfl rfl Tryz.underlying176 Tryz.sz133 rfl (by omega)) (D.evP 5 rfl (by kernel_rfl) rfl (fun _ => hs.to) (fun _ => E.move rfl) (D.evP 6 rfl (by kernel_rfl) rfl (fun _ => hs.to) (fun _ => E.sub rfl rfl (by omega) (by omega)) ?_))
 refine D.evP 7 rfl (by kernel_rfl) rfl (fun _ => hs.to) (fun _ => (E.rem rfl rfl (by omega) (by omega)).isI (c := (((k - 2) % 16 : Nat) : Int)) (by omega)) ?_
 refine D.evP 8 rfl (by kernel_rfl) rfl (fun _ => hs.to) (fun _ => E.indexAddrW ((k - 2) % 16) rfl rfl Tryz.underlying176 Tryz.sz133 rfl (by omega)) (D.ev 4 rfl (by kernel_rfl) rfl hs.to (fun _ hS => E.load1 rfl Tryz.underlying133 rfl (hS.ld (ring_ld hr1 (by omega) (by decide) (by decide)))) (D.evP 10 rfl (by kernel_rfl) rfl (fun _ => hs.to) (fun _ => E.assign rfl) (D.ev 9 rfl (by kernel_rfl) rfl hs.to (fun _ hS => E.load1 rfl Tryz.underlying133 rfl (hS.ld (ring_ld hr1 (by omega) (by decide) (by decide)))) (D.evP 11 rfl (by kernel_rfl) rfl (fun _ => hs.to) (fun _ => E.assign rfl) (D.done rfl (by kernel_rfl) (X.keep [(2, _), (3, _), (4, _), (5, _), (6, _), (7, _), (8, _), (12, _)] ⟨rfl, rfl, rfl, rfl, rfl, rfl, rfl, rfl, trivial⟩ (X.next (C.seq ?_))))))))
 refine C.region (R.ev rfl (E.move rfl) ?_)
 refine R.call ⟨_, _, Tryz.func98, rfl, by kernel_rfl⟩ rfl rfl (rot_any 7 (by decide) (by decide) hs) ?_
 rintro _ w28 ⟨rfl, hs⟩
 refine R.ev rfl (E.move rfl) ?_
 refine R.call ⟨_, _, Tryz.func98, rfl, by kernel_rfl⟩ rfl rfl (rot_any 18 (by decide) (by decide) hs) ?_
 rintro _ w30 ⟨rfl, hs⟩
 refine R.ev rfl (E.wxor rfl rfl) (R.ev rfl (E.move rfl) ?_)
 refine R.ev rfl (E.wshr (j := 3) rfl rfl (by decide)) ?_
 refine R.ev rfl (E.wxor rfl rfl) (R.ev rfl (E.assign rfl) (R.done (X.keep [(2, _), (3, _), (4, _), (5, _), (6, _), (8, _), (9, _), (12, _)] ⟨rfl, rfl, rfl, rfl, rfl, rfl, rfl, rfl, trivial⟩ (X.next (C.seq (C.region (R.ev rfl (E.move rfl) ?_)))))))
 refine R.call ⟨_, _, Tryz.func98, rfl, by kernel_rfl⟩ rfl rfl (rot_any 17 (by decide) (by decide) hs) ?_
 rintro _ w36 ⟨rfl, hs⟩
 refine R.ev rfl (E.move rfl) ?_
 refine R.call ⟨_, _, Tryz.func98, rfl, by kernel_rfl⟩ rfl rfl (rot_any 19 (by decide) (by decide) hs) ?_
 rintro _ w38 ⟨rfl, hs⟩
 refine R.ev rfl (E.wxor rfl rfl) (R.ev rfl (E.move rfl) ?_)
 refine R.ev rfl (E.wshr (j := 10) rfl rfl (by decide)) ?_
 refine R.ev rfl (E.wxor rfl rfl) (R.ev rfl (E.assign rfl) (R.done (X.keep [(2, _), (3, _), (4, _), (5, _), (6, _), (9, _), (10, _), (12, _)] ⟨rfl, rfl, rfl, rfl, rfl, rfl, rfl, rfl, trivial⟩ (X.next ?_))))
 refine C.drawn (SatS hs) ([3, 11], [0, 1, 2, 4, 5, 6, 7, 8, 9, 10, 12, 13, 14]) (by kernel_rfl) ?_
 have hs := hs.drew
 refine D.evP 0 rfl (by kernel_rfl) rfl (fun _ => hs.to) (fun _ => E.move rfl) ?_
 refine D.evP 1 rfl (by kernel_rfl) rfl (fun _ => hs.to) (fun _ => (E.rem rfl rfl (by omega) (by omega)).isI (c := (((k - 16) % 16 : Nat) : Int)) (by omega)) ?_
 refine D.evP 2 rfl (by kernel_rfl) rfl (fun _ => hs.to) (fun _ => E.indexAddrW ((k - 16) % 16) rfl rfl Tryz.underlying176 Tryz.sz133 rfl (by omega)) (D.evP 4 rfl (by kernel_rfl) rfl (fun _ => hs.to) (fun _ => E.move rfl) (D.evP 5 rfl (by kernel_rfl) rfl (fun _ => hs.to) (fun _ => E.move rfl) (D.evP 6 rfl (by kernel_rfl) rfl (fun _ => hs.to) (fun _ => E.wadd rfl rfl) (D.evP 7 rfl (by kernel_rfl) rfl (fun _ => hs.to) (fun _ => E.move rfl) (D.evP 8 rfl (by kernel_rfl) rfl (fun _ => hs.to) (fun _ => E.sub rfl rfl (by omega) (by omega)) ?_)))))
 refine D.evP 9 rfl (by kernel_rfl) rfl (fun _ => hs.to) (fun _ => (E.rem rfl rfl (by omega) (by omega)).isI (c := (((k - 7) % 16 : Nat) : Int)) (by omega)) ?_
 refine D.evP 10 rfl (by kernel_rfl) rfl (fun _ => hs.to) (fun _ => E.indexAddrW ((k - 7) % 16) rfl rfl Tryz.underlying176 Tryz.sz133 rfl (by omega)) (D.ev 3 rfl (by kernel_rfl) rfl hs.to (fun _ hS => E.load1 rfl Tryz.underlying133 rfl (hS.ld (ring_ld hr1 (by omega) (by decide) (by decide)))) (D.ev 11 rfl (by kernel_rfl) rfl hs.to (fun _ hS => E.load1 rfl Tryz.underlying133 rfl (hS.ld (ring_ld hr1 (by omega) (by decide) (by decide)))) (D.evP 12 rfl (by kernel_rfl) rfl (fun _ => hs.to) (fun _ => E.wadd rfl rfl) (D.evP 13 rfl (by kernel_rfl) rfl (fun _ => hs.to) (fun _ => E.wadd rfl rfl) (D.evP 14 rfl (by kernel_rfl) rfl (fun _ => hs.to) (fun _ => E.indexAddrW (k % 16) rfl rfl Tryz.underlying176 Tryz.sz133 (by omega) (by omega)) (D.act 15 rfl (by kernel_rfl) ?_))))))
 refine R.cstore1 hs rfl rfl Tryz.sz133 (by rw [List.length_map, hll]; omega) rfl ?_
 intro w15 hs
 have hset : (l.map uw).set (k % 16) (uw (sw m (k - 16) + (sg0 (sw m (k - 15)) + sg1 (sw m (k - 2)) + sw m (k - 7)))) = (l.set (k % 16) (sw m k)).map uw := by rw [sw_ge' (by omega), List.map_set]
 simp only [sg0, sg1] at hset
 rw [hset] at hs
 refine D.backT (by kernel_rfl) (D.done rfl (by kernel_rfl) (X.keep [(2, _), (3, _), (4, _), (5, _), (6, _), (12, _)] ⟨rfl, rfl, rfl, rfl, rfl, rfl, trivial⟩ ?_))
 exact X.cut (l.set (k % 16) (sw m k)) ⟨rfl, rfl, rfl, rfl, rfl, rfl, trivial⟩ ⟨hr1.step (by omega), hs.to⟩
 refine C.skip ?_
 exact X.cut (l) ⟨rfl, rfl, rfl, rfl, rfl, rfl, trivial⟩ ⟨hr1.low (by omega), hs.to⟩
 rintro l2 w2 ⟨hr2, hs⟩; have hll2 := hr2.len
 refine X.keep [(2, _), (3, _), (4, _), (5, _), (6, _), (12, _)] ⟨rfl, rfl, rfl, rfl, rfl, rfl, trivial⟩ (X.next ?_)
 refine C.drawn (SatS hs) ([0, 3, 7], [1, 2, 4, 5, 6]) (by kernel_rfl) ?_
 have hs := hs.drew
 refine D.evP 1 rfl (by kernel_rfl) rfl (fun _ => hs.to) (fun _ => E.move rfl) (D.evP 2 rfl (by kernel_rfl) rfl (fun _ => hs.to) (fun _ => E.indexAddrW k rfl rfl Tryz.underlying141 Tryz.sz133 rfl (by omega)) (D.evP 4 rfl (by kernel_rfl) rfl (fun _ => hs.to) (fun _ => E.move rfl) ?_))
 refine D.evP 5 rfl (by kernel_rfl) rfl (fun _ => hs.to) (fun _ => (E.rem rfl rfl (by omega) (by omega)).isI (c := ((k % 16 : Nat) : Int)) (by omega)) ?_
 refine D.evP 6 rfl (by kernel_rfl) rfl (fun _ => hs.to) (fun _ => E.indexAddrW (k % 16) rfl rfl Tryz.underlying176 Tryz.sz133 rfl (by omega)) (D.ev 0 rfl (by kernel_rfl) rfl hs.to (fun _ hS => E.loadRowC rfl Tryz.underlying170 rfl Tryz.sz170 (by exact ⟨hS.ldA, by rfl⟩)) (D.ev 3 rfl (by kernel_rfl) rfl hs.to (fun _ hS => E.load1 rfl Tryz.underlying133 rfl (kc_ld hS (by omega))) (D.ev 7 rfl (by kernel_rfl) rfl hs.to (fun _ hS => E.load1 rfl Tryz.underlying133 rfl (hS.ld (ring_cur hr2))) (D.act 8 rfl (by kernel_rfl) ?_))))
 refine R.call ⟨_, _, Tryz.func99, rfl, by kernel_rfl⟩ rfl rfl (round_any _ _ _ hs) ?_
 rintro _ w8 ⟨rfl, hs⟩
 refine D.backT (by kernel_rfl) (D.act 9 rfl (by kernel_rfl) ?_)
 refine R.cstoreAll hs rfl rfl Tryz.sz170 (by rfl) (by rfl) (by exact Enc.one _) ?_
 intro w10_9 hs
 try simp only [List.set_cons_zero, List.set_cons_succ] at hs
 refine D.backT (by kernel_rfl) (D.done rfl (by kernel_rfl) (X.keep [(2, _), (3, _), (4, _), (5, _), (12, _)] ⟨rfl, rfl, rfl, rfl, rfl, trivial⟩ (X.blockNormal (X.next (C.region (R.ev rfl (E.add rfl rfl (by omega) (by omega)) (R.ev rfl (E.move rfl) (R.done ?_))))))))
 refine X.keep [(2, _), (3, _), (4, _), (5, _), (12, _)] ⟨rfl, rfl, rfl, rfl, rfl, trivial⟩ ?_
 rw [show (stN m h k).rd (kc k) (sw m k) = stN m h (k + 1) from rfl] at hs
 exact X.again (k + 1, l2) ⟨rfl, rfl, rfl, rfl, rfl, trivial⟩ ⟨by omega, hr2, hs.to⟩ (by show _ - _ < _ - _; omega)
 refine C.exit (X.thenExit (X.loopExit (X.blockExit (X.next (C.seq (C.region ?_))))))
 obtain rfl : k = 64 := by omega
 refine R.ev rfl (E.loadRowC rfl Tryz.underlying170 rfl Tryz.sz170 (by exact ⟨hs.ldA, by rfl⟩)) (R.ev rfl (E.loadRowC rfl Tryz.underlying170 rfl Tryz.sz170 (by exact ⟨hs.ldA, by rfl⟩)) ?_)
 refine R.call ⟨_, _, Tryz.func100, rfl, by kernel_rfl⟩ rfl rfl (plus_any _ _ hs) ?_
 rintro _ w122 ⟨rfl, hs⟩
 refine R.cstoreAll hs rfl rfl Tryz.sz170 (by rfl) (by rfl) (by exact Enc.one _) ?_
 intro w12_3 hs
 try simp only [List.set_cons_zero, List.set_cons_succ] at hs
 refine R.done (X.keep [(4, _)] ⟨rfl, trivial⟩ (X.next (C.ret ?_)))
 refine X.resC rfl rfl Tryz.underlying170 rfl Tryz.sz170 (by exact ⟨hs.ldA, by rfl⟩) ?_
 exact ⟨rfl, hs.to⟩
end Go.Proofs.YtbkgibgomohdjaaGreatDoor
