/-
 Chapter 19: public, to, rekey.
-/
import Derived.Test.YtbkgibgomohdjaaGreatDoorKrH
namespace Go.Eng
open Go.RowKit
section
variable {P : Program} {n : Nn} {g : Env} {w : World} {dst : Option Nat} {ty : TypeId} {pos : String} {af : Array Edge} {gu : Option (Nat × Bool)} {x y : Operand} {t t' : TypeId}
/-- the first cells of an array are given -/
theorem fill_pre : ∀ (vs pre suf : List Value), vs.length ≤ suf.length → (∀ v ∈ vs, v.cells = #[v]) → Instr.fill (fun i => some (i * 1, 1)) (pre ++ suf).toArray ((List.range' pre.length vs.length).zip vs) = some (pre ++ vs ++ suf.drop vs.length).toArray
 | [], pre, suf, h, _ => by simp [Instr.fill]
 | v :: vs, pre, [], h, _ => by simp at h
 | v :: vs, pre, s :: suf, h, hc => by
   have hv : v.cells = #[v] := hc v (by simp)
   rw [List.length_cons, List.range'_succ, List.zip_cons_cons]
   simp only [Instr.fill, hv, Nat.mul_one]
   rw [if_neg (by simp)]
   have e : ((#[v] : Array Value).zipIdx.foldl (fun (cs : Array Value) (x : Value × Nat) => match x with | (c, j) => cs.setIfInBounds (pre.length + j) c) (pre ++ s :: suf).toArray) = ((pre ++ [v]) ++ suf).toArray := by
     rw [← Array.foldl_toList, Array.toList_zipIdx]
     simp only [List.zipIdx_cons, List.zipIdx_nil, List.foldl_cons, List.foldl_nil, Nat.add_zero]
     apply Array.ext'
     simp [List.set_append]
   rw [e]
   have := fill_pre vs (pre ++ [v]) suf (by simpa using h) (fun u hu => hc u (by simp [hu]))
   simpa using this
theorem E.buildPre {m k : Nat} {e : TypeId} {zs : List Value} {parts : List (Nat × Operand)} {vs : List Value} (hv : lookAll g (parts.map (·.2)) = some vs) (hu : P.underlying t = some (.array m e)) (hz : zeroOf P t = some (.agg zs.toArray)) (hs : szOf P e = some 1) (hp : parts.map (·.1) = List.range k) (hl : vs.length = k) (hzl : k ≤ zs.length) (hc : ∀ v ∈ vs, v.oneCell' = true) :
   Ev P n g ⟨dst, .build t parts.toArray, ty, pos, af, gu⟩ w (.agg (vs ++ zs.drop k).toArray) := by
 have h1 : ∀ v ∈ vs, v.cells = #[v] := fun v hvm => by have := hc v hvm; cases v <;> first | rfl | simp [Value.oneCell'] at this
 refine E.buildA hv hu hz hs ?_
 have := fill_pre vs [] zs (by omega) h1
 rw [hp, ← hl, List.range_eq_range']
 simpa using this
/-- one cell of an array is given -/
theorem E.buildOne {m i : Nat} {e : TypeId} {zs : List Value} {o : Operand} {v : Value} (hv : lookAll g [o] = some [v]) (hu : P.underlying t = some (.array m e)) (hz : zeroOf P t = some (.agg zs.toArray)) (hs : szOf P e = some 1) (hzl : i < zs.length) (hc : v.oneCell' = true) :
   Ev P n g ⟨dst, .build t [(i, o)].toArray, ty, pos, af, gu⟩ w (.agg (zs.set i v).toArray) := by
 have h1 : v.cells = #[v] := by cases v <;> first | rfl | simp [Value.oneCell'] at hc
 refine E.buildA (parts := [(i, o)]) hv hu hz hs ?_
 simp only [List.map_cons, List.map_nil, List.zip_cons_cons, List.zip_nil_right, Instr.fill, h1, Nat.mul_one]
 rw [if_neg (by simp; omega)]
 simp
end
end Go.Eng
namespace Go.Proofs.YtbkgibgomohdjaaGreatDoor
open Go.Eng Go.RowKit Go.Sort
variable {K : Kn} {Hs Rs : List Hl} {F : Hl} {w : World} {v : Value} {L : List RO}
instance {m : Mv} : CellOf (encMv m) 0 (ub m.first) := ⟨rfl⟩
instance {m : Mv} : CellOf (encMv m) 1 (ub m.number) := ⟨rfl⟩
instance {m : Mv} : CellOf (encMv m) 2 (ub m.pub) := ⟨rfl⟩
instance {m : Mv} : CellOf (encMv m) 3 (ub m.new) := ⟨rfl⟩
instance {m : Mv} : CellOf (encMv m) 4 (ub m.leaf) := ⟨rfl⟩
instance {m : Mv} : CellOf (encMv m) 5 (ub m.id) := ⟨rfl⟩
instance {m : Mv} : CellOf (encMv m) 6 (ub m.spoil) := ⟨rfl⟩
theorem conv_u8 (n : UInt8) : IntKind.i64.wrap (n.toNat : Int) = (n.toNat : Int) := by
 have := n.toNat_lt
 exact wrap_i64 (by omega) (by omega)
theorem rem_ub {n : UInt8} {k : Nat} (hk : 0 < k) : Value.int .u8 ((n.toNat : Int) % (k : Int)) = ub (UInt8.ofNat (n.toNat % k)) := by
 have := n.toNat_lt
 have h1 : n.toNat % k ≤ n.toNat := Nat.mod_le _ _
 simp only [ub, Value.int.injEq, true_and]
 rw [UInt8.toNat_ofNat', Nat.mod_eq_of_lt (show n.toNat % k < 2 ^ 8 by omega)]
 exact (Int.natCast_emod _ _).symm
theorem public_any (n : UInt8) (hs : Sat K w Hs) : Ret Tryz.prog 7 #[ub n] w fun v w' => v = .agg (encP (pubk n.toNat)).toArray ∧ Sat K w' Hs := by
 have hl := encP_len (pubk n.toNat)
 have hl2 : ((famR (n.toNat % 8)).1.map ub).length = 16 := encV_len _
 refine Ret.enter (n := 13) (args := [ub n]) Tryz.func7 rfl rfl ?_
 refine C.keep [(0, _)] ⟨rfl, trivial⟩ (C.seq (C.region ?_))
 refine R.sallocA hs Tryz.zr31 rfl ?_
 intro b2 w2 hs
 refine R.done (X.keep [(0, _), (2, _)] ⟨rfl, rfl, trivial⟩ (X.next (C.seq (C.region (R.ev rfl (E.move rfl) ?_)))))
 refine R.ev rfl ((E.conv rfl Tryz.underlying5 Tryz.underlying3).isI (c := (n.toNat : Int)) (conv_u8 n)) ?_
 refine R.ev rfl ((E.rem rfl rfl (by omega) (by omega)).isI (c := ((n.toNat % 3 : Nat) : Int)) (by omega)) ?_
 refine R.ev rfl ((E.add rfl rfl (by omega) (by omega)).isI (c := ((1 + n.toNat % 3 : Nat) : Int)) (by omega)) ?_
 refine R.ev rfl (E.move rfl) ?_
 refine R.ev rfl ((E.rem rfl rfl (by decide) (by omega)).as (u := ub (UInt8.ofNat (n.toNat % 8))) (rem_ub (by decide))) ?_
 refine R.ev rfl (E.move rfl) ?_
 refine R.ev rfl ((E.rem rfl rfl (by decide) (by omega)).as (u := ub (UInt8.ofNat (n.toNat % 8))) (rem_ub (by decide))) ?_
 refine R.ev rfl ((E.buildPre (k := 3) rfl Tryz.underlying28 Tryz.zr28 Tryz.sz5 rfl rfl (by decide) OneL.all).as (u := .agg ((famR (n.toNat % 8)).1.map ub).toArray) rfl) ?_
 refine R.ev rfl (E.buildG (r := encP (pubk n.toNat)) rfl Tryz.underlying31 Tryz.zr31 Tryz.ql31 (by kernel_rfl) (by kernel_rfl) ⟨⟨_, rfl, by rfl⟩, ⟨_, rfl, by rfl⟩, trivial⟩ (by rfl)) ?_
 refine R.cstoreAll hs rfl rfl Tryz.sz31 (by rfl) (by rfl) (by exact Enc.one _) ?_
 intro w1_10 hs
 try simp only [List.set_cons_zero, List.set_cons_succ] at hs
 refine R.done (X.keep [(2, _)] ⟨rfl, trivial⟩ (X.next (C.ret ?_)))
 refine X.resC rfl rfl Tryz.underlying31 rfl Tryz.sz31 (by exact ⟨hs.ldA, by rfl⟩) ?_
 exact ⟨rfl, hs.to⟩
theorem to_any (p : PK) (hs : Sat K w Hs) : Ret Tryz.prog 16 #[.agg (encP p).toArray] w fun v w' => v = .agg (encP p).toArray ∧ Sat K w' Hs := by
 have hl := encP_len p
 have hl2 := p.r.2
 refine Ret.enter (n := 8) (args := [.agg (encP p).toArray]) Tryz.func16 rfl rfl ?_
 refine C.keep [(0, _)] ⟨rfl, trivial⟩ (C.seq (C.region ?_))
 refine R.sboxA hs rfl rfl ?_
 intro b1 w1 hs
 refine R.sallocA hs Tryz.zr35 rfl ?_
 intro b2 w2 hs
 refine R.done (X.keep [(1, _), (2, _)] ⟨rfl, rfl, trivial⟩ (X.next (C.seq (C.region (R.ev rfl (E.fieldAddr0 0 rfl Tryz.underlying31 rfl Tryz.sz3 rfl) (R.ev rfl (E.load1 rfl Tryz.underlying3 rfl (by exact hs.ldc)) (R.ev rfl (E.fieldAddr0 1 rfl Tryz.underlying31 rfl Tryz.sz28 rfl) (R.ev rfl (E.loadRowC rfl Tryz.underlying28 rfl Tryz.sz28 (by exact hs.ldp)) ?_))))))))
 refine R.ev rfl (E.buildG (r := encP p) rfl Tryz.underlying35 Tryz.zr35 Tryz.ql35 (by kernel_rfl) (by kernel_rfl) ⟨⟨_, rfl, by rfl⟩, ⟨_, rfl, by exact vsz _⟩, trivial⟩ (by simp [setF, fieldsOf, Value.cells, encP])) ?_
 refine R.cstoreAll hs rfl rfl Tryz.sz35 (by rfl) (by assumption) (by exact Enc.one _) ?_
 intro w1_5 hs
 try simp only [List.set_cons_zero, List.set_cons_succ] at hs
 refine R.done (X.keep [(2, _)] ⟨rfl, trivial⟩ (X.next (C.ret ?_)))
 refine X.resC rfl rfl Tryz.underlying35 rfl Tryz.sz35 (by exact ⟨hs.ldA, by assumption⟩) ?_
 exact ⟨rfl, hs.to⟩
/-! parts of a roll-over that are set -/
theorem encO_cut (r : RO) : encO r = r.id.1.map ub ++ (r.au.1.map ub ++ ([.int .i64 r.n] ++ ([.int .i64 r.pu.h] ++ (r.pu.r.1.map ub ++ ([.int .i64 r.leaf] ++ ([.int .i64 r.nw.h] ++ r.nw.r.1.map ub)))))) := by simp [encO, encP]
theorem set_at {a b : List Value} {x u : Value} {i : Nat} (h : a.length = i) : (a ++ (x :: b)).set i u = a ++ (u :: b) := by
 rw [List.set_append, if_neg (by omega), h, Nat.sub_self]; rfl
theorem encO_n (r : RO) (i : Int) : (encO r).set 48 (.int .i64 i) = encO { r with n := i } := by
 have := set_at (a := r.id.1.map ub ++ r.au.1.map ub) (b := [.int .i64 r.pu.h] ++ (r.pu.r.1.map ub ++ ([.int .i64 r.leaf] ++ ([.int .i64 r.nw.h] ++ r.nw.r.1.map ub)))) (x := .int .i64 r.n) (u := .int .i64 i) (i := 48) (by simp [r.id.2, r.au.2])
 rw [encO_cut, encO_cut]; simpa using this
theorem encO_ph (r : RO) (i : Int) : (encO r).set 49 (.int .i64 i) = encO { r with pu := ⟨i, r.pu.r⟩ } := by
 have := set_at (a := r.id.1.map ub ++ (r.au.1.map ub ++ [.int .i64 r.n])) (b := r.pu.r.1.map ub ++ ([.int .i64 r.leaf] ++ ([.int .i64 r.nw.h] ++ r.nw.r.1.map ub))) (x := .int .i64 r.pu.h) (u := .int .i64 i) (i := 49) (by simp [r.id.2, r.au.2])
 rw [encO_cut, encO_cut]; simpa using this
theorem encO_leaf (r : RO) (i : Int) : (encO r).set 66 (.int .i64 i) = encO { r with leaf := i } := by
 have := set_at (a := r.id.1.map ub ++ (r.au.1.map ub ++ ([.int .i64 r.n] ++ ([.int .i64 r.pu.h] ++ r.pu.r.1.map ub)))) (b := [.int .i64 r.nw.h] ++ r.nw.r.1.map ub) (x := .int .i64 r.leaf) (u := .int .i64 i) (i := 66) (by simp [r.id.2, r.au.2, r.pu.r.2])
 rw [encO_cut, encO_cut]; simpa using this
theorem encO_nh (r : RO) (i : Int) : (encO r).set 67 (.int .i64 i) = encO { r with nw := ⟨i, r.nw.r⟩ } := by
 have := set_at (a := r.id.1.map ub ++ (r.au.1.map ub ++ ([.int .i64 r.n] ++ ([.int .i64 r.pu.h] ++ (r.pu.r.1.map ub ++ [.int .i64 r.leaf]))))) (b := r.nw.r.1.map ub) (x := .int .i64 r.nw.h) (u := .int .i64 i) (i := 67) (by simp [r.id.2, r.au.2, r.pu.r.2])
 rw [encO_cut, encO_cut]; simpa using this
theorem encO_pu (r : RO) (p : PK) : (encO r).take 49 ++ encP p ++ (encO r).drop (49 + 17) = encO { r with pu := p } := by
 have e : encO r = (r.id.1.map ub ++ (r.au.1.map ub ++ [.int .i64 r.n])) ++ (encP r.pu ++ ([.int .i64 r.leaf] ++ encP r.nw)) := by simp [encO]
 have l1 : (r.id.1.map ub ++ (r.au.1.map ub ++ [.int .i64 r.n]) : List Value).length = 49 := by simp [r.id.2, r.au.2]
 have l2 : (encP r.pu).length = 17 := encP_len _
 rw [e, List.take_left' l1, ← List.drop_drop, List.drop_left' l1, List.drop_left' l2]
 simp [encO]
theorem encO_nw (r : RO) (p : PK) : (encO r).take 67 ++ encP p ++ (encO r).drop (67 + 17) = encO { r with nw := p } := by
 have e : encO r = (r.id.1.map ub ++ (r.au.1.map ub ++ ([.int .i64 r.n] ++ (encP r.pu ++ [.int .i64 r.leaf])))) ++ encP r.nw := by simp [encO]
 have l1 : (r.id.1.map ub ++ (r.au.1.map ub ++ ([.int .i64 r.n] ++ (encP r.pu ++ [.int .i64 r.leaf]))) : List Value).length = 67 := by simp [r.id.2, r.au.2, encP_len]
 rw [List.drop_eq_nil_of_le (by rw [encO_len]; decide), List.append_nil, e, List.take_left' l1]
 simp [encO]
theorem encO_au3 (r : RO) : (encO r)[35]? = some (ub (r.au.1.getD 3 0)) := by
 have h : 3 < r.au.1.length := by rw [r.au.2]; decide
 rw [encO, List.getElem?_append_right (by simp [r.id.2]), List.getElem?_append_left (by simp [r.id.2, r.au.2])]
 simp [r.id.2, List.getD_eq_getElem?_getD, List.getElem?_eq_getElem h]
theorem encO_flip (r : RO) : (encO r).set 35 (ub ((r.au.1.getD 3 0) ^^^ 1)) = encO { r with au := flip3 r.au } := by
 rw [encO, encO, List.set_append, if_neg (by simp [r.id.2]), List.set_append, if_pos (by simp [r.id.2, r.au.2])]
 simp [r.id.2, flip3, List.map_set]
theorem xor1 : ∀ n : Nat, n < 256 → IntKind.u8.wrap ((BitVec.ofInt IntKind.u8.bits (n : Int) ^^^ BitVec.ofInt IntKind.u8.bits 1).toNat : Int) = ((UInt8.ofNat n ^^^ 1).toNat : Int) := by decide +kernel
theorem xor1_ub (c : UInt8) : Value.int .u8 (IntKind.u8.wrap ((BitVec.ofInt IntKind.u8.bits (c.toNat : Int) ^^^ BitVec.ofInt IntKind.u8.bits 1).toNat : Int)) = ub (c ^^^ 1) := by
 rw [xor1 c.toNat c.toNat_lt, UInt8.ofNat_toNat]
theorem shl1 : ∀ k : Nat, k < 9 → IntKind.i64.wrap (1 * 2 ^ (min k IntKind.i64.bits)) = ((2 ^ k : Nat) : Int) := by decide +kernel
theorem two_ne (k : Nat) : ((2 ^ k : Nat) : Int) ≠ 0 := by
 have := Nat.two_pow_pos k
 omega
theorem pick4_at (a b c d : Int) (k : UInt8) : [Value.int .i64 a, .int .i64 b, .int .i64 c, .int .i64 d][0 + k.toNat % 4]? = some (.int .i64 (pick4 [a, b, c, d] k)) := by
 have : [Value.int .i64 a, .int .i64 b, .int .i64 c, .int .i64 d] = [a, b, c, d].map (.int .i64) := rfl
 have h : k.toNat % 4 < [a, b, c, d].length := by show _ < 4; omega
 rw [this, Nat.zero_add, List.getElem?_map, pick4, List.getD_eq_getElem?_getD, List.getElem?_eq_getElem h]; rfl
theorem sp_is {c : UInt8} {k : Nat} (hk : k < 256) (h : (c.toNat : Int) = (k : Int)) : c = UInt8.ofNat k := by
 apply UInt8.toNat_inj.1
 rw [UInt8.toNat_ofNat']; omega
theorem sp_not {c : UInt8} {k : Nat} (hk : k < 256) (h : ¬ (c.toNat : Int) = (k : Int)) : c ≠ UInt8.ofNat k := by
 rintro rfl
 rw [UInt8.toNat_ofNat'] at h; omega
def rk0N (m : Mv) : Int := if m.spoil = 2 then ((m.leaf.toNat % 5 : Nat) : Int) else (rkB m).n + 1
theorem rekey_any (m : Mv) (hs : Sat K w Hs) : Ret Tryz.prog 36 #[.agg (encMv m).toArray] w fun v w' => v = .tuple #[.agg (encO (rkR m)).toArray, .int .i64 (rkK m), .int .i64 (rkT m)] ∧ Sat K w' Hs := by
 have q1 := encP_len (pubk m.pub.toNat)
 have q2 := encP_len (pubk m.new.toNat)
 have q3 := encV_len (ofP (pubk m.first.toNat))
 have q4 : ((idn (m.id.toNat % 16)).1.map ub).length = 32 := encV_len _
 have q5 := encO_len (rkR m)
 have h3 : ∀ n : Nat, (pubk n).h = ((1 + n % 3 : Nat) : Int) := pubk_h
 refine Ret.enter (n := 129) (args := [.agg (encMv m).toArray]) Tryz.func36 rfl rfl ?_
 refine C.keep [(0, _)] ⟨rfl, trivial⟩ (C.seq (C.region ?_))
 refine R.sboxA hs rfl rfl ?_
 intro b1 w1 hs
 refine R.sallocA hs Tryz.zr69 rfl ?_
 intro b2 w2 hs
 have hs : Sat K w2 (row b2 69 (encO oz) :: row b1 66 (encMv m) :: Hs) := hs
 refine R.ev rfl (E.assign rfl) (R.ev rfl (E.assign rfl) (R.done (X.keep [(1, _), (2, _)] ⟨rfl, rfl, trivial⟩ (X.next (C.seq ?_)))))
 refine C.drawn (SatS hs) ([1, 5, 9, 13, 16], [0, 2, 3, 4, 8, 10, 11, 12, 15, 18]) (by kernel_rfl) ?_
 have hs := hs.drew
 refine D.evP 0 rfl (by kernel_rfl) rfl (fun _ => hs.to) (fun _ => E.fieldAddr0 5 rfl Tryz.underlying66 rfl Tryz.sz5 rfl) (D.evP 4 rfl (by kernel_rfl) rfl (fun _ => hs.to) (fun _ => E.fieldAddr0 0 rfl Tryz.underlying66 rfl Tryz.sz5 rfl) (D.evP 8 rfl (by kernel_rfl) rfl (fun _ => hs.to) (fun _ => E.fieldAddr0 1 rfl Tryz.underlying66 rfl Tryz.sz5 rfl) (D.evP 12 rfl (by kernel_rfl) rfl (fun _ => hs.to) (fun _ => E.fieldAddr0 2 rfl Tryz.underlying66 rfl Tryz.sz5 rfl) (D.evP 15 rfl (by kernel_rfl) rfl (fun _ => hs.to) (fun _ => E.fieldAddr0 3 rfl Tryz.underlying66 rfl Tryz.sz5 rfl) (D.ev 1 rfl (by kernel_rfl) rfl hs.to (fun _ hS => E.load1 rfl Tryz.underlying5 rfl (by exact hS.ldc)) ?_)))))
 refine D.evP 2 rfl (by kernel_rfl) rfl (fun _ => hs.to) (fun _ => (E.rem rfl rfl (by decide) (by omega)).as (u := ub (UInt8.ofNat (m.id.toNat % 16))) (rem_ub (by decide))) ?_
 refine D.evP 3 rfl (by kernel_rfl) rfl (fun _ => hs.to) (fun _ => (E.buildOne (i := 31) rfl Tryz.underlying36 Tryz.zr36 Tryz.sz5 (by decide) rfl).as (u := .agg ((idn (m.id.toNat % 16)).1.map ub).toArray) rfl) ?_
 refine D.ev 5 rfl (by kernel_rfl) rfl hs.to (fun _ hS => E.load1 rfl Tryz.underlying5 rfl (by exact hS.ldc)) (D.ev 9 rfl (by kernel_rfl) rfl hs.to (fun _ hS => E.load1 rfl Tryz.underlying5 rfl (by exact hS.ldc)) ?_)
 refine D.evP 10 rfl (by kernel_rfl) rfl (fun _ => hs.to) (fun _ => (E.conv rfl Tryz.underlying5 Tryz.underlying3).isI (c := (m.number.toNat : Int)) (conv_u8 m.number)) ?_
 refine D.evP 11 rfl (by kernel_rfl) rfl (fun _ => hs.to) (fun _ => (E.rem rfl rfl (by omega) (by omega)).isI (c := ((m.number.toNat % 3 : Nat) : Int)) (by omega)) ?_
 refine D.ev 13 rfl (by kernel_rfl) rfl hs.to (fun _ hS => E.load1 rfl Tryz.underlying5 rfl (by exact hS.ldc)) (D.ev 16 rfl (by kernel_rfl) rfl hs.to (fun _ hS => E.load1 rfl Tryz.underlying5 rfl (by exact hS.ldc)) ?_)
 refine D.act2 6 19 rfl rfl (by kernel_rfl) ?_ ?_
 refine R.call ⟨_, _, Tryz.func7, rfl, by kernel_rfl⟩ rfl rfl (public_any m.first hs) ?_
 rintro _ w16 ⟨rfl, hs⟩
 refine D.back hs.to ?_
 refine D.act2 7 19 rfl rfl (by kernel_rfl) ?_ ?_
 refine R.call ⟨_, _, Tryz.func6, rfl, by kernel_rfl⟩ rfl rfl (rOf_any _ hs) ?_
 rintro _ w17 ⟨rfl, hs⟩
 refine D.back hs.to ?_
 refine D.act2 14 19 rfl rfl (by kernel_rfl) ?_ ?_
 refine R.call ⟨_, _, Tryz.func7, rfl, by kernel_rfl⟩ rfl rfl (public_any m.pub hs) ?_
 rintro _ w114 ⟨rfl, hs⟩
 refine D.back hs.to ?_
 refine D.act2 17 19 rfl rfl (by kernel_rfl) ?_ ?_
 refine R.call ⟨_, _, Tryz.func7, rfl, by kernel_rfl⟩ rfl rfl (public_any m.new hs) ?_
 rintro _ w117 ⟨rfl, hs⟩
 refine D.back hs.to ?_
 refine D.evP 18 rfl (by kernel_rfl) rfl (fun _ => hs.to) (fun _ => E.buildG (r := encO ⟨idn (m.id.toNat % 16), ofP (pubk m.first.toNat), ((m.number.toNat % 3 : Nat) : Int), pubk m.pub.toNat, 0, pubk m.new.toNat⟩) rfl Tryz.underlying69 Tryz.zr69 Tryz.ql69 (by kernel_rfl) (by kernel_rfl) ⟨⟨_, rfl, by rfl⟩, ⟨_, rfl, by rfl⟩, ⟨_, rfl, by rfl⟩, ⟨_, rfl, by rfl⟩, ⟨_, rfl, by rfl⟩, trivial⟩ (by rfl)) ?_
 refine D.act 19 rfl (by kernel_rfl) ?_
 refine R.sallocA hs Tryz.zr69 rfl ?_
 intro b5 w5 hs
 refine D.back hs.to (D.act 20 rfl (by kernel_rfl) ?_)
 refine R.cstoreAll hs rfl rfl Tryz.sz69 (by rfl) (by rfl) (by exact Enc.one _) ?_
 intro w1_20 hs
 try simp only [List.set_cons_zero, List.set_cons_succ] at hs
 refine D.backT (by kernel_rfl) (D.done rfl (by kernel_rfl) (X.keep [(1, _), (2, _), (5, _)] ⟨rfl, rfl, rfl, trivial⟩ (X.next (C.seq ?_))))
 refine C.drawn (SatS hs) ([1, 5], [0, 2, 3, 4, 6, 7, 8]) (by kernel_rfl) ?_
 have hs := hs.drew
 refine D.evP 0 rfl (by kernel_rfl) rfl (fun _ => hs.to) (fun _ => E.fieldAddr0 4 rfl Tryz.underlying66 rfl Tryz.sz5 rfl) (D.evP 3 rfl (by kernel_rfl) rfl (fun _ => hs.to) (fun _ => E.fieldAddr0 49 rfl Tryz.underlying69 rfl Tryz.sz31 rfl) (D.evP 4 rfl (by kernel_rfl) rfl (fun _ => hs.to) (fun _ => E.fieldAddrN 0 rfl Tryz.underlying31 rfl Tryz.sz3 rfl) (D.ev 1 rfl (by kernel_rfl) rfl hs.to (fun _ hS => E.load1 rfl Tryz.underlying5 rfl (by exact hS.ldc)) ?_)))
 refine D.evP 2 rfl (by kernel_rfl) rfl (fun _ => hs.to) (fun _ => (E.conv rfl Tryz.underlying5 Tryz.underlying3).isI (c := (m.leaf.toNat : Int)) (conv_u8 m.leaf)) ?_
 refine D.ev 5 rfl (by kernel_rfl) rfl hs.to (fun _ hS => E.load1 rfl Tryz.underlying3 rfl (hS.ldc (b := b5) (i := 49))) ?_
 refine D.evP 6 rfl (by kernel_rfl) rfl (fun _ => hs.to) (fun _ => (E.shl rfl rfl (by rw [h3]; omega)).isI (c := ((2 ^ (1 + m.pub.toNat % 3) : Nat) : Int)) (by rw [h3, Int.toNat_natCast]; exact shl1 _ (by omega))) ?_
 refine D.evP 7 rfl (by kernel_rfl) rfl (fun _ => hs.to) (fun _ => (E.rem rfl rfl (two_ne _) (by omega)).isI (c := ((m.leaf.toNat % 2 ^ (1 + m.pub.toNat % 3) : Nat) : Int)) (Int.natCast_emod _ _).symm) ?_
 refine D.evP 8 rfl (by kernel_rfl) rfl (fun _ => hs.to) (fun _ => E.fieldAddr0 66 rfl Tryz.underlying69 rfl Tryz.sz3 rfl) (D.act 9 rfl (by kernel_rfl) ?_)
 refine R.cstore1 (b := b5) hs rfl rfl Tryz.sz3 (by rw [encO_len]; decide) rfl ?_
 intro w29 hs
 rw [encO_leaf] at hs
 dsimp only at hs
 refine D.backT (by kernel_rfl) (D.done rfl (by kernel_rfl) (X.keep [(1, _), (2, _), (5, _)] ⟨rfl, rfl, rfl, trivial⟩ (X.next (C.seq (C.seq (C.region (R.ev rfl (E.fieldAddr0 48 rfl Tryz.underlying69 rfl Tryz.sz3 rfl) (R.ev rfl (E.load1 rfl Tryz.underlying3 rfl (by exact hs.ldc)) ?_))))))))
 refine R.ev rfl (E.eql rfl rfl) (R.done (X.keep [(1, _), (2, _), (5, _), (38, _)] ⟨rfl, rfl, rfl, rfl, trivial⟩ (X.next ?_)))
 refine C.cut [(1, _), (2, _), (5, _)] (fun (_ : Unit) => []) (fun _ w' => Sat K w' (row b5 69 (encO (rkB m)) :: row b2 69 (encO oz) :: row b1 66 (encMv m) :: Hs)) ⟨rfl, rfl, rfl, trivial⟩ ?_ ?_
 refine C.cdec rfl (fun h38 => ?_) (fun h38 => ?_)
 refine C.seq (C.region (R.ev rfl (E.fieldAddr0 0 rfl Tryz.underlying66 rfl Tryz.sz5 rfl) (R.ev rfl (E.load1 rfl Tryz.underlying5 rfl (by exact hs.ldc)) ?_)))
 refine R.call ⟨_, _, Tryz.func7, rfl, by kernel_rfl⟩ rfl rfl (public_any m.first hs) ?_
 rintro _ w42 ⟨rfl, hs⟩
 refine R.ev rfl (E.fieldAddr0 49 rfl Tryz.underlying69 rfl Tryz.sz31 rfl) ?_
 refine R.cstore (b := b5) hs rfl rfl Tryz.sz31 (encP_len _) (by rw [encO_len]; decide) (encP_one _) ?_
 intro w44 hs
 rw [encO_pu] at hs
 dsimp only at hs
 refine R.done (X.keep [(1, _), (2, _), (5, _)] ⟨rfl, rfl, rfl, trivial⟩ (X.next ?_))
 refine C.drawn (SatS hs) ([1, 5], [0, 2, 3, 4, 6, 7, 8]) (by kernel_rfl) ?_
 have hs := hs.drew
 refine D.evP 0 rfl (by kernel_rfl) rfl (fun _ => hs.to) (fun _ => E.fieldAddr0 4 rfl Tryz.underlying66 rfl Tryz.sz5 rfl) (D.evP 3 rfl (by kernel_rfl) rfl (fun _ => hs.to) (fun _ => E.fieldAddr0 49 rfl Tryz.underlying69 rfl Tryz.sz31 rfl) (D.evP 4 rfl (by kernel_rfl) rfl (fun _ => hs.to) (fun _ => E.fieldAddrN 0 rfl Tryz.underlying31 rfl Tryz.sz3 rfl) (D.ev 1 rfl (by kernel_rfl) rfl hs.to (fun _ hS => E.load1 rfl Tryz.underlying5 rfl (by exact hS.ldc)) ?_)))
 refine D.evP 2 rfl (by kernel_rfl) rfl (fun _ => hs.to) (fun _ => (E.conv rfl Tryz.underlying5 Tryz.underlying3).isI (c := (m.leaf.toNat : Int)) (conv_u8 m.leaf)) ?_
 refine D.ev 5 rfl (by kernel_rfl) rfl hs.to (fun _ hS => E.load1 rfl Tryz.underlying3 rfl (hS.ldc (b := b5) (i := 49))) ?_
 refine D.evP 6 rfl (by kernel_rfl) rfl (fun _ => hs.to) (fun _ => (E.shl rfl rfl (by rw [h3]; omega)).isI (c := ((2 ^ (1 + m.first.toNat % 3) : Nat) : Int)) (by rw [h3, Int.toNat_natCast]; exact shl1 _ (by omega))) ?_
 refine D.evP 7 rfl (by kernel_rfl) rfl (fun _ => hs.to) (fun _ => (E.rem rfl rfl (two_ne _) (by omega)).isI (c := ((m.leaf.toNat % 2 ^ (1 + m.first.toNat % 3) : Nat) : Int)) (Int.natCast_emod _ _).symm) ?_
 refine D.evP 8 rfl (by kernel_rfl) rfl (fun _ => hs.to) (fun _ => E.fieldAddr0 66 rfl Tryz.underlying69 rfl Tryz.sz3 rfl) (D.act 9 rfl (by kernel_rfl) ?_)
 refine R.cstore1 (b := b5) hs rfl rfl Tryz.sz3 (by rw [encO_len]; decide) rfl ?_
 intro w59 hs
 rw [encO_leaf] at hs
 dsimp only at hs
 refine D.backT (by kernel_rfl) (D.done rfl (by kernel_rfl) (X.keep [(1, _), (2, _), (5, _)] ⟨rfl, rfl, rfl, trivial⟩ ?_))
 (have e : rkB m = ⟨idn (m.id.toNat % 16), ofP (pubk m.first.toNat), ((m.number.toNat % 3 : Nat) : Int), pubk m.first.toNat, ((m.leaf.toNat % 2 ^ (1 + m.first.toNat % 3) : Nat) : Int), pubk m.new.toNat⟩ := by
    have h38 : ((m.number.toNat % 3 : Nat) : Int) = 0 := h38
    have h38 : m.number.toNat % 3 = 0 := by omega
    simp only [rkB, rkN, rkP, rkH, if_pos h38]
  exact X.cut (()) ⟨rfl, rfl, rfl, trivial⟩ (by rw [e]; exact hs))
 refine C.skip ?_
 (have e : rkB m = ⟨idn (m.id.toNat % 16), ofP (pubk m.first.toNat), ((m.number.toNat % 3 : Nat) : Int), pubk m.pub.toNat, ((m.leaf.toNat % 2 ^ (1 + m.pub.toNat % 3) : Nat) : Int), pubk m.new.toNat⟩ := by
    have h38 : ¬ ((m.number.toNat % 3 : Nat) : Int) = 0 := h38
    have h38 : ¬ m.number.toNat % 3 = 0 := by omega
    simp only [rkB, rkN, rkP, rkH, if_neg h38]
  exact X.cut (()) ⟨rfl, rfl, rfl, trivial⟩ (by rw [e]; exact hs))
 rintro _ w6 hs
 refine X.keep [(1, _), (2, _), (5, _)] ⟨rfl, rfl, rfl, trivial⟩ (X.next (C.seq ?_))
 refine C.drawn (SatS hs) ([1], [0, 2, 3, 4]) (by kernel_rfl) ?_
 have hs := hs.drew
 refine D.evP 0 rfl (by kernel_rfl) rfl (fun _ => hs.to) (fun _ => E.fieldAddr0 48 rfl Tryz.underlying69 rfl Tryz.sz3 rfl) (D.evP 3 rfl (by kernel_rfl) rfl (fun _ => hs.to) (fun _ => E.assign rfl) (D.ev 1 rfl (by kernel_rfl) rfl hs.to (fun _ hS => E.load1 rfl Tryz.underlying3 rfl (by exact hS.ldc)) (D.evP 2 rfl (by kernel_rfl) rfl (fun _ => hs.to) (fun _ => E.add rfl rfl (by simp only [rkB, rkN]; omega) (by simp only [rkB, rkN]; omega)) (D.evP 4 rfl (by kernel_rfl) rfl (fun _ => hs.to) (fun _ => E.assign rfl) (D.done rfl (by kernel_rfl) (X.keep [(1, _), (2, _), (5, _), (6, _), (7, _)] ⟨rfl, rfl, rfl, rfl, rfl, trivial⟩ (X.next (C.seq ?_))))))))
 refine C.seq (C.region (R.ev rfl (E.fieldAddr0 6 rfl Tryz.underlying66 rfl Tryz.sz5 rfl) (R.ev rfl (E.load1 rfl Tryz.underlying5 rfl (by exact hs.ldc)) (R.done (X.keep [(1, _), (2, _), (5, _), (6, _), (7, _), (56, _)] ⟨rfl, rfl, rfl, rfl, rfl, rfl, trivial⟩ (X.next (C.block (C.seq ?_))))))))
 refine C.region (R.ev rfl (E.eql rfl rfl) (R.ev rfl (E.assign rfl) (R.done (X.keep [(1, _), (2, _), (5, _), (6, _), (7, _), (56, _), (57, _)] ⟨rfl, rfl, rfl, rfl, rfl, rfl, rfl, trivial⟩ (X.next ?_)))))
 refine C.cut [(1, _), (2, _), (5, _)] (fun (u : Int × Int) => [(6, .int .i64 u.1), (7, .int .i64 u.2)]) (fun u w' => u.1 = rkK m ∧ u.2 = rk0N m ∧ Sat K w' (row b5 69 (encO (rkR m)) :: row b2 69 (encO oz) :: row b1 66 (encMv m) :: Hs)) ⟨rfl, rfl, rfl, trivial⟩ ?_ ?_
 refine C.cdec rfl (fun h57 => ?_) (fun h57 => ?_)
 refine C.region (R.ev rfl (E.fieldAddr0 4 rfl Tryz.underlying66 rfl Tryz.sz5 rfl) (R.ev rfl (E.load1 rfl Tryz.underlying5 rfl (by exact hs.ldc)) ?_))
 refine R.ev rfl ((E.conv rfl Tryz.underlying5 Tryz.underlying3).isI (c := (m.leaf.toNat : Int)) (conv_u8 m.leaf)) ?_
 refine R.ev rfl ((E.rem rfl rfl (by omega) (by omega)).isI (c := ((m.leaf.toNat % 7 : Nat) : Int)) (by omega)) ?_
 refine R.ev rfl (E.assign rfl) (R.done (X.keep [(1, _), (2, _), (5, _), (6, _), (7, _)] ⟨rfl, rfl, rfl, rfl, rfl, trivial⟩ ?_))
 (have g : m.spoil = 0 := sp_is (k := 0) (by decide) h57
  exact X.cut ((_, _)) ⟨lkV rfl rfl, lkV rfl rfl, rfl, rfl, rfl, trivial⟩ ⟨by rw [rkK, if_pos g], by rw [rk0N, g]; rfl, by rw [show rkR m = rkB m from by simp [rkR, g]]; exact hs.to⟩)
 refine C.seq (C.region (R.ev rfl (E.eql rfl rfl) (R.ev rfl (E.assign rfl) (R.done (X.keep [(1, _), (2, _), (5, _), (6, _), (7, _), (56, _), (63, _)] ⟨rfl, rfl, rfl, rfl, rfl, rfl, rfl, trivial⟩ (X.next ?_))))))
 refine C.cdec rfl (fun h63 => ?_) (fun h63 => ?_)
 refine C.region ?_
 refine R.buildSlice1 (parts := [(0, _), (1, _), (2, _), (3, _)]) (vs := [_, _, _, _]) rfl rfl rfl Tryz.underlying119 Tryz.sz3 Tryz.zr3 rfl (by simp [Value.oneCell']) (by decide) ?_
 intro b65 w65 n65
 have hs := hs.new n65
 refine R.ev rfl (E.fieldAddr0 4 rfl Tryz.underlying66 rfl Tryz.sz5 rfl) (R.ev rfl (E.load1 rfl Tryz.underlying5 rfl (by exact hs.ldc)) ?_)
 refine R.ev rfl ((E.rem rfl rfl (by omega) (by omega)).isI (c := ((m.leaf.toNat % 4 : Nat) : Int)) (by omega)) ?_
 refine R.ev rfl (E.indexAddr1 (m.leaf.toNat % 4) rfl rfl Tryz.underlying119 Tryz.sz3 rfl (by omega)) ?_
 refine R.ev rfl (E.load1 rfl Tryz.underlying3 rfl (hs.ld (b := b65) (pick4_at _ _ _ _ m.leaf))) ?_
 refine R.ev rfl (E.fieldAddr0 48 rfl Tryz.underlying69 rfl Tryz.sz3 rfl) ?_
 refine R.cstore1 (b := b5) hs rfl rfl Tryz.sz3 (by rw [encO_len]; decide) rfl ?_
 intro w117 hs
 rw [encO_n] at hs
 refine R.done (X.keep [(1, _), (2, _), (5, _), (6, _), (7, _)] ⟨rfl, rfl, rfl, rfl, rfl, trivial⟩ ?_)
 (have g : m.spoil = 1 := sp_is (k := 1) (by decide) h63
  exact X.cut ((_, _)) ⟨lkV rfl rfl, lkV rfl rfl, rfl, rfl, rfl, trivial⟩ ⟨by rw [rkK, g]; rfl, by rw [rk0N, g]; rfl, by rw [show rkR m = { rkB m with n := pick4 [-1, 1000, 999, 1099511627776] m.leaf } from by simp [rkR, g]]; exact hs.to⟩)
 refine C.seq (C.region (R.ev rfl (E.eql rfl rfl) (R.ev rfl (E.assign rfl) (R.done (X.keep [(1, _), (2, _), (5, _), (6, _), (7, _), (56, _), (72, _)] ⟨rfl, rfl, rfl, rfl, rfl, rfl, rfl, trivial⟩ (X.next ?_))))))
 refine C.cdec rfl (fun h72 => ?_) (fun h72 => ?_)
 refine C.region (R.ev rfl (E.fieldAddr0 4 rfl Tryz.underlying66 rfl Tryz.sz5 rfl) (R.ev rfl (E.load1 rfl Tryz.underlying5 rfl (by exact hs.ldc)) ?_))
 refine R.ev rfl ((E.conv rfl Tryz.underlying5 Tryz.underlying3).isI (c := (m.leaf.toNat : Int)) (conv_u8 m.leaf)) ?_
 refine R.ev rfl ((E.rem rfl rfl (by omega) (by omega)).isI (c := ((m.leaf.toNat % 5 : Nat) : Int)) (by omega)) ?_
 refine R.ev rfl (E.assign rfl) (R.done (X.keep [(1, _), (2, _), (5, _), (6, _), (7, _)] ⟨rfl, rfl, rfl, rfl, rfl, trivial⟩ ?_))
 (have g : m.spoil = 2 := sp_is (k := 2) (by decide) h72
  exact X.cut ((_, _)) ⟨lkV rfl rfl, lkV rfl rfl, rfl, rfl, rfl, trivial⟩ ⟨by rw [rkK, g]; rfl, by rw [rk0N, g]; rfl, by rw [show rkR m = rkB m from by simp [rkR, g]]; exact hs.to⟩)
 refine C.seq (C.region (R.ev rfl (E.eql rfl rfl) (R.ev rfl (E.assign rfl) (R.done (X.keep [(1, _), (2, _), (5, _), (6, _), (7, _), (56, _), (78, _)] ⟨rfl, rfl, rfl, rfl, rfl, rfl, rfl, trivial⟩ (X.next ?_))))))
 refine C.cdec rfl (fun h78 => ?_) (fun h78 => ?_)
 refine C.region ?_
 refine R.buildSlice1 (parts := [(0, _), (1, _), (2, _), (3, _)]) (vs := [_, _, _, _]) rfl rfl rfl Tryz.underlying119 Tryz.sz3 Tryz.zr3 rfl (by simp [Value.oneCell']) (by decide) ?_
 intro b80 w80 n80
 have hs := hs.new n80
 refine R.ev rfl (E.fieldAddr0 4 rfl Tryz.underlying66 rfl Tryz.sz5 rfl) (R.ev rfl (E.load1 rfl Tryz.underlying5 rfl (by exact hs.ldc)) ?_)
 refine R.ev rfl ((E.rem rfl rfl (by omega) (by omega)).isI (c := ((m.leaf.toNat % 4 : Nat) : Int)) (by omega)) ?_
 refine R.ev rfl (E.indexAddr1 (m.leaf.toNat % 4) rfl rfl Tryz.underlying119 Tryz.sz3 rfl (by omega)) ?_
 refine R.ev rfl (E.load1 rfl Tryz.underlying3 rfl (hs.ld (b := b80) (pick4_at _ _ _ _ m.leaf))) ?_
 refine R.ev rfl (E.fieldAddr0 49 rfl Tryz.underlying69 rfl Tryz.sz31 rfl) (R.ev rfl (E.fieldAddrN 0 rfl Tryz.underlying31 rfl Tryz.sz3 rfl) ?_)
 refine R.cstore1 (b := b5) hs rfl rfl Tryz.sz3 (by rw [encO_len]; decide) rfl ?_
 intro w158 hs
 rw [encO_ph] at hs
 refine R.done (X.keep [(1, _), (2, _), (5, _), (6, _), (7, _)] ⟨rfl, rfl, rfl, rfl, rfl, trivial⟩ ?_)
 (have g : m.spoil = 3 := sp_is (k := 3) (by decide) h78
  exact X.cut ((_, _)) ⟨lkV rfl rfl, lkV rfl rfl, rfl, rfl, rfl, trivial⟩ ⟨by rw [rkK, g]; rfl, by rw [rk0N, g]; rfl, by rw [show rkR m = { rkB m with pu := ⟨pick4 [0, 9, -1, 8] m.leaf, (rkB m).pu.r⟩ } from by simp [rkR, g]]; exact hs.to⟩)
 refine C.seq (C.region (R.ev rfl (E.eql rfl rfl) (R.ev rfl (E.assign rfl) (R.done (X.keep [(1, _), (2, _), (5, _), (6, _), (7, _), (56, _), (88, _)] ⟨rfl, rfl, rfl, rfl, rfl, rfl, rfl, trivial⟩ (X.next ?_))))))
 refine C.cdec rfl (fun h88 => ?_) (fun h88 => ?_)
 refine C.region ?_
 refine R.buildSlice1 (parts := [(0, _), (1, _), (2, _), (3, _)]) (vs := [_, _, _, _]) rfl rfl rfl Tryz.underlying119 Tryz.sz3 Tryz.zr3 rfl (by simp [Value.oneCell']) (by decide) ?_
 intro b90 w90 n90
 have hs := hs.new n90
 refine R.ev rfl (E.fieldAddr0 4 rfl Tryz.underlying66 rfl Tryz.sz5 rfl) (R.ev rfl (E.load1 rfl Tryz.underlying5 rfl (by exact hs.ldc)) ?_)
 refine R.ev rfl ((E.rem rfl rfl (by omega) (by omega)).isI (c := ((m.leaf.toNat % 4 : Nat) : Int)) (by omega)) ?_
 refine R.ev rfl (E.indexAddr1 (m.leaf.toNat % 4) rfl rfl Tryz.underlying119 Tryz.sz3 rfl (by omega)) ?_
 refine R.ev rfl (E.load1 rfl Tryz.underlying3 rfl (hs.ld (b := b90) (pick4_at _ _ _ _ m.leaf))) ?_
 refine R.ev rfl (E.fieldAddr0 67 rfl Tryz.underlying69 rfl Tryz.sz31 rfl) (R.ev rfl (E.fieldAddrN 0 rfl Tryz.underlying31 rfl Tryz.sz3 rfl) ?_)
 refine R.cstore1 (b := b5) hs rfl rfl Tryz.sz3 (by rw [encO_len]; decide) rfl ?_
 intro w178 hs
 rw [encO_nh] at hs
 refine R.done (X.keep [(1, _), (2, _), (5, _), (6, _), (7, _)] ⟨rfl, rfl, rfl, rfl, rfl, trivial⟩ ?_)
 (have g : m.spoil = 4 := sp_is (k := 4) (by decide) h88
  exact X.cut ((_, _)) ⟨lkV rfl rfl, lkV rfl rfl, rfl, rfl, rfl, trivial⟩ ⟨by rw [rkK, g]; rfl, by rw [rk0N, g]; rfl, by rw [show rkR m = { rkB m with nw := ⟨pick4 [0, 9, -1, 8] m.leaf, (rkB m).nw.r⟩ } from by simp [rkR, g]]; exact hs.to⟩)
 refine C.seq (C.region (R.ev rfl (E.eql rfl rfl) (R.ev rfl (E.assign rfl) (R.done (X.keep [(1, _), (2, _), (5, _), (6, _), (7, _), (56, _), (98, _)] ⟨rfl, rfl, rfl, rfl, rfl, rfl, rfl, trivial⟩ (X.next ?_))))))
 refine C.cdec rfl (fun h98 => ?_) (fun h98 => ?_)
 refine C.region (R.ev rfl (E.fieldAddr0 49 rfl Tryz.underlying69 rfl Tryz.sz31 rfl) (R.ev rfl (E.loadRowC rfl Tryz.underlying31 rfl Tryz.sz31 (by exact hs.ldp)) (R.ev rfl (E.fieldAddr0 67 rfl Tryz.underlying69 rfl Tryz.sz31 rfl) ?_)))
 refine R.cstore (b := b5) hs rfl rfl Tryz.sz31 (encP_len _) (by rw [encO_len]; decide) (encP_one _) ?_
 intro w193 hs
 rw [encO_nw] at hs
 refine R.done (X.keep [(1, _), (2, _), (5, _), (6, _), (7, _)] ⟨rfl, rfl, rfl, rfl, rfl, trivial⟩ ?_)
 (have g : m.spoil = 5 := sp_is (k := 5) (by decide) h98
  exact X.cut ((_, _)) ⟨lkV rfl rfl, lkV rfl rfl, rfl, rfl, rfl, trivial⟩ ⟨by rw [rkK, g]; rfl, by rw [rk0N, g]; rfl, by rw [show rkR m = { rkB m with nw := (rkB m).pu } from by simp [rkR, g]]; exact hs.to⟩)
 refine C.seq (C.region (R.ev rfl (E.eql rfl rfl) (R.ev rfl (E.assign rfl) (R.done (X.keep [(1, _), (2, _), (5, _), (6, _), (7, _), (56, _), (103, _)] ⟨rfl, rfl, rfl, rfl, rfl, rfl, rfl, trivial⟩ (X.next ?_))))))
 refine C.cdec rfl (fun h103 => ?_) (fun h103 => ?_)
 refine C.region ?_
 refine R.buildSlice1 (parts := [(0, _), (1, _), (2, _), (3, _)]) (vs := [_, _, _, _]) rfl rfl rfl Tryz.underlying119 Tryz.sz3 Tryz.zr3 rfl (by simp [Value.oneCell']) (by decide) ?_
 intro b105 w105 n105
 have hs := hs.new n105
 refine R.ev rfl (E.fieldAddr0 4 rfl Tryz.underlying66 rfl Tryz.sz5 rfl) (R.ev rfl (E.load1 rfl Tryz.underlying5 rfl (by exact hs.ldc)) ?_)
 refine R.ev rfl ((E.rem rfl rfl (by omega) (by omega)).isI (c := ((m.leaf.toNat % 4 : Nat) : Int)) (by omega)) ?_
 refine R.ev rfl (E.indexAddr1 (m.leaf.toNat % 4) rfl rfl Tryz.underlying119 Tryz.sz3 rfl (by omega)) ?_
 refine R.ev rfl (E.load1 rfl Tryz.underlying3 rfl (hs.ld (b := b105) (pick4_at _ _ _ _ m.leaf))) ?_
 refine R.ev rfl (E.fieldAddr0 66 rfl Tryz.underlying69 rfl Tryz.sz3 rfl) ?_
 refine R.cstore1 (b := b5) hs rfl rfl Tryz.sz3 (by rw [encO_len]; decide) rfl ?_
 intro w217 hs
 rw [encO_leaf] at hs
 refine R.done (X.keep [(1, _), (2, _), (5, _), (6, _), (7, _)] ⟨rfl, rfl, rfl, rfl, rfl, trivial⟩ ?_)
 (have g : m.spoil = 6 := sp_is (k := 6) (by decide) h103
  exact X.cut ((_, _)) ⟨lkV rfl rfl, lkV rfl rfl, rfl, rfl, rfl, trivial⟩ ⟨by rw [rkK, g]; rfl, by rw [rk0N, g]; rfl, by rw [show rkR m = { rkB m with leaf := pick4 [-1, 8, 2, 4] m.leaf } from by simp [rkR, g]]; exact hs.to⟩)
 refine C.seq (C.region (R.ev rfl (E.eql rfl rfl) (R.ev rfl (E.assign rfl) (R.done (X.keep [(1, _), (2, _), (5, _), (6, _), (7, _), (112, _)] ⟨rfl, rfl, rfl, rfl, rfl, rfl, trivial⟩ (X.next ?_))))))
 refine C.cdec rfl (fun h112 => ?_) (fun h112 => ?_)
 refine C.region (R.ev rfl (E.fieldAddr0 32 rfl Tryz.underlying69 rfl Tryz.sz28 rfl) ?_)
 refine R.ev rfl (E.indexAddrA (i := 3) rfl rfl Tryz.underlying28 Tryz.sz5 rfl (by decide)) ?_
 refine R.ev rfl (E.load1 rfl Tryz.underlying5 rfl (hs.ld (b := b5) (encO_au3 (rkB m)))) ?_
 refine R.ev rfl ((E.xor rfl rfl).as (u := ub ((rkB m).au.1.getD 3 0 ^^^ 1)) (xor1_ub _)) ?_
 refine R.ev rfl (E.fieldAddr0 32 rfl Tryz.underlying69 rfl Tryz.sz28 rfl) ?_
 refine R.ev rfl (E.indexAddrA (i := 3) rfl rfl Tryz.underlying28 Tryz.sz5 rfl (by decide)) ?_
 refine R.cstore1 (b := b5) hs rfl rfl Tryz.sz5 (by rw [encO_len]; decide) rfl ?_
 intro w236 hs
 rw [show (32 + 3 * 1 : Nat) = 35 from rfl, encO_flip] at hs
 refine R.done (X.keep [(1, _), (2, _), (5, _), (6, _), (7, _)] ⟨rfl, rfl, rfl, rfl, rfl, trivial⟩ ?_)
 (have g : m.spoil = 7 := sp_is (k := 7) (by decide) h112
  exact X.cut ((_, _)) ⟨lkV rfl rfl, lkV rfl rfl, rfl, rfl, rfl, trivial⟩ ⟨by rw [rkK, g]; rfl, by rw [rk0N, g]; rfl, by rw [show rkR m = { rkB m with au := flip3 (rkB m).au } from by simp [rkR, g]]; exact hs.to⟩)
 refine C.skip ?_
 (have g0 : m.spoil ≠ 0 := sp_not (k := 0) (by decide) h57
  have g1 : m.spoil ≠ 1 := sp_not (k := 1) (by decide) h63
  have g2 : m.spoil ≠ 2 := sp_not (k := 2) (by decide) h72
  have g3 : m.spoil ≠ 3 := sp_not (k := 3) (by decide) h78
  have g4 : m.spoil ≠ 4 := sp_not (k := 4) (by decide) h88
  have g5 : m.spoil ≠ 5 := sp_not (k := 5) (by decide) h98
  have g6 : m.spoil ≠ 6 := sp_not (k := 6) (by decide) h103
  have g7 : m.spoil ≠ 7 := sp_not (k := 7) (by decide) h112
  exact X.cut ((_, _)) ⟨lkV rfl rfl, lkV rfl rfl, rfl, rfl, rfl, trivial⟩ ⟨by rw [rkK, if_neg g0], by rw [rk0N, if_neg g2], by rw [rkR, if_neg g1, if_neg g3, if_neg g4, if_neg g5, if_neg g6, if_neg g7]; exact hs.to⟩)
 rintro ⟨_, _⟩ w7 ⟨rfl, rfl, hs⟩
 refine X.keep [(1, _), (2, _), (5, _), (6, _), (7, _)] ⟨rfl, rfl, rfl, rfl, rfl, trivial⟩ (X.blockNormal (X.next (C.seq (C.seq (C.region (R.ev rfl (E.fieldAddr0 6 rfl Tryz.underlying66 rfl Tryz.sz5 rfl) (R.ev rfl (E.load1 rfl Tryz.underlying5 rfl (by exact hs.ldc)) (R.ev rfl (E.eql rfl rfl) ?_))))))))
 refine R.done (X.keep [(2, _), (5, _), (6, _), (7, _), (122, _)] ⟨rfl, rfl, rfl, rfl, rfl, trivial⟩ (X.next ?_))
 refine C.cdec rfl (fun h122 => ?_) (fun h122 => ?_)
 refine C.region ?_
 have g : m.spoil = 1 := sp_is (k := 1) (by decide) h122
 have hrn : -1 ≤ (rkR m).n ∧ (rkR m).n ≤ 1099511627776 := by
   rw [show rkR m = { rkB m with n := pick4 [-1, 1000, 999, 1099511627776] m.leaf } from by simp [rkR, g]]
   dsimp only
   rcases pick4_mem (a := -1) (b := 1000) (c := 999) (d := 1099511627776) (k := m.leaf) with e | e | e | e <;> rw [e] <;> decide
 refine R.ev rfl (E.fieldAddr0 48 rfl Tryz.underlying69 rfl Tryz.sz3 rfl) (R.ev rfl (E.load1 rfl Tryz.underlying3 rfl (by exact hs.ldc)) (R.ev rfl (E.add rfl rfl (by omega) (by omega)) (R.ev rfl (E.assign rfl) (R.done (X.keep [(2, _), (5, _), (6, _), (7, _)] ⟨rfl, rfl, rfl, rfl, trivial⟩ (X.next (C.seq (C.region ?_))))))))
 refine R.ev rfl (E.loadRowC rfl Tryz.underlying69 rfl Tryz.sz69 (by exact ⟨hs.ldA, by assumption⟩)) (R.ev rfl (E.move rfl) (R.ev rfl (E.move rfl) ?_))
 refine R.cstoreAll hs rfl rfl Tryz.sz69 (by rfl) (by assumption) (by exact Enc.one _) ?_
 intro w26_3 hs
 try simp only [List.set_cons_zero, List.set_cons_succ] at hs
 refine R.ev rfl (E.assign rfl) (R.ev rfl (E.assign rfl) (R.done (X.keep [(2, _), (3, _), (4, _)] ⟨rfl, rfl, rfl, trivial⟩ (X.next (C.ret ?_)))))
 refine X.resCTT rfl rfl Tryz.underlying69 rfl Tryz.sz69 (by exact ⟨hs.ldA, by assumption⟩) rfl rfl ?_
 (have g : m.spoil = 1 := sp_is (k := 1) (by decide) h122
  exact ⟨by rw [rkT, if_pos g], hs.to⟩)
 refine C.skip (X.next (C.seq (C.region (R.ev rfl (E.loadRowC rfl Tryz.underlying69 rfl Tryz.sz69 (by exact ⟨hs.ldA, by assumption⟩)) (R.ev rfl (E.move rfl) (R.ev rfl (E.move rfl) ?_))))))
 refine R.cstoreAll hs rfl rfl Tryz.sz69 (by rfl) (by assumption) (by exact Enc.one _) ?_
 intro w26_3 hs
 try simp only [List.set_cons_zero, List.set_cons_succ] at hs
 refine R.ev rfl (E.assign rfl) (R.ev rfl (E.assign rfl) (R.done (X.keep [(2, _), (3, _), (4, _)] ⟨rfl, rfl, rfl, trivial⟩ (X.next (C.ret ?_)))))
 refine X.resCTT rfl rfl Tryz.underlying69 rfl Tryz.sz69 (by exact ⟨hs.ldA, by assumption⟩) rfl rfl ?_
 (have g : m.spoil ≠ 1 := sp_not (k := 1) (by decide) h122
  exact ⟨by rw [rkT, if_neg g]; rfl, hs.to⟩)
 refine R.sallocA hs Tryz.zr69 rfl ?_
 intro b5 w5 hs
 refine D.back hs.to (D.act 17 rfl (by kernel_rfl) ?_)
 refine R.call ⟨_, _, Tryz.func7, rfl, by kernel_rfl⟩ rfl rfl (public_any m.new hs) ?_
 rintro _ w117 ⟨rfl, hs⟩
 refine D.back hs.to ?_
 refine D.evP 18 rfl (by kernel_rfl) rfl (fun _ => hs.to) (fun _ => E.buildG (r := encO ⟨idn (m.id.toNat % 16), ofP (pubk m.first.toNat), ((m.number.toNat % 3 : Nat) : Int), pubk m.pub.toNat, 0, pubk m.new.toNat⟩) rfl Tryz.underlying69 Tryz.zr69 Tryz.ql69 (by kernel_rfl) (by kernel_rfl) ⟨⟨_, rfl, by rfl⟩, ⟨_, rfl, by rfl⟩, ⟨_, rfl, by rfl⟩, ⟨_, rfl, by rfl⟩, ⟨_, rfl, by rfl⟩, trivial⟩ (by rfl)) ?_
 refine D.act 20 rfl (by kernel_rfl) ?_
 refine R.cstoreAll hs rfl rfl Tryz.sz69 (by rfl) (by rfl) (by exact Enc.one _) ?_
 intro w1_20 hs
 try simp only [List.set_cons_zero, List.set_cons_succ] at hs
 refine D.backT (by kernel_rfl) (D.done rfl (by kernel_rfl) (X.keep [(1, _), (2, _), (5, _)] ⟨rfl, rfl, rfl, trivial⟩ (X.next (C.seq ?_))))
 refine C.drawn (SatS hs) ([1, 5], [0, 2, 3, 4, 6, 7, 8]) (by kernel_rfl) ?_
 have hs := hs.drew
 refine D.evP 0 rfl (by kernel_rfl) rfl (fun _ => hs.to) (fun _ => E.fieldAddr0 4 rfl Tryz.underlying66 rfl Tryz.sz5 rfl) (D.evP 3 rfl (by kernel_rfl) rfl (fun _ => hs.to) (fun _ => E.fieldAddr0 49 rfl Tryz.underlying69 rfl Tryz.sz31 rfl) (D.evP 4 rfl (by kernel_rfl) rfl (fun _ => hs.to) (fun _ => E.fieldAddrN 0 rfl Tryz.underlying31 rfl Tryz.sz3 rfl) (D.ev 1 rfl (by kernel_rfl) rfl hs.to (fun _ hS => E.load1 rfl Tryz.underlying5 rfl (by exact hS.ldc)) ?_)))
 refine D.evP 2 rfl (by kernel_rfl) rfl (fun _ => hs.to) (fun _ => (E.conv rfl Tryz.underlying5 Tryz.underlying3).isI (c := (m.leaf.toNat : Int)) (conv_u8 m.leaf)) ?_
 refine D.ev 5 rfl (by kernel_rfl) rfl hs.to (fun _ hS => E.load1 rfl Tryz.underlying3 rfl (hS.ldc (b := b5) (i := 49))) ?_
 refine D.evP 6 rfl (by kernel_rfl) rfl (fun _ => hs.to) (fun _ => (E.shl rfl rfl (by rw [h3]; omega)).isI (c := ((2 ^ (1 + m.pub.toNat % 3) : Nat) : Int)) (by rw [h3, Int.toNat_natCast]; exact shl1 _ (by omega))) ?_
 refine D.evP 7 rfl (by kernel_rfl) rfl (fun _ => hs.to) (fun _ => (E.rem rfl rfl (two_ne _) (by omega)).isI (c := ((m.leaf.toNat % 2 ^ (1 + m.pub.toNat % 3) : Nat) : Int)) (Int.natCast_emod _ _).symm) ?_
 refine D.evP 8 rfl (by kernel_rfl) rfl (fun _ => hs.to) (fun _ => E.fieldAddr0 66 rfl Tryz.underlying69 rfl Tryz.sz3 rfl) (D.act 9 rfl (by kernel_rfl) ?_)
 refine R.cstore1 (b := b5) hs rfl rfl Tryz.sz3 (by rw [encO_len]; decide) rfl ?_
 intro w29 hs
 rw [encO_leaf] at hs
 dsimp only at hs
 refine D.backT (by kernel_rfl) (D.done rfl (by kernel_rfl) (X.keep [(1, _), (2, _), (5, _)] ⟨rfl, rfl, rfl, trivial⟩ (X.next (C.seq (C.seq (C.region (R.ev rfl (E.fieldAddr0 48 rfl Tryz.underlying69 rfl Tryz.sz3 rfl) (R.ev rfl (E.load1 rfl Tryz.underlying3 rfl (by exact hs.ldc)) ?_))))))))
 refine R.ev rfl (E.eql rfl rfl) (R.done (X.keep [(1, _), (2, _), (5, _), (38, _)] ⟨rfl, rfl, rfl, rfl, trivial⟩ (X.next ?_)))
 refine C.cut [(1, _), (2, _), (5, _)] (fun (_ : Unit) => []) (fun _ w' => Sat K w' (row b5 69 (encO (rkB m)) :: row b2 69 (encO oz) :: row b1 66 (encMv m) :: Hs)) ⟨rfl, rfl, rfl, trivial⟩ ?_ ?_
 refine C.cdec rfl (fun h38 => ?_) (fun h38 => ?_)
 refine C.seq (C.region (R.ev rfl (E.fieldAddr0 0 rfl Tryz.underlying66 rfl Tryz.sz5 rfl) (R.ev rfl (E.load1 rfl Tryz.underlying5 rfl (by exact hs.ldc)) ?_)))
 refine R.call ⟨_, _, Tryz.func7, rfl, by kernel_rfl⟩ rfl rfl (public_any m.first hs) ?_
 rintro _ w42 ⟨rfl, hs⟩
 refine R.ev rfl (E.fieldAddr0 49 rfl Tryz.underlying69 rfl Tryz.sz31 rfl) ?_
 refine R.cstore (b := b5) hs rfl rfl Tryz.sz31 (encP_len _) (by rw [encO_len]; decide) (encP_one _) ?_
 intro w44 hs
 rw [encO_pu] at hs
 dsimp only at hs
 refine R.done (X.keep [(1, _), (2, _), (5, _)] ⟨rfl, rfl, rfl, trivial⟩ (X.next ?_))
 refine C.drawn (SatS hs) ([1, 5], [0, 2, 3, 4, 6, 7, 8]) (by kernel_rfl) ?_
 have hs := hs.drew
 refine D.evP 0 rfl (by kernel_rfl) rfl (fun _ => hs.to) (fun _ => E.fieldAddr0 4 rfl Tryz.underlying66 rfl Tryz.sz5 rfl) (D.evP 3 rfl (by kernel_rfl) rfl (fun _ => hs.to) (fun _ => E.fieldAddr0 49 rfl Tryz.underlying69 rfl Tryz.sz31 rfl) (D.evP 4 rfl (by kernel_rfl) rfl (fun _ => hs.to) (fun _ => E.fieldAddrN 0 rfl Tryz.underlying31 rfl Tryz.sz3 rfl) (D.ev 1 rfl (by kernel_rfl) rfl hs.to (fun _ hS => E.load1 rfl Tryz.underlying5 rfl (by exact hS.ldc)) ?_)))
 refine D.evP 2 rfl (by kernel_rfl) rfl (fun _ => hs.to) (fun _ => (E.conv rfl Tryz.underlying5 Tryz.underlying3).isI (c := (m.leaf.toNat : Int)) (conv_u8 m.leaf)) ?_
 refine D.ev 5 rfl (by kernel_rfl) rfl hs.to (fun _ hS => E.load1 rfl Tryz.underlying3 rfl (hS.ldc (b := b5) (i := 49))) ?_
 refine D.evP 6 rfl (by kernel_rfl) rfl (fun _ => hs.to) (fun _ => (E.shl rfl rfl (by rw [h3]; omega)).isI (c := ((2 ^ (1 + m.first.toNat % 3) : Nat) : Int)) (by rw [h3, Int.toNat_natCast]; exact shl1 _ (by omega))) ?_
 refine D.evP 7 rfl (by kernel_rfl) rfl (fun _ => hs.to) (fun _ => (E.rem rfl rfl (two_ne _) (by omega)).isI (c := ((m.leaf.toNat % 2 ^ (1 + m.first.toNat % 3) : Nat) : Int)) (Int.natCast_emod _ _).symm) ?_
 refine D.evP 8 rfl (by kernel_rfl) rfl (fun _ => hs.to) (fun _ => E.fieldAddr0 66 rfl Tryz.underlying69 rfl Tryz.sz3 rfl) (D.act 9 rfl (by kernel_rfl) ?_)
 refine R.cstore1 (b := b5) hs rfl rfl Tryz.sz3 (by rw [encO_len]; decide) rfl ?_
 intro w59 hs
 rw [encO_leaf] at hs
 dsimp only at hs
 refine D.backT (by kernel_rfl) (D.done rfl (by kernel_rfl) (X.keep [(1, _), (2, _), (5, _)] ⟨rfl, rfl, rfl, trivial⟩ ?_))
 (have e : rkB m = ⟨idn (m.id.toNat % 16), ofP (pubk m.first.toNat), ((m.number.toNat % 3 : Nat) : Int), pubk m.first.toNat, ((m.leaf.toNat % 2 ^ (1 + m.first.toNat % 3) : Nat) : Int), pubk m.new.toNat⟩ := by
    have h38 : ((m.number.toNat % 3 : Nat) : Int) = 0 := h38
    have h38 : m.number.toNat % 3 = 0 := by omega
    simp only [rkB, rkN, rkP, rkH, if_pos h38]
  exact X.cut (()) ⟨rfl, rfl, rfl, trivial⟩ (by rw [e]; exact hs))
 refine C.skip ?_
 (have e : rkB m = ⟨idn (m.id.toNat % 16), ofP (pubk m.first.toNat), ((m.number.toNat % 3 : Nat) : Int), pubk m.pub.toNat, ((m.leaf.toNat % 2 ^ (1 + m.pub.toNat % 3) : Nat) : Int), pubk m.new.toNat⟩ := by
    have h38 : ¬ ((m.number.toNat % 3 : Nat) : Int) = 0 := h38
    have h38 : ¬ m.number.toNat % 3 = 0 := by omega
    simp only [rkB, rkN, rkP, rkH, if_neg h38]
  exact X.cut (()) ⟨rfl, rfl, rfl, trivial⟩ (by rw [e]; exact hs))
 rintro _ w6 hs
 refine X.keep [(1, _), (2, _), (5, _)] ⟨rfl, rfl, rfl, trivial⟩ (X.next (C.seq ?_))
 refine C.drawn (SatS hs) ([1], [0, 2, 3, 4]) (by kernel_rfl) ?_
 have hs := hs.drew
 refine D.evP 0 rfl (by kernel_rfl) rfl (fun _ => hs.to) (fun _ => E.fieldAddr0 48 rfl Tryz.underlying69 rfl Tryz.sz3 rfl) (D.evP 3 rfl (by kernel_rfl) rfl (fun _ => hs.to) (fun _ => E.assign rfl) (D.ev 1 rfl (by kernel_rfl) rfl hs.to (fun _ hS => E.load1 rfl Tryz.underlying3 rfl (by exact hS.ldc)) (D.evP 2 rfl (by kernel_rfl) rfl (fun _ => hs.to) (fun _ => E.add rfl rfl (by simp only [rkB, rkN]; omega) (by simp only [rkB, rkN]; omega)) (D.evP 4 rfl (by kernel_rfl) rfl (fun _ => hs.to) (fun _ => E.assign rfl) (D.done rfl (by kernel_rfl) (X.keep [(1, _), (2, _), (5, _), (6, _), (7, _)] ⟨rfl, rfl, rfl, rfl, rfl, trivial⟩ (X.next (C.seq ?_))))))))
 refine C.seq (C.region (R.ev rfl (E.fieldAddr0 6 rfl Tryz.underlying66 rfl Tryz.sz5 rfl) (R.ev rfl (E.load1 rfl Tryz.underlying5 rfl (by exact hs.ldc)) (R.done (X.keep [(1, _), (2, _), (5, _), (6, _), (7, _), (56, _)] ⟨rfl, rfl, rfl, rfl, rfl, rfl, trivial⟩ (X.next (C.block (C.seq ?_))))))))
 refine C.region (R.ev rfl (E.eql rfl rfl) (R.ev rfl (E.assign rfl) (R.done (X.keep [(1, _), (2, _), (5, _), (6, _), (7, _), (56, _), (57, _)] ⟨rfl, rfl, rfl, rfl, rfl, rfl, rfl, trivial⟩ (X.next ?_)))))
 refine C.cut [(1, _), (2, _), (5, _)] (fun (u : Int × Int) => [(6, .int .i64 u.1), (7, .int .i64 u.2)]) (fun u w' => u.1 = rkK m ∧ u.2 = rk0N m ∧ Sat K w' (row b5 69 (encO (rkR m)) :: row b2 69 (encO oz) :: row b1 66 (encMv m) :: Hs)) ⟨rfl, rfl, rfl, trivial⟩ ?_ ?_
 refine C.cdec rfl (fun h57 => ?_) (fun h57 => ?_)
 refine C.region (R.ev rfl (E.fieldAddr0 4 rfl Tryz.underlying66 rfl Tryz.sz5 rfl) (R.ev rfl (E.load1 rfl Tryz.underlying5 rfl (by exact hs.ldc)) ?_))
 refine R.ev rfl ((E.conv rfl Tryz.underlying5 Tryz.underlying3).isI (c := (m.leaf.toNat : Int)) (conv_u8 m.leaf)) ?_
 refine R.ev rfl ((E.rem rfl rfl (by omega) (by omega)).isI (c := ((m.leaf.toNat % 7 : Nat) : Int)) (by omega)) ?_
 refine R.ev rfl (E.assign rfl) (R.done (X.keep [(1, _), (2, _), (5, _), (6, _), (7, _)] ⟨rfl, rfl, rfl, rfl, rfl, trivial⟩ ?_))
 (have g : m.spoil = 0 := sp_is (k := 0) (by decide) h57
  exact X.cut ((_, _)) ⟨lkV rfl rfl, lkV rfl rfl, rfl, rfl, rfl, trivial⟩ ⟨by rw [rkK, if_pos g], by rw [rk0N, g]; rfl, by rw [show rkR m = rkB m from by simp [rkR, g]]; exact hs.to⟩)
 refine C.seq (C.region (R.ev rfl (E.eql rfl rfl) (R.ev rfl (E.assign rfl) (R.done (X.keep [(1, _), (2, _), (5, _), (6, _), (7, _), (56, _), (63, _)] ⟨rfl, rfl, rfl, rfl, rfl, rfl, rfl, trivial⟩ (X.next ?_))))))
 refine C.cdec rfl (fun h63 => ?_) (fun h63 => ?_)
 refine C.region ?_
 refine R.buildSlice1 (parts := [(0, _), (1, _), (2, _), (3, _)]) (vs := [_, _, _, _]) rfl rfl rfl Tryz.underlying119 Tryz.sz3 Tryz.zr3 rfl (by simp [Value.oneCell']) (by decide) ?_
 intro b65 w65 n65
 have hs := hs.new n65
 refine R.ev rfl (E.fieldAddr0 4 rfl Tryz.underlying66 rfl Tryz.sz5 rfl) (R.ev rfl (E.load1 rfl Tryz.underlying5 rfl (by exact hs.ldc)) ?_)
 refine R.ev rfl ((E.rem rfl rfl (by omega) (by omega)).isI (c := ((m.leaf.toNat % 4 : Nat) : Int)) (by omega)) ?_
 refine R.ev rfl (E.indexAddr1 (m.leaf.toNat % 4) rfl rfl Tryz.underlying119 Tryz.sz3 rfl (by omega)) ?_
 refine R.ev rfl (E.load1 rfl Tryz.underlying3 rfl (hs.ld (b := b65) (pick4_at _ _ _ _ m.leaf))) ?_
 refine R.ev rfl (E.fieldAddr0 48 rfl Tryz.underlying69 rfl Tryz.sz3 rfl) ?_
 refine R.cstore1 (b := b5) hs rfl rfl Tryz.sz3 (by rw [encO_len]; decide) rfl ?_
 intro w117 hs
 rw [encO_n] at hs
 refine R.done (X.keep [(1, _), (2, _), (5, _), (6, _), (7, _)] ⟨rfl, rfl, rfl, rfl, rfl, trivial⟩ ?_)
 (have g : m.spoil = 1 := sp_is (k := 1) (by decide) h63
  exact X.cut ((_, _)) ⟨lkV rfl rfl, lkV rfl rfl, rfl, rfl, rfl, trivial⟩ ⟨by rw [rkK, g]; rfl, by rw [rk0N, g]; rfl, by rw [show rkR m = { rkB m with n := pick4 [-1, 1000, 999, 1099511627776] m.leaf } from by simp [rkR, g]]; exact hs.to⟩)
 refine C.seq (C.region (R.ev rfl (E.eql rfl rfl) (R.ev rfl (E.assign rfl) (R.done (X.keep [(1, _), (2, _), (5, _), (6, _), (7, _), (56, _), (72, _)] ⟨rfl, rfl, rfl, rfl, rfl, rfl, rfl, trivial⟩ (X.next ?_))))))
 refine C.cdec rfl (fun h72 => ?_) (fun h72 => ?_)
 refine C.region (R.ev rfl (E.fieldAddr0 4 rfl Tryz.underlying66 rfl Tryz.sz5 rfl) (R.ev rfl (E.load1 rfl Tryz.underlying5 rfl (by exact hs.ldc)) ?_))
 refine R.ev rfl ((E.conv rfl Tryz.underlying5 Tryz.underlying3).isI (c := (m.leaf.toNat : Int)) (conv_u8 m.leaf)) ?_
 refine R.ev rfl ((E.rem rfl rfl (by omega) (by omega)).isI (c := ((m.leaf.toNat % 5 : Nat) : Int)) (by omega)) ?_
 refine R.ev rfl (E.assign rfl) (R.done (X.keep [(1, _), (2, _), (5, _), (6, _), (7, _)] ⟨rfl, rfl, rfl, rfl, rfl, trivial⟩ ?_))
 (have g : m.spoil = 2 := sp_is (k := 2) (by decide) h72
  exact X.cut ((_, _)) ⟨lkV rfl rfl, lkV rfl rfl, rfl, rfl, rfl, trivial⟩ ⟨by rw [rkK, g]; rfl, by rw [rk0N, g]; rfl, by rw [show rkR m = rkB m from by simp [rkR, g]]; exact hs.to⟩)
 refine C.seq (C.region (R.ev rfl (E.eql rfl rfl) (R.ev rfl (E.assign rfl) (R.done (X.keep [(1, _), (2, _), (5, _), (6, _), (7, _), (56, _), (78, _)] ⟨rfl, rfl, rfl, rfl, rfl, rfl, rfl, trivial⟩ (X.next ?_))))))
 refine C.cdec rfl (fun h78 => ?_) (fun h78 => ?_)
 refine C.region ?_
 refine R.buildSlice1 (parts := [(0, _), (1, _), (2, _), (3, _)]) (vs := [_, _, _, _]) rfl rfl rfl Tryz.underlying119 Tryz.sz3 Tryz.zr3 rfl (by simp [Value.oneCell']) (by decide) ?_
 intro b80 w80 n80
 have hs := hs.new n80
 refine R.ev rfl (E.fieldAddr0 4 rfl Tryz.underlying66 rfl Tryz.sz5 rfl) (R.ev rfl (E.load1 rfl Tryz.underlying5 rfl (by exact hs.ldc)) ?_)
 refine R.ev rfl ((E.rem rfl rfl (by omega) (by omega)).isI (c := ((m.leaf.toNat % 4 : Nat) : Int)) (by omega)) ?_
 refine R.ev rfl (E.indexAddr1 (m.leaf.toNat % 4) rfl rfl Tryz.underlying119 Tryz.sz3 rfl (by omega)) ?_
 refine R.ev rfl (E.load1 rfl Tryz.underlying3 rfl (hs.ld (b := b80) (pick4_at _ _ _ _ m.leaf))) ?_
 refine R.ev rfl (E.fieldAddr0 49 rfl Tryz.underlying69 rfl Tryz.sz31 rfl) (R.ev rfl (E.fieldAddrN 0 rfl Tryz.underlying31 rfl Tryz.sz3 rfl) ?_)
 refine R.cstore1 (b := b5) hs rfl rfl Tryz.sz3 (by rw [encO_len]; decide) rfl ?_
 intro w158 hs
 rw [encO_ph] at hs
 refine R.done (X.keep [(1, _), (2, _), (5, _), (6, _), (7, _)] ⟨rfl, rfl, rfl, rfl, rfl, trivial⟩ ?_)
 (have g : m.spoil = 3 := sp_is (k := 3) (by decide) h78
  exact X.cut ((_, _)) ⟨lkV rfl rfl, lkV rfl rfl, rfl, rfl, rfl, trivial⟩ ⟨by rw [rkK, g]; rfl, by rw [rk0N, g]; rfl, by rw [show rkR m = { rkB m with pu := ⟨pick4 [0, 9, -1, 8] m.leaf, (rkB m).pu.r⟩ } from by simp [rkR, g]]; exact hs.to⟩)
 refine C.seq (C.region (R.ev rfl (E.eql rfl rfl) (R.ev rfl (E.assign rfl) (R.done (X.keep [(1, _), (2, _), (5, _), (6, _), (7, _), (56, _), (88, _)] ⟨rfl, rfl, rfl, rfl, rfl, rfl, rfl, trivial⟩ (X.next ?_))))))
 refine C.cdec rfl (fun h88 => ?_) (fun h88 => ?_)
 refine C.region ?_
 refine R.buildSlice1 (parts := [(0, _), (1, _), (2, _), (3, _)]) (vs := [_, _, _, _]) rfl rfl rfl Tryz.underlying119 Tryz.sz3 Tryz.zr3 rfl (by simp [Value.oneCell']) (by decide) ?_
 intro b90 w90 n90
 have hs := hs.new n90
 refine R.ev rfl (E.fieldAddr0 4 rfl Tryz.underlying66 rfl Tryz.sz5 rfl) (R.ev rfl (E.load1 rfl Tryz.underlying5 rfl (by exact hs.ldc)) ?_)
 refine R.ev rfl ((E.rem rfl rfl (by omega) (by omega)).isI (c := ((m.leaf.toNat % 4 : Nat) : Int)) (by omega)) ?_
 refine R.ev rfl (E.indexAddr1 (m.leaf.toNat % 4) rfl rfl Tryz.underlying119 Tryz.sz3 rfl (by omega)) ?_
 refine R.ev rfl (E.load1 rfl Tryz.underlying3 rfl (hs.ld (b := b90) (pick4_at _ _ _ _ m.leaf))) ?_
 refine R.ev rfl (E.fieldAddr0 67 rfl Tryz.underlying69 rfl Tryz.sz31 rfl) (R.ev rfl (E.fieldAddrN 0 rfl Tryz.underlying31 rfl Tryz.sz3 rfl) ?_)
 refine R.cstore1 (b := b5) hs rfl rfl Tryz.sz3 (by rw [encO_len]; decide) rfl ?_
 intro w178 hs
 rw [encO_nh] at hs
 refine R.done (X.keep [(1, _), (2, _), (5, _), (6, _), (7, _)] ⟨rfl, rfl, rfl, rfl, rfl, trivial⟩ ?_)
 (have g : m.spoil = 4 := sp_is (k := 4) (by decide) h88
  exact X.cut ((_, _)) ⟨lkV rfl rfl, lkV rfl rfl, rfl, rfl, rfl, trivial⟩ ⟨by rw [rkK, g]; rfl, by rw [rk0N, g]; rfl, by rw [show rkR m = { rkB m with nw := ⟨pick4 [0, 9, -1, 8] m.leaf, (rkB m).nw.r⟩ } from by simp [rkR, g]]; exact hs.to⟩)
 refine C.seq (C.region (R.ev rfl (E.eql rfl rfl) (R.ev rfl (E.assign rfl) (R.done (X.keep [(1, _), (2, _), (5, _), (6, _), (7, _), (56, _), (98, _)] ⟨rfl, rfl, rfl, rfl, rfl, rfl, rfl, trivial⟩ (X.next ?_))))))
 refine C.cdec rfl (fun h98 => ?_) (fun h98 => ?_)
 refine C.region (R.ev rfl (E.fieldAddr0 49 rfl Tryz.underlying69 rfl Tryz.sz31 rfl) (R.ev rfl (E.loadRowC rfl Tryz.underlying31 rfl Tryz.sz31 (by exact hs.ldp)) (R.ev rfl (E.fieldAddr0 67 rfl Tryz.underlying69 rfl Tryz.sz31 rfl) ?_)))
 refine R.cstore (b := b5) hs rfl rfl Tryz.sz31 (encP_len _) (by rw [encO_len]; decide) (encP_one _) ?_
 intro w193 hs
 rw [encO_nw] at hs
 refine R.done (X.keep [(1, _), (2, _), (5, _), (6, _), (7, _)] ⟨rfl, rfl, rfl, rfl, rfl, trivial⟩ ?_)
 (have g : m.spoil = 5 := sp_is (k := 5) (by decide) h98
  exact X.cut ((_, _)) ⟨lkV rfl rfl, lkV rfl rfl, rfl, rfl, rfl, trivial⟩ ⟨by rw [rkK, g]; rfl, by rw [rk0N, g]; rfl, by rw [show rkR m = { rkB m with nw := (rkB m).pu } from by simp [rkR, g]]; exact hs.to⟩)
 refine C.seq (C.region (R.ev rfl (E.eql rfl rfl) (R.ev rfl (E.assign rfl) (R.done (X.keep [(1, _), (2, _), (5, _), (6, _), (7, _), (56, _), (103, _)] ⟨rfl, rfl, rfl, rfl, rfl, rfl, rfl, trivial⟩ (X.next ?_))))))
 refine C.cdec rfl (fun h103 => ?_) (fun h103 => ?_)
 refine C.region ?_
 refine R.buildSlice1 (parts := [(0, _), (1, _), (2, _), (3, _)]) (vs := [_, _, _, _]) rfl rfl rfl Tryz.underlying119 Tryz.sz3 Tryz.zr3 rfl (by simp [Value.oneCell']) (by decide) ?_
 intro b105 w105 n105
 have hs := hs.new n105
 refine R.ev rfl (E.fieldAddr0 4 rfl Tryz.underlying66 rfl Tryz.sz5 rfl) (R.ev rfl (E.load1 rfl Tryz.underlying5 rfl (by exact hs.ldc)) ?_)
 refine R.ev rfl ((E.rem rfl rfl (by omega) (by omega)).isI (c := ((m.leaf.toNat % 4 : Nat) : Int)) (by omega)) ?_
 refine R.ev rfl (E.indexAddr1 (m.leaf.toNat % 4) rfl rfl Tryz.underlying119 Tryz.sz3 rfl (by omega)) ?_
 refine R.ev rfl (E.load1 rfl Tryz.underlying3 rfl (hs.ld (b := b105) (pick4_at _ _ _ _ m.leaf))) ?_
 refine R.ev rfl (E.fieldAddr0 66 rfl Tryz.underlying69 rfl Tryz.sz3 rfl) ?_
 refine R.cstore1 (b := b5) hs rfl rfl Tryz.sz3 (by rw [encO_len]; decide) rfl ?_
 intro w217 hs
 rw [encO_leaf] at hs
 refine R.done (X.keep [(1, _), (2, _), (5, _), (6, _), (7, _)] ⟨rfl, rfl, rfl, rfl, rfl, trivial⟩ ?_)
 (have g : m.spoil = 6 := sp_is (k := 6) (by decide) h103
  exact X.cut ((_, _)) ⟨lkV rfl rfl, lkV rfl rfl, rfl, rfl, rfl, trivial⟩ ⟨by rw [rkK, g]; rfl, by rw [rk0N, g]; rfl, by rw [show rkR m = { rkB m with leaf := pick4 [-1, 8, 2, 4] m.leaf } from by simp [rkR, g]]; exact hs.to⟩)
 refine C.seq (C.region (R.ev rfl (E.eql rfl rfl) (R.ev rfl (E.assign rfl) (R.done (X.keep [(1, _), (2, _), (5, _), (6, _), (7, _), (112, _)] ⟨rfl, rfl, rfl, rfl, rfl, rfl, trivial⟩ (X.next ?_))))))
 refine C.cdec rfl (fun h112 => ?_) (fun h112 => ?_)
 refine C.region (R.ev rfl (E.fieldAddr0 32 rfl Tryz.underlying69 rfl Tryz.sz28 rfl) ?_)
 refine R.ev rfl (E.indexAddrA (i := 3) rfl rfl Tryz.underlying28 Tryz.sz5 rfl (by decide)) ?_
 refine R.ev rfl (E.load1 rfl Tryz.underlying5 rfl (hs.ld (b := b5) (encO_au3 (rkB m)))) ?_
 refine R.ev rfl ((E.xor rfl rfl).as (u := ub ((rkB m).au.1.getD 3 0 ^^^ 1)) (xor1_ub _)) ?_
 refine R.ev rfl (E.fieldAddr0 32 rfl Tryz.underlying69 rfl Tryz.sz28 rfl) ?_
 refine R.ev rfl (E.indexAddrA (i := 3) rfl rfl Tryz.underlying28 Tryz.sz5 rfl (by decide)) ?_
 refine R.cstore1 (b := b5) hs rfl rfl Tryz.sz5 (by rw [encO_len]; decide) rfl ?_
 intro w236 hs
 rw [show (32 + 3 * 1 : Nat) = 35 from rfl, encO_flip] at hs
 refine R.done (X.keep [(1, _), (2, _), (5, _), (6, _), (7, _)] ⟨rfl, rfl, rfl, rfl, rfl, trivial⟩ ?_)
 (have g : m.spoil = 7 := sp_is (k := 7) (by decide) h112
  exact X.cut ((_, _)) ⟨lkV rfl rfl, lkV rfl rfl, rfl, rfl, rfl, trivial⟩ ⟨by rw [rkK, g]; rfl, by rw [rk0N, g]; rfl, by rw [show rkR m = { rkB m with au := flip3 (rkB m).au } from by simp [rkR, g]]; exact hs.to⟩)
 refine C.skip ?_
 (have g0 : m.spoil ≠ 0 := sp_not (k := 0) (by decide) h57
  have g1 : m.spoil ≠ 1 := sp_not (k := 1) (by decide) h63
  have g2 : m.spoil ≠ 2 := sp_not (k := 2) (by decide) h72
  have g3 : m.spoil ≠ 3 := sp_not (k := 3) (by decide) h78
  have g4 : m.spoil ≠ 4 := sp_not (k := 4) (by decide) h88
  have g5 : m.spoil ≠ 5 := sp_not (k := 5) (by decide) h98
  have g6 : m.spoil ≠ 6 := sp_not (k := 6) (by decide) h103
  have g7 : m.spoil ≠ 7 := sp_not (k := 7) (by decide) h112
  exact X.cut ((_, _)) ⟨lkV rfl rfl, lkV rfl rfl, rfl, rfl, rfl, trivial⟩ ⟨by rw [rkK, if_neg g0], by rw [rk0N, if_neg g2], by rw [rkR, if_neg g1, if_neg g3, if_neg g4, if_neg g5, if_neg g6, if_neg g7]; exact hs.to⟩)
 rintro ⟨_, _⟩ w7 ⟨rfl, rfl, hs⟩
 refine X.keep [(1, _), (2, _), (5, _), (6, _), (7, _)] ⟨rfl, rfl, rfl, rfl, rfl, trivial⟩ (X.blockNormal (X.next (C.seq (C.seq (C.region (R.ev rfl (E.fieldAddr0 6 rfl Tryz.underlying66 rfl Tryz.sz5 rfl) (R.ev rfl (E.load1 rfl Tryz.underlying5 rfl (by exact hs.ldc)) (R.ev rfl (E.eql rfl rfl) ?_))))))))
 refine R.done (X.keep [(2, _), (5, _), (6, _), (7, _), (122, _)] ⟨rfl, rfl, rfl, rfl, rfl, trivial⟩ (X.next ?_))
 refine C.cdec rfl (fun h122 => ?_) (fun h122 => ?_)
 refine C.region ?_
 have g : m.spoil = 1 := sp_is (k := 1) (by decide) h122
 have hrn : -1 ≤ (rkR m).n ∧ (rkR m).n ≤ 1099511627776 := by
   rw [show rkR m = { rkB m with n := pick4 [-1, 1000, 999, 1099511627776] m.leaf } from by simp [rkR, g]]
   dsimp only
   rcases pick4_mem (a := -1) (b := 1000) (c := 999) (d := 1099511627776) (k := m.leaf) with e | e | e | e <;> rw [e] <;> decide
 refine R.ev rfl (E.fieldAddr0 48 rfl Tryz.underlying69 rfl Tryz.sz3 rfl) (R.ev rfl (E.load1 rfl Tryz.underlying3 rfl (by exact hs.ldc)) (R.ev rfl (E.add rfl rfl (by omega) (by omega)) (R.ev rfl (E.assign rfl) (R.done (X.keep [(2, _), (5, _), (6, _), (7, _)] ⟨rfl, rfl, rfl, rfl, trivial⟩ (X.next (C.seq (C.region ?_))))))))
 refine R.ev rfl (E.loadRowC rfl Tryz.underlying69 rfl Tryz.sz69 (by exact ⟨hs.ldA, by assumption⟩)) (R.ev rfl (E.move rfl) (R.ev rfl (E.move rfl) ?_))
 refine R.cstoreAll hs rfl rfl Tryz.sz69 (by rfl) (by assumption) (by exact Enc.one _) ?_
 intro w26_3 hs
 try simp only [List.set_cons_zero, List.set_cons_succ] at hs
 refine R.ev rfl (E.assign rfl) (R.ev rfl (E.assign rfl) (R.done (X.keep [(2, _), (3, _), (4, _)] ⟨rfl, rfl, rfl, trivial⟩ (X.next (C.ret ?_)))))
 refine X.resCTT rfl rfl Tryz.underlying69 rfl Tryz.sz69 (by exact ⟨hs.ldA, by assumption⟩) rfl rfl ?_
 (have g : m.spoil = 1 := sp_is (k := 1) (by decide) h122
  exact ⟨by rw [rkT, if_pos g], hs.to⟩)
 refine C.skip (X.next (C.seq (C.region (R.ev rfl (E.loadRowC rfl Tryz.underlying69 rfl Tryz.sz69 (by exact ⟨hs.ldA, by assumption⟩)) (R.ev rfl (E.move rfl) (R.ev rfl (E.move rfl) ?_))))))
 refine R.cstoreAll hs rfl rfl Tryz.sz69 (by rfl) (by assumption) (by exact Enc.one _) ?_
 intro w26_3 hs
 try simp only [List.set_cons_zero, List.set_cons_succ] at hs
 refine R.ev rfl (E.assign rfl) (R.ev rfl (E.assign rfl) (R.done (X.keep [(2, _), (3, _), (4, _)] ⟨rfl, rfl, rfl, trivial⟩ (X.next (C.ret ?_)))))
 refine X.resCTT rfl rfl Tryz.underlying69 rfl Tryz.sz69 (by exact ⟨hs.ldA, by assumption⟩) rfl rfl ?_
 (have g : m.spoil ≠ 1 := sp_not (k := 1) (by decide) h122
  exact ⟨by rw [rkT, if_neg g]; rfl, hs.to⟩)
 refine R.sallocA hs Tryz.zr69 rfl ?_
 intro b5 w5 hs
 refine D.back hs.to (D.act 14 rfl (by kernel_rfl) ?_)
 refine R.call ⟨_, _, Tryz.func7, rfl, by kernel_rfl⟩ rfl rfl (public_any m.pub hs) ?_
 rintro _ w114 ⟨rfl, hs⟩
 refine D.back hs.to (D.act 17 rfl (by kernel_rfl) ?_)
 refine R.call ⟨_, _, Tryz.func7, rfl, by kernel_rfl⟩ rfl rfl (public_any m.new hs) ?_
 rintro _ w117 ⟨rfl, hs⟩
 refine D.back hs.to ?_
 refine D.evP 18 rfl (by kernel_rfl) rfl (fun _ => hs.to) (fun _ => E.buildG (r := encO ⟨idn (m.id.toNat % 16), ofP (pubk m.first.toNat), ((m.number.toNat % 3 : Nat) : Int), pubk m.pub.toNat, 0, pubk m.new.toNat⟩) rfl Tryz.underlying69 Tryz.zr69 Tryz.ql69 (by kernel_rfl) (by kernel_rfl) ⟨⟨_, rfl, by rfl⟩, ⟨_, rfl, by rfl⟩, ⟨_, rfl, by rfl⟩, ⟨_, rfl, by rfl⟩, ⟨_, rfl, by rfl⟩, trivial⟩ (by rfl)) ?_
 refine D.act 20 rfl (by kernel_rfl) ?_
 refine R.cstoreAll hs rfl rfl Tryz.sz69 (by rfl) (by rfl) (by exact Enc.one _) ?_
 intro w1_20 hs
 try simp only [List.set_cons_zero, List.set_cons_succ] at hs
 refine D.backT (by kernel_rfl) (D.done rfl (by kernel_rfl) (X.keep [(1, _), (2, _), (5, _)] ⟨rfl, rfl, rfl, trivial⟩ (X.next (C.seq ?_))))
 refine C.drawn (SatS hs) ([1, 5], [0, 2, 3, 4, 6, 7, 8]) (by kernel_rfl) ?_
 have hs := hs.drew
 refine D.evP 0 rfl (by kernel_rfl) rfl (fun _ => hs.to) (fun _ => E.fieldAddr0 4 rfl Tryz.underlying66 rfl Tryz.sz5 rfl) (D.evP 3 rfl (by kernel_rfl) rfl (fun _ => hs.to) (fun _ => E.fieldAddr0 49 rfl Tryz.underlying69 rfl Tryz.sz31 rfl) (D.evP 4 rfl (by kernel_rfl) rfl (fun _ => hs.to) (fun _ => E.fieldAddrN 0 rfl Tryz.underlying31 rfl Tryz.sz3 rfl) (D.ev 1 rfl (by kernel_rfl) rfl hs.to (fun _ hS => E.load1 rfl Tryz.underlying5 rfl (by exact hS.ldc)) ?_)))
 refine D.evP 2 rfl (by kernel_rfl) rfl (fun _ => hs.to) (fun _ => (E.conv rfl Tryz.underlying5 Tryz.underlying3).isI (c := (m.leaf.toNat : Int)) (conv_u8 m.leaf)) ?_
 refine D.ev 5 rfl (by kernel_rfl) rfl hs.to (fun _ hS => E.load1 rfl Tryz.underlying3 rfl (hS.ldc (b := b5) (i := 49))) ?_
 refine D.evP 6 rfl (by kernel_rfl) rfl (fun _ => hs.to) (fun _ => (E.shl rfl rfl (by rw [h3]; omega)).isI (c := ((2 ^ (1 + m.pub.toNat % 3) : Nat) : Int)) (by rw [h3, Int.toNat_natCast]; exact shl1 _ (by omega))) ?_
 refine D.evP 7 rfl (by kernel_rfl) rfl (fun _ => hs.to) (fun _ => (E.rem rfl rfl (two_ne _) (by omega)).isI (c := ((m.leaf.toNat % 2 ^ (1 + m.pub.toNat % 3) : Nat) : Int)) (Int.natCast_emod _ _).symm) ?_
 refine D.evP 8 rfl (by kernel_rfl) rfl (fun _ => hs.to) (fun _ => E.fieldAddr0 66 rfl Tryz.underlying69 rfl Tryz.sz3 rfl) (D.act 9 rfl (by kernel_rfl) ?_)
 refine R.cstore1 (b := b5) hs rfl rfl Tryz.sz3 (by rw [encO_len]; decide) rfl ?_
 intro w29 hs
 rw [encO_leaf] at hs
 dsimp only at hs
 refine D.backT (by kernel_rfl) (D.done rfl (by kernel_rfl) (X.keep [(1, _), (2, _), (5, _)] ⟨rfl, rfl, rfl, trivial⟩ (X.next (C.seq (C.seq (C.region (R.ev rfl (E.fieldAddr0 48 rfl Tryz.underlying69 rfl Tryz.sz3 rfl) (R.ev rfl (E.load1 rfl Tryz.underlying3 rfl (by exact hs.ldc)) ?_))))))))
 refine R.ev rfl (E.eql rfl rfl) (R.done (X.keep [(1, _), (2, _), (5, _), (38, _)] ⟨rfl, rfl, rfl, rfl, trivial⟩ (X.next ?_)))
 refine C.cut [(1, _), (2, _), (5, _)] (fun (_ : Unit) => []) (fun _ w' => Sat K w' (row b5 69 (encO (rkB m)) :: row b2 69 (encO oz) :: row b1 66 (encMv m) :: Hs)) ⟨rfl, rfl, rfl, trivial⟩ ?_ ?_
 refine C.cdec rfl (fun h38 => ?_) (fun h38 => ?_)
 refine C.seq (C.region (R.ev rfl (E.fieldAddr0 0 rfl Tryz.underlying66 rfl Tryz.sz5 rfl) (R.ev rfl (E.load1 rfl Tryz.underlying5 rfl (by exact hs.ldc)) ?_)))
 refine R.call ⟨_, _, Tryz.func7, rfl, by kernel_rfl⟩ rfl rfl (public_any m.first hs) ?_
 rintro _ w42 ⟨rfl, hs⟩
 refine R.ev rfl (E.fieldAddr0 49 rfl Tryz.underlying69 rfl Tryz.sz31 rfl) ?_
 refine R.cstore (b := b5) hs rfl rfl Tryz.sz31 (encP_len _) (by rw [encO_len]; decide) (encP_one _) ?_
 intro w44 hs
 rw [encO_pu] at hs
 dsimp only at hs
 refine R.done (X.keep [(1, _), (2, _), (5, _)] ⟨rfl, rfl, rfl, trivial⟩ (X.next ?_))
 refine C.drawn (SatS hs) ([1, 5], [0, 2, 3, 4, 6, 7, 8]) (by kernel_rfl) ?_
 have hs := hs.drew
 refine D.evP 0 rfl (by kernel_rfl) rfl (fun _ => hs.to) (fun _ => E.fieldAddr0 4 rfl Tryz.underlying66 rfl Tryz.sz5 rfl) (D.evP 3 rfl (by kernel_rfl) rfl (fun _ => hs.to) (fun _ => E.fieldAddr0 49 rfl Tryz.underlying69 rfl Tryz.sz31 rfl) (D.evP 4 rfl (by kernel_rfl) rfl (fun _ => hs.to) (fun _ => E.fieldAddrN 0 rfl Tryz.underlying31 rfl Tryz.sz3 rfl) (D.ev 1 rfl (by kernel_rfl) rfl hs.to (fun _ hS => E.load1 rfl Tryz.underlying5 rfl (by exact hS.ldc)) ?_)))
 refine D.evP 2 rfl (by kernel_rfl) rfl (fun _ => hs.to) (fun _ => (E.conv rfl Tryz.underlying5 Tryz.underlying3).isI (c := (m.leaf.toNat : Int)) (conv_u8 m.leaf)) ?_
 refine D.ev 5 rfl (by kernel_rfl) rfl hs.to (fun _ hS => E.load1 rfl Tryz.underlying3 rfl (hS.ldc (b := b5) (i := 49))) ?_
 refine D.evP 6 rfl (by kernel_rfl) rfl (fun _ => hs.to) (fun _ => (E.shl rfl rfl (by rw [h3]; omega)).isI (c := ((2 ^ (1 + m.first.toNat % 3) : Nat) : Int)) (by rw [h3, Int.toNat_natCast]; exact shl1 _ (by omega))) ?_
 refine D.evP 7 rfl (by kernel_rfl) rfl (fun _ => hs.to) (fun _ => (E.rem rfl rfl (two_ne _) (by omega)).isI (c := ((m.leaf.toNat % 2 ^ (1 + m.first.toNat % 3) : Nat) : Int)) (Int.natCast_emod _ _).symm) ?_
 refine D.evP 8 rfl (by kernel_rfl) rfl (fun _ => hs.to) (fun _ => E.fieldAddr0 66 rfl Tryz.underlying69 rfl Tryz.sz3 rfl) (D.act 9 rfl (by kernel_rfl) ?_)
 refine R.cstore1 (b := b5) hs rfl rfl Tryz.sz3 (by rw [encO_len]; decide) rfl ?_
 intro w59 hs
 rw [encO_leaf] at hs
 dsimp only at hs
 refine D.backT (by kernel_rfl) (D.done rfl (by kernel_rfl) (X.keep [(1, _), (2, _), (5, _)] ⟨rfl, rfl, rfl, trivial⟩ ?_))
 (have e : rkB m = ⟨idn (m.id.toNat % 16), ofP (pubk m.first.toNat), ((m.number.toNat % 3 : Nat) : Int), pubk m.first.toNat, ((m.leaf.toNat % 2 ^ (1 + m.first.toNat % 3) : Nat) : Int), pubk m.new.toNat⟩ := by
    have h38 : ((m.number.toNat % 3 : Nat) : Int) = 0 := h38
    have h38 : m.number.toNat % 3 = 0 := by omega
    simp only [rkB, rkN, rkP, rkH, if_pos h38]
  exact X.cut (()) ⟨rfl, rfl, rfl, trivial⟩ (by rw [e]; exact hs))
 refine C.skip ?_
 (have e : rkB m = ⟨idn (m.id.toNat % 16), ofP (pubk m.first.toNat), ((m.number.toNat % 3 : Nat) : Int), pubk m.pub.toNat, ((m.leaf.toNat % 2 ^ (1 + m.pub.toNat % 3) : Nat) : Int), pubk m.new.toNat⟩ := by
    have h38 : ¬ ((m.number.toNat % 3 : Nat) : Int) = 0 := h38
    have h38 : ¬ m.number.toNat % 3 = 0 := by omega
    simp only [rkB, rkN, rkP, rkH, if_neg h38]
  exact X.cut (()) ⟨rfl, rfl, rfl, trivial⟩ (by rw [e]; exact hs))
 rintro _ w6 hs
 refine X.keep [(1, _), (2, _), (5, _)] ⟨rfl, rfl, rfl, trivial⟩ (X.next (C.seq ?_))
 refine C.drawn (SatS hs) ([1], [0, 2, 3, 4]) (by kernel_rfl) ?_
 have hs := hs.drew
 refine D.evP 0 rfl (by kernel_rfl) rfl (fun _ => hs.to) (fun _ => E.fieldAddr0 48 rfl Tryz.underlying69 rfl Tryz.sz3 rfl) (D.evP 3 rfl (by kernel_rfl) rfl (fun _ => hs.to) (fun _ => E.assign rfl) (D.ev 1 rfl (by kernel_rfl) rfl hs.to (fun _ hS => E.load1 rfl Tryz.underlying3 rfl (by exact hS.ldc)) (D.evP 2 rfl (by kernel_rfl) rfl (fun _ => hs.to) (fun _ => E.add rfl rfl (by simp only [rkB, rkN]; omega) (by simp only [rkB, rkN]; omega)) (D.evP 4 rfl (by kernel_rfl) rfl (fun _ => hs.to) (fun _ => E.assign rfl) (D.done rfl (by kernel_rfl) (X.keep [(1, _), (2, _), (5, _), (6, _), (7, _)] ⟨rfl, rfl, rfl, rfl, rfl, trivial⟩ (X.next (C.seq ?_))))))))
 refine C.seq (C.region (R.ev rfl (E.fieldAddr0 6 rfl Tryz.underlying66 rfl Tryz.sz5 rfl) (R.ev rfl (E.load1 rfl Tryz.underlying5 rfl (by exact hs.ldc)) (R.done (X.keep [(1, _), (2, _), (5, _), (6, _), (7, _), (56, _)] ⟨rfl, rfl, rfl, rfl, rfl, rfl, trivial⟩ (X.next (C.block (C.seq ?_))))))))
 refine C.region (R.ev rfl (E.eql rfl rfl) (R.ev rfl (E.assign rfl) (R.done (X.keep [(1, _), (2, _), (5, _), (6, _), (7, _), (56, _), (57, _)] ⟨rfl, rfl, rfl, rfl, rfl, rfl, rfl, trivial⟩ (X.next ?_)))))
 refine C.cut [(1, _), (2, _), (5, _)] (fun (u : Int × Int) => [(6, .int .i64 u.1), (7, .int .i64 u.2)]) (fun u w' => u.1 = rkK m ∧ u.2 = rk0N m ∧ Sat K w' (row b5 69 (encO (rkR m)) :: row b2 69 (encO oz) :: row b1 66 (encMv m) :: Hs)) ⟨rfl, rfl, rfl, trivial⟩ ?_ ?_
 refine C.cdec rfl (fun h57 => ?_) (fun h57 => ?_)
 refine C.region (R.ev rfl (E.fieldAddr0 4 rfl Tryz.underlying66 rfl Tryz.sz5 rfl) (R.ev rfl (E.load1 rfl Tryz.underlying5 rfl (by exact hs.ldc)) ?_))
 refine R.ev rfl ((E.conv rfl Tryz.underlying5 Tryz.underlying3).isI (c := (m.leaf.toNat : Int)) (conv_u8 m.leaf)) ?_
 refine R.ev rfl ((E.rem rfl rfl (by omega) (by omega)).isI (c := ((m.leaf.toNat % 7 : Nat) : Int)) (by omega)) ?_
 refine R.ev rfl (E.assign rfl) (R.done (X.keep [(1, _), (2, _), (5, _), (6, _), (7, _)] ⟨rfl, rfl, rfl, rfl, rfl, trivial⟩ ?_))
 (have g : m.spoil = 0 := sp_is (k := 0) (by decide) h57
  exact X.cut ((_, _)) ⟨lkV rfl rfl, lkV rfl rfl, rfl, rfl, rfl, trivial⟩ ⟨by rw [rkK, if_pos g], by rw [rk0N, g]; rfl, by rw [show rkR m = rkB m from by simp [rkR, g]]; exact hs.to⟩)
 refine C.seq (C.region (R.ev rfl (E.eql rfl rfl) (R.ev rfl (E.assign rfl) (R.done (X.keep [(1, _), (2, _), (5, _), (6, _), (7, _), (56, _), (63, _)] ⟨rfl, rfl, rfl, rfl, rfl, rfl, rfl, trivial⟩ (X.next ?_))))))
 refine C.cdec rfl (fun h63 => ?_) (fun h63 => ?_)
 refine C.region ?_
 refine R.buildSlice1 (parts := [(0, _), (1, _), (2, _), (3, _)]) (vs := [_, _, _, _]) rfl rfl rfl Tryz.underlying119 Tryz.sz3 Tryz.zr3 rfl (by simp [Value.oneCell']) (by decide) ?_
 intro b65 w65 n65
 have hs := hs.new n65
 refine R.ev rfl (E.fieldAddr0 4 rfl Tryz.underlying66 rfl Tryz.sz5 rfl) (R.ev rfl (E.load1 rfl Tryz.underlying5 rfl (by exact hs.ldc)) ?_)
 refine R.ev rfl ((E.rem rfl rfl (by omega) (by omega)).isI (c := ((m.leaf.toNat % 4 : Nat) : Int)) (by omega)) ?_
 refine R.ev rfl (E.indexAddr1 (m.leaf.toNat % 4) rfl rfl Tryz.underlying119 Tryz.sz3 rfl (by omega)) ?_
 refine R.ev rfl (E.load1 rfl Tryz.underlying3 rfl (hs.ld (b := b65) (pick4_at _ _ _ _ m.leaf))) ?_
 refine R.ev rfl (E.fieldAddr0 48 rfl Tryz.underlying69 rfl Tryz.sz3 rfl) ?_
 refine R.cstore1 (b := b5) hs rfl rfl Tryz.sz3 (by rw [encO_len]; decide) rfl ?_
 intro w117 hs
 rw [encO_n] at hs
 refine R.done (X.keep [(1, _), (2, _), (5, _), (6, _), (7, _)] ⟨rfl, rfl, rfl, rfl, rfl, trivial⟩ ?_)
 (have g : m.spoil = 1 := sp_is (k := 1) (by decide) h63
  exact X.cut ((_, _)) ⟨lkV rfl rfl, lkV rfl rfl, rfl, rfl, rfl, trivial⟩ ⟨by rw [rkK, g]; rfl, by rw [rk0N, g]; rfl, by rw [show rkR m = { rkB m with n := pick4 [-1, 1000, 999, 1099511627776] m.leaf } from by simp [rkR, g]]; exact hs.to⟩)
 refine C.seq (C.region (R.ev rfl (E.eql rfl rfl) (R.ev rfl (E.assign rfl) (R.done (X.keep [(1, _), (2, _), (5, _), (6, _), (7, _), (56, _), (72, _)] ⟨rfl, rfl, rfl, rfl, rfl, rfl, rfl, trivial⟩ (X.next ?_))))))
 refine C.cdec rfl (fun h72 => ?_) (fun h72 => ?_)
 refine C.region (R.ev rfl (E.fieldAddr0 4 rfl Tryz.underlying66 rfl Tryz.sz5 rfl) (R.ev rfl (E.load1 rfl Tryz.underlying5 rfl (by exact hs.ldc)) ?_))
 refine R.ev rfl ((E.conv rfl Tryz.underlying5 Tryz.underlying3).isI (c := (m.leaf.toNat : Int)) (conv_u8 m.leaf)) ?_
 refine R.ev rfl ((E.rem rfl rfl (by omega) (by omega)).isI (c := ((m.leaf.toNat % 5 : Nat) : Int)) (by omega)) ?_
 refine R.ev rfl (E.assign rfl) (R.done (X.keep [(1, _), (2, _), (5, _), (6, _), (7, _)] ⟨rfl, rfl, rfl, rfl, rfl, trivial⟩ ?_))
 (have g : m.spoil = 2 := sp_is (k := 2) (by decide) h72
  exact X.cut ((_, _)) ⟨lkV rfl rfl, lkV rfl rfl, rfl, rfl, rfl, trivial⟩ ⟨by rw [rkK, g]; rfl, by rw [rk0N, g]; rfl, by rw [show rkR m = rkB m from by simp [rkR, g]]; exact hs.to⟩)
 refine C.seq (C.region (R.ev rfl (E.eql rfl rfl) (R.ev rfl (E.assign rfl) (R.done (X.keep [(1, _), (2, _), (5, _), (6, _), (7, _), (56, _), (78, _)] ⟨rfl, rfl, rfl, rfl, rfl, rfl, rfl, trivial⟩ (X.next ?_))))))
 refine C.cdec rfl (fun h78 => ?_) (fun h78 => ?_)
 refine C.region ?_
 refine R.buildSlice1 (parts := [(0, _), (1, _), (2, _), (3, _)]) (vs := [_, _, _, _]) rfl rfl rfl Tryz.underlying119 Tryz.sz3 Tryz.zr3 rfl (by simp [Value.oneCell']) (by decide) ?_
 intro b80 w80 n80
 have hs := hs.new n80
 refine R.ev rfl (E.fieldAddr0 4 rfl Tryz.underlying66 rfl Tryz.sz5 rfl) (R.ev rfl (E.load1 rfl Tryz.underlying5 rfl (by exact hs.ldc)) ?_)
 refine R.ev rfl ((E.rem rfl rfl (by omega) (by omega)).isI (c := ((m.leaf.toNat % 4 : Nat) : Int)) (by omega)) ?_
 refine R.ev rfl (E.indexAddr1 (m.leaf.toNat % 4) rfl rfl Tryz.underlying119 Tryz.sz3 rfl (by omega)) ?_
 refine R.ev rfl (E.load1 rfl Tryz.underlying3 rfl (hs.ld (b := b80) (pick4_at _ _ _ _ m.leaf))) ?_
 refine R.ev rfl (E.fieldAddr0 49 rfl Tryz.underlying69 rfl Tryz.sz31 rfl) (R.ev rfl (E.fieldAddrN 0 rfl Tryz.underlying31 rfl Tryz.sz3 rfl) ?_)
 refine R.cstore1 (b := b5) hs rfl rfl Tryz.sz3 (by rw [encO_len]; decide) rfl ?_
 intro w158 hs
 rw [encO_ph] at hs
 refine R.done (X.keep [(1, _), (2, _), (5, _), (6, _), (7, _)] ⟨rfl, rfl, rfl, rfl, rfl, trivial⟩ ?_)
 (have g : m.spoil = 3 := sp_is (k := 3) (by decide) h78
  exact X.cut ((_, _)) ⟨lkV rfl rfl, lkV rfl rfl, rfl, rfl, rfl, trivial⟩ ⟨by rw [rkK, g]; rfl, by rw [rk0N, g]; rfl, by rw [show rkR m = { rkB m with pu := ⟨pick4 [0, 9, -1, 8] m.leaf, (rkB m).pu.r⟩ } from by simp [rkR, g]]; exact hs.to⟩)
 refine C.seq (C.region (R.ev rfl (E.eql rfl rfl) (R.ev rfl (E.assign rfl) (R.done (X.keep [(1, _), (2, _), (5, _), (6, _), (7, _), (56, _), (88, _)] ⟨rfl, rfl, rfl, rfl, rfl, rfl, rfl, trivial⟩ (X.next ?_))))))
 refine C.cdec rfl (fun h88 => ?_) (fun h88 => ?_)
 refine C.region ?_
 refine R.buildSlice1 (parts := [(0, _), (1, _), (2, _), (3, _)]) (vs := [_, _, _, _]) rfl rfl rfl Tryz.underlying119 Tryz.sz3 Tryz.zr3 rfl (by simp [Value.oneCell']) (by decide) ?_
 intro b90 w90 n90
 have hs := hs.new n90
 refine R.ev rfl (E.fieldAddr0 4 rfl Tryz.underlying66 rfl Tryz.sz5 rfl) (R.ev rfl (E.load1 rfl Tryz.underlying5 rfl (by exact hs.ldc)) ?_)
 refine R.ev rfl ((E.rem rfl rfl (by omega) (by omega)).isI (c := ((m.leaf.toNat % 4 : Nat) : Int)) (by omega)) ?_
 refine R.ev rfl (E.indexAddr1 (m.leaf.toNat % 4) rfl rfl Tryz.underlying119 Tryz.sz3 rfl (by omega)) ?_
 refine R.ev rfl (E.load1 rfl Tryz.underlying3 rfl (hs.ld (b := b90) (pick4_at _ _ _ _ m.leaf))) ?_
 refine R.ev rfl (E.fieldAddr0 67 rfl Tryz.underlying69 rfl Tryz.sz31 rfl) (R.ev rfl (E.fieldAddrN 0 rfl Tryz.underlying31 rfl Tryz.sz3 rfl) ?_)
 refine R.cstore1 (b := b5) hs rfl rfl Tryz.sz3 (by rw [encO_len]; decide) rfl ?_
 intro w178 hs
 rw [encO_nh] at hs
 refine R.done (X.keep [(1, _), (2, _), (5, _), (6, _), (7, _)] ⟨rfl, rfl, rfl, rfl, rfl, trivial⟩ ?_)
 (have g : m.spoil = 4 := sp_is (k := 4) (by decide) h88
  exact X.cut ((_, _)) ⟨lkV rfl rfl, lkV rfl rfl, rfl, rfl, rfl, trivial⟩ ⟨by rw [rkK, g]; rfl, by rw [rk0N, g]; rfl, by rw [show rkR m = { rkB m with nw := ⟨pick4 [0, 9, -1, 8] m.leaf, (rkB m).nw.r⟩ } from by simp [rkR, g]]; exact hs.to⟩)
 refine C.seq (C.region (R.ev rfl (E.eql rfl rfl) (R.ev rfl (E.assign rfl) (R.done (X.keep [(1, _), (2, _), (5, _), (6, _), (7, _), (56, _), (98, _)] ⟨rfl, rfl, rfl, rfl, rfl, rfl, rfl, trivial⟩ (X.next ?_))))))
 refine C.cdec rfl (fun h98 => ?_) (fun h98 => ?_)
 refine C.region (R.ev rfl (E.fieldAddr0 49 rfl Tryz.underlying69 rfl Tryz.sz31 rfl) (R.ev rfl (E.loadRowC rfl Tryz.underlying31 rfl Tryz.sz31 (by exact hs.ldp)) (R.ev rfl (E.fieldAddr0 67 rfl Tryz.underlying69 rfl Tryz.sz31 rfl) ?_)))
 refine R.cstore (b := b5) hs rfl rfl Tryz.sz31 (encP_len _) (by rw [encO_len]; decide) (encP_one _) ?_
 intro w193 hs
 rw [encO_nw] at hs
 refine R.done (X.keep [(1, _), (2, _), (5, _), (6, _), (7, _)] ⟨rfl, rfl, rfl, rfl, rfl, trivial⟩ ?_)
 (have g : m.spoil = 5 := sp_is (k := 5) (by decide) h98
  exact X.cut ((_, _)) ⟨lkV rfl rfl, lkV rfl rfl, rfl, rfl, rfl, trivial⟩ ⟨by rw [rkK, g]; rfl, by rw [rk0N, g]; rfl, by rw [show rkR m = { rkB m with nw := (rkB m).pu } from by simp [rkR, g]]; exact hs.to⟩)
 refine C.seq (C.region (R.ev rfl (E.eql rfl rfl) (R.ev rfl (E.assign rfl) (R.done (X.keep [(1, _), (2, _), (5, _), (6, _), (7, _), (56, _), (103, _)] ⟨rfl, rfl, rfl, rfl, rfl, rfl, rfl, trivial⟩ (X.next ?_))))))
 refine C.cdec rfl (fun h103 => ?_) (fun h103 => ?_)
 refine C.region ?_
 refine R.buildSlice1 (parts := [(0, _), (1, _), (2, _), (3, _)]) (vs := [_, _, _, _]) rfl rfl rfl Tryz.underlying119 Tryz.sz3 Tryz.zr3 rfl (by simp [Value.oneCell']) (by decide) ?_
 intro b105 w105 n105
 have hs := hs.new n105
 refine R.ev rfl (E.fieldAddr0 4 rfl Tryz.underlying66 rfl Tryz.sz5 rfl) (R.ev rfl (E.load1 rfl Tryz.underlying5 rfl (by exact hs.ldc)) ?_)
 refine R.ev rfl ((E.rem rfl rfl (by omega) (by omega)).isI (c := ((m.leaf.toNat % 4 : Nat) : Int)) (by omega)) ?_
 refine R.ev rfl (E.indexAddr1 (m.leaf.toNat % 4) rfl rfl Tryz.underlying119 Tryz.sz3 rfl (by omega)) ?_
 refine R.ev rfl (E.load1 rfl Tryz.underlying3 rfl (hs.ld (b := b105) (pick4_at _ _ _ _ m.leaf))) ?_
 refine R.ev rfl (E.fieldAddr0 66 rfl Tryz.underlying69 rfl Tryz.sz3 rfl) ?_
 refine R.cstore1 (b := b5) hs rfl rfl Tryz.sz3 (by rw [encO_len]; decide) rfl ?_
 intro w217 hs
 rw [encO_leaf] at hs
 refine R.done (X.keep [(1, _), (2, _), (5, _), (6, _), (7, _)] ⟨rfl, rfl, rfl, rfl, rfl, trivial⟩ ?_)
 (have g : m.spoil = 6 := sp_is (k := 6) (by decide) h103
  exact X.cut ((_, _)) ⟨lkV rfl rfl, lkV rfl rfl, rfl, rfl, rfl, trivial⟩ ⟨by rw [rkK, g]; rfl, by rw [rk0N, g]; rfl, by rw [show rkR m = { rkB m with leaf := pick4 [-1, 8, 2, 4] m.leaf } from by simp [rkR, g]]; exact hs.to⟩)
 refine C.seq (C.region (R.ev rfl (E.eql rfl rfl) (R.ev rfl (E.assign rfl) (R.done (X.keep [(1, _), (2, _), (5, _), (6, _), (7, _), (112, _)] ⟨rfl, rfl, rfl, rfl, rfl, rfl, trivial⟩ (X.next ?_))))))
 refine C.cdec rfl (fun h112 => ?_) (fun h112 => ?_)
 refine C.region (R.ev rfl (E.fieldAddr0 32 rfl Tryz.underlying69 rfl Tryz.sz28 rfl) ?_)
 refine R.ev rfl (E.indexAddrA (i := 3) rfl rfl Tryz.underlying28 Tryz.sz5 rfl (by decide)) ?_
 refine R.ev rfl (E.load1 rfl Tryz.underlying5 rfl (hs.ld (b := b5) (encO_au3 (rkB m)))) ?_
 refine R.ev rfl ((E.xor rfl rfl).as (u := ub ((rkB m).au.1.getD 3 0 ^^^ 1)) (xor1_ub _)) ?_
 refine R.ev rfl (E.fieldAddr0 32 rfl Tryz.underlying69 rfl Tryz.sz28 rfl) ?_
 refine R.ev rfl (E.indexAddrA (i := 3) rfl rfl Tryz.underlying28 Tryz.sz5 rfl (by decide)) ?_
 refine R.cstore1 (b := b5) hs rfl rfl Tryz.sz5 (by rw [encO_len]; decide) rfl ?_
 intro w236 hs
 rw [show (32 + 3 * 1 : Nat) = 35 from rfl, encO_flip] at hs
 refine R.done (X.keep [(1, _), (2, _), (5, _), (6, _), (7, _)] ⟨rfl, rfl, rfl, rfl, rfl, trivial⟩ ?_)
 (have g : m.spoil = 7 := sp_is (k := 7) (by decide) h112
  exact X.cut ((_, _)) ⟨lkV rfl rfl, lkV rfl rfl, rfl, rfl, rfl, trivial⟩ ⟨by rw [rkK, g]; rfl, by rw [rk0N, g]; rfl, by rw [show rkR m = { rkB m with au := flip3 (rkB m).au } from by simp [rkR, g]]; exact hs.to⟩)
 refine C.skip ?_
 (have g0 : m.spoil ≠ 0 := sp_not (k := 0) (by decide) h57
  have g1 : m.spoil ≠ 1 := sp_not (k := 1) (by decide) h63
  have g2 : m.spoil ≠ 2 := sp_not (k := 2) (by decide) h72
  have g3 : m.spoil ≠ 3 := sp_not (k := 3) (by decide) h78
  have g4 : m.spoil ≠ 4 := sp_not (k := 4) (by decide) h88
  have g5 : m.spoil ≠ 5 := sp_not (k := 5) (by decide) h98
  have g6 : m.spoil ≠ 6 := sp_not (k := 6) (by decide) h103
  have g7 : m.spoil ≠ 7 := sp_not (k := 7) (by decide) h112
  exact X.cut ((_, _)) ⟨lkV rfl rfl, lkV rfl rfl, rfl, rfl, rfl, trivial⟩ ⟨by rw [rkK, if_neg g0], by rw [rk0N, if_neg g2], by rw [rkR, if_neg g1, if_neg g3, if_neg g4, if_neg g5, if_neg g6, if_neg g7]; exact hs.to⟩)
 rintro ⟨_, _⟩ w7 ⟨rfl, rfl, hs⟩
 refine X.keep [(1, _), (2, _), (5, _), (6, _), (7, _)] ⟨rfl, rfl, rfl, rfl, rfl, trivial⟩ (X.blockNormal (X.next (C.seq (C.seq (C.region (R.ev rfl (E.fieldAddr0 6 rfl Tryz.underlying66 rfl Tryz.sz5 rfl) (R.ev rfl (E.load1 rfl Tryz.underlying5 rfl (by exact hs.ldc)) (R.ev rfl (E.eql rfl rfl) ?_))))))))
 refine R.done (X.keep [(2, _), (5, _), (6, _), (7, _), (122, _)] ⟨rfl, rfl, rfl, rfl, rfl, trivial⟩ (X.next ?_))
 refine C.cdec rfl (fun h122 => ?_) (fun h122 => ?_)
 refine C.region ?_
 have g : m.spoil = 1 := sp_is (k := 1) (by decide) h122
 have hrn : -1 ≤ (rkR m).n ∧ (rkR m).n ≤ 1099511627776 := by
   rw [show rkR m = { rkB m with n := pick4 [-1, 1000, 999, 1099511627776] m.leaf } from by simp [rkR, g]]
   dsimp only
   rcases pick4_mem (a := -1) (b := 1000) (c := 999) (d := 1099511627776) (k := m.leaf) with e | e | e | e <;> rw [e] <;> decide
 refine R.ev rfl (E.fieldAddr0 48 rfl Tryz.underlying69 rfl Tryz.sz3 rfl) (R.ev rfl (E.load1 rfl Tryz.underlying3 rfl (by exact hs.ldc)) (R.ev rfl (E.add rfl rfl (by omega) (by omega)) (R.ev rfl (E.assign rfl) (R.done (X.keep [(2, _), (5, _), (6, _), (7, _)] ⟨rfl, rfl, rfl, rfl, trivial⟩ (X.next (C.seq (C.region ?_))))))))
 refine R.ev rfl (E.loadRowC rfl Tryz.underlying69 rfl Tryz.sz69 (by exact ⟨hs.ldA, by assumption⟩)) (R.ev rfl (E.move rfl) (R.ev rfl (E.move rfl) ?_))
 refine R.cstoreAll hs rfl rfl Tryz.sz69 (by rfl) (by assumption) (by exact Enc.one _) ?_
 intro w26_3 hs
 try simp only [List.set_cons_zero, List.set_cons_succ] at hs
 refine R.ev rfl (E.assign rfl) (R.ev rfl (E.assign rfl) (R.done (X.keep [(2, _), (3, _), (4, _)] ⟨rfl, rfl, rfl, trivial⟩ (X.next (C.ret ?_)))))
 refine X.resCTT rfl rfl Tryz.underlying69 rfl Tryz.sz69 (by exact ⟨hs.ldA, by assumption⟩) rfl rfl ?_
 (have g : m.spoil = 1 := sp_is (k := 1) (by decide) h122
  exact ⟨by rw [rkT, if_pos g], hs.to⟩)
 refine C.skip (X.next (C.seq (C.region (R.ev rfl (E.loadRowC rfl Tryz.underlying69 rfl Tryz.sz69 (by exact ⟨hs.ldA, by assumption⟩)) (R.ev rfl (E.move rfl) (R.ev rfl (E.move rfl) ?_))))))
 refine R.cstoreAll hs rfl rfl Tryz.sz69 (by rfl) (by assumption) (by exact Enc.one _) ?_
 intro w26_3 hs
 try simp only [List.set_cons_zero, List.set_cons_succ] at hs
 refine R.ev rfl (E.assign rfl) (R.ev rfl (E.assign rfl) (R.done (X.keep [(2, _), (3, _), (4, _)] ⟨rfl, rfl, rfl, trivial⟩ (X.next (C.ret ?_)))))
 refine X.resCTT rfl rfl Tryz.underlying69 rfl Tryz.sz69 (by exact ⟨hs.ldA, by assumption⟩) rfl rfl ?_
 (have g : m.spoil ≠ 1 := sp_not (k := 1) (by decide) h122
  exact ⟨by rw [rkT, if_neg g]; rfl, hs.to⟩)
 refine R.sallocA hs Tryz.zr69 rfl ?_
 intro b5 w5 hs
 refine D.back hs.to (D.act 7 rfl (by kernel_rfl) ?_)
 refine R.call ⟨_, _, Tryz.func6, rfl, by kernel_rfl⟩ rfl rfl (rOf_any _ hs) ?_
 rintro _ w17 ⟨rfl, hs⟩
 refine D.back hs.to (D.act 14 rfl (by kernel_rfl) ?_)
 refine R.call ⟨_, _, Tryz.func7, rfl, by kernel_rfl⟩ rfl rfl (public_any m.pub hs) ?_
 rintro _ w114 ⟨rfl, hs⟩
 refine D.back hs.to (D.act 17 rfl (by kernel_rfl) ?_)
 refine R.call ⟨_, _, Tryz.func7, rfl, by kernel_rfl⟩ rfl rfl (public_any m.new hs) ?_
 rintro _ w117 ⟨rfl, hs⟩
 refine D.back hs.to ?_
 refine D.evP 18 rfl (by kernel_rfl) rfl (fun _ => hs.to) (fun _ => E.buildG (r := encO ⟨idn (m.id.toNat % 16), ofP (pubk m.first.toNat), ((m.number.toNat % 3 : Nat) : Int), pubk m.pub.toNat, 0, pubk m.new.toNat⟩) rfl Tryz.underlying69 Tryz.zr69 Tryz.ql69 (by kernel_rfl) (by kernel_rfl) ⟨⟨_, rfl, by rfl⟩, ⟨_, rfl, by rfl⟩, ⟨_, rfl, by rfl⟩, ⟨_, rfl, by rfl⟩, ⟨_, rfl, by rfl⟩, trivial⟩ (by rfl)) ?_
 refine D.act 20 rfl (by kernel_rfl) ?_
 refine R.cstoreAll hs rfl rfl Tryz.sz69 (by rfl) (by rfl) (by exact Enc.one _) ?_
 intro w1_20 hs
 try simp only [List.set_cons_zero, List.set_cons_succ] at hs
 refine D.backT (by kernel_rfl) (D.done rfl (by kernel_rfl) (X.keep [(1, _), (2, _), (5, _)] ⟨rfl, rfl, rfl, trivial⟩ (X.next (C.seq ?_))))
 refine C.drawn (SatS hs) ([1, 5], [0, 2, 3, 4, 6, 7, 8]) (by kernel_rfl) ?_
 have hs := hs.drew
 refine D.evP 0 rfl (by kernel_rfl) rfl (fun _ => hs.to) (fun _ => E.fieldAddr0 4 rfl Tryz.underlying66 rfl Tryz.sz5 rfl) (D.evP 3 rfl (by kernel_rfl) rfl (fun _ => hs.to) (fun _ => E.fieldAddr0 49 rfl Tryz.underlying69 rfl Tryz.sz31 rfl) (D.evP 4 rfl (by kernel_rfl) rfl (fun _ => hs.to) (fun _ => E.fieldAddrN 0 rfl Tryz.underlying31 rfl Tryz.sz3 rfl) (D.ev 1 rfl (by kernel_rfl) rfl hs.to (fun _ hS => E.load1 rfl Tryz.underlying5 rfl (by exact hS.ldc)) ?_)))
 refine D.evP 2 rfl (by kernel_rfl) rfl (fun _ => hs.to) (fun _ => (E.conv rfl Tryz.underlying5 Tryz.underlying3).isI (c := (m.leaf.toNat : Int)) (conv_u8 m.leaf)) ?_
 refine D.ev 5 rfl (by kernel_rfl) rfl hs.to (fun _ hS => E.load1 rfl Tryz.underlying3 rfl (hS.ldc (b := b5) (i := 49))) ?_
 refine D.evP 6 rfl (by kernel_rfl) rfl (fun _ => hs.to) (fun _ => (E.shl rfl rfl (by rw [h3]; omega)).isI (c := ((2 ^ (1 + m.pub.toNat % 3) : Nat) : Int)) (by rw [h3, Int.toNat_natCast]; exact shl1 _ (by omega))) ?_
 refine D.evP 7 rfl (by kernel_rfl) rfl (fun _ => hs.to) (fun _ => (E.rem rfl rfl (two_ne _) (by omega)).isI (c := ((m.leaf.toNat % 2 ^ (1 + m.pub.toNat % 3) : Nat) : Int)) (Int.natCast_emod _ _).symm) ?_
 refine D.evP 8 rfl (by kernel_rfl) rfl (fun _ => hs.to) (fun _ => E.fieldAddr0 66 rfl Tryz.underlying69 rfl Tryz.sz3 rfl) (D.act 9 rfl (by kernel_rfl) ?_)
 refine R.cstore1 (b := b5) hs rfl rfl Tryz.sz3 (by rw [encO_len]; decide) rfl ?_
 intro w29 hs
 rw [encO_leaf] at hs
 dsimp only at hs
 refine D.backT (by kernel_rfl) (D.done rfl (by kernel_rfl) (X.keep [(1, _), (2, _), (5, _)] ⟨rfl, rfl, rfl, trivial⟩ (X.next (C.seq (C.seq (C.region (R.ev rfl (E.fieldAddr0 48 rfl Tryz.underlying69 rfl Tryz.sz3 rfl) (R.ev rfl (E.load1 rfl Tryz.underlying3 rfl (by exact hs.ldc)) ?_))))))))
 refine R.ev rfl (E.eql rfl rfl) (R.done (X.keep [(1, _), (2, _), (5, _), (38, _)] ⟨rfl, rfl, rfl, rfl, trivial⟩ (X.next ?_)))
 refine C.cut [(1, _), (2, _), (5, _)] (fun (_ : Unit) => []) (fun _ w' => Sat K w' (row b5 69 (encO (rkB m)) :: row b2 69 (encO oz) :: row b1 66 (encMv m) :: Hs)) ⟨rfl, rfl, rfl, trivial⟩ ?_ ?_
 refine C.cdec rfl (fun h38 => ?_) (fun h38 => ?_)
 refine C.seq (C.region (R.ev rfl (E.fieldAddr0 0 rfl Tryz.underlying66 rfl Tryz.sz5 rfl) (R.ev rfl (E.load1 rfl Tryz.underlying5 rfl (by exact hs.ldc)) ?_)))
 refine R.call ⟨_, _, Tryz.func7, rfl, by kernel_rfl⟩ rfl rfl (public_any m.first hs) ?_
 rintro _ w42 ⟨rfl, hs⟩
 refine R.ev rfl (E.fieldAddr0 49 rfl Tryz.underlying69 rfl Tryz.sz31 rfl) ?_
 refine R.cstore (b := b5) hs rfl rfl Tryz.sz31 (encP_len _) (by rw [encO_len]; decide) (encP_one _) ?_
 intro w44 hs
 rw [encO_pu] at hs
 dsimp only at hs
 refine R.done (X.keep [(1, _), (2, _), (5, _)] ⟨rfl, rfl, rfl, trivial⟩ (X.next ?_))
 refine C.drawn (SatS hs) ([1, 5], [0, 2, 3, 4, 6, 7, 8]) (by kernel_rfl) ?_
 have hs := hs.drew
 refine D.evP 0 rfl (by kernel_rfl) rfl (fun _ => hs.to) (fun _ => E.fieldAddr0 4 rfl Tryz.underlying66 rfl Tryz.sz5 rfl) (D.evP 3 rfl (by kernel_rfl) rfl (fun _ => hs.to) (fun _ => E.fieldAddr0 49 rfl Tryz.underlying69 rfl Tryz.sz31 rfl) (D.evP 4 rfl (by kernel_rfl) rfl (fun _ => hs.to) (fun _ => E.fieldAddrN 0 rfl Tryz.underlying31 rfl Tryz.sz3 rfl) (D.ev 1 rfl (by kernel_rfl) rfl hs.to (fun _ hS => E.load1 rfl Tryz.underlying5 rfl (by exact hS.ldc)) ?_)))
 refine D.evP 2 rfl (by kernel_rfl) rfl (fun _ => hs.to) (fun _ => (E.conv rfl Tryz.underlying5 Tryz.underlying3).isI (c := (m.leaf.toNat : Int)) (conv_u8 m.leaf)) ?_
 refine D.ev 5 rfl (by kernel_rfl) rfl hs.to (fun _ hS => E.load1 rfl Tryz.underlying3 rfl (hS.ldc (b := b5) (i := 49))) ?_
 refine D.evP 6 rfl (by kernel_rfl) rfl (fun _ => hs.to) (fun _ => (E.shl rfl rfl (by rw [h3]; omega)).isI (c := ((2 ^ (1 + m.first.toNat % 3) : Nat) : Int)) (by rw [h3, Int.toNat_natCast]; exact shl1 _ (by omega))) ?_
 refine D.evP 7 rfl (by kernel_rfl) rfl (fun _ => hs.to) (fun _ => (E.rem rfl rfl (two_ne _) (by omega)).isI (c := ((m.leaf.toNat % 2 ^ (1 + m.first.toNat % 3) : Nat) : Int)) (Int.natCast_emod _ _).symm) ?_
 refine D.evP 8 rfl (by kernel_rfl) rfl (fun _ => hs.to) (fun _ => E.fieldAddr0 66 rfl Tryz.underlying69 rfl Tryz.sz3 rfl) (D.act 9 rfl (by kernel_rfl) ?_)
 refine R.cstore1 (b := b5) hs rfl rfl Tryz.sz3 (by rw [encO_len]; decide) rfl ?_
 intro w59 hs
 rw [encO_leaf] at hs
 dsimp only at hs
 refine D.backT (by kernel_rfl) (D.done rfl (by kernel_rfl) (X.keep [(1, _), (2, _), (5, _)] ⟨rfl, rfl, rfl, trivial⟩ ?_))
 (have e : rkB m = ⟨idn (m.id.toNat % 16), ofP (pubk m.first.toNat), ((m.number.toNat % 3 : Nat) : Int), pubk m.first.toNat, ((m.leaf.toNat % 2 ^ (1 + m.first.toNat % 3) : Nat) : Int), pubk m.new.toNat⟩ := by
    have h38 : ((m.number.toNat % 3 : Nat) : Int) = 0 := h38
    have h38 : m.number.toNat % 3 = 0 := by omega
    simp only [rkB, rkN, rkP, rkH, if_pos h38]
  exact X.cut (()) ⟨rfl, rfl, rfl, trivial⟩ (by rw [e]; exact hs))
 refine C.skip ?_
 (have e : rkB m = ⟨idn (m.id.toNat % 16), ofP (pubk m.first.toNat), ((m.number.toNat % 3 : Nat) : Int), pubk m.pub.toNat, ((m.leaf.toNat % 2 ^ (1 + m.pub.toNat % 3) : Nat) : Int), pubk m.new.toNat⟩ := by
    have h38 : ¬ ((m.number.toNat % 3 : Nat) : Int) = 0 := h38
    have h38 : ¬ m.number.toNat % 3 = 0 := by omega
    simp only [rkB, rkN, rkP, rkH, if_neg h38]
  exact X.cut (()) ⟨rfl, rfl, rfl, trivial⟩ (by rw [e]; exact hs))
 rintro _ w6 hs
 refine X.keep [(1, _), (2, _), (5, _)] ⟨rfl, rfl, rfl, trivial⟩ (X.next (C.seq ?_))
 refine C.drawn (SatS hs) ([1], [0, 2, 3, 4]) (by kernel_rfl) ?_
 have hs := hs.drew
 refine D.evP 0 rfl (by kernel_rfl) rfl (fun _ => hs.to) (fun _ => E.fieldAddr0 48 rfl Tryz.underlying69 rfl Tryz.sz3 rfl) (D.evP 3 rfl (by kernel_rfl) rfl (fun _ => hs.to) (fun _ => E.assign rfl) (D.ev 1 rfl (by kernel_rfl) rfl hs.to (fun _ hS => E.load1 rfl Tryz.underlying3 rfl (by exact hS.ldc)) (D.evP 2 rfl (by kernel_rfl) rfl (fun _ => hs.to) (fun _ => E.add rfl rfl (by simp only [rkB, rkN]; omega) (by simp only [rkB, rkN]; omega)) (D.evP 4 rfl (by kernel_rfl) rfl (fun _ => hs.to) (fun _ => E.assign rfl) (D.done rfl (by kernel_rfl) (X.keep [(1, _), (2, _), (5, _), (6, _), (7, _)] ⟨rfl, rfl, rfl, rfl, rfl, trivial⟩ (X.next (C.seq ?_))))))))
 refine C.seq (C.region (R.ev rfl (E.fieldAddr0 6 rfl Tryz.underlying66 rfl Tryz.sz5 rfl) (R.ev rfl (E.load1 rfl Tryz.underlying5 rfl (by exact hs.ldc)) (R.done (X.keep [(1, _), (2, _), (5, _), (6, _), (7, _), (56, _)] ⟨rfl, rfl, rfl, rfl, rfl, rfl, trivial⟩ (X.next (C.block (C.seq ?_))))))))
 refine C.region (R.ev rfl (E.eql rfl rfl) (R.ev rfl (E.assign rfl) (R.done (X.keep [(1, _), (2, _), (5, _), (6, _), (7, _), (56, _), (57, _)] ⟨rfl, rfl, rfl, rfl, rfl, rfl, rfl, trivial⟩ (X.next ?_)))))
 refine C.cut [(1, _), (2, _), (5, _)] (fun (u : Int × Int) => [(6, .int .i64 u.1), (7, .int .i64 u.2)]) (fun u w' => u.1 = rkK m ∧ u.2 = rk0N m ∧ Sat K w' (row b5 69 (encO (rkR m)) :: row b2 69 (encO oz) :: row b1 66 (encMv m) :: Hs)) ⟨rfl, rfl, rfl, trivial⟩ ?_ ?_
 refine C.cdec rfl (fun h57 => ?_) (fun h57 => ?_)
 refine C.region (R.ev rfl (E.fieldAddr0 4 rfl Tryz.underlying66 rfl Tryz.sz5 rfl) (R.ev rfl (E.load1 rfl Tryz.underlying5 rfl (by exact hs.ldc)) ?_))
 refine R.ev rfl ((E.conv rfl Tryz.underlying5 Tryz.underlying3).isI (c := (m.leaf.toNat : Int)) (conv_u8 m.leaf)) ?_
 refine R.ev rfl ((E.rem rfl rfl (by omega) (by omega)).isI (c := ((m.leaf.toNat % 7 : Nat) : Int)) (by omega)) ?_
 refine R.ev rfl (E.assign rfl) (R.done (X.keep [(1, _), (2, _), (5, _), (6, _), (7, _)] ⟨rfl, rfl, rfl, rfl, rfl, trivial⟩ ?_))
 (have g : m.spoil = 0 := sp_is (k := 0) (by decide) h57
  exact X.cut ((_, _)) ⟨lkV rfl rfl, lkV rfl rfl, rfl, rfl, rfl, trivial⟩ ⟨by rw [rkK, if_pos g], by rw [rk0N, g]; rfl, by rw [show rkR m = rkB m from by simp [rkR, g]]; exact hs.to⟩)
 refine C.seq (C.region (R.ev rfl (E.eql rfl rfl) (R.ev rfl (E.assign rfl) (R.done (X.keep [(1, _), (2, _), (5, _), (6, _), (7, _), (56, _), (63, _)] ⟨rfl, rfl, rfl, rfl, rfl, rfl, rfl, trivial⟩ (X.next ?_))))))
 refine C.cdec rfl (fun h63 => ?_) (fun h63 => ?_)
 refine C.region ?_
 refine R.buildSlice1 (parts := [(0, _), (1, _), (2, _), (3, _)]) (vs := [_, _, _, _]) rfl rfl rfl Tryz.underlying119 Tryz.sz3 Tryz.zr3 rfl (by simp [Value.oneCell']) (by decide) ?_
 intro b65 w65 n65
 have hs := hs.new n65
 refine R.ev rfl (E.fieldAddr0 4 rfl Tryz.underlying66 rfl Tryz.sz5 rfl) (R.ev rfl (E.load1 rfl Tryz.underlying5 rfl (by exact hs.ldc)) ?_)
 refine R.ev rfl ((E.rem rfl rfl (by omega) (by omega)).isI (c := ((m.leaf.toNat % 4 : Nat) : Int)) (by omega)) ?_
 refine R.ev rfl (E.indexAddr1 (m.leaf.toNat % 4) rfl rfl Tryz.underlying119 Tryz.sz3 rfl (by omega)) ?_
 refine R.ev rfl (E.load1 rfl Tryz.underlying3 rfl (hs.ld (b := b65) (pick4_at _ _ _ _ m.leaf))) ?_
 refine R.ev rfl (E.fieldAddr0 48 rfl Tryz.underlying69 rfl Tryz.sz3 rfl) ?_
 refine R.cstore1 (b := b5) hs rfl rfl Tryz.sz3 (by rw [encO_len]; decide) rfl ?_
 intro w117 hs
 rw [encO_n] at hs
 refine R.done (X.keep [(1, _), (2, _), (5, _), (6, _), (7, _)] ⟨rfl, rfl, rfl, rfl, rfl, trivial⟩ ?_)
 (have g : m.spoil = 1 := sp_is (k := 1) (by decide) h63
  exact X.cut ((_, _)) ⟨lkV rfl rfl, lkV rfl rfl, rfl, rfl, rfl, trivial⟩ ⟨by rw [rkK, g]; rfl, by rw [rk0N, g]; rfl, by rw [show rkR m = { rkB m with n := pick4 [-1, 1000, 999, 1099511627776] m.leaf } from by simp [rkR, g]]; exact hs.to⟩)
 refine C.seq (C.region (R.ev rfl (E.eql rfl rfl) (R.ev rfl (E.assign rfl) (R.done (X.keep [(1, _), (2, _), (5, _), (6, _), (7, _), (56, _), (72, _)] ⟨rfl, rfl, rfl, rfl, rfl, rfl, rfl, trivial⟩ (X.next ?_))))))
 refine C.cdec rfl (fun h72 => ?_) (fun h72 => ?_)
 refine C.region (R.ev rfl (E.fieldAddr0 4 rfl Tryz.underlying66 rfl Tryz.sz5 rfl) (R.ev rfl (E.load1 rfl Tryz.underlying5 rfl (by exact hs.ldc)) ?_))
 refine R.ev rfl ((E.conv rfl Tryz.underlying5 Tryz.underlying3).isI (c := (m.leaf.toNat : Int)) (conv_u8 m.leaf)) ?_
 refine R.ev rfl ((E.rem rfl rfl (by omega) (by omega)).isI (c := ((m.leaf.toNat % 5 : Nat) : Int)) (by omega)) ?_
 refine R.ev rfl (E.assign rfl) (R.done (X.keep [(1, _), (2, _), (5, _), (6, _), (7, _)] ⟨rfl, rfl, rfl, rfl, rfl, trivial⟩ ?_))
 (have g : m.spoil = 2 := sp_is (k := 2) (by decide) h72
  exact X.cut ((_, _)) ⟨lkV rfl rfl, lkV rfl rfl, rfl, rfl, rfl, trivial⟩ ⟨by rw [rkK, g]; rfl, by rw [rk0N, g]; rfl, by rw [show rkR m = rkB m from by simp [rkR, g]]; exact hs.to⟩)
 refine C.seq (C.region (R.ev rfl (E.eql rfl rfl) (R.ev rfl (E.assign rfl) (R.done (X.keep [(1, _), (2, _), (5, _), (6, _), (7, _), (56, _), (78, _)] ⟨rfl, rfl, rfl, rfl, rfl, rfl, rfl, trivial⟩ (X.next ?_))))))
 refine C.cdec rfl (fun h78 => ?_) (fun h78 => ?_)
 refine C.region ?_
 refine R.buildSlice1 (parts := [(0, _), (1, _), (2, _), (3, _)]) (vs := [_, _, _, _]) rfl rfl rfl Tryz.underlying119 Tryz.sz3 Tryz.zr3 rfl (by simp [Value.oneCell']) (by decide) ?_
 intro b80 w80 n80
 have hs := hs.new n80
 refine R.ev rfl (E.fieldAddr0 4 rfl Tryz.underlying66 rfl Tryz.sz5 rfl) (R.ev rfl (E.load1 rfl Tryz.underlying5 rfl (by exact hs.ldc)) ?_)
 refine R.ev rfl ((E.rem rfl rfl (by omega) (by omega)).isI (c := ((m.leaf.toNat % 4 : Nat) : Int)) (by omega)) ?_
 refine R.ev rfl (E.indexAddr1 (m.leaf.toNat % 4) rfl rfl Tryz.underlying119 Tryz.sz3 rfl (by omega)) ?_
 refine R.ev rfl (E.load1 rfl Tryz.underlying3 rfl (hs.ld (b := b80) (pick4_at _ _ _ _ m.leaf))) ?_
 refine R.ev rfl (E.fieldAddr0 49 rfl Tryz.underlying69 rfl Tryz.sz31 rfl) (R.ev rfl (E.fieldAddrN 0 rfl Tryz.underlying31 rfl Tryz.sz3 rfl) ?_)
 refine R.cstore1 (b := b5) hs rfl rfl Tryz.sz3 (by rw [encO_len]; decide) rfl ?_
 intro w158 hs
 rw [encO_ph] at hs
 refine R.done (X.keep [(1, _), (2, _), (5, _), (6, _), (7, _)] ⟨rfl, rfl, rfl, rfl, rfl, trivial⟩ ?_)
 (have g : m.spoil = 3 := sp_is (k := 3) (by decide) h78
  exact X.cut ((_, _)) ⟨lkV rfl rfl, lkV rfl rfl, rfl, rfl, rfl, trivial⟩ ⟨by rw [rkK, g]; rfl, by rw [rk0N, g]; rfl, by rw [show rkR m = { rkB m with pu := ⟨pick4 [0, 9, -1, 8] m.leaf, (rkB m).pu.r⟩ } from by simp [rkR, g]]; exact hs.to⟩)
 refine C.seq (C.region (R.ev rfl (E.eql rfl rfl) (R.ev rfl (E.assign rfl) (R.done (X.keep [(1, _), (2, _), (5, _), (6, _), (7, _), (56, _), (88, _)] ⟨rfl, rfl, rfl, rfl, rfl, rfl, rfl, trivial⟩ (X.next ?_))))))
 refine C.cdec rfl (fun h88 => ?_) (fun h88 => ?_)
 refine C.region ?_
 refine R.buildSlice1 (parts := [(0, _), (1, _), (2, _), (3, _)]) (vs := [_, _, _, _]) rfl rfl rfl Tryz.underlying119 Tryz.sz3 Tryz.zr3 rfl (by simp [Value.oneCell']) (by decide) ?_
 intro b90 w90 n90
 have hs := hs.new n90
 refine R.ev rfl (E.fieldAddr0 4 rfl Tryz.underlying66 rfl Tryz.sz5 rfl) (R.ev rfl (E.load1 rfl Tryz.underlying5 rfl (by exact hs.ldc)) ?_)
 refine R.ev rfl ((E.rem rfl rfl (by omega) (by omega)).isI (c := ((m.leaf.toNat % 4 : Nat) : Int)) (by omega)) ?_
 refine R.ev rfl (E.indexAddr1 (m.leaf.toNat % 4) rfl rfl Tryz.underlying119 Tryz.sz3 rfl (by omega)) ?_
 refine R.ev rfl (E.load1 rfl Tryz.underlying3 rfl (hs.ld (b := b90) (pick4_at _ _ _ _ m.leaf))) ?_
 refine R.ev rfl (E.fieldAddr0 67 rfl Tryz.underlying69 rfl Tryz.sz31 rfl) (R.ev rfl (E.fieldAddrN 0 rfl Tryz.underlying31 rfl Tryz.sz3 rfl) ?_)
 refine R.cstore1 (b := b5) hs rfl rfl Tryz.sz3 (by rw [encO_len]; decide) rfl ?_
 intro w178 hs
 rw [encO_nh] at hs
 refine R.done (X.keep [(1, _), (2, _), (5, _), (6, _), (7, _)] ⟨rfl, rfl, rfl, rfl, rfl, trivial⟩ ?_)
 (have g : m.spoil = 4 := sp_is (k := 4) (by decide) h88
  exact X.cut ((_, _)) ⟨lkV rfl rfl, lkV rfl rfl, rfl, rfl, rfl, trivial⟩ ⟨by rw [rkK, g]; rfl, by rw [rk0N, g]; rfl, by rw [show rkR m = { rkB m with nw := ⟨pick4 [0, 9, -1, 8] m.leaf, (rkB m).nw.r⟩ } from by simp [rkR, g]]; exact hs.to⟩)
 refine C.seq (C.region (R.ev rfl (E.eql rfl rfl) (R.ev rfl (E.assign rfl) (R.done (X.keep [(1, _), (2, _), (5, _), (6, _), (7, _), (56, _), (98, _)] ⟨rfl, rfl, rfl, rfl, rfl, rfl, rfl, trivial⟩ (X.next ?_))))))
 refine C.cdec rfl (fun h98 => ?_) (fun h98 => ?_)
 refine C.region (R.ev rfl (E.fieldAddr0 49 rfl Tryz.underlying69 rfl Tryz.sz31 rfl) (R.ev rfl (E.loadRowC rfl Tryz.underlying31 rfl Tryz.sz31 (by exact hs.ldp)) (R.ev rfl (E.fieldAddr0 67 rfl Tryz.underlying69 rfl Tryz.sz31 rfl) ?_)))
 refine R.cstore (b := b5) hs rfl rfl Tryz.sz31 (encP_len _) (by rw [encO_len]; decide) (encP_one _) ?_
 intro w193 hs
 rw [encO_nw] at hs
 refine R.done (X.keep [(1, _), (2, _), (5, _), (6, _), (7, _)] ⟨rfl, rfl, rfl, rfl, rfl, trivial⟩ ?_)
 (have g : m.spoil = 5 := sp_is (k := 5) (by decide) h98
  exact X.cut ((_, _)) ⟨lkV rfl rfl, lkV rfl rfl, rfl, rfl, rfl, trivial⟩ ⟨by rw [rkK, g]; rfl, by rw [rk0N, g]; rfl, by rw [show rkR m = { rkB m with nw := (rkB m).pu } from by simp [rkR, g]]; exact hs.to⟩)
 refine C.seq (C.region (R.ev rfl (E.eql rfl rfl) (R.ev rfl (E.assign rfl) (R.done (X.keep [(1, _), (2, _), (5, _), (6, _), (7, _), (56, _), (103, _)] ⟨rfl, rfl, rfl, rfl, rfl, rfl, rfl, trivial⟩ (X.next ?_))))))
 refine C.cdec rfl (fun h103 => ?_) (fun h103 => ?_)
 refine C.region ?_
 refine R.buildSlice1 (parts := [(0, _), (1, _), (2, _), (3, _)]) (vs := [_, _, _, _]) rfl rfl rfl Tryz.underlying119 Tryz.sz3 Tryz.zr3 rfl (by simp [Value.oneCell']) (by decide) ?_
 intro b105 w105 n105
 have hs := hs.new n105
 refine R.ev rfl (E.fieldAddr0 4 rfl Tryz.underlying66 rfl Tryz.sz5 rfl) (R.ev rfl (E.load1 rfl Tryz.underlying5 rfl (by exact hs.ldc)) ?_)
 refine R.ev rfl ((E.rem rfl rfl (by omega) (by omega)).isI (c := ((m.leaf.toNat % 4 : Nat) : Int)) (by omega)) ?_
 refine R.ev rfl (E.indexAddr1 (m.leaf.toNat % 4) rfl rfl Tryz.underlying119 Tryz.sz3 rfl (by omega)) ?_
 refine R.ev rfl (E.load1 rfl Tryz.underlying3 rfl (hs.ld (b := b105) (pick4_at _ _ _ _ m.leaf))) ?_
 refine R.ev rfl (E.fieldAddr0 66 rfl Tryz.underlying69 rfl Tryz.sz3 rfl) ?_
 refine R.cstore1 (b := b5) hs rfl rfl Tryz.sz3 (by rw [encO_len]; decide) rfl ?_
 intro w217 hs
 rw [encO_leaf] at hs
 refine R.done (X.keep [(1, _), (2, _), (5, _), (6, _), (7, _)] ⟨rfl, rfl, rfl, rfl, rfl, trivial⟩ ?_)
 (have g : m.spoil = 6 := sp_is (k := 6) (by decide) h103
  exact X.cut ((_, _)) ⟨lkV rfl rfl, lkV rfl rfl, rfl, rfl, rfl, trivial⟩ ⟨by rw [rkK, g]; rfl, by rw [rk0N, g]; rfl, by rw [show rkR m = { rkB m with leaf := pick4 [-1, 8, 2, 4] m.leaf } from by simp [rkR, g]]; exact hs.to⟩)
 refine C.seq (C.region (R.ev rfl (E.eql rfl rfl) (R.ev rfl (E.assign rfl) (R.done (X.keep [(1, _), (2, _), (5, _), (6, _), (7, _), (112, _)] ⟨rfl, rfl, rfl, rfl, rfl, rfl, trivial⟩ (X.next ?_))))))
 refine C.cdec rfl (fun h112 => ?_) (fun h112 => ?_)
 refine C.region (R.ev rfl (E.fieldAddr0 32 rfl Tryz.underlying69 rfl Tryz.sz28 rfl) ?_)
 refine R.ev rfl (E.indexAddrA (i := 3) rfl rfl Tryz.underlying28 Tryz.sz5 rfl (by decide)) ?_
 refine R.ev rfl (E.load1 rfl Tryz.underlying5 rfl (hs.ld (b := b5) (encO_au3 (rkB m)))) ?_
 refine R.ev rfl ((E.xor rfl rfl).as (u := ub ((rkB m).au.1.getD 3 0 ^^^ 1)) (xor1_ub _)) ?_
 refine R.ev rfl (E.fieldAddr0 32 rfl Tryz.underlying69 rfl Tryz.sz28 rfl) ?_
 refine R.ev rfl (E.indexAddrA (i := 3) rfl rfl Tryz.underlying28 Tryz.sz5 rfl (by decide)) ?_
 refine R.cstore1 (b := b5) hs rfl rfl Tryz.sz5 (by rw [encO_len]; decide) rfl ?_
 intro w236 hs
 rw [show (32 + 3 * 1 : Nat) = 35 from rfl, encO_flip] at hs
 refine R.done (X.keep [(1, _), (2, _), (5, _), (6, _), (7, _)] ⟨rfl, rfl, rfl, rfl, rfl, trivial⟩ ?_)
 (have g : m.spoil = 7 := sp_is (k := 7) (by decide) h112
  exact X.cut ((_, _)) ⟨lkV rfl rfl, lkV rfl rfl, rfl, rfl, rfl, trivial⟩ ⟨by rw [rkK, g]; rfl, by rw [rk0N, g]; rfl, by rw [show rkR m = { rkB m with au := flip3 (rkB m).au } from by simp [rkR, g]]; exact hs.to⟩)
 refine C.skip ?_
 (have g0 : m.spoil ≠ 0 := sp_not (k := 0) (by decide) h57
  have g1 : m.spoil ≠ 1 := sp_not (k := 1) (by decide) h63
  have g2 : m.spoil ≠ 2 := sp_not (k := 2) (by decide) h72
  have g3 : m.spoil ≠ 3 := sp_not (k := 3) (by decide) h78
  have g4 : m.spoil ≠ 4 := sp_not (k := 4) (by decide) h88
  have g5 : m.spoil ≠ 5 := sp_not (k := 5) (by decide) h98
  have g6 : m.spoil ≠ 6 := sp_not (k := 6) (by decide) h103
  have g7 : m.spoil ≠ 7 := sp_not (k := 7) (by decide) h112
  exact X.cut ((_, _)) ⟨lkV rfl rfl, lkV rfl rfl, rfl, rfl, rfl, trivial⟩ ⟨by rw [rkK, if_neg g0], by rw [rk0N, if_neg g2], by rw [rkR, if_neg g1, if_neg g3, if_neg g4, if_neg g5, if_neg g6, if_neg g7]; exact hs.to⟩)
 rintro ⟨_, _⟩ w7 ⟨rfl, rfl, hs⟩
 refine X.keep [(1, _), (2, _), (5, _), (6, _), (7, _)] ⟨rfl, rfl, rfl, rfl, rfl, trivial⟩ (X.blockNormal (X.next (C.seq (C.seq (C.region (R.ev rfl (E.fieldAddr0 6 rfl Tryz.underlying66 rfl Tryz.sz5 rfl) (R.ev rfl (E.load1 rfl Tryz.underlying5 rfl (by exact hs.ldc)) (R.ev rfl (E.eql rfl rfl) ?_))))))))
 refine R.done (X.keep [(2, _), (5, _), (6, _), (7, _), (122, _)] ⟨rfl, rfl, rfl, rfl, rfl, trivial⟩ (X.next ?_))
 refine C.cdec rfl (fun h122 => ?_) (fun h122 => ?_)
 refine C.region ?_
 have g : m.spoil = 1 := sp_is (k := 1) (by decide) h122
 have hrn : -1 ≤ (rkR m).n ∧ (rkR m).n ≤ 1099511627776 := by
   rw [show rkR m = { rkB m with n := pick4 [-1, 1000, 999, 1099511627776] m.leaf } from by simp [rkR, g]]
   dsimp only
   rcases pick4_mem (a := -1) (b := 1000) (c := 999) (d := 1099511627776) (k := m.leaf) with e | e | e | e <;> rw [e] <;> decide
 refine R.ev rfl (E.fieldAddr0 48 rfl Tryz.underlying69 rfl Tryz.sz3 rfl) (R.ev rfl (E.load1 rfl Tryz.underlying3 rfl (by exact hs.ldc)) (R.ev rfl (E.add rfl rfl (by omega) (by omega)) (R.ev rfl (E.assign rfl) (R.done (X.keep [(2, _), (5, _), (6, _), (7, _)] ⟨rfl, rfl, rfl, rfl, trivial⟩ (X.next (C.seq (C.region ?_))))))))
 refine R.ev rfl (E.loadRowC rfl Tryz.underlying69 rfl Tryz.sz69 (by exact ⟨hs.ldA, by assumption⟩)) (R.ev rfl (E.move rfl) (R.ev rfl (E.move rfl) ?_))
 refine R.cstoreAll hs rfl rfl Tryz.sz69 (by rfl) (by assumption) (by exact Enc.one _) ?_
 intro w26_3 hs
 try simp only [List.set_cons_zero, List.set_cons_succ] at hs
 refine R.ev rfl (E.assign rfl) (R.ev rfl (E.assign rfl) (R.done (X.keep [(2, _), (3, _), (4, _)] ⟨rfl, rfl, rfl, trivial⟩ (X.next (C.ret ?_)))))
 refine X.resCTT rfl rfl Tryz.underlying69 rfl Tryz.sz69 (by exact ⟨hs.ldA, by assumption⟩) rfl rfl ?_
 (have g : m.spoil = 1 := sp_is (k := 1) (by decide) h122
  exact ⟨by rw [rkT, if_pos g], hs.to⟩)
 refine C.skip (X.next (C.seq (C.region (R.ev rfl (E.loadRowC rfl Tryz.underlying69 rfl Tryz.sz69 (by exact ⟨hs.ldA, by assumption⟩)) (R.ev rfl (E.move rfl) (R.ev rfl (E.move rfl) ?_))))))
 refine R.cstoreAll hs rfl rfl Tryz.sz69 (by rfl) (by assumption) (by exact Enc.one _) ?_
 intro w26_3 hs
 try simp only [List.set_cons_zero, List.set_cons_succ] at hs
 refine R.ev rfl (E.assign rfl) (R.ev rfl (E.assign rfl) (R.done (X.keep [(2, _), (3, _), (4, _)] ⟨rfl, rfl, rfl, trivial⟩ (X.next (C.ret ?_)))))
 refine X.resCTT rfl rfl Tryz.underlying69 rfl Tryz.sz69 (by exact ⟨hs.ldA, by assumption⟩) rfl rfl ?_
 (have g : m.spoil ≠ 1 := sp_not (k := 1) (by decide) h122
  exact ⟨by rw [rkT, if_neg g]; rfl, hs.to⟩)
 refine R.sallocA hs Tryz.zr69 rfl ?_
 intro b5 w5 hs
 refine D.back hs.to (D.act 6 rfl (by kernel_rfl) ?_)
 refine R.call ⟨_, _, Tryz.func7, rfl, by kernel_rfl⟩ rfl rfl (public_any m.first hs) ?_
 rintro _ w16 ⟨rfl, hs⟩
 refine D.back hs.to (D.act 7 rfl (by kernel_rfl) ?_)
 refine R.call ⟨_, _, Tryz.func6, rfl, by kernel_rfl⟩ rfl rfl (rOf_any _ hs) ?_
 rintro _ w17 ⟨rfl, hs⟩
 refine D.back hs.to (D.act 14 rfl (by kernel_rfl) ?_)
 refine R.call ⟨_, _, Tryz.func7, rfl, by kernel_rfl⟩ rfl rfl (public_any m.pub hs) ?_
 rintro _ w114 ⟨rfl, hs⟩
 refine D.back hs.to (D.act 17 rfl (by kernel_rfl) ?_)
 refine R.call ⟨_, _, Tryz.func7, rfl, by kernel_rfl⟩ rfl rfl (public_any m.new hs) ?_
 rintro _ w117 ⟨rfl, hs⟩
 refine D.back hs.to ?_
 refine D.evP 18 rfl (by kernel_rfl) rfl (fun _ => hs.to) (fun _ => E.buildG (r := encO ⟨idn (m.id.toNat % 16), ofP (pubk m.first.toNat), ((m.number.toNat % 3 : Nat) : Int), pubk m.pub.toNat, 0, pubk m.new.toNat⟩) rfl Tryz.underlying69 Tryz.zr69 Tryz.ql69 (by kernel_rfl) (by kernel_rfl) ⟨⟨_, rfl, by rfl⟩, ⟨_, rfl, by rfl⟩, ⟨_, rfl, by rfl⟩, ⟨_, rfl, by rfl⟩, ⟨_, rfl, by rfl⟩, trivial⟩ (by rfl)) ?_
 refine D.act 20 rfl (by kernel_rfl) ?_
 refine R.cstoreAll hs rfl rfl Tryz.sz69 (by rfl) (by rfl) (by exact Enc.one _) ?_
 intro w1_20 hs
 try simp only [List.set_cons_zero, List.set_cons_succ] at hs
 refine D.backT (by kernel_rfl) (D.done rfl (by kernel_rfl) (X.keep [(1, _), (2, _), (5, _)] ⟨rfl, rfl, rfl, trivial⟩ (X.next (C.seq ?_))))
 refine C.drawn (SatS hs) ([1, 5], [0, 2, 3, 4, 6, 7, 8]) (by kernel_rfl) ?_
 have hs := hs.drew
 refine D.evP 0 rfl (by kernel_rfl) rfl (fun _ => hs.to) (fun _ => E.fieldAddr0 4 rfl Tryz.underlying66 rfl Tryz.sz5 rfl) (D.evP 3 rfl (by kernel_rfl) rfl (fun _ => hs.to) (fun _ => E.fieldAddr0 49 rfl Tryz.underlying69 rfl Tryz.sz31 rfl) (D.evP 4 rfl (by kernel_rfl) rfl (fun _ => hs.to) (fun _ => E.fieldAddrN 0 rfl Tryz.underlying31 rfl Tryz.sz3 rfl) (D.ev 1 rfl (by kernel_rfl) rfl hs.to (fun _ hS => E.load1 rfl Tryz.underlying5 rfl (by exact hS.ldc)) ?_)))
 refine D.evP 2 rfl (by kernel_rfl) rfl (fun _ => hs.to) (fun _ => (E.conv rfl Tryz.underlying5 Tryz.underlying3).isI (c := (m.leaf.toNat : Int)) (conv_u8 m.leaf)) ?_
 refine D.ev 5 rfl (by kernel_rfl) rfl hs.to (fun _ hS => E.load1 rfl Tryz.underlying3 rfl (hS.ldc (b := b5) (i := 49))) ?_
 refine D.evP 6 rfl (by kernel_rfl) rfl (fun _ => hs.to) (fun _ => (E.shl rfl rfl (by rw [h3]; omega)).isI (c := ((2 ^ (1 + m.pub.toNat % 3) : Nat) : Int)) (by rw [h3, Int.toNat_natCast]; exact shl1 _ (by omega))) ?_
 refine D.evP 7 rfl (by kernel_rfl) rfl (fun _ => hs.to) (fun _ => (E.rem rfl rfl (two_ne _) (by omega)).isI (c := ((m.leaf.toNat % 2 ^ (1 + m.pub.toNat % 3) : Nat) : Int)) (Int.natCast_emod _ _).symm) ?_
 refine D.evP 8 rfl (by kernel_rfl) rfl (fun _ => hs.to) (fun _ => E.fieldAddr0 66 rfl Tryz.underlying69 rfl Tryz.sz3 rfl) (D.act 9 rfl (by kernel_rfl) ?_)
 refine R.cstore1 (b := b5) hs rfl rfl Tryz.sz3 (by rw [encO_len]; decide) rfl ?_
 intro w29 hs
 rw [encO_leaf] at hs
 dsimp only at hs
 refine D.backT (by kernel_rfl) (D.done rfl (by kernel_rfl) (X.keep [(1, _), (2, _), (5, _)] ⟨rfl, rfl, rfl, trivial⟩ (X.next (C.seq (C.seq (C.region (R.ev rfl (E.fieldAddr0 48 rfl Tryz.underlying69 rfl Tryz.sz3 rfl) (R.ev rfl (E.load1 rfl Tryz.underlying3 rfl (by exact hs.ldc)) ?_))))))))
 refine R.ev rfl (E.eql rfl rfl) (R.done (X.keep [(1, _), (2, _), (5, _), (38, _)] ⟨rfl, rfl, rfl, rfl, trivial⟩ (X.next ?_)))
 refine C.cut [(1, _), (2, _), (5, _)] (fun (_ : Unit) => []) (fun _ w' => Sat K w' (row b5 69 (encO (rkB m)) :: row b2 69 (encO oz) :: row b1 66 (encMv m) :: Hs)) ⟨rfl, rfl, rfl, trivial⟩ ?_ ?_
 refine C.cdec rfl (fun h38 => ?_) (fun h38 => ?_)
 refine C.seq (C.region (R.ev rfl (E.fieldAddr0 0 rfl Tryz.underlying66 rfl Tryz.sz5 rfl) (R.ev rfl (E.load1 rfl Tryz.underlying5 rfl (by exact hs.ldc)) ?_)))
 refine R.call ⟨_, _, Tryz.func7, rfl, by kernel_rfl⟩ rfl rfl (public_any m.first hs) ?_
 rintro _ w42 ⟨rfl, hs⟩
 refine R.ev rfl (E.fieldAddr0 49 rfl Tryz.underlying69 rfl Tryz.sz31 rfl) ?_
 refine R.cstore (b := b5) hs rfl rfl Tryz.sz31 (encP_len _) (by rw [encO_len]; decide) (encP_one _) ?_
 intro w44 hs
 rw [encO_pu] at hs
 dsimp only at hs
 refine R.done (X.keep [(1, _), (2, _), (5, _)] ⟨rfl, rfl, rfl, trivial⟩ (X.next ?_))
 refine C.drawn (SatS hs) ([1, 5], [0, 2, 3, 4, 6, 7, 8]) (by kernel_rfl) ?_
 have hs := hs.drew
 refine D.evP 0 rfl (by kernel_rfl) rfl (fun _ => hs.to) (fun _ => E.fieldAddr0 4 rfl Tryz.underlying66 rfl Tryz.sz5 rfl) (D.evP 3 rfl (by kernel_rfl) rfl (fun _ => hs.to) (fun _ => E.fieldAddr0 49 rfl Tryz.underlying69 rfl Tryz.sz31 rfl) (D.evP 4 rfl (by kernel_rfl) rfl (fun _ => hs.to) (fun _ => E.fieldAddrN 0 rfl Tryz.underlying31 rfl Tryz.sz3 rfl) (D.ev 1 rfl (by kernel_rfl) rfl hs.to (fun _ hS => E.load1 rfl Tryz.underlying5 rfl (by exact hS.ldc)) ?_)))
 refine D.evP 2 rfl (by kernel_rfl) rfl (fun _ => hs.to) (fun _ => (E.conv rfl Tryz.underlying5 Tryz.underlying3).isI (c := (m.leaf.toNat : Int)) (conv_u8 m.leaf)) ?_
 refine D.ev 5 rfl (by kernel_rfl) rfl hs.to (fun _ hS => E.load1 rfl Tryz.underlying3 rfl (hS.ldc (b := b5) (i := 49))) ?_
 refine D.evP 6 rfl (by kernel_rfl) rfl (fun _ => hs.to) (fun _ => (E.shl rfl rfl (by rw [h3]; omega)).isI (c := ((2 ^ (1 + m.first.toNat % 3) : Nat) : Int)) (by rw [h3, Int.toNat_natCast]; exact shl1 _ (by omega))) ?_
 refine D.evP 7 rfl (by kernel_rfl) rfl (fun _ => hs.to) (fun _ => (E.rem rfl rfl (two_ne _) (by omega)).isI (c := ((m.leaf.toNat % 2 ^ (1 + m.first.toNat % 3) : Nat) : Int)) (Int.natCast_emod _ _).symm) ?_
 refine D.evP 8 rfl (by kernel_rfl) rfl (fun _ => hs.to) (fun _ => E.fieldAddr0 66 rfl Tryz.underlying69 rfl Tryz.sz3 rfl) (D.act 9 rfl (by kernel_rfl) ?_)
 refine R.cstore1 (b := b5) hs rfl rfl Tryz.sz3 (by rw [encO_len]; decide) rfl ?_
 intro w59 hs
 rw [encO_leaf] at hs
 dsimp only at hs
 refine D.backT (by kernel_rfl) (D.done rfl (by kernel_rfl) (X.keep [(1, _), (2, _), (5, _)] ⟨rfl, rfl, rfl, trivial⟩ ?_))
 (have e : rkB m = ⟨idn (m.id.toNat % 16), ofP (pubk m.first.toNat), ((m.number.toNat % 3 : Nat) : Int), pubk m.first.toNat, ((m.leaf.toNat % 2 ^ (1 + m.first.toNat % 3) : Nat) : Int), pubk m.new.toNat⟩ := by
    have h38 : ((m.number.toNat % 3 : Nat) : Int) = 0 := h38
    have h38 : m.number.toNat % 3 = 0 := by omega
    simp only [rkB, rkN, rkP, rkH, if_pos h38]
  exact X.cut (()) ⟨rfl, rfl, rfl, trivial⟩ (by rw [e]; exact hs))
 refine C.skip ?_
 (have e : rkB m = ⟨idn (m.id.toNat % 16), ofP (pubk m.first.toNat), ((m.number.toNat % 3 : Nat) : Int), pubk m.pub.toNat, ((m.leaf.toNat % 2 ^ (1 + m.pub.toNat % 3) : Nat) : Int), pubk m.new.toNat⟩ := by
    have h38 : ¬ ((m.number.toNat % 3 : Nat) : Int) = 0 := h38
    have h38 : ¬ m.number.toNat % 3 = 0 := by omega
    simp only [rkB, rkN, rkP, rkH, if_neg h38]
  exact X.cut (()) ⟨rfl, rfl, rfl, trivial⟩ (by rw [e]; exact hs))
 rintro _ w6 hs
 refine X.keep [(1, _), (2, _), (5, _)] ⟨rfl, rfl, rfl, trivial⟩ (X.next (C.seq ?_))
 refine C.drawn (SatS hs) ([1], [0, 2, 3, 4]) (by kernel_rfl) ?_
 have hs := hs.drew
 refine D.evP 0 rfl (by kernel_rfl) rfl (fun _ => hs.to) (fun _ => E.fieldAddr0 48 rfl Tryz.underlying69 rfl Tryz.sz3 rfl) (D.evP 3 rfl (by kernel_rfl) rfl (fun _ => hs.to) (fun _ => E.assign rfl) (D.ev 1 rfl (by kernel_rfl) rfl hs.to (fun _ hS => E.load1 rfl Tryz.underlying3 rfl (by exact hS.ldc)) (D.evP 2 rfl (by kernel_rfl) rfl (fun _ => hs.to) (fun _ => E.add rfl rfl (by simp only [rkB, rkN]; omega) (by simp only [rkB, rkN]; omega)) (D.evP 4 rfl (by kernel_rfl) rfl (fun _ => hs.to) (fun _ => E.assign rfl) (D.done rfl (by kernel_rfl) (X.keep [(1, _), (2, _), (5, _), (6, _), (7, _)] ⟨rfl, rfl, rfl, rfl, rfl, trivial⟩ (X.next (C.seq ?_))))))))
 refine C.seq (C.region (R.ev rfl (E.fieldAddr0 6 rfl Tryz.underlying66 rfl Tryz.sz5 rfl) (R.ev rfl (E.load1 rfl Tryz.underlying5 rfl (by exact hs.ldc)) (R.done (X.keep [(1, _), (2, _), (5, _), (6, _), (7, _), (56, _)] ⟨rfl, rfl, rfl, rfl, rfl, rfl, trivial⟩ (X.next (C.block (C.seq ?_))))))))
 refine C.region (R.ev rfl (E.eql rfl rfl) (R.ev rfl (E.assign rfl) (R.done (X.keep [(1, _), (2, _), (5, _), (6, _), (7, _), (56, _), (57, _)] ⟨rfl, rfl, rfl, rfl, rfl, rfl, rfl, trivial⟩ (X.next ?_)))))
 refine C.cut [(1, _), (2, _), (5, _)] (fun (u : Int × Int) => [(6, .int .i64 u.1), (7, .int .i64 u.2)]) (fun u w' => u.1 = rkK m ∧ u.2 = rk0N m ∧ Sat K w' (row b5 69 (encO (rkR m)) :: row b2 69 (encO oz) :: row b1 66 (encMv m) :: Hs)) ⟨rfl, rfl, rfl, trivial⟩ ?_ ?_
 refine C.cdec rfl (fun h57 => ?_) (fun h57 => ?_)
 refine C.region (R.ev rfl (E.fieldAddr0 4 rfl Tryz.underlying66 rfl Tryz.sz5 rfl) (R.ev rfl (E.load1 rfl Tryz.underlying5 rfl (by exact hs.ldc)) ?_))
 refine R.ev rfl ((E.conv rfl Tryz.underlying5 Tryz.underlying3).isI (c := (m.leaf.toNat : Int)) (conv_u8 m.leaf)) ?_
 refine R.ev rfl ((E.rem rfl rfl (by omega) (by omega)).isI (c := ((m.leaf.toNat % 7 : Nat) : Int)) (by omega)) ?_
 refine R.ev rfl (E.assign rfl) (R.done (X.keep [(1, _), (2, _), (5, _), (6, _), (7, _)] ⟨rfl, rfl, rfl, rfl, rfl, trivial⟩ ?_))
 (have g : m.spoil = 0 := sp_is (k := 0) (by decide) h57
  exact X.cut ((_, _)) ⟨lkV rfl rfl, lkV rfl rfl, rfl, rfl, rfl, trivial⟩ ⟨by rw [rkK, if_pos g], by rw [rk0N, g]; rfl, by rw [show rkR m = rkB m from by simp [rkR, g]]; exact hs.to⟩)
 refine C.seq (C.region (R.ev rfl (E.eql rfl rfl) (R.ev rfl (E.assign rfl) (R.done (X.keep [(1, _), (2, _), (5, _), (6, _), (7, _), (56, _), (63, _)] ⟨rfl, rfl, rfl, rfl, rfl, rfl, rfl, trivial⟩ (X.next ?_))))))
 refine C.cdec rfl (fun h63 => ?_) (fun h63 => ?_)
 refine C.region ?_
 refine R.buildSlice1 (parts := [(0, _), (1, _), (2, _), (3, _)]) (vs := [_, _, _, _]) rfl rfl rfl Tryz.underlying119 Tryz.sz3 Tryz.zr3 rfl (by simp [Value.oneCell']) (by decide) ?_
 intro b65 w65 n65
 have hs := hs.new n65
 refine R.ev rfl (E.fieldAddr0 4 rfl Tryz.underlying66 rfl Tryz.sz5 rfl) (R.ev rfl (E.load1 rfl Tryz.underlying5 rfl (by exact hs.ldc)) ?_)
 refine R.ev rfl ((E.rem rfl rfl (by omega) (by omega)).isI (c := ((m.leaf.toNat % 4 : Nat) : Int)) (by omega)) ?_
 refine R.ev rfl (E.indexAddr1 (m.leaf.toNat % 4) rfl rfl Tryz.underlying119 Tryz.sz3 rfl (by omega)) ?_
 refine R.ev rfl (E.load1 rfl Tryz.underlying3 rfl (hs.ld (b := b65) (pick4_at _ _ _ _ m.leaf))) ?_
 refine R.ev rfl (E.fieldAddr0 48 rfl Tryz.underlying69 rfl Tryz.sz3 rfl) ?_
 refine R.cstore1 (b := b5) hs rfl rfl Tryz.sz3 (by rw [encO_len]; decide) rfl ?_
 intro w117 hs
 rw [encO_n] at hs
 refine R.done (X.keep [(1, _), (2, _), (5, _), (6, _), (7, _)] ⟨rfl, rfl, rfl, rfl, rfl, trivial⟩ ?_)
 (have g : m.spoil = 1 := sp_is (k := 1) (by decide) h63
  exact X.cut ((_, _)) ⟨lkV rfl rfl, lkV rfl rfl, rfl, rfl, rfl, trivial⟩ ⟨by rw [rkK, g]; rfl, by rw [rk0N, g]; rfl, by rw [show rkR m = { rkB m with n := pick4 [-1, 1000, 999, 1099511627776] m.leaf } from by simp [rkR, g]]; exact hs.to⟩)
 refine C.seq (C.region (R.ev rfl (E.eql rfl rfl) (R.ev rfl (E.assign rfl) (R.done (X.keep [(1, _), (2, _), (5, _), (6, _), (7, _), (56, _), (72, _)] ⟨rfl, rfl, rfl, rfl, rfl, rfl, rfl, trivial⟩ (X.next ?_))))))
 refine C.cdec rfl (fun h72 => ?_) (fun h72 => ?_)
 refine C.region (R.ev rfl (E.fieldAddr0 4 rfl Tryz.underlying66 rfl Tryz.sz5 rfl) (R.ev rfl (E.load1 rfl Tryz.underlying5 rfl (by exact hs.ldc)) ?_))
 refine R.ev rfl ((E.conv rfl Tryz.underlying5 Tryz.underlying3).isI (c := (m.leaf.toNat : Int)) (conv_u8 m.leaf)) ?_
 refine R.ev rfl ((E.rem rfl rfl (by omega) (by omega)).isI (c := ((m.leaf.toNat % 5 : Nat) : Int)) (by omega)) ?_
 refine R.ev rfl (E.assign rfl) (R.done (X.keep [(1, _), (2, _), (5, _), (6, _), (7, _)] ⟨rfl, rfl, rfl, rfl, rfl, trivial⟩ ?_))
 (have g : m.spoil = 2 := sp_is (k := 2) (by decide) h72
  exact X.cut ((_, _)) ⟨lkV rfl rfl, lkV rfl rfl, rfl, rfl, rfl, trivial⟩ ⟨by rw [rkK, g]; rfl, by rw [rk0N, g]; rfl, by rw [show rkR m = rkB m from by simp [rkR, g]]; exact hs.to⟩)
 refine C.seq (C.region (R.ev rfl (E.eql rfl rfl) (R.ev rfl (E.assign rfl) (R.done (X.keep [(1, _), (2, _), (5, _), (6, _), (7, _), (56, _), (78, _)] ⟨rfl, rfl, rfl, rfl, rfl, rfl, rfl, trivial⟩ (X.next ?_))))))
 refine C.cdec rfl (fun h78 => ?_) (fun h78 => ?_)
 refine C.region ?_
 refine R.buildSlice1 (parts := [(0, _), (1, _), (2, _), (3, _)]) (vs := [_, _, _, _]) rfl rfl rfl Tryz.underlying119 Tryz.sz3 Tryz.zr3 rfl (by simp [Value.oneCell']) (by decide) ?_
 intro b80 w80 n80
 have hs := hs.new n80
 refine R.ev rfl (E.fieldAddr0 4 rfl Tryz.underlying66 rfl Tryz.sz5 rfl) (R.ev rfl (E.load1 rfl Tryz.underlying5 rfl (by exact hs.ldc)) ?_)
 refine R.ev rfl ((E.rem rfl rfl (by omega) (by omega)).isI (c := ((m.leaf.toNat % 4 : Nat) : Int)) (by omega)) ?_
 refine R.ev rfl (E.indexAddr1 (m.leaf.toNat % 4) rfl rfl Tryz.underlying119 Tryz.sz3 rfl (by omega)) ?_
 refine R.ev rfl (E.load1 rfl Tryz.underlying3 rfl (hs.ld (b := b80) (pick4_at _ _ _ _ m.leaf))) ?_
 refine R.ev rfl (E.fieldAddr0 49 rfl Tryz.underlying69 rfl Tryz.sz31 rfl) (R.ev rfl (E.fieldAddrN 0 rfl Tryz.underlying31 rfl Tryz.sz3 rfl) ?_)
 refine R.cstore1 (b := b5) hs rfl rfl Tryz.sz3 (by rw [encO_len]; decide) rfl ?_
 intro w158 hs
 rw [encO_ph] at hs
 refine R.done (X.keep [(1, _), (2, _), (5, _), (6, _), (7, _)] ⟨rfl, rfl, rfl, rfl, rfl, trivial⟩ ?_)
 (have g : m.spoil = 3 := sp_is (k := 3) (by decide) h78
  exact X.cut ((_, _)) ⟨lkV rfl rfl, lkV rfl rfl, rfl, rfl, rfl, trivial⟩ ⟨by rw [rkK, g]; rfl, by rw [rk0N, g]; rfl, by rw [show rkR m = { rkB m with pu := ⟨pick4 [0, 9, -1, 8] m.leaf, (rkB m).pu.r⟩ } from by simp [rkR, g]]; exact hs.to⟩)
 refine C.seq (C.region (R.ev rfl (E.eql rfl rfl) (R.ev rfl (E.assign rfl) (R.done (X.keep [(1, _), (2, _), (5, _), (6, _), (7, _), (56, _), (88, _)] ⟨rfl, rfl, rfl, rfl, rfl, rfl, rfl, trivial⟩ (X.next ?_))))))
 refine C.cdec rfl (fun h88 => ?_) (fun h88 => ?_)
 refine C.region ?_
 refine R.buildSlice1 (parts := [(0, _), (1, _), (2, _), (3, _)]) (vs := [_, _, _, _]) rfl rfl rfl Tryz.underlying119 Tryz.sz3 Tryz.zr3 rfl (by simp [Value.oneCell']) (by decide) ?_
 intro b90 w90 n90
 have hs := hs.new n90
 refine R.ev rfl (E.fieldAddr0 4 rfl Tryz.underlying66 rfl Tryz.sz5 rfl) (R.ev rfl (E.load1 rfl Tryz.underlying5 rfl (by exact hs.ldc)) ?_)
 refine R.ev rfl ((E.rem rfl rfl (by omega) (by omega)).isI (c := ((m.leaf.toNat % 4 : Nat) : Int)) (by omega)) ?_
 refine R.ev rfl (E.indexAddr1 (m.leaf.toNat % 4) rfl rfl Tryz.underlying119 Tryz.sz3 rfl (by omega)) ?_
 refine R.ev rfl (E.load1 rfl Tryz.underlying3 rfl (hs.ld (b := b90) (pick4_at _ _ _ _ m.leaf))) ?_
 refine R.ev rfl (E.fieldAddr0 67 rfl Tryz.underlying69 rfl Tryz.sz31 rfl) (R.ev rfl (E.fieldAddrN 0 rfl Tryz.underlying31 rfl Tryz.sz3 rfl) ?_)
 refine R.cstore1 (b := b5) hs rfl rfl Tryz.sz3 (by rw [encO_len]; decide) rfl ?_
 intro w178 hs
 rw [encO_nh] at hs
 refine R.done (X.keep [(1, _), (2, _), (5, _), (6, _), (7, _)] ⟨rfl, rfl, rfl, rfl, rfl, trivial⟩ ?_)
 (have g : m.spoil = 4 := sp_is (k := 4) (by decide) h88
  exact X.cut ((_, _)) ⟨lkV rfl rfl, lkV rfl rfl, rfl, rfl, rfl, trivial⟩ ⟨by rw [rkK, g]; rfl, by rw [rk0N, g]; rfl, by rw [show rkR m = { rkB m with nw := ⟨pick4 [0, 9, -1, 8] m.leaf, (rkB m).nw.r⟩ } from by simp [rkR, g]]; exact hs.to⟩)
 refine C.seq (C.region (R.ev rfl (E.eql rfl rfl) (R.ev rfl (E.assign rfl) (R.done (X.keep [(1, _), (2, _), (5, _), (6, _), (7, _), (56, _), (98, _)] ⟨rfl, rfl, rfl, rfl, rfl, rfl, rfl, trivial⟩ (X.next ?_))))))
 refine C.cdec rfl (fun h98 => ?_) (fun h98 => ?_)
 refine C.region (R.ev rfl (E.fieldAddr0 49 rfl Tryz.underlying69 rfl Tryz.sz31 rfl) (R.ev rfl (E.loadRowC rfl Tryz.underlying31 rfl Tryz.sz31 (by exact hs.ldp)) (R.ev rfl (E.fieldAddr0 67 rfl Tryz.underlying69 rfl Tryz.sz31 rfl) ?_)))
 refine R.cstore (b := b5) hs rfl rfl Tryz.sz31 (encP_len _) (by rw [encO_len]; decide) (encP_one _) ?_
 intro w193 hs
 rw [encO_nw] at hs
 refine R.done (X.keep [(1, _), (2, _), (5, _), (6, _), (7, _)] ⟨rfl, rfl, rfl, rfl, rfl, trivial⟩ ?_)
 (have g : m.spoil = 5 := sp_is (k := 5) (by decide) h98
  exact X.cut ((_, _)) ⟨lkV rfl rfl, lkV rfl rfl, rfl, rfl, rfl, trivial⟩ ⟨by rw [rkK, g]; rfl, by rw [rk0N, g]; rfl, by rw [show rkR m = { rkB m with nw := (rkB m).pu } from by simp [rkR, g]]; exact hs.to⟩)
 refine C.seq (C.region (R.ev rfl (E.eql rfl rfl) (R.ev rfl (E.assign rfl) (R.done (X.keep [(1, _), (2, _), (5, _), (6, _), (7, _), (56, _), (103, _)] ⟨rfl, rfl, rfl, rfl, rfl, rfl, rfl, trivial⟩ (X.next ?_))))))
 refine C.cdec rfl (fun h103 => ?_) (fun h103 => ?_)
 refine C.region ?_
 refine R.buildSlice1 (parts := [(0, _), (1, _), (2, _), (3, _)]) (vs := [_, _, _, _]) rfl rfl rfl Tryz.underlying119 Tryz.sz3 Tryz.zr3 rfl (by simp [Value.oneCell']) (by decide) ?_
 intro b105 w105 n105
 have hs := hs.new n105
 refine R.ev rfl (E.fieldAddr0 4 rfl Tryz.underlying66 rfl Tryz.sz5 rfl) (R.ev rfl (E.load1 rfl Tryz.underlying5 rfl (by exact hs.ldc)) ?_)
 refine R.ev rfl ((E.rem rfl rfl (by omega) (by omega)).isI (c := ((m.leaf.toNat % 4 : Nat) : Int)) (by omega)) ?_
 refine R.ev rfl (E.indexAddr1 (m.leaf.toNat % 4) rfl rfl Tryz.underlying119 Tryz.sz3 rfl (by omega)) ?_
 refine R.ev rfl (E.load1 rfl Tryz.underlying3 rfl (hs.ld (b := b105) (pick4_at _ _ _ _ m.leaf))) ?_
 refine R.ev rfl (E.fieldAddr0 66 rfl Tryz.underlying69 rfl Tryz.sz3 rfl) ?_
 refine R.cstore1 (b := b5) hs rfl rfl Tryz.sz3 (by rw [encO_len]; decide) rfl ?_
 intro w217 hs
 rw [encO_leaf] at hs
 refine R.done (X.keep [(1, _), (2, _), (5, _), (6, _), (7, _)] ⟨rfl, rfl, rfl, rfl, rfl, trivial⟩ ?_)
 (have g : m.spoil = 6 := sp_is (k := 6) (by decide) h103
  exact X.cut ((_, _)) ⟨lkV rfl rfl, lkV rfl rfl, rfl, rfl, rfl, trivial⟩ ⟨by rw [rkK, g]; rfl, by rw [rk0N, g]; rfl, by rw [show rkR m = { rkB m with leaf := pick4 [-1, 8, 2, 4] m.leaf } from by simp [rkR, g]]; exact hs.to⟩)
 refine C.seq (C.region (R.ev rfl (E.eql rfl rfl) (R.ev rfl (E.assign rfl) (R.done (X.keep [(1, _), (2, _), (5, _), (6, _), (7, _), (112, _)] ⟨rfl, rfl, rfl, rfl, rfl, rfl, trivial⟩ (X.next ?_))))))
 refine C.cdec rfl (fun h112 => ?_) (fun h112 => ?_)
 refine C.region (R.ev rfl (E.fieldAddr0 32 rfl Tryz.underlying69 rfl Tryz.sz28 rfl) ?_)
 refine R.ev rfl (E.indexAddrA (i := 3) rfl rfl Tryz.underlying28 Tryz.sz5 rfl (by decide)) ?_
 refine R.ev rfl (E.load1 rfl Tryz.underlying5 rfl (hs.ld (b := b5) (encO_au3 (rkB m)))) ?_
 refine R.ev rfl ((E.xor rfl rfl).as (u := ub ((rkB m).au.1.getD 3 0 ^^^ 1)) (xor1_ub _)) ?_
 refine R.ev rfl (E.fieldAddr0 32 rfl Tryz.underlying69 rfl Tryz.sz28 rfl) ?_
 refine R.ev rfl (E.indexAddrA (i := 3) rfl rfl Tryz.underlying28 Tryz.sz5 rfl (by decide)) ?_
 refine R.cstore1 (b := b5) hs rfl rfl Tryz.sz5 (by rw [encO_len]; decide) rfl ?_
 intro w236 hs
 rw [show (32 + 3 * 1 : Nat) = 35 from rfl, encO_flip] at hs
 refine R.done (X.keep [(1, _), (2, _), (5, _), (6, _), (7, _)] ⟨rfl, rfl, rfl, rfl, rfl, trivial⟩ ?_)
 (have g : m.spoil = 7 := sp_is (k := 7) (by decide) h112
  exact X.cut ((_, _)) ⟨lkV rfl rfl, lkV rfl rfl, rfl, rfl, rfl, trivial⟩ ⟨by rw [rkK, g]; rfl, by rw [rk0N, g]; rfl, by rw [show rkR m = { rkB m with au := flip3 (rkB m).au } from by simp [rkR, g]]; exact hs.to⟩)
 refine C.skip ?_
 (have g0 : m.spoil ≠ 0 := sp_not (k := 0) (by decide) h57
  have g1 : m.spoil ≠ 1 := sp_not (k := 1) (by decide) h63
  have g2 : m.spoil ≠ 2 := sp_not (k := 2) (by decide) h72
  have g3 : m.spoil ≠ 3 := sp_not (k := 3) (by decide) h78
  have g4 : m.spoil ≠ 4 := sp_not (k := 4) (by decide) h88
  have g5 : m.spoil ≠ 5 := sp_not (k := 5) (by decide) h98
  have g6 : m.spoil ≠ 6 := sp_not (k := 6) (by decide) h103
  have g7 : m.spoil ≠ 7 := sp_not (k := 7) (by decide) h112
  exact X.cut ((_, _)) ⟨lkV rfl rfl, lkV rfl rfl, rfl, rfl, rfl, trivial⟩ ⟨by rw [rkK, if_neg g0], by rw [rk0N, if_neg g2], by rw [rkR, if_neg g1, if_neg g3, if_neg g4, if_neg g5, if_neg g6, if_neg g7]; exact hs.to⟩)
 rintro ⟨_, _⟩ w7 ⟨rfl, rfl, hs⟩
 refine X.keep [(1, _), (2, _), (5, _), (6, _), (7, _)] ⟨rfl, rfl, rfl, rfl, rfl, trivial⟩ (X.blockNormal (X.next (C.seq (C.seq (C.region (R.ev rfl (E.fieldAddr0 6 rfl Tryz.underlying66 rfl Tryz.sz5 rfl) (R.ev rfl (E.load1 rfl Tryz.underlying5 rfl (by exact hs.ldc)) (R.ev rfl (E.eql rfl rfl) ?_))))))))
 refine R.done (X.keep [(2, _), (5, _), (6, _), (7, _), (122, _)] ⟨rfl, rfl, rfl, rfl, rfl, trivial⟩ (X.next ?_))
 refine C.cdec rfl (fun h122 => ?_) (fun h122 => ?_)
 refine C.region ?_
 have g : m.spoil = 1 := sp_is (k := 1) (by decide) h122
 have hrn : -1 ≤ (rkR m).n ∧ (rkR m).n ≤ 1099511627776 := by
   rw [show rkR m = { rkB m with n := pick4 [-1, 1000, 999, 1099511627776] m.leaf } from by simp [rkR, g]]
   dsimp only
   rcases pick4_mem (a := -1) (b := 1000) (c := 999) (d := 1099511627776) (k := m.leaf) with e | e | e | e <;> rw [e] <;> decide
 refine R.ev rfl (E.fieldAddr0 48 rfl Tryz.underlying69 rfl Tryz.sz3 rfl) (R.ev rfl (E.load1 rfl Tryz.underlying3 rfl (by exact hs.ldc)) (R.ev rfl (E.add rfl rfl (by omega) (by omega)) (R.ev rfl (E.assign rfl) (R.done (X.keep [(2, _), (5, _), (6, _), (7, _)] ⟨rfl, rfl, rfl, rfl, trivial⟩ (X.next (C.seq (C.region ?_))))))))
 refine R.ev rfl (E.loadRowC rfl Tryz.underlying69 rfl Tryz.sz69 (by exact ⟨hs.ldA, by assumption⟩)) (R.ev rfl (E.move rfl) (R.ev rfl (E.move rfl) ?_))
 refine R.cstoreAll hs rfl rfl Tryz.sz69 (by rfl) (by assumption) (by exact Enc.one _) ?_
 intro w26_3 hs
 try simp only [List.set_cons_zero, List.set_cons_succ] at hs
 refine R.ev rfl (E.assign rfl) (R.ev rfl (E.assign rfl) (R.done (X.keep [(2, _), (3, _), (4, _)] ⟨rfl, rfl, rfl, trivial⟩ (X.next (C.ret ?_)))))
 refine X.resCTT rfl rfl Tryz.underlying69 rfl Tryz.sz69 (by exact ⟨hs.ldA, by assumption⟩) rfl rfl ?_
 (have g : m.spoil = 1 := sp_is (k := 1) (by decide) h122
  exact ⟨by rw [rkT, if_pos g], hs.to⟩)
 refine C.skip (X.next (C.seq (C.region (R.ev rfl (E.loadRowC rfl Tryz.underlying69 rfl Tryz.sz69 (by exact ⟨hs.ldA, by assumption⟩)) (R.ev rfl (E.move rfl) (R.ev rfl (E.move rfl) ?_))))))
 refine R.cstoreAll hs rfl rfl Tryz.sz69 (by rfl) (by assumption) (by exact Enc.one _) ?_
 intro w26_3 hs
 try simp only [List.set_cons_zero, List.set_cons_succ] at hs
 refine R.ev rfl (E.assign rfl) (R.ev rfl (E.assign rfl) (R.done (X.keep [(2, _), (3, _), (4, _)] ⟨rfl, rfl, rfl, trivial⟩ (X.next (C.ret ?_)))))
 refine X.resCTT rfl rfl Tryz.underlying69 rfl Tryz.sz69 (by exact ⟨hs.ldA, by assumption⟩) rfl rfl ?_
 (have g : m.spoil ≠ 1 := sp_not (k := 1) (by decide) h122
  exact ⟨by rw [rkT, if_neg g]; rfl, hs.to⟩)
end Go.Proofs.YtbkgibgomohdjaaGreatDoor
