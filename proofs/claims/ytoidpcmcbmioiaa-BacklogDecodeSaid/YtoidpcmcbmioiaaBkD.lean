/-
  package backlog: the reader, Decode.
-/
import Derived.Test.YtoidpcmcbmioiaaBkN
namespace Go.Proofs.Ytoidpcmcbmioiaa
open Go.Eng Go.RowKit

/-- a reader: the rest, the first error -/
structure Rdr where
  rest : List UInt8
  err : Int
def Rdr.short (r : Rdr) (n : Nat) : Int := if r.err = 0 ∧ r.rest.length < n then 23 else r.err
def Rdr.bs (r : Rdr) (n : Nat) : List UInt8 := if r.short n = 0 then r.rest.take n else List.replicate n 0
def Rdr.go (r : Rdr) (n : Nat) : Rdr := if r.short n = 0 then ⟨r.rest.drop n, 0⟩ else ⟨r.rest, r.short n⟩
def Rdr.req (r : Rdr) (ok : Bool) : Rdr := if r.err = 0 ∧ ok = false then ⟨r.rest, 3⟩ else r
def toI (l : List UInt8) : Int := if beNat l ≤ 9223372036854775807 then (beNat l : Int) else -1
def Rdr.val (r : Rdr) : Int := toI (r.bs 8)
def Rdr.num (r : Rdr) (q : Int → Bool) : Rdr := (r.go 8).req (q r.val)
theorem Rdr.short0 {r : Rdr} {n : Nat} (h : r.short n = 0) : r.err = 0 ∧ n ≤ r.rest.length := by
  unfold Rdr.short at h
  split at h
  · exact absurd h (by decide)
  · rename_i h2; exact ⟨h, by omega⟩
theorem Rdr.bs_len (r : Rdr) (n : Nat) : (r.bs n).length = n := by
  unfold Rdr.bs
  by_cases h : r.short n = 0
  · rw [if_pos h, List.length_take]; have := Rdr.short0 h; omega
  · rw [if_neg h]; simp
theorem Rdr.short_T {r : Rdr} {n : Nat} (h1 : decide (r.err = 0) = true) (h2 : decide ((r.rest.length : Int) < (n : Int)) = true) : r.short n = 23 := by
  rw [Rdr.short, if_pos]; exact ⟨of_decide_eq_true h1, by have := of_decide_eq_true h2; omega⟩
theorem Rdr.short_F1 {r : Rdr} {n : Nat} (h1 : decide (r.err = 0) = false) : r.short n = r.err := by
  rw [Rdr.short, if_neg]; exact fun h => of_decide_eq_false h1 h.1
theorem Rdr.short_F2 {r : Rdr} {n : Nat} (h2 : decide ((r.rest.length : Int) < (n : Int)) = false) : r.short n = r.err := by
  rw [Rdr.short, if_neg]; have := of_decide_eq_false h2; omega
variable {K : Kn} {Hs Rs : List Hl} {F G : Hl} {w : World} {p q : Nat} {v : Value} {r : Rdr}
theorem take_any (n : Nat) (hs : Sat K w (row q 94 [v, .int .i64 r.err] :: Rs)) [hr : KRow encB 1 K v r.rest] (hn : n ≤ 1000) :
    Ret Try.prog 56 #[ptr q, .int .i64 (n : Nat)] w fun x w' => ∃ K' v', KLe K K' ∧ KRow encB 1 K' x (r.bs n) ∧ KRow encB 1 K' v' (r.go n).rest ∧ Sat K' w' (row q 94 [v', .int .i64 (r.go n).err] :: Rs) := by
  obtain ⟨ad, cap, rfl, hsl, hc⟩ := hr.ex
  refine Ret.enter (n := 46) (args := [ptr q, .int .i64 (n : Nat)]) Try.func56 rfl rfl ?_
  refine C.keep [(0, _), (1, _)] ⟨rfl, rfl, trivial⟩ ?_
  refine C.seq ?_
  refine C.region ?_
  refine R.ev rfl (E.assign rfl) ?_
  refine R.done ?_
  refine X.keep [(0, _), (1, _)] ⟨rfl, rfl, trivial⟩ ?_
  refine X.next ?_
  refine C.seq ?_
  refine C.seq ?_
  refine C.region ?_
  refine R.ev rfl (E.move rfl) ?_
  refine R.ev rfl (E.nilCheck rfl) ?_
  first | refine R.ev rfl (E.fieldAddr0 1 rfl Try.underlying94 rfl Try.sz26 rfl) ?_ | refine R.ev rfl (E.fieldAddrN 1 rfl Try.underlying94 rfl Try.sz26 rfl) ?_
  refine R.ev rfl (E.load1 rfl Try.underlying26 rfl (by first | exact hs.ldc | exact hs.ld rfl | exact hs.ld (by assumption) | exact by assumption | exact At.cellC (by assumption))) ?_
  refine R.ev rfl (E.eql rfl rfl) ?_
  refine R.ev rfl (E.move rfl) ?_
  refine R.split 11 rfl (fun h11 => ?_) (fun h11 => ?_)
  · refine R.gyes rfl rfl ?_
    refine R.ev rfl (E.move rfl) ?_
    refine R.gyes rfl rfl ?_
    refine R.ev rfl (E.nilCheck rfl) ?_
    refine R.gyes rfl rfl ?_
    first | refine R.ev rfl (E.fieldAddr0 0 rfl Try.underlying94 rfl Try.sz57 rfl) ?_ | refine R.ev rfl (E.fieldAddrN 0 rfl Try.underlying94 rfl Try.sz57 rfl) ?_
    refine R.gyes rfl rfl ?_
    refine R.ev rfl (E.load1 rfl Try.underlying57 rfl (by first | exact hs.ldc | exact hs.ld rfl | exact hs.ld (by assumption) | exact by assumption | exact At.cellC (by assumption))) ?_
    refine R.gyes rfl rfl ?_
    refine R.ev rfl (E.lenSl rfl Try.underlying57) ?_
    refine R.gyes rfl rfl ?_
    refine R.ev rfl (E.move rfl) ?_
    refine R.gyes rfl rfl ?_
    refine R.ev rfl (E.lss rfl rfl) ?_
    refine R.ev rfl (E.pickT rfl rfl) ?_
    refine R.done ?_
    refine X.keep [(0, _), (1, _), (19, _)] ⟨rfl, rfl, rfl, trivial⟩ ?_
    refine X.next ?_
    refine C.cut [(0, _), (1, _)] (fun (_ : Unit) => []) (fun _ w' => Sat K w' (row q 94 [.slice ad r.rest.length cap, .int .i64 (r.short n)] :: Rs)) ⟨rfl, rfl, trivial⟩ ?_ ?_
    · refine C.cbool rfl (fun h19 => ?_) (fun h19 => ?_)
      · refine C.region ?_
        refine R.ev rfl (E.move rfl) ?_
        refine R.ev rfl (E.nilCheck rfl) ?_
        first | refine R.ev rfl (E.fieldAddr0 1 rfl Try.underlying94 rfl Try.sz26 rfl) ?_ | refine R.ev rfl (E.fieldAddrN 1 rfl Try.underlying94 rfl Try.sz26 rfl) ?_
        refine R.cstore1 hs rfl rfl Try.sz26 (by first | decide | simp [*]) (by first | rfl | exact OneC.one | exact KRow.oneC' (by assumption)) ?_
        intro w2_3 hs
        try simp only [List.set_cons_zero, List.set_cons_succ] at hs
        refine R.done ?_
        refine X.keep [(0, _), (1, _)] ⟨rfl, rfl, trivial⟩ ?_
        first
          | exact X.cut (()) ⟨rfl, rfl, trivial⟩ (by rw [Rdr.short_T h11 h19]; exact hs.to)
          | exact X.cut (()) ⟨rfl, rfl, trivial⟩ (by rw [Rdr.short_F2 h19]; exact hs.to)
          | exact X.cut (()) ⟨rfl, rfl, trivial⟩ (by rw [Rdr.short_F1 h11]; exact hs.to)
      · refine C.skip ?_
        first
          | exact X.cut (()) ⟨rfl, rfl, trivial⟩ (by rw [Rdr.short_T h11 h19]; exact hs.to)
          | exact X.cut (()) ⟨rfl, rfl, trivial⟩ (by rw [Rdr.short_F2 h19]; exact hs.to)
          | exact X.cut (()) ⟨rfl, rfl, trivial⟩ (by rw [Rdr.short_F1 h11]; exact hs.to)
    · rintro _ w2 hs
      refine X.keep [(0, _), (1, _)] ⟨rfl, rfl, trivial⟩ ?_
      refine X.next ?_
      refine C.seq ?_
      refine C.seq ?_
      refine C.region ?_
      refine R.ev rfl (E.move rfl) ?_
      refine R.ev rfl (E.nilCheck rfl) ?_
      first | refine R.ev rfl (E.fieldAddr0 1 rfl Try.underlying94 rfl Try.sz26 rfl) ?_ | refine R.ev rfl (E.fieldAddrN 1 rfl Try.underlying94 rfl Try.sz26 rfl) ?_
      refine R.ev rfl (E.load1 rfl Try.underlying26 rfl (by first | exact hs.ldc | exact hs.ld rfl | exact hs.ld (by assumption) | exact by assumption | exact At.cellC (by assumption))) ?_
      refine R.ev rfl (E.neq rfl rfl) ?_
      refine R.done ?_
      refine X.keep [(0, _), (1, _), (27, _)] ⟨rfl, rfl, rfl, trivial⟩ ?_
      refine X.next ?_
      refine C.cdec rfl (fun h27 => ?_) (fun h27 => ?_)
      · refine C.seq ?_
        refine C.region ?_
        refine R.ev rfl (E.move rfl) ?_
        refine R.cmakeZ (enc := encB) (0 : UInt8) (m := n) hs rfl rfl Try.underlying57 Try.by5 rfl rfl rfl rfl (by omega) (by omega) (by decide) ?_
        intro b29 w29 r29 hs
        obtain ⟨K2, hk2, rr, hs⟩ := r29.freezeK hs
        refine R.ev rfl (E.assign rfl) ?_
        refine R.done ?_
        refine X.keep [(4, _)] ⟨rfl, trivial⟩ ?_
        refine X.next ?_
        refine C.ret ?_
        refine X.thenRet ?_
        refine X.ret1 rfl rfl ?_
        exact ⟨K2, .slice ad r.rest.length cap, hk2, by rw [Rdr.bs, if_neg h27]; exact rr, by rw [Rdr.go, if_neg h27]; exact KRow.mono (h := hr), by rw [Rdr.go, if_neg h27]; exact hs.to⟩
      · refine C.skip ?_
        refine X.next ?_
        refine C.seq ?_
        refine C.region ?_
        have h27 : r.short n = 0 := by simpa using h27
        have hle := (Rdr.short0 h27).2
        refine R.ev rfl (E.move rfl) ?_
        refine R.ev rfl (E.nilCheck rfl) ?_
        first | refine R.ev rfl (E.fieldAddr0 0 rfl Try.underlying94 rfl Try.sz57 rfl) ?_ | refine R.ev rfl (E.fieldAddrN 0 rfl Try.underlying94 rfl Try.sz57 rfl) ?_
        refine R.ev rfl (E.load1 rfl Try.underlying57 rfl (by first | exact hs.ldc | exact hs.ld rfl | exact hs.ld (by assumption) | exact by assumption | exact At.cellC (by assumption))) ?_
        refine R.ev rfl (E.move rfl) ?_
        refine R.ev rfl (E.sliceH rfl rfl Try.underlying57 Try.sz5 rfl (by omega)) ?_
        refine R.ev rfl (E.assign rfl) ?_
        refine R.done ?_
        refine X.keep [(0, _), (1, _), (5, _)] ⟨rfl, rfl, rfl, trivial⟩ ?_
        refine X.next ?_
        refine C.seq ?_
        refine C.region ?_
        refine R.ev rfl (E.move rfl) ?_
        refine R.ev rfl (E.move rfl) ?_
        refine R.ev rfl (E.nilCheck rfl) ?_
        first | refine R.ev rfl (E.fieldAddr0 0 rfl Try.underlying94 rfl Try.sz57 rfl) ?_ | refine R.ev rfl (E.fieldAddrN 0 rfl Try.underlying94 rfl Try.sz57 rfl) ?_
        refine R.ev rfl (E.load1 rfl Try.underlying57 rfl (by first | exact hs.ldc | exact hs.ld rfl | exact hs.ld (by assumption) | exact by assumption | exact At.cellC (by assumption))) ?_
        refine R.ev rfl (E.move rfl) ?_
        refine R.ev rfl (E.sliceLs (a := n) rfl rfl Try.underlying57 Try.sz5 rfl (by omega)) ?_
        refine R.ev rfl (E.nilCheck rfl) ?_
        first | refine R.ev rfl (E.fieldAddr0 0 rfl Try.underlying94 rfl Try.sz57 rfl) ?_ | refine R.ev rfl (E.fieldAddrN 0 rfl Try.underlying94 rfl Try.sz57 rfl) ?_
        refine R.cstore1 hs rfl rfl Try.sz57 (by first | decide | simp [*]) (by first | rfl | exact OneC.one | exact KRow.oneC' (by assumption)) ?_
        intro w6_9 hs
        try simp only [List.set_cons_zero, List.set_cons_succ] at hs
        refine R.done ?_
        refine X.keep [(5, _)] ⟨rfl, trivial⟩ ?_
        refine X.next ?_
        refine C.seq ?_
        refine C.region ?_
        refine R.ev rfl (E.move rfl) ?_
        refine R.ev rfl (E.assign rfl) ?_
        refine R.done ?_
        refine X.keep [(4, _)] ⟨rfl, trivial⟩ ?_
        refine X.next ?_
        refine C.ret ?_
        refine X.ret1 rfl rfl ?_
        exact ⟨K, _, KLe.refl K, by rw [Rdr.bs, if_pos h27]; exact hr.first hle, by rw [Rdr.go, if_pos h27]; exact hr.behind hle, by rw [Rdr.go, if_pos h27]; rw [h27] at hs; exact hs.to⟩
  · refine R.gskip rfl rfl rfl ?_
    refine R.gskip rfl rfl rfl ?_
    refine R.gskip rfl rfl rfl ?_
    refine R.gskip rfl rfl rfl ?_
    refine R.gskip rfl rfl rfl ?_
    refine R.gskip rfl rfl rfl ?_
    refine R.gskip rfl rfl rfl ?_
    refine R.ev rfl (E.pickF rfl rfl) ?_
    refine R.done ?_
    refine X.keep [(0, _), (1, _), (19, _)] ⟨rfl, rfl, rfl, trivial⟩ ?_
    refine X.next ?_
    refine C.cut [(0, _), (1, _)] (fun (_ : Unit) => []) (fun _ w' => Sat K w' (row q 94 [.slice ad r.rest.length cap, .int .i64 (r.short n)] :: Rs)) ⟨rfl, rfl, trivial⟩ ?_ ?_
    · refine C.cfalse rfl ?_
      refine C.skip ?_
      first
        | exact X.cut (()) ⟨rfl, rfl, trivial⟩ (by rw [Rdr.short_T h11 h19]; exact hs.to)
        | exact X.cut (()) ⟨rfl, rfl, trivial⟩ (by rw [Rdr.short_F2 h19]; exact hs.to)
        | exact X.cut (()) ⟨rfl, rfl, trivial⟩ (by rw [Rdr.short_F1 h11]; exact hs.to)
    · rintro _ w2 hs
      refine X.keep [(0, _), (1, _)] ⟨rfl, rfl, trivial⟩ ?_
      refine X.next ?_
      refine C.seq ?_
      refine C.seq ?_
      refine C.region ?_
      refine R.ev rfl (E.move rfl) ?_
      refine R.ev rfl (E.nilCheck rfl) ?_
      first | refine R.ev rfl (E.fieldAddr0 1 rfl Try.underlying94 rfl Try.sz26 rfl) ?_ | refine R.ev rfl (E.fieldAddrN 1 rfl Try.underlying94 rfl Try.sz26 rfl) ?_
      refine R.ev rfl (E.load1 rfl Try.underlying26 rfl (by first | exact hs.ldc | exact hs.ld rfl | exact hs.ld (by assumption) | exact by assumption | exact At.cellC (by assumption))) ?_
      refine R.ev rfl (E.neq rfl rfl) ?_
      refine R.done ?_
      refine X.keep [(0, _), (1, _), (27, _)] ⟨rfl, rfl, rfl, trivial⟩ ?_
      refine X.next ?_
      refine C.cdec rfl (fun h27 => ?_) (fun h27 => ?_)
      · refine C.seq ?_
        refine C.region ?_
        refine R.ev rfl (E.move rfl) ?_
        refine R.cmakeZ (enc := encB) (0 : UInt8) (m := n) hs rfl rfl Try.underlying57 Try.by5 rfl rfl rfl rfl (by omega) (by omega) (by decide) ?_
        intro b29 w29 r29 hs
        obtain ⟨K2, hk2, rr, hs⟩ := r29.freezeK hs
        refine R.ev rfl (E.assign rfl) ?_
        refine R.done ?_
        refine X.keep [(4, _)] ⟨rfl, trivial⟩ ?_
        refine X.next ?_
        refine C.ret ?_
        refine X.thenRet ?_
        refine X.ret1 rfl rfl ?_
        exact ⟨K2, .slice ad r.rest.length cap, hk2, by rw [Rdr.bs, if_neg h27]; exact rr, by rw [Rdr.go, if_neg h27]; exact KRow.mono (h := hr), by rw [Rdr.go, if_neg h27]; exact hs.to⟩
      · refine C.skip ?_
        refine X.next ?_
        refine C.seq ?_
        refine C.region ?_
        have h27 : r.short n = 0 := by simpa using h27
        have hle := (Rdr.short0 h27).2
        refine R.ev rfl (E.move rfl) ?_
        refine R.ev rfl (E.nilCheck rfl) ?_
        first | refine R.ev rfl (E.fieldAddr0 0 rfl Try.underlying94 rfl Try.sz57 rfl) ?_ | refine R.ev rfl (E.fieldAddrN 0 rfl Try.underlying94 rfl Try.sz57 rfl) ?_
        refine R.ev rfl (E.load1 rfl Try.underlying57 rfl (by first | exact hs.ldc | exact hs.ld rfl | exact hs.ld (by assumption) | exact by assumption | exact At.cellC (by assumption))) ?_
        refine R.ev rfl (E.move rfl) ?_
        refine R.ev rfl (E.sliceH rfl rfl Try.underlying57 Try.sz5 rfl (by omega)) ?_
        refine R.ev rfl (E.assign rfl) ?_
        refine R.done ?_
        refine X.keep [(0, _), (1, _), (5, _)] ⟨rfl, rfl, rfl, trivial⟩ ?_
        refine X.next ?_
        refine C.seq ?_
        refine C.region ?_
        refine R.ev rfl (E.move rfl) ?_
        refine R.ev rfl (E.move rfl) ?_
        refine R.ev rfl (E.nilCheck rfl) ?_
        first | refine R.ev rfl (E.fieldAddr0 0 rfl Try.underlying94 rfl Try.sz57 rfl) ?_ | refine R.ev rfl (E.fieldAddrN 0 rfl Try.underlying94 rfl Try.sz57 rfl) ?_
        refine R.ev rfl (E.load1 rfl Try.underlying57 rfl (by first | exact hs.ldc | exact hs.ld rfl | exact hs.ld (by assumption) | exact by assumption | exact At.cellC (by assumption))) ?_
        refine R.ev rfl (E.move rfl) ?_
        refine R.ev rfl (E.sliceLs (a := n) rfl rfl Try.underlying57 Try.sz5 rfl (by omega)) ?_
        refine R.ev rfl (E.nilCheck rfl) ?_
        first | refine R.ev rfl (E.fieldAddr0 0 rfl Try.underlying94 rfl Try.sz57 rfl) ?_ | refine R.ev rfl (E.fieldAddrN 0 rfl Try.underlying94 rfl Try.sz57 rfl) ?_
        refine R.cstore1 hs rfl rfl Try.sz57 (by first | decide | simp [*]) (by first | rfl | exact OneC.one | exact KRow.oneC' (by assumption)) ?_
        intro w6_9 hs
        try simp only [List.set_cons_zero, List.set_cons_succ] at hs
        refine R.done ?_
        refine X.keep [(5, _)] ⟨rfl, trivial⟩ ?_
        refine X.next ?_
        refine C.seq ?_
        refine C.region ?_
        refine R.ev rfl (E.move rfl) ?_
        refine R.ev rfl (E.assign rfl) ?_
        refine R.done ?_
        refine X.keep [(4, _)] ⟨rfl, trivial⟩ ?_
        refine X.next ?_
        refine C.ret ?_
        refine X.ret1 rfl rfl ?_
        exact ⟨K, _, KLe.refl K, by rw [Rdr.bs, if_pos h27]; exact hr.first hle, by rw [Rdr.go, if_pos h27]; exact hr.behind hle, by rw [Rdr.go, if_pos h27]; rw [h27] at hs; exact hs.to⟩
theorem require_any (ok : Bool) (hs : Sat K w (row q 94 [v, .int .i64 r.err] :: Rs)) : Ret Try.prog 57 #[ptr q, .bool ok] w fun _ w' => Sat K w' (row q 94 [v, .int .i64 (r.req ok).err] :: Rs) := by
  refine Ret.enter (n := 16) (args := [ptr q, .bool ok]) Try.func57 rfl rfl ?_
  refine C.keep [(0, _), (1, _)] ⟨rfl, rfl, trivial⟩ ?_
  refine C.seq ?_
  refine C.region ?_
  refine R.ev rfl (E.move rfl) ?_
  refine R.ev rfl (E.nilCheck rfl) ?_
  first | refine R.ev rfl (E.fieldAddr0 1 rfl Try.underlying94 rfl Try.sz26 rfl) ?_ | refine R.ev rfl (E.fieldAddrN 1 rfl Try.underlying94 rfl Try.sz26 rfl) ?_
  refine R.ev rfl (E.load1 rfl Try.underlying26 rfl (by first | exact hs.ldc | exact hs.ld rfl | exact hs.ld (by assumption) | exact by assumption | exact At.cellC (by assumption))) ?_
  refine R.ev rfl (E.eql rfl rfl) ?_
  refine R.ev rfl (E.move rfl) ?_
  refine R.split 9 rfl (fun h9 => ?_) (fun h9 => ?_)
  · refine R.gyes rfl rfl ?_
    refine R.ev rfl (E.move rfl) ?_
    refine R.gyes rfl rfl ?_
    refine R.ev rfl (E.not rfl) ?_
    refine R.ev rfl (E.pickT rfl rfl) ?_
    refine R.done ?_
    refine X.keep [(0, _), (12, _)] ⟨rfl, rfl, trivial⟩ ?_
    refine X.next ?_
    refine C.cbool rfl (fun h12 => ?_) (fun h12 => ?_)
    · refine C.region ?_
      refine R.ev rfl (E.move rfl) ?_
      refine R.ev rfl (E.nilCheck rfl) ?_
      first | refine R.ev rfl (E.fieldAddr0 1 rfl Try.underlying94 rfl Try.sz26 rfl) ?_ | refine R.ev rfl (E.fieldAddrN 1 rfl Try.underlying94 rfl Try.sz26 rfl) ?_
      refine R.cstore1 hs rfl rfl Try.sz26 (by first | decide | simp [*]) (by first | rfl | exact OneC.one | exact KRow.oneC' (by assumption)) ?_
      intro w1_3 hs
      try simp only [List.set_cons_zero, List.set_cons_succ] at hs
      refine R.done ?_
      refine X.keep [] trivial ?_
      refine X.bodyNormal ?_
      refine X.ret0 rfl ?_
      first
        | (rw [show (r.req ok).err = 3 by rw [Rdr.req, if_pos]; exact ⟨by simpa using h9, by simpa using h12⟩]; exact hs.to)
        | (rw [show (r.req ok).err = r.err by rw [Rdr.req, if_neg]; intro h; simp_all]; exact hs.to)
    · refine C.skip ?_
      refine X.bodyNormal ?_
      refine X.ret0 rfl ?_
      first
        | (rw [show (r.req ok).err = 3 by rw [Rdr.req, if_pos]; exact ⟨by simpa using h9, by simpa using h12⟩]; exact hs.to)
        | (rw [show (r.req ok).err = r.err by rw [Rdr.req, if_neg]; intro h; simp_all]; exact hs.to)
  · refine R.gskip rfl rfl rfl ?_
    refine R.gskip rfl rfl rfl ?_
    refine R.ev rfl (E.pickF rfl rfl) ?_
    refine R.done ?_
    refine X.keep [(0, _), (12, _)] ⟨rfl, rfl, trivial⟩ ?_
    refine X.next ?_
    refine C.cfalse rfl ?_
    refine C.skip ?_
    refine X.bodyNormal ?_
    refine X.ret0 rfl ?_
    first
      | (rw [show (r.req ok).err = 3 by rw [Rdr.req, if_pos]; exact ⟨by simpa using h9, by simpa using h12⟩]; exact hs.to)
      | (rw [show (r.req ok).err = r.err by rw [Rdr.req, if_neg]; intro h; simp_all]; exact hs.to)
theorem Rdr.req_rest (r : Rdr) (ok : Bool) : (r.req ok).rest = r.rest := by unfold Rdr.req; split <;> rfl
theorem number_any (pm : Int → Bool) {fid : FuncId} {first cap : List Value} (hcal : Callable Try.prog fid)
    (hf : ∀ (n : Int) (K1 : Kn) (w1 : World) (A : Hl), KLe K K1 → Sat K1 w1 (A :: Rs) → Ret Try.prog fid (first ++ [Value.int .i64 n] ++ cap).toArray w1 fun r w' => r = .bool (pm n) ∧ Sat K1 w' (A :: Rs))
    (hs : Sat K w (row q 94 [v, .int .i64 r.err] :: Rs)) [hr : KRow encB 1 K v r.rest] :
    Ret Try.prog 55 #[ptr q, .func (.func fid) first.toArray cap.toArray] w fun x w' => ∃ K' v', x = .int .i64 r.val ∧ KLe K K' ∧ KRow encB 1 K' v' (r.num pm).rest ∧ Sat K' w' (row q 94 [v', .int .i64 (r.num pm).err] :: Rs) := by
  refine Ret.enter (n := 32) (args := [ptr q, .func (.func fid) first.toArray cap.toArray]) Try.func55 rfl rfl ?_
  refine C.keep [(0, _), (1, _)] ⟨rfl, rfl, trivial⟩ ?_
  refine C.seq ?_
  refine C.region ?_
  refine R.ev rfl (E.assign rfl) ?_
  refine R.done ?_
  refine X.keep [(0, _), (1, _)] ⟨rfl, rfl, trivial⟩ ?_
  refine X.next ?_
  refine C.seq ?_
  refine C.region ?_
  refine R.ev rfl (E.assign rfl) ?_
  refine R.done ?_
  refine X.keep [(0, _), (1, _), (5, _)] ⟨rfl, rfl, rfl, trivial⟩ ?_
  refine X.next ?_
  refine C.seq ?_
  refine C.seq ?_
  refine C.region ?_
  refine R.ev rfl (E.move rfl) ?_
  refine R.call ⟨_, _, Try.func56, rfl, by kernel_rfl⟩ rfl rfl (take_any 8 hs (by omega)) ?_
  rintro v10 w10 ⟨K2, v2, hk2, r10, r2, hs⟩
  have hbl := Rdr.bs_len r 8
  obtain ⟨ad, cp, rfl, _⟩ := r10.ex
  generalize hbs : r.bs 8 = bs at r10 hbl
  refine R.ev rfl (E.lenSl rfl Try.underlying57) ?_
  refine R.ev rfl (E.move rfl) ?_
  refine R.done ?_
  refine X.keep [(0, _), (1, _), (5, _), (10, _), (11, _), (12, _)] ⟨rfl, rfl, rfl, rfl, rfl, rfl, trivial⟩ ?_
  refine X.next ?_
  refine C.block ?_
  refine C.loop  [(0, _), (1, _), (10, _), (11, _)] (fun k => [(5, .int .u64 ((beNat (bs.take k) : Nat) : Int)), (12, .int .i64 (k : Nat))]) (fun k w' => k ≤ bs.length ∧ Sat K2 w' (row q 94 [v2, .int .i64 (r.go 8).err] :: Rs)) (fun k => bs.length - k) (0) ⟨rfl, rfl, rfl, rfl, rfl, rfl, trivial⟩ ⟨by omega, hs⟩ ?_
  rintro k w3 ⟨hk, hs⟩
  refine C.keep [(0, _), (1, _), (5, _), (10, _), (11, _), (12, _)] ⟨rfl, rfl, rfl, rfl, rfl, rfl, trivial⟩ ?_
  refine C.seq ?_
  refine C.region ?_
  refine R.ev rfl (E.lss rfl rfl) ?_
  refine R.done ?_
  refine X.keep [(0, _), (1, _), (5, _), (10, _), (11, _), (12, _), (13, _)] ⟨rfl, rfl, rfl, rfl, rfl, rfl, rfl, trivial⟩ ?_
  refine X.next ?_
  refine C.seq ?_
  refine C.cdec rfl (fun h13 => ?_) (fun h13 => ?_)
  · obtain ⟨y, bk_y, of_y, hy, my, ly, rfl, Ay⟩ := hs.el (i := k) (ad := ad) (n := bs.length) (c := cp) (by omega)
    have ay := Ay _ hs
    have hlt := beNat_lt (bs.take k)
    have hp : 256 ^ (bs.take k).length ≤ 256 ^ 7 := Nat.pow_le_pow_right (by decide) (by rw [List.length_take]; omega)
    refine C.skip ?_
    refine X.next ?_
    refine C.seq ?_
    refine C.block ?_
    refine C.seq ?_
    refine C.region ?_
    refine R.ev rfl (E.indexAddr rfl rfl Try.underlying57 Try.sz5 rfl (by first | omega | decide)) ?_
    refine R.ev rfl (E.load1 rfl Try.underlying5 rfl (ay 0 _ rfl)) ?_
    refine R.ev rfl (E.assign rfl) ?_
    refine R.done ?_
    refine X.keep [(0, _), (1, _), (5, _), (7, _), (10, _), (11, _), (12, _)] ⟨rfl, rfl, rfl, rfl, rfl, rfl, rfl, trivial⟩ ?_
    refine X.next ?_
    refine C.region ?_
    refine R.ev rfl (E.move rfl) ?_
    refine R.ev rfl (E.shl rfl rfl (by omega)) ?_
    refine R.ev rfl (E.move rfl) ?_
    refine R.ev rfl (E.conv rfl Try.underlying5 Try.underlying42) ?_
    refine R.ev rfl ((E.or rfl rfl).isI (c := ((beNat (bs.take (k + 1)) : Nat) : Int)) (by rw [take_snoc hy, beNat_snoc]; exact shl_or (by omega))) ?_
    refine R.ev rfl (E.assign rfl) ?_
    refine R.done ?_
    refine X.keep [(0, _), (1, _), (5, _), (10, _), (11, _), (12, _)] ⟨rfl, rfl, rfl, rfl, rfl, rfl, trivial⟩ ?_
    refine X.blockNormal ?_
    refine X.next ?_
    refine C.region ?_
    refine R.ev rfl (E.add rfl rfl (by omega) (by omega)) ?_
    refine R.ev rfl (E.move rfl) ?_
    refine R.done ?_
    refine X.keep [(0, _), (1, _), (5, _), (10, _), (11, _), (12, _)] ⟨rfl, rfl, rfl, rfl, rfl, rfl, trivial⟩ ?_
    exact X.again (k + 1) ⟨rfl, rfl, rfl, rfl, rfl, rfl, trivial⟩ ⟨by omega, hs.to⟩ (by omega)
  · refine C.exit ?_
    refine X.thenExit ?_
    refine X.loopExit ?_
    refine X.blockExit ?_
    refine X.next ?_
    refine C.seq ?_
    refine C.region ?_
    rw [show k = bs.length by omega, List.take_length]
    refine R.ev rfl (E.assign rfl) ?_
    refine R.done ?_
    refine X.keep [(0, _), (1, _), (5, _), (8, _)] ⟨rfl, rfl, rfl, rfl, trivial⟩ ?_
    refine X.next ?_
    refine C.seq ?_
    refine C.seq ?_
    refine C.region ?_
    refine R.ev rfl (E.move rfl) ?_
    refine R.ev rfl (E.leq rfl rfl) ?_
    refine R.done ?_
    refine X.keep [(0, _), (1, _), (5, _), (8, _), (23, _)] ⟨rfl, rfl, rfl, rfl, rfl, trivial⟩ ?_
    refine X.next ?_
    refine C.cut [(0, _), (1, _)] (fun (_ : Unit) => [(8, .int .i64 (toI bs))]) (fun _ w' => Sat K2 w' (row q 94 [v2, .int .i64 (r.go 8).err] :: Rs)) ⟨rfl, rfl, trivial⟩ ?_ ?_
    · refine C.cdec rfl (fun h23 => ?_) (fun h23 => ?_)
      · refine C.region ?_
        refine R.ev rfl (E.move rfl) ?_
        refine R.ev rfl ((E.conv rfl Try.underlying42 Try.underlying3).isI (c := toI bs) (by rw [toI, if_pos (by omega)]; exact wrap_i64 (by omega) (by omega))) ?_
        refine R.ev rfl (E.assign rfl) ?_
        refine R.done ?_
        refine X.keep [(0, _), (1, _), (8, _)] ⟨rfl, rfl, rfl, trivial⟩ ?_
        first
          | exact X.cut (()) ⟨lkV rfl rfl, rfl, rfl, trivial⟩ hs.to
          | (rw [show (-1 : Int) = toI bs by rw [toI, if_neg (by omega)]]; exact X.cut (()) ⟨lkV rfl rfl, rfl, rfl, trivial⟩ hs.to)
      · refine C.skip ?_
        first
          | exact X.cut (()) ⟨lkV rfl rfl, rfl, rfl, trivial⟩ hs.to
          | (rw [show (-1 : Int) = toI bs by rw [toI, if_neg (by omega)]]; exact X.cut (()) ⟨lkV rfl rfl, rfl, rfl, trivial⟩ hs.to)
    · rintro _ w4 hs
      refine X.keep [(0, _), (1, _), (8, _)] ⟨rfl, rfl, rfl, trivial⟩ ?_
      refine X.next ?_
      refine C.seq ?_
      refine C.region ?_
      refine R.ev rfl (E.move rfl) ?_
      refine R.ev rfl (E.move rfl) ?_
      refine R.ev rfl (E.move rfl) ?_
      refine R.callV hcal rfl rfl rfl (hf _ K2 _ _ hk2 hs) ?_
      rintro _ w10 ⟨rfl, hs⟩
      refine R.call ⟨_, _, Try.func57, rfl, by kernel_rfl⟩ rfl rfl (require_any (r := r.go 8) _ hs) ?_
      rintro _ w11 hs
      refine R.done ?_
      refine X.keep [(8, _)] ⟨rfl, trivial⟩ ?_
      refine X.next ?_
      refine C.seq ?_
      refine C.region ?_
      refine R.ev rfl (E.move rfl) ?_
      refine R.ev rfl (E.assign rfl) ?_
      refine R.done ?_
      refine X.keep [(4, _)] ⟨rfl, trivial⟩ ?_
      refine X.next ?_
      refine C.ret ?_
      refine X.ret1 rfl rfl ?_
      exact ⟨K2, v2, by rw [Rdr.val, hbs], hk2, by rw [Rdr.num, Rdr.req_rest]; exact r2, by rw [Rdr.num, Rdr.val, hbs]; exact hs.to⟩
def isTr (n : Int) : Bool := decide (0 ≤ n) && decide (n ≤ 1073741824)
def upTo (c : Int) (n : Int) : Bool := decide (0 ≤ n) && decide (n ≤ c)
theorem dec1_any {b5 : Nat} {t : TypeId} {c : Int} {a2 a3 a4 a5 : Value} (n : Int) (hs : Sat K w Hs) [h1 : InH b5 (.cells [ptr p].toArray t (0, 0)) Hs] [h2 : InH p (.cells [.int .i64 c, a2, a3, a4, a5].toArray 84 (0, 0)) Hs] :
    Ret Try.prog 58 #[.int .i64 n, ptr b5] w fun r w' => r = .bool (upTo c n) ∧ Sat K w' Hs := by
  refine Ret.enter (n := 14) (args := [.int .i64 n, ptr b5]) Try.func58 rfl rfl ?_
  refine C.keep [(0, _), (1, _)] ⟨rfl, rfl, trivial⟩ ?_
  refine C.seq ?_
  refine C.region ?_
  refine R.ev rfl (E.assign rfl) ?_
  refine R.done ?_
  refine X.keep [(0, _), (1, _)] ⟨rfl, rfl, trivial⟩ ?_
  refine X.next ?_
  refine C.seq ?_
  refine C.region ?_
  refine R.ev rfl (E.move rfl) ?_
  refine R.ev rfl (E.geq rfl rfl) ?_
  refine R.ev rfl (E.move rfl) ?_
  refine R.split 6 rfl (fun h6 => ?_) (fun h6 => ?_)
  · refine R.gyes rfl rfl ?_
    refine R.ev rfl (E.move rfl) ?_
    refine R.gyes rfl rfl ?_
    refine R.ev rfl (E.load1 rfl Try.underlying25 rfl (by first | exact hs.ldc | exact hs.ld rfl | exact hs.ld (by assumption) | exact by assumption | exact At.cellC (by assumption))) ?_
    refine R.gyes rfl rfl ?_
    refine R.ev rfl (E.nilCheck rfl) ?_
    refine R.gyes rfl rfl ?_
    first | refine R.ev rfl (E.fieldAddr0 0 rfl Try.underlying84 rfl Try.sz3 rfl) ?_ | refine R.ev rfl (E.fieldAddrN 0 rfl Try.underlying84 rfl Try.sz3 rfl) ?_
    refine R.gyes rfl rfl ?_
    refine R.ev rfl (E.load1 rfl Try.underlying3 rfl (by first | exact hs.ldc | exact hs.ld rfl | exact hs.ld (by assumption) | exact by assumption | exact At.cellC (by assumption))) ?_
    refine R.gyes rfl rfl ?_
    refine R.ev rfl (E.leq rfl rfl) ?_
    refine R.ev rfl (E.pickT rfl rfl) ?_
    refine R.ev rfl (E.assign rfl) ?_
    refine R.done ?_
    refine X.keep [(3, _)] ⟨rfl, trivial⟩ ?_
    refine X.next ?_
    refine C.ret ?_
    refine X.ret1 rfl rfl ?_
    exact ⟨by first | (simp_all [upTo]; done) | (simp_all [upTo]; omega), hs.to⟩
  · refine R.gskip rfl rfl rfl ?_
    refine R.gskip rfl rfl rfl ?_
    refine R.gskip rfl rfl rfl ?_
    refine R.gskip rfl rfl rfl ?_
    refine R.gskip rfl rfl rfl ?_
    refine R.gskip rfl rfl rfl ?_
    refine R.ev rfl (E.pickF rfl rfl) ?_
    refine R.ev rfl (E.assign rfl) ?_
    refine R.done ?_
    refine X.keep [(3, _)] ⟨rfl, trivial⟩ ?_
    refine X.next ?_
    refine C.ret ?_
    refine X.ret1 rfl rfl ?_
    exact ⟨by first | (simp_all [upTo]; done) | (simp_all [upTo]; omega), hs.to⟩
theorem dec2_any (n : Int) (w : World) : Ret Try.prog 59 #[.int .i64 n] w fun r w' => r = .bool (isTr n) ∧ w = w' := by
  refine Ret.enter (n := 9) (args := [.int .i64 n]) Try.func59 rfl rfl ?_
  refine C.keep [(0, _)] ⟨rfl, trivial⟩ ?_
  refine C.seq ?_
  refine C.region ?_
  refine R.ev rfl (E.assign rfl) ?_
  refine R.done ?_
  refine X.keep [(0, _)] ⟨rfl, trivial⟩ ?_
  refine X.next ?_
  refine C.seq ?_
  refine C.region ?_
  refine R.ev rfl (E.move rfl) ?_
  refine R.ev rfl (E.geq rfl rfl) ?_
  refine R.ev rfl (E.move rfl) ?_
  refine R.split 5 rfl (fun h5 => ?_) (fun h5 => ?_)
  · refine R.gyes rfl rfl ?_
    refine R.ev rfl (E.move rfl) ?_
    refine R.gyes rfl rfl ?_
    refine R.ev rfl (E.leq rfl rfl) ?_
    refine R.ev rfl (E.pickT rfl rfl) ?_
    refine R.ev rfl (E.assign rfl) ?_
    refine R.done ?_
    refine X.keep [(2, _)] ⟨rfl, trivial⟩ ?_
    refine X.next ?_
    refine C.ret ?_
    refine X.ret1 rfl rfl ?_
    exact ⟨by first | (simp_all [isTr]; done) | (simp_all [isTr]; omega), rfl⟩
  · refine R.gskip rfl rfl rfl ?_
    refine R.gskip rfl rfl rfl ?_
    refine R.ev rfl (E.pickF rfl rfl) ?_
    refine R.ev rfl (E.assign rfl) ?_
    refine R.done ?_
    refine X.keep [(2, _)] ⟨rfl, trivial⟩ ?_
    refine X.next ?_
    refine C.ret ?_
    refine X.ret1 rfl rfl ?_
    exact ⟨by first | (simp_all [isTr]; done) | (simp_all [isTr]; omega), rfl⟩
/-! Decode -/
structure DH where
  c : Int
  wt : Int
  n : Int
  fl : UInt8
  r : Rdr
def dH1 (P : List UInt8) : Rdr := (⟨P, 0⟩ : Rdr).num isCap
def dH2 (P : List UInt8) : Rdr := (dH1 P).num isWt
def dFl (P : List UInt8) : UInt8 := ((dH2 P).bs 1).headD 0
def dH3 (P : List UInt8) : Rdr := ((dH2 P).go 1).req (decide ((dFl P).toNat ≤ 1))
def dCap (P : List UInt8) : Int := (⟨P, 0⟩ : Rdr).val
def dWt (P : List UInt8) : Int := (dH1 P).val
def dN (P : List UInt8) : Int := (dH3 P).val
def dH4 (P : List UInt8) : Rdr := (dH3 P).num (upTo (dCap P))
abbrev DSt := Rdr × List Ent
def dId (st : DSt) : Vec 32 := ⟨st.1.bs 32, Rdr.bs_len _ _⟩
def dS1 (st : DSt) : Rdr := (st.1.go 32).req (decide (dId st ≠ zid) && !has (dId st) st.2)
def dS2 (st : DSt) : Rdr := (dS1 st).num isMin
def dStep (st : DSt) : DSt := ((dS2 st).num isTr, st.2 ++ [⟨dId st, (dS1 st).val, (dS2 st).val⟩])
def dLoop : Nat → DSt → DSt
  | 0, st => st
  | n + 1, st => if st.1.err = 0 then dLoop n (dStep st) else st
def dEnd (P : List UInt8) : DSt := dLoop (dN P).toNat (dH4 P, [])
def decE (P : List UInt8) : Int := if (dEnd P).1.err = 0 ∧ 0 < (dEnd P).1.rest.length then 5 else (dEnd P).1.err
def decS (P : List UInt8) : Bk := ⟨dCap P, dWt P, decide (dFl P = 1), (dEnd P).2, []⟩
theorem decE_T {P : List UInt8} {st : DSt} (hst : dEnd P = st) (h1 : decide (st.1.err = 0) = true) (h2 : decide ((0 : Int) < (st.1.rest.length : Int)) = true) : decE P = 5 := by
  rw [decE, hst, if_pos]; exact ⟨of_decide_eq_true h1, by have := of_decide_eq_true h2; omega⟩
theorem decE_F1 {P : List UInt8} {st : DSt} (hst : dEnd P = st) (h1 : decide (st.1.err = 0) = false) : decE P = st.1.err := by
  rw [decE, hst, if_neg]; exact fun h => of_decide_eq_false h1 h.1
theorem decE_F2 {P : List UInt8} {st : DSt} (hst : dEnd P = st) (h2 : decide ((0 : Int) < (st.1.rest.length : Int)) = false) : decE P = st.1.err := by
  rw [decE, hst, if_neg]; have := of_decide_eq_false h2; omega
theorem dLoop_stop {n : Nat} {st : DSt} (h : st.1.err ≠ 0) : dLoop n st = st := by cases n <;> simp [dLoop, h]
theorem req_ok {r : Rdr} {ok : Bool} (h : (r.req ok).err = 0) : r.err = 0 ∧ ok = true := by
  unfold Rdr.req at h; split at h
  · exact absurd (show (3 : Int) = 0 from h) (by decide)
  · rename_i h2; refine ⟨h, ?_⟩; cases ok <;> simp_all
theorem num_ok {r : Rdr} {q : Int → Bool} (h : (r.num q).err = 0) : (r.go 8).err = 0 ∧ q r.val = true := req_ok h
theorem go_ok {r : Rdr} {n : Nat} (h : (r.go n).err = 0) : r.err = 0 ∧ n ≤ r.rest.length := by
  unfold Rdr.go at h
  by_cases h2 : r.short n = 0
  · exact Rdr.short0 h2
  · rw [if_neg h2] at h; exact absurd h h2
theorem dH_ok {P : List UInt8} (h : (dH4 P).err = 0) : isCap (dCap P) = true ∧ isWt (dWt P) = true ∧ upTo (dCap P) (dN P) = true ∧ (dFl P).toNat ≤ 1 := by
  have h4 := num_ok h
  have h3 := req_ok (go_ok h4.1).1
  have h2 := num_ok (go_ok h3.1).1
  have h1 := num_ok (go_ok h2.1).1
  exact ⟨h1.2, h2.2, h4.2, by simpa using h3.2⟩
theorem head1 {l : List UInt8} (h : l.length = 1) : l = [l.headD 0] := by
  match l, h with
  | [a], _ => rfl
theorem encE_due (o : Ent) (d : Int) : (encE o).set 32 (.int .i64 d) = encE ⟨o.id, d, o.tries⟩ := by
  rw [encE, encE, List.set_append_right _ _ (by rw [List.length_map, o.id.2]; omega), List.length_map, o.id.2]; rfl
theorem encE_tries (o : Ent) (d : Int) : (encE o).set 33 (.int .i64 d) = encE ⟨o.id, o.due, d⟩ := by
  rw [encE, encE, List.set_append_right _ _ (by rw [List.length_map, o.id.2]; omega), List.length_map, o.id.2]; rfl
theorem encE_copy (o : Ent) (a : Vec 32) : (encE o).take 0 ++ (a.1.take 32).map ub ++ (encE o).drop (0 + (a.1.take 32).length) = encE ⟨a, o.due, o.tries⟩ := by
  have h1 : a.1.take 32 = a.1 := List.take_of_length_le (by rw [a.2]; omega)
  rw [h1, a.2, encE, encE, List.take_zero, List.nil_append]
  congr 1
  rw [List.drop_append_of_le_length (by rw [List.length_map, o.id.2]; omega), List.drop_eq_nil_of_le (by rw [List.length_map, o.id.2]; omega), List.nil_append]
theorem fl_eq (c : UInt8) : decide ((c.toNat : Int) = 1) = decide (c = 1) := by
  rw [decide_eq_decide]
  constructor
  · intro h; apply UInt8.toNat_inj.1; rw [show (1 : UInt8).toNat = 1 from rfl]; omega
  · intro h; rw [h]; rfl
/-- what Decode leaves: an error e, or the backlog s -/
def DecPost (K : Kn) (Hs : List Hl) (e : Int) (s : Bk) (r : Value) (w' : World) : Prop := ∃ K', KLe K K' ∧ ((e ≠ 0 ∧ r = .tuple #[.pointer none, .int .i64 e] ∧ Sat K' w' Hs) ∨ (e = 0 ∧ ∃ p F, r = .tuple #[ptr p, .int .i64 0] ∧ BkL p s F ∧ Sat K' w' (F :: Hs)))
theorem decode_any {P : List UInt8} (hs : Sat K w Hs) [hr : KRow encB 1 K v P] : Ret Try.prog 30 #[v] w fun r w' => DecPost K Hs (decE P) (decS P) r w' := by
  have o0 : OneC v := ⟨KRow.oneC' hr⟩
  obtain ⟨ad, cap, rfl, hsl, hc⟩ := hr.ex
  have hel : ∀ o : Ent, (encE o).length = 34 := Enc.len
  refine Ret.enter (n := 115) (args := [.slice ad P.length cap]) Try.func30 rfl rfl ?_
  refine C.keep [(0, _)] ⟨rfl, trivial⟩ ?_
  refine C.seq ?_
  refine C.region ?_
  refine R.ev rfl (E.assign rfl) ?_
  refine R.ev rfl (E.assign rfl) ?_
  refine R.done ?_
  refine X.keep [(0, _)] ⟨rfl, trivial⟩ ?_
  refine X.next ?_
  refine C.seq ?_
  refine C.region ?_
  refine R.ev rfl (E.move rfl) ?_
  refine R.ev rfl (E.buildG (r := [.slice ad P.length cap, .int .i64 0]) rfl Try.underlying94 Try.zr94 Try.ql94 (by kernel_rfl) (by kernel_rfl) ⟨⟨_, rfl, by first | rfl | exact vsz _ | simp [Value.cells, *]⟩, trivial⟩ (by first | rfl | simp [setF, fieldsOf, Value.cells])) ?_
  refine R.sboxA hs rfl rfl ?_
  intro b12 w12 hs
  refine R.ev rfl (E.assign rfl) ?_
  refine R.done ?_
  refine X.keep [(4, _)] ⟨rfl, trivial⟩ ?_
  refine X.next ?_
  refine C.seq ?_
  refine C.region ?_
  refine R.cmake hs Try.underlying82 (Value.bool) rfl ?_
  intro v13 w13 F13 m13 hs
  have o13 : OneC v13 := ⟨by obtain ⟨b', _, _, rfl, _⟩ := m13.ex; rfl⟩
  refine R.ev rfl (E.buildG (r := [.int .i64 0, .int .i64 0, .bool false, .slice none 0 0, v13]) rfl Try.underlying84 Try.zr84 Try.ql84 (by kernel_rfl) (by kernel_rfl) ⟨⟨_, rfl, by obtain ⟨b', _, _, rfl, _⟩ := m13.ex; rfl⟩, trivial⟩ (by obtain ⟨b', _, _, rfl, _⟩ := m13.ex; rfl)) ?_
  refine R.sboxA hs rfl rfl ?_
  intro b15 w15 hs
  refine R.salloc1 hs Try.zr25 rfl rfl ?_
  intro b5 w5 hs
  refine R.cstore1 hs rfl rfl Try.sz25 (by first | decide | simp [*]) (by first | rfl | exact OneC.one | exact KRow.oneC' (by assumption)) ?_
  intro w2_4 hs
  try simp only [List.set_cons_zero, List.set_cons_succ] at hs
  refine R.done ?_
  refine X.keep [(4, _), (5, _)] ⟨rfl, rfl, trivial⟩ ?_
  refine X.next ?_
  refine C.seq ?_
  refine C.drawn (fun w1 => Sat K w1 (row b5 25 [ptr b15] :: Hs)) ([0], [1, 3, 4]) (by kernel_rfl) ?_
  have hs := hs.drew
  refine D.evP 1 rfl (by kernel_rfl) rfl (fun _ => hs.to) (fun _ => E.move rfl) ?_
  refine D.ev 0 rfl (by kernel_rfl) rfl hs.to (fun _ hS => E.load1 rfl Try.underlying25 rfl (by first | exact hS.ldc | exact hS.ld rfl | exact hS.ld (by assumption) | exact by assumption | exact At.cellC (by assumption) | exact At.cellC ((by assumption : ∀ w', Sat _ w' _ → At w' _ _ _) _ hS) | exact (by assumption : ∀ w', Sat _ w' _ → World.cell? w' _ = some _) _ hS)) ?_
  refine D.act 2 rfl (by kernel_rfl) ?_
  refine R.call ⟨_, _, Try.func55, rfl, by kernel_rfl⟩ rfl rfl (number_any (r := ⟨P, 0⟩) isCap (first := []) (cap := []) ⟨_, _, Try.func44, rfl, by kernel_rfl⟩ (fun n K1 w1 A _ h => (isCapacity_any n w1).mono fun _ _ ⟨e1, e2⟩ => ⟨e1, e2 ▸ h⟩) (hs.front (F := row b12 94 [.slice ad P.length cap, .int .i64 0]))) ?_
  rintro _ w3 ⟨K3, v3, rfl, hk3, r3, hs1⟩
  have hs := hs.back (F := row b12 94 [.slice ad P.length cap, .int .i64 0]) hs1
  change KRow encB 1 K3 v3 (dH1 P).rest at r3
  rw [show (⟨P, 0⟩ : Rdr).num isCap = dH1 P from rfl] at hs
  rw [show (⟨P, 0⟩ : Rdr).val = dCap P from rfl]
  refine D.back (hs.less hk3.le).to ?_
  refine D.evP 3 rfl (by kernel_rfl) rfl (fun _ => (hs.less hk3.le).to) (fun _ => E.nilCheck rfl) ?_
  first | refine D.evP 4 rfl (by kernel_rfl) rfl (fun _ => (hs.less hk3.le).to) (fun _ => E.fieldAddr0 0 rfl Try.underlying84 rfl Try.sz3 rfl) ?_ | refine D.evP 4 rfl (by kernel_rfl) rfl (fun _ => (hs.less hk3.le).to) (fun _ => E.fieldAddrN 0 rfl Try.underlying84 rfl Try.sz3 rfl) ?_
  refine D.act 5 rfl (by kernel_rfl) ?_
  refine R.cstore1 hs rfl rfl Try.sz3 (by first | decide | simp [*]) (by first | rfl | exact OneC.one | exact KRow.oneC' (by assumption)) ?_
  intro w3_5 hs
  try simp only [List.set_cons_zero, List.set_cons_succ] at hs
  refine D.backT (by kernel_rfl) ?_
  refine D.done rfl (by kernel_rfl) ?_
  refine X.keep [(4, _), (5, _)] ⟨rfl, rfl, trivial⟩ ?_
  refine X.next ?_
  refine C.seq ?_
  refine C.drawn (fun w1 => Sat K3 w1 (row b5 25 [ptr b15] :: Hs)) ([0], [1, 3, 4]) (by kernel_rfl) ?_
  have hs := hs.drew
  refine D.evP 1 rfl (by kernel_rfl) rfl (fun _ => hs.to) (fun _ => E.move rfl) ?_
  refine D.ev 0 rfl (by kernel_rfl) rfl hs.to (fun _ hS => E.load1 rfl Try.underlying25 rfl (by first | exact hS.ldc | exact hS.ld rfl | exact hS.ld (by assumption) | exact by assumption | exact At.cellC (by assumption) | exact At.cellC ((by assumption : ∀ w', Sat _ w' _ → At w' _ _ _) _ hS) | exact (by assumption : ∀ w', Sat _ w' _ → World.cell? w' _ = some _) _ hS)) ?_
  refine D.act 2 rfl (by kernel_rfl) ?_
  refine R.call ⟨_, _, Try.func55, rfl, by kernel_rfl⟩ rfl rfl (number_any (r := dH1 P) isWt (first := []) (cap := []) ⟨_, _, Try.func45, rfl, by kernel_rfl⟩ (fun n K1 w1 A _ h => (isWait_any n w1).mono fun _ _ ⟨e1, e2⟩ => ⟨e1, e2 ▸ h⟩) (hs.front (F := row b12 94 [v3, .int .i64 (dH1 P).err]))) ?_
  rintro _ w4 ⟨K4, v4, rfl, hk4, r4, hs1⟩
  have hs := hs.back (F := row b12 94 [v3, .int .i64 (dH1 P).err]) hs1
  change KRow encB 1 K4 v4 (dH2 P).rest at r4
  rw [show (dH1 P).num isWt = dH2 P from rfl] at hs
  rw [show (dH1 P).val = dWt P from rfl]
  refine D.back (hs.less hk4.le).to ?_
  refine D.evP 3 rfl (by kernel_rfl) rfl (fun _ => (hs.less hk4.le).to) (fun _ => E.nilCheck rfl) ?_
  first | refine D.evP 4 rfl (by kernel_rfl) rfl (fun _ => (hs.less hk4.le).to) (fun _ => E.fieldAddr0 1 rfl Try.underlying84 rfl Try.sz3 rfl) ?_ | refine D.evP 4 rfl (by kernel_rfl) rfl (fun _ => (hs.less hk4.le).to) (fun _ => E.fieldAddrN 1 rfl Try.underlying84 rfl Try.sz3 rfl) ?_
  refine D.act 5 rfl (by kernel_rfl) ?_
  refine R.cstore1 hs rfl rfl Try.sz3 (by first | decide | simp [*]) (by first | rfl | exact OneC.one | exact KRow.oneC' (by assumption)) ?_
  intro w4_5 hs
  try simp only [List.set_cons_zero, List.set_cons_succ] at hs
  refine D.backT (by kernel_rfl) ?_
  refine D.done rfl (by kernel_rfl) ?_
  refine X.keep [(4, _), (5, _)] ⟨rfl, rfl, trivial⟩ ?_
  refine X.next ?_
  refine C.seq ?_
  refine C.region ?_
  refine R.ev rfl (E.move rfl) ?_
  refine R.call ⟨_, _, Try.func56, rfl, by kernel_rfl⟩ rfl rfl (take_any (r := dH2 P) 1 (hs.front (F := row b12 94 [v4, .int .i64 (dH2 P).err])) (by omega)) ?_
  rintro v27 w5 ⟨K5, v5, hk5, r27, r5, hs1⟩
  have hs := hs.back (F := row b12 94 [v4, .int .i64 (dH2 P).err]) hs1
  rw [head1 (Rdr.bs_len (dH2 P) 1), show ((dH2 P).bs 1).headD 0 = dFl P from rfl] at r27
  obtain ⟨ad27, cap27, rfl, _⟩ := r27.ex
  obtain ⟨y27, bk27, of27, hy27, _, _, rfl, A27⟩ := hs.el (i := 0) (ad := ad27) (n := 1) (c := cap27) (by omega)
  obtain rfl : dFl P = y27 := by simpa using hy27
  have a27 : w5.cell? ⟨bk27, of27 + 0 * 1, none⟩ = some (ub (dFl P)) := A27 _ hs 0 _ rfl
  refine R.ev rfl (E.indexAddr (i := 0) rfl rfl Try.underlying57 Try.sz5 rfl (by simp)) ?_
  refine R.ev rfl (E.load1 rfl Try.underlying5 rfl (by first | exact hs.ldc | exact hs.ld rfl | exact hs.ld (by assumption) | exact by assumption | exact At.cellC (by assumption))) ?_
  refine R.ev rfl (E.assign rfl) ?_
  refine R.done ?_
  refine X.keep [(4, _), (5, _), (6, _)] ⟨rfl, rfl, rfl, trivial⟩ ?_
  refine X.next ?_
  refine C.seq ?_
  refine C.region ?_
  refine R.ev rfl (E.move rfl) ?_
  refine R.ev rfl (E.move rfl) ?_
  refine R.ev rfl ((E.leq rfl rfl).isB (c := decide ((dFl P).toNat ≤ 1)) (by rw [decide_eq_decide]; omega)) ?_
  refine R.call ⟨_, _, Try.func57, rfl, by kernel_rfl⟩ rfl rfl (require_any (r := (dH2 P).go 1) _ (hs.front (F := row b12 94 [v5, .int .i64 ((dH2 P).go 1).err]))) ?_
  rintro _ w6 hs1
  have hs := hs.back (F := row b12 94 [v5, .int .i64 ((dH2 P).go 1).err]) hs1
  rw [show ((dH2 P).go 1).req (decide ((dFl P).toNat ≤ 1)) = dH3 P from rfl] at hs
  have r6 : KRow encB 1 K5 v5 (dH3 P).rest := by rw [dH3, Rdr.req_rest]; exact r5
  refine R.done ?_
  refine X.keep [(4, _), (5, _), (6, _)] ⟨rfl, rfl, rfl, trivial⟩ ?_
  refine X.next ?_
  refine C.seq ?_
  refine C.region ?_
  refine R.ev rfl (E.load1 rfl Try.underlying25 rfl (by first | exact hs.ldc | exact hs.ld rfl | exact hs.ld (by assumption) | exact by assumption | exact At.cellC (by assumption))) ?_
  refine R.ev rfl (E.move rfl) ?_
  refine R.ev rfl ((E.eql rfl rfl).isB (c := decide (dFl P = 1)) (fl_eq _)) ?_
  refine R.ev rfl (E.nilCheck rfl) ?_
  first | refine R.ev rfl (E.fieldAddr0 2 rfl Try.underlying84 rfl Try.sz4 rfl) ?_ | refine R.ev rfl (E.fieldAddrN 2 rfl Try.underlying84 rfl Try.sz4 rfl) ?_
  refine R.cstore1 hs rfl rfl Try.sz4 (by first | decide | simp [*]) (by first | rfl | exact OneC.one | exact KRow.oneC' (by assumption)) ?_
  intro w7_5 hs
  try simp only [List.set_cons_zero, List.set_cons_succ] at hs
  refine R.done ?_
  refine X.keep [(4, _), (5, _)] ⟨rfl, rfl, trivial⟩ ?_
  refine X.next ?_
  refine C.seq ?_
  refine C.region ?_
  refine R.ev rfl (E.move rfl) ?_
  refine R.ev rfl (E.makeFunc rfl rfl) ?_
  refine R.call ⟨_, _, Try.func55, rfl, by kernel_rfl⟩ rfl rfl (number_any (r := dH3 P) (upTo (dCap P)) (first := []) (cap := [ptr b5]) ⟨_, _, Try.func58, rfl, by kernel_rfl⟩ (fun n K1 w1 A _ h => dec1_any n h) (hs.front (F := row b12 94 [v5, .int .i64 (dH3 P).err]))) ?_
  rintro _ w8 ⟨K8, v8, rfl, hk8, r8, hs1⟩
  have hs := hs.back (F := row b12 94 [v5, .int .i64 (dH3 P).err]) hs1
  change KRow encB 1 K8 v8 (dH4 P).rest at r8
  rw [show (dH3 P).num (upTo (dCap P)) = dH4 P from rfl] at hs
  rw [show (dH3 P).val = dN P from rfl]
  refine R.ev rfl (E.assign rfl) ?_
  refine R.done ?_
  refine X.keep [(4, _), (5, _), (7, _)] ⟨rfl, rfl, rfl, trivial⟩ ?_
  refine X.next ?_
  refine C.seq ?_
  refine C.seq ?_
  refine C.region ?_
  refine R.ev rfl (E.assign rfl) ?_
  refine R.done ?_
  refine X.keep [(4, _), (5, _), (7, _), (8, _)] ⟨rfl, rfl, rfl, rfl, trivial⟩ ?_
  refine X.next ?_
  refine C.block ?_
  refine C.loop (T := Nat × Kn × Value × DSt × Value × Hl) [(4, _), (5, _), (7, _)] (fun (i, _, _, _, _, _) => [(8, .int .i64 (i : Nat))]) (fun (i, K1, v1, st, ve, G1) w' => KLe K K1 ∧ KRow encB 1 K1 v1 st.1.rest ∧ RowL 67 encE 34 ve st.2 G1 ∧ st.2.length = i ∧ (st.1.err = 0 → dN P ≤ 4096) ∧ dEnd P = dLoop ((dN P).toNat - i) st ∧ Sat K1 w' (row b12 94 [v1, .int .i64 st.1.err] :: row b5 25 [ptr b15] :: row b15 84 [.int .i64 (dCap P), .int .i64 (dWt P), .bool (decide (dFl P = 1)), ve, v13] :: G1 :: F13 :: Hs)) (fun (i, _) => (dN P).toNat - i) ((0, K8, v8, (dH4 P, []), .slice none 0 0, [])) ⟨rfl, rfl, rfl, rfl, trivial⟩ ⟨((hk3.trans hk4).trans hk5).trans hk8, r8, RowL.nil _ _ _, rfl, fun h => by have := dH_ok h; simp [isCap, upTo] at this; omega, rfl, (hs.nil.to : Sat K8 _ (row b12 94 [v8, .int .i64 (dH4 P).err] :: row b5 25 [ptr b15] :: row b15 84 [.int .i64 (dCap P), .int .i64 (dWt P), .bool (decide (dFl P = 1)), .slice none 0 0, v13] :: [] :: F13 :: Hs))⟩ ?_
  rintro ⟨i, K1, v1, st, ve, G1⟩ w1 ⟨hk1, r1, re, hln, hb, hend, hs⟩
  have oe : OneC ve := ⟨RowL.oneC⟩
  have o1 : OneC v1 := ⟨KRow.oneC' r1⟩
  obtain ⟨ad1, cap1, rfl, _⟩ := r1.ex
  refine C.keep [(4, _), (5, _), (7, _), (8, _)] ⟨rfl, rfl, rfl, rfl, trivial⟩ ?_
  refine C.seq ?_
  refine C.seq ?_
  refine C.region ?_
  refine R.ev rfl (E.move rfl) ?_
  refine R.ev rfl (E.move rfl) ?_
  refine R.ev rfl (E.lss rfl rfl) ?_
  refine R.ev rfl (E.move rfl) ?_
  refine R.split 45 rfl (fun h45 => ?_) (fun h45 => ?_)
  · refine R.gyes rfl rfl ?_
    refine R.ev rfl (E.move rfl) ?_
    refine R.gyes rfl rfl ?_
    refine R.ev rfl (E.nilCheck rfl) ?_
    refine R.gyes rfl rfl ?_
    first | refine R.ev rfl (E.fieldAddr0 1 rfl Try.underlying94 rfl Try.sz26 rfl) ?_ | refine R.ev rfl (E.fieldAddrN 1 rfl Try.underlying94 rfl Try.sz26 rfl) ?_
    refine R.gyes rfl rfl ?_
    refine R.ev rfl (E.load1 rfl Try.underlying26 rfl (by first | exact hs.ldc | exact hs.ld rfl | exact hs.ld (by assumption) | exact by assumption | exact At.cellC (by assumption))) ?_
    refine R.gyes rfl rfl ?_
    refine R.ev rfl (E.eql rfl rfl) ?_
    refine R.ev rfl (E.pickT rfl rfl) ?_
    refine R.done ?_
    refine X.keep [(4, _), (5, _), (7, _), (8, _), (51, _)] ⟨rfl, rfl, rfl, rfl, rfl, trivial⟩ ?_
    refine X.next ?_
    refine C.cbool rfl (fun h51 => ?_) (fun h51 => ?_)
    · have hi : (i : Int) < dN P := of_decide_eq_true h45
      have he0 : st.1.err = 0 := of_decide_eq_true h51
      have hb1 := hb he0
      have hidl : (st.1.bs 32) = (dId st).1 := rfl
      refine C.skip ?_
      refine X.next ?_
      refine C.seq ?_
      refine C.block ?_
      refine C.seq ?_
      refine C.region ?_
      refine R.ev rfl (E.buildG (r := encE ⟨zid, 0, 0⟩) rfl Try.underlying67 Try.zr67 Try.ql67 (by kernel_rfl) (by kernel_rfl) trivial (by first | rfl | simp [setF, fieldsOf, Value.cells])) ?_
      refine R.sallocA hs Try.zr67 rfl ?_
      intro b9 w9 hs
      first | refine R.cstoreAll hs rfl rfl Try.sz67 (by first | rfl | assumption | exact encV_len _ | exact Enc.len _ | exact len_ub (by assumption) | simp [*]) (by first | rfl | assumption | exact encV_len _ | exact Enc.len _ | exact len_ub (by assumption) | simp [*]) (by first | assumption | exact OneL.all | exact Enc.one _ | exact ub_all _ | (repeat' (first | refine List.forall_mem_cons.2 ⟨?_, ?_⟩ | exact List.forall_mem_nil _ | rfl | exact OneC.one | exact KRow.oneC' (by assumption)))) ?_ | refine R.cstore hs rfl rfl Try.sz67 (by first | rfl | assumption | exact encV_len _ | exact Enc.len _ | exact len_ub (by assumption) | simp [*]) (by simp [*]) (by first | assumption | exact OneL.all | exact Enc.one _ | exact ub_all _ | (repeat' (first | refine List.forall_mem_cons.2 ⟨?_, ?_⟩ | exact List.forall_mem_nil _ | rfl | exact OneC.one | exact KRow.oneC' (by assumption)))) ?_
      intro w12_2 hs
      try simp only [List.set_cons_zero, List.set_cons_succ] at hs
      refine R.done ?_
      refine X.keep [(4, _), (5, _), (7, _), (8, _), (9, _)] ⟨rfl, rfl, rfl, rfl, rfl, trivial⟩ ?_
      refine X.next ?_
      refine C.seq ?_
      refine C.drawn (SatS hs) ([], [0, 1, 2]) (by kernel_rfl) ?_
      have hs := hs.drew
      first | refine D.evP 0 rfl (by kernel_rfl) rfl (np (by kernel_rfl)) (fun _ => E.fieldAddr0 0 rfl Try.underlying67 rfl Try.sz30 rfl) ?_ | refine D.evP 0 rfl (by kernel_rfl) rfl (np (by kernel_rfl)) (fun _ => E.fieldAddrN 0 rfl Try.underlying67 rfl Try.sz30 rfl) ?_
      refine D.evP 1 rfl (by kernel_rfl) rfl (np (by kernel_rfl)) (fun _ => (E.sliceA rfl Try.underlying30 Try.sz5).as (u := .slice (some ⟨b9, 0, none⟩) 32 32) rfl) ?_
      refine D.evP 2 rfl (by kernel_rfl) rfl (np (by kernel_rfl)) (fun _ => E.move rfl) ?_
      refine D.act 3 rfl (by kernel_rfl) ?_
      refine R.call ⟨_, _, Try.func56, rfl, by kernel_rfl⟩ rfl rfl (take_any (r := st.1) 32 (hs.front (F := row b12 94 [.slice ad1 st.1.rest.length cap1, .int .i64 st.1.err])) (by omega)) ?_
      rintro v58 w58 ⟨K2, v2, hk2, r58, r2, hs1⟩
      have hs := hs.back (F := row b12 94 [.slice ad1 st.1.rest.length cap1, .int .i64 st.1.err]) hs1
      rw [hidl] at r58
      obtain ⟨ad58, cap58, rfl, _⟩ := r58.ex
      have o2 : OneC v2 := ⟨KRow.oneC' r2⟩
      refine D.backT (by kernel_rfl) ?_
      refine D.act 4 rfl (by kernel_rfl) ?_
      refine R.ccopyB hs rfl rfl Try.underlying57 Try.sz5 rfl (by intro e; have := (dId st).2; rw [e] at this; cases this) (by simp [encE, zid]) ?_
      intro w59 hs
      rw [encE_copy] at hs
      dsimp only at hs
      refine D.backT (by kernel_rfl) ?_
      refine D.done rfl (by kernel_rfl) ?_
      refine X.keep [(4, _), (5, _), (7, _), (8, _), (9, _)] ⟨rfl, rfl, rfl, rfl, rfl, trivial⟩ ?_
      refine X.next ?_
      refine C.seq ?_
      refine C.cut [(4, _), (5, _), (7, _), (8, _), (9, _)] (fun (_ : Unit) => []) (fun _ w' => Sat K2 w' (row b9 67 (encE ⟨dId st, 0, 0⟩) :: row b12 94 [v2, .int .i64 (dS1 st).err] :: row b5 25 [ptr b15] :: row b15 84 [.int .i64 (dCap P), .int .i64 (dWt P), .bool (decide (dFl P = 1)), ve, v13] :: G1 :: F13 :: Hs)) ⟨rfl, rfl, rfl, rfl, rfl, trivial⟩ ?_ ?_
      · refine C.region ?_
        refine R.ev rfl (E.move rfl) ?_
        first | refine R.ev rfl (E.fieldAddr0 0 rfl Try.underlying67 rfl Try.sz30 rfl) ?_ | refine R.ev rfl (E.fieldAddrN 0 rfl Try.underlying67 rfl Try.sz30 rfl) ?_
        refine R.ev rfl (E.loadRowC rfl Try.underlying30 rfl Try.sz30 (by first | exact ⟨hs.ldA, by first | rfl | assumption | exact encV_len _ | exact Enc.len _ | exact len_ub (by assumption)⟩ | exact ⟨hs.ldP rfl, by first | rfl | assumption | exact encV_len _ | exact Enc.len _ | exact len_ub (by assumption)⟩ | exact ⟨hs.ldM rfl rfl, by first | rfl | assumption | exact encV_len _ | exact Enc.len _ | exact len_ub (by assumption)⟩ | exact ⟨hs.ldM (by assumption) (by first | rfl | assumption), by first | rfl | assumption | exact encV_len _ | exact Enc.len _ | exact len_ub (by assumption)⟩ | exact ⟨by assumption, by first | rfl | assumption | exact encV_len _ | exact Enc.len _ | exact len_ub (by assumption)⟩ | exact hs.ldp | exact At.partC (by assumption))) ?_
        refine R.ev rfl ((E.buildA rfl Try.underlying30 Try.zr30 Try.sz5 rfl).as (u := .agg (encV zid).toArray) (by rfl)) ?_
        refine R.ev rfl ((E.neV 10 (a := dId st) (b := zid) rfl rfl Try.lv30 rfl Try.underlying30 rfl Try.gd30)) ?_
        refine R.ev rfl (E.move rfl) ?_
        refine R.split 65 rfl (fun h65 => ?_) (fun h65 => ?_)
        · refine R.gyes rfl rfl ?_
          refine R.ev rfl (E.load1 rfl Try.underlying25 rfl (by first | exact hs.ldc | exact hs.ld rfl | exact hs.ld (by assumption) | exact by assumption | exact At.cellC (by assumption))) ?_
          refine R.gyes rfl rfl ?_
          first | refine R.ev rfl (E.fieldAddr0 0 rfl Try.underlying67 rfl Try.sz30 rfl) ?_ | refine R.ev rfl (E.fieldAddrN 0 rfl Try.underlying67 rfl Try.sz30 rfl) ?_
          refine R.gyes rfl rfl ?_
          refine R.ev rfl (E.loadRowC rfl Try.underlying30 rfl Try.sz30 (by first | exact ⟨hs.ldA, by first | rfl | assumption | exact encV_len _ | exact Enc.len _ | exact len_ub (by assumption)⟩ | exact ⟨hs.ldP rfl, by first | rfl | assumption | exact encV_len _ | exact Enc.len _ | exact len_ub (by assumption)⟩ | exact ⟨hs.ldM rfl rfl, by first | rfl | assumption | exact encV_len _ | exact Enc.len _ | exact len_ub (by assumption)⟩ | exact ⟨hs.ldM (by assumption) (by first | rfl | assumption), by first | rfl | assumption | exact encV_len _ | exact Enc.len _ | exact len_ub (by assumption)⟩ | exact ⟨by assumption, by first | rfl | assumption | exact encV_len _ | exact Enc.len _ | exact len_ub (by assumption)⟩ | exact hs.ldp | exact At.partC (by assumption))) ?_
          refine R.gyes rfl rfl ?_
          refine R.call ⟨_, _, Try.func18, rfl, by kernel_rfl⟩ rfl rfl (has_any (s := ⟨dCap P, dWt P, decide (dFl P = 1), st.2, []⟩) (hw := BkIn.parts (s := ⟨dCap P, dWt P, decide (dFl P = 1), st.2, []⟩) (G := G1) (H := F13)) (dId st) hs) ?_
          rintro _ w149 ⟨rfl, hs⟩
          refine R.gyes rfl rfl ?_
          refine R.ev rfl ((E.not rfl).isB (c := !(has (dId st) st.2)) rfl) ?_
          refine R.ev rfl (E.pickT rfl rfl) ?_
          refine R.call ⟨_, _, Try.func57, rfl, by kernel_rfl⟩ rfl rfl (require_any (r := st.1.go 32) _ (hs.front (F := row b12 94 [v2, .int .i64 (st.1.go 32).err]))) ?_
          rintro _ w1412 hs1
          have hs := hs.back (F := row b12 94 [v2, .int .i64 (st.1.go 32).err]) hs1
          refine R.done ?_
          refine X.keep [(4, _), (5, _), (7, _), (8, _), (9, _)] ⟨rfl, rfl, rfl, rfl, rfl, trivial⟩ ?_
          exact X.cut (()) ⟨rfl, rfl, rfl, rfl, rfl, trivial⟩ (by rw [dS1, h65]; simp only [Bool.true_and, Bool.false_and]; exact hs.to)
        · refine R.gskip rfl rfl rfl ?_
          refine R.gskip rfl rfl rfl ?_
          refine R.gskip rfl rfl rfl ?_
          refine R.gskip rfl rfl rfl ?_
          refine R.gskip rfl rfl rfl ?_
          refine R.ev rfl (E.pickF rfl rfl) ?_
          refine R.call ⟨_, _, Try.func57, rfl, by kernel_rfl⟩ rfl rfl (require_any (r := st.1.go 32) _ (hs.front (F := row b12 94 [v2, .int .i64 (st.1.go 32).err]))) ?_
          rintro _ w1412 hs1
          have hs := hs.back (F := row b12 94 [v2, .int .i64 (st.1.go 32).err]) hs1
          refine R.done ?_
          refine X.keep [(4, _), (5, _), (7, _), (8, _), (9, _)] ⟨rfl, rfl, rfl, rfl, rfl, trivial⟩ ?_
          exact X.cut (()) ⟨rfl, rfl, rfl, rfl, rfl, trivial⟩ (by rw [dS1, h65]; simp only [Bool.true_and, Bool.false_and]; exact hs.to)
      · rintro _ w14 hs
        refine X.keep [(4, _), (5, _), (7, _), (8, _), (9, _)] ⟨rfl, rfl, rfl, rfl, rfl, trivial⟩ ?_
        refine X.next ?_
        refine C.seq ?_
        refine C.region ?_
        have r2' : KRow encB 1 K2 v2 (dS1 st).rest := by rw [dS1, Rdr.req_rest]; exact r2
        refine R.ev rfl (E.move rfl) ?_
        refine R.call ⟨_, _, Try.func55, rfl, by kernel_rfl⟩ rfl rfl (number_any (r := dS1 st) isMin (first := []) (cap := []) ⟨_, _, Try.func46, rfl, by kernel_rfl⟩ (fun n K1 w1 A _ h => (isMinute_any n w1).mono fun _ _ ⟨e1, e2⟩ => ⟨e1, e2 ▸ h⟩) (hs.front (F := row b12 94 [v2, .int .i64 (dS1 st).err]))) ?_
        rintro _ w15 ⟨K15, v15, rfl, hk15, r15, hs1⟩
        have hs := hs.back (F := row b12 94 [v2, .int .i64 (dS1 st).err]) hs1
        change KRow encB 1 K15 v15 (dS2 st).rest at r15
        rw [show (dS1 st).num isMin = dS2 st from rfl] at hs
        first | refine R.ev rfl (E.fieldAddr0 32 rfl Try.underlying67 rfl Try.sz3 rfl) ?_ | refine R.ev rfl (E.fieldAddrN 32 rfl Try.underlying67 rfl Try.sz3 rfl) ?_
        refine R.cstore1 hs rfl rfl Try.sz3 (by first | decide | simp [*]) (by first | rfl | exact OneC.one | exact KRow.oneC' (by assumption)) ?_
        intro w15_3 hs
        try simp only [List.set_cons_zero, List.set_cons_succ] at hs
        rw [encE_due] at hs
        dsimp only at hs
        refine R.done ?_
        refine X.keep [(4, _), (5, _), (7, _), (8, _), (9, _)] ⟨rfl, rfl, rfl, rfl, rfl, trivial⟩ ?_
        refine X.next ?_
        refine C.seq ?_
        refine C.region ?_
        refine R.ev rfl (E.move rfl) ?_
        refine R.call ⟨_, _, Try.func55, rfl, by kernel_rfl⟩ rfl rfl (number_any (r := dS2 st) isTr (first := []) (cap := []) ⟨_, _, Try.func59, rfl, by kernel_rfl⟩ (fun n K1 w1 A _ h => (dec2_any n w1).mono fun _ _ ⟨e1, e2⟩ => ⟨e1, e2 ▸ h⟩) (hs.front (F := row b12 94 [v15, .int .i64 (dS2 st).err]))) ?_
        rintro _ w16 ⟨K16, v16, rfl, hk16, r16, hs1⟩
        have hs := hs.back (F := row b12 94 [v15, .int .i64 (dS2 st).err]) hs1
        first | refine R.ev rfl (E.fieldAddr0 33 rfl Try.underlying67 rfl Try.sz3 rfl) ?_ | refine R.ev rfl (E.fieldAddrN 33 rfl Try.underlying67 rfl Try.sz3 rfl) ?_
        refine R.cstore1 hs rfl rfl Try.sz3 (by first | decide | simp [*]) (by first | rfl | exact OneC.one | exact KRow.oneC' (by assumption)) ?_
        intro w16_3 hs
        try simp only [List.set_cons_zero, List.set_cons_succ] at hs
        rw [encE_tries] at hs
        dsimp only at hs
        refine R.done ?_
        refine X.keep [(4, _), (5, _), (7, _), (8, _), (9, _)] ⟨rfl, rfl, rfl, rfl, rfl, trivial⟩ ?_
        refine X.next ?_
        refine C.drawn (fun w1 => Sat K16 w1 (row b9 67 (encE ⟨dId st, (dS1 st).val, (dS2 st).val⟩) :: row b5 25 [ptr b15] :: row b15 84 [.int .i64 (dCap P), .int .i64 (dWt P), .bool (decide (dFl P = 1)), ve, v13] :: Hs)) ([0, 1, 4, 5], [2, 3, 8, 9]) (by kernel_rfl) ?_
        have hs := hs.drew
        refine D.ev 0 rfl (by kernel_rfl) rfl hs.to (fun _ hS => E.load1 rfl Try.underlying25 rfl (by first | exact hS.ldc | exact hS.ld rfl | exact hS.ld (by assumption) | exact by assumption | exact At.cellC (by assumption) | exact At.cellC ((by assumption : ∀ w', Sat _ w' _ → At w' _ _ _) _ hS) | exact (by assumption : ∀ w', Sat _ w' _ → World.cell? w' _ = some _) _ hS)) ?_
        refine D.ev 1 rfl (by kernel_rfl) rfl hs.to (fun _ hS => E.load1 rfl Try.underlying25 rfl (by first | exact hS.ldc | exact hS.ld rfl | exact hS.ld (by assumption) | exact by assumption | exact At.cellC (by assumption) | exact At.cellC ((by assumption : ∀ w', Sat _ w' _ → At w' _ _ _) _ hS) | exact (by assumption : ∀ w', Sat _ w' _ → World.cell? w' _ = some _) _ hS)) ?_
        refine D.evP 2 rfl (by kernel_rfl) rfl (fun _ => hs.to) (fun _ => E.nilCheck rfl) ?_
        first | refine D.evP 3 rfl (by kernel_rfl) rfl (fun _ => hs.to) (fun _ => E.fieldAddr0 3 rfl Try.underlying84 rfl Try.sz63 rfl) ?_ | refine D.evP 3 rfl (by kernel_rfl) rfl (fun _ => hs.to) (fun _ => E.fieldAddrN 3 rfl Try.underlying84 rfl Try.sz63 rfl) ?_
        refine D.ev 4 rfl (by kernel_rfl) rfl hs.to (fun _ hS => E.load1 rfl Try.underlying63 rfl (by first | exact hS.ldc | exact hS.ld rfl | exact hS.ld (by assumption) | exact by assumption | exact At.cellC (by assumption) | exact At.cellC ((by assumption : ∀ w', Sat _ w' _ → At w' _ _ _) _ hS) | exact (by assumption : ∀ w', Sat _ w' _ → World.cell? w' _ = some _) _ hS)) ?_
        refine D.ev 5 rfl (by kernel_rfl) rfl hs.to (fun _ hS => E.loadRowC rfl Try.underlying67 rfl Try.sz67 (by first | exact ⟨hS.ldA, by first | rfl | assumption | exact encV_len _ | exact Enc.len _ | exact len_ub (by assumption)⟩ | exact ⟨hS.ldP rfl, by first | rfl | assumption | exact encV_len _ | exact Enc.len _ | exact len_ub (by assumption)⟩ | exact ⟨hS.ldM rfl rfl, by first | rfl | assumption | exact encV_len _ | exact Enc.len _ | exact len_ub (by assumption)⟩ | exact ⟨hS.ldM (by assumption) (by first | rfl | assumption), by first | rfl | assumption | exact encV_len _ | exact Enc.len _ | exact len_ub (by assumption)⟩ | exact ⟨by assumption, by first | rfl | assumption | exact encV_len _ | exact Enc.len _ | exact len_ub (by assumption)⟩ | exact ⟨(by assumption : ∀ w', Sat _ w' _ → At w' _ _ _) _ hS, by first | rfl | assumption | exact encV_len _ | exact Enc.len _ | exact len_ub (by assumption)⟩ | exact hS.ldp | exact At.partC (by assumption) | exact At.partC ((by assumption : ∀ w', Sat _ w' _ → At w' _ _ _) _ hS))) ?_
        refine D.act 6 rfl (by kernel_rfl) ?_
        refine R.buildSliceA rfl Try.underlying63 Try.sz67 Try.zr67 rfl (by first | rfl | assumption | exact encV_len _ | exact Enc.len _ | simp [*]) (by decide) (by decide) ?_
        intro b85 w85 n85
        have hs := hs.new n85
        refine D.back hs.to ?_
        refine D.act 7 rfl (by kernel_rfl) ?_
        refine R.capp1 (⟨dId st, (dS1 st).val, (dS2 st).val⟩) hs rfl rfl Try.underlying63 Try.by67 (by rfl) rfl (by first | exact hs.ldA | exact hs.ldP rfl | exact by assumption) (by decide) (by first | omega | (simp only [List.length_append, List.length_cons, List.length_nil] at *; omega)) (by first | omega | (simp only [List.length_append, List.length_cons, List.length_nil] at *; omega)) ?_
        intro v86 w86 F86 r86 hs
        have o86 : OneC v86 := ⟨RowL.oneC⟩
        refine D.back hs.to ?_
        refine D.evP 8 rfl (by kernel_rfl) rfl (fun _ => hs.to) (fun _ => E.nilCheck rfl) ?_
        first | refine D.evP 9 rfl (by kernel_rfl) rfl (fun _ => hs.to) (fun _ => E.fieldAddr0 3 rfl Try.underlying84 rfl Try.sz63 rfl) ?_ | refine D.evP 9 rfl (by kernel_rfl) rfl (fun _ => hs.to) (fun _ => E.fieldAddrN 3 rfl Try.underlying84 rfl Try.sz63 rfl) ?_
        refine D.act 10 rfl (by kernel_rfl) ?_
        refine R.cstore1 hs rfl rfl Try.sz63 (by first | decide | simp [*]) (by first | rfl | exact OneC.one | exact KRow.oneC' (by assumption)) ?_
        intro w17_10 hs
        try simp only [List.set_cons_zero, List.set_cons_succ] at hs
        refine D.backT (by kernel_rfl) ?_
        refine D.done rfl (by kernel_rfl) ?_
        refine X.keep [(4, _), (5, _), (7, _), (8, _)] ⟨rfl, rfl, rfl, rfl, trivial⟩ ?_
        refine X.blockNormal ?_
        refine X.next ?_
        refine C.region ?_
        refine R.ev rfl (E.move rfl) ?_
        refine R.ev rfl (E.add rfl rfl (by omega) (by omega)) ?_
        refine R.ev rfl (E.assign rfl) ?_
        refine R.done ?_
        refine X.keep [(4, _), (5, _), (7, _), (8, _)] ⟨rfl, rfl, rfl, rfl, trivial⟩ ?_
        exact X.again (i + 1, K16, v16, dStep st, v86, F86) ⟨rfl, rfl, rfl, rfl, trivial⟩ ⟨((hk1.trans hk2).trans hk15).trans hk16, r16, r86, by simp [dStep, hln], fun _ => hb1, by rw [hend, show (dN P).toNat - i = ((dN P).toNat - (i + 1)) + 1 by omega, dLoop, if_pos he0], (by show Sat K16 _ (row b12 _ [v16, .int .i64 ((dS2 st).num isTr).err] :: _); exact hs.to)⟩ (by show _ - _ < _ - _; omega)
    · refine C.exit ?_
      refine X.thenExit ?_
      refine X.loopExit ?_
      refine X.blockExit ?_
      refine X.next ?_
      refine C.seq ?_
      refine C.seq ?_
      refine C.region ?_
      have hst : dEnd P = st := by
        rw [hend]
        by_cases he : st.1.err = 0
        · rw [show (dN P).toNat - i = 0 by first | (have := of_decide_eq_false h45; omega) | exact absurd he (of_decide_eq_false h51)]; rfl
        · exact dLoop_stop he
      refine R.ev rfl (E.move rfl) ?_
      refine R.ev rfl (E.nilCheck rfl) ?_
      first | refine R.ev rfl (E.fieldAddr0 1 rfl Try.underlying94 rfl Try.sz26 rfl) ?_ | refine R.ev rfl (E.fieldAddrN 1 rfl Try.underlying94 rfl Try.sz26 rfl) ?_
      refine R.ev rfl (E.load1 rfl Try.underlying26 rfl (by first | exact hs.ldc | exact hs.ld rfl | exact hs.ld (by assumption) | exact by assumption | exact At.cellC (by assumption))) ?_
      refine R.ev rfl (E.eql rfl rfl) ?_
      refine R.ev rfl (E.move rfl) ?_
      refine R.split 94 rfl (fun h94 => ?_) (fun h94 => ?_)
      · refine R.gyes rfl rfl ?_
        refine R.ev rfl (E.move rfl) ?_
        refine R.gyes rfl rfl ?_
        refine R.ev rfl (E.nilCheck rfl) ?_
        refine R.gyes rfl rfl ?_
        first | refine R.ev rfl (E.fieldAddr0 0 rfl Try.underlying94 rfl Try.sz57 rfl) ?_ | refine R.ev rfl (E.fieldAddrN 0 rfl Try.underlying94 rfl Try.sz57 rfl) ?_
        refine R.gyes rfl rfl ?_
        refine R.ev rfl (E.load1 rfl Try.underlying57 rfl (by first | exact hs.ldc | exact hs.ld rfl | exact hs.ld (by assumption) | exact by assumption | exact At.cellC (by assumption))) ?_
        refine R.gyes rfl rfl ?_
        refine R.ev rfl (E.lenSl rfl Try.underlying57) ?_
        refine R.gyes rfl rfl ?_
        refine R.ev rfl (E.gtr rfl rfl) ?_
        refine R.ev rfl (E.pickT rfl rfl) ?_
        refine R.done ?_
        refine X.keep [(4, _), (5, _), (101, _)] ⟨rfl, rfl, rfl, trivial⟩ ?_
        refine X.next ?_
        refine C.cut [(4, _), (5, _)] (fun (_ : Unit) => []) (fun _ w' => Sat K1 w' (row b12 94 [.slice ad1 st.1.rest.length cap1, .int .i64 (decE P)] :: row b5 25 [ptr b15] :: row b15 84 [.int .i64 (dCap P), .int .i64 (dWt P), .bool (decide (dFl P = 1)), ve, v13] :: G1 :: F13 :: Hs)) ⟨rfl, rfl, trivial⟩ ?_ ?_
        · refine C.cbool rfl (fun h101 => ?_) (fun h101 => ?_)
          · refine C.region ?_
            refine R.ev rfl (E.move rfl) ?_
            refine R.ev rfl (E.nilCheck rfl) ?_
            first | refine R.ev rfl (E.fieldAddr0 1 rfl Try.underlying94 rfl Try.sz26 rfl) ?_ | refine R.ev rfl (E.fieldAddrN 1 rfl Try.underlying94 rfl Try.sz26 rfl) ?_
            refine R.cstore1 hs rfl rfl Try.sz26 (by first | decide | simp [*]) (by first | rfl | exact OneC.one | exact KRow.oneC' (by assumption)) ?_
            intro w19_3 hs
            try simp only [List.set_cons_zero, List.set_cons_succ] at hs
            refine R.done ?_
            refine X.keep [(4, _), (5, _)] ⟨rfl, rfl, trivial⟩ ?_
            first
              | exact X.cut (()) ⟨rfl, rfl, trivial⟩ (by rw [decE_T hst h94 h101]; exact hs.to)
              | exact X.cut (()) ⟨rfl, rfl, trivial⟩ (by rw [decE_F2 hst h101]; exact hs.to)
              | exact X.cut (()) ⟨rfl, rfl, trivial⟩ (by rw [decE_F1 hst h94]; exact hs.to)
          · refine C.skip ?_
            first
              | exact X.cut (()) ⟨rfl, rfl, trivial⟩ (by rw [decE_T hst h94 h101]; exact hs.to)
              | exact X.cut (()) ⟨rfl, rfl, trivial⟩ (by rw [decE_F2 hst h101]; exact hs.to)
              | exact X.cut (()) ⟨rfl, rfl, trivial⟩ (by rw [decE_F1 hst h94]; exact hs.to)
        · rintro _ w20 hs
          refine X.keep [(4, _), (5, _)] ⟨rfl, rfl, trivial⟩ ?_
          refine X.next ?_
          refine C.seq ?_
          refine C.seq ?_
          refine C.region ?_
          refine R.ev rfl (E.move rfl) ?_
          refine R.ev rfl (E.nilCheck rfl) ?_
          first | refine R.ev rfl (E.fieldAddr0 1 rfl Try.underlying94 rfl Try.sz26 rfl) ?_ | refine R.ev rfl (E.fieldAddrN 1 rfl Try.underlying94 rfl Try.sz26 rfl) ?_
          refine R.ev rfl (E.load1 rfl Try.underlying26 rfl (by first | exact hs.ldc | exact hs.ld rfl | exact hs.ld (by assumption) | exact by assumption | exact At.cellC (by assumption))) ?_
          refine R.ev rfl (E.neq rfl rfl) ?_
          refine R.done ?_
          refine X.keep [(4, _), (5, _), (109, _)] ⟨rfl, rfl, rfl, trivial⟩ ?_
          refine X.next ?_
          refine C.cdec rfl (fun h109 => ?_) (fun h109 => ?_)
          · refine C.seq ?_
            refine C.drawn (SatS hs) ([3], [0, 1, 2, 4, 5]) (by kernel_rfl) ?_
            have hs := hs.drew
            refine D.evP 0 rfl (by kernel_rfl) rfl (fun _ => hs.to) (fun _ => E.move rfl) ?_
            refine D.evP 1 rfl (by kernel_rfl) rfl (fun _ => hs.to) (fun _ => E.nilCheck rfl) ?_
            first | refine D.evP 2 rfl (by kernel_rfl) rfl (fun _ => hs.to) (fun _ => E.fieldAddr0 1 rfl Try.underlying94 rfl Try.sz26 rfl) ?_ | refine D.evP 2 rfl (by kernel_rfl) rfl (fun _ => hs.to) (fun _ => E.fieldAddrN 1 rfl Try.underlying94 rfl Try.sz26 rfl) ?_
            refine D.evP 4 rfl (by kernel_rfl) rfl (fun _ => hs.to) (fun _ => E.assign rfl) ?_
            refine D.ev 3 rfl (by kernel_rfl) rfl hs.to (fun _ hS => E.load1 rfl Try.underlying26 rfl (by first | exact hS.ldc | exact hS.ld rfl | exact hS.ld (by assumption) | exact by assumption | exact At.cellC (by assumption) | exact At.cellC ((by assumption : ∀ w', Sat _ w' _ → At w' _ _ _) _ hS) | exact (by assumption : ∀ w', Sat _ w' _ → World.cell? w' _ = some _) _ hS)) ?_
            refine D.evP 5 rfl (by kernel_rfl) rfl (fun _ => hs.to) (fun _ => E.assign rfl) ?_
            refine D.done rfl (by kernel_rfl) ?_
            refine X.keep [(2, _), (3, _)] ⟨rfl, rfl, trivial⟩ ?_
            refine X.next ?_
            refine C.ret ?_
            refine X.thenRet ?_
            refine X.ret2 rfl rfl rfl ?_
            exact ⟨K1, hk1, .inl ⟨h109, rfl, hs.to⟩⟩
          · refine C.skip ?_
            refine X.next ?_
            refine C.seq ?_
            refine C.region ?_
            refine R.ev rfl (E.load1 rfl Try.underlying25 rfl (by first | exact hs.ldc | exact hs.ld rfl | exact hs.ld (by assumption) | exact by assumption | exact At.cellC (by assumption))) ?_
            refine R.ev rfl (E.assign rfl) ?_
            refine R.ev rfl (E.assign rfl) ?_
            refine R.done ?_
            refine X.keep [(2, _), (3, _)] ⟨rfl, rfl, trivial⟩ ?_
            refine X.next ?_
            refine C.ret ?_
            refine X.ret2 rfl rfl rfl ?_
            exact ⟨K1, hk1, .inr ⟨by simpa using h109, b15, _, rfl, by rw [decS, hst]; exact BkL.mk' re m13, hs.to⟩⟩
      · refine R.gskip rfl rfl rfl ?_
        refine R.gskip rfl rfl rfl ?_
        refine R.gskip rfl rfl rfl ?_
        refine R.gskip rfl rfl rfl ?_
        refine R.gskip rfl rfl rfl ?_
        refine R.gskip rfl rfl rfl ?_
        refine R.ev rfl (E.pickF rfl rfl) ?_
        refine R.done ?_
        refine X.keep [(4, _), (5, _), (101, _)] ⟨rfl, rfl, rfl, trivial⟩ ?_
        refine X.next ?_
        refine C.cut [(4, _), (5, _)] (fun (_ : Unit) => []) (fun _ w' => Sat K1 w' (row b12 94 [.slice ad1 st.1.rest.length cap1, .int .i64 (decE P)] :: row b5 25 [ptr b15] :: row b15 84 [.int .i64 (dCap P), .int .i64 (dWt P), .bool (decide (dFl P = 1)), ve, v13] :: G1 :: F13 :: Hs)) ⟨rfl, rfl, trivial⟩ ?_ ?_
        · refine C.cfalse rfl ?_
          refine C.skip ?_
          first
            | exact X.cut (()) ⟨rfl, rfl, trivial⟩ (by rw [decE_T hst h94 h101]; exact hs.to)
            | exact X.cut (()) ⟨rfl, rfl, trivial⟩ (by rw [decE_F2 hst h101]; exact hs.to)
            | exact X.cut (()) ⟨rfl, rfl, trivial⟩ (by rw [decE_F1 hst h94]; exact hs.to)
        · rintro _ w20 hs
          refine X.keep [(4, _), (5, _)] ⟨rfl, rfl, trivial⟩ ?_
          refine X.next ?_
          refine C.seq ?_
          refine C.seq ?_
          refine C.region ?_
          refine R.ev rfl (E.move rfl) ?_
          refine R.ev rfl (E.nilCheck rfl) ?_
          first | refine R.ev rfl (E.fieldAddr0 1 rfl Try.underlying94 rfl Try.sz26 rfl) ?_ | refine R.ev rfl (E.fieldAddrN 1 rfl Try.underlying94 rfl Try.sz26 rfl) ?_
          refine R.ev rfl (E.load1 rfl Try.underlying26 rfl (by first | exact hs.ldc | exact hs.ld rfl | exact hs.ld (by assumption) | exact by assumption | exact At.cellC (by assumption))) ?_
          refine R.ev rfl (E.neq rfl rfl) ?_
          refine R.done ?_
          refine X.keep [(4, _), (5, _), (109, _)] ⟨rfl, rfl, rfl, trivial⟩ ?_
          refine X.next ?_
          refine C.cdec rfl (fun h109 => ?_) (fun h109 => ?_)
          · refine C.seq ?_
            refine C.drawn (SatS hs) ([3], [0, 1, 2, 4, 5]) (by kernel_rfl) ?_
            have hs := hs.drew
            refine D.evP 0 rfl (by kernel_rfl) rfl (fun _ => hs.to) (fun _ => E.move rfl) ?_
            refine D.evP 1 rfl (by kernel_rfl) rfl (fun _ => hs.to) (fun _ => E.nilCheck rfl) ?_
            first | refine D.evP 2 rfl (by kernel_rfl) rfl (fun _ => hs.to) (fun _ => E.fieldAddr0 1 rfl Try.underlying94 rfl Try.sz26 rfl) ?_ | refine D.evP 2 rfl (by kernel_rfl) rfl (fun _ => hs.to) (fun _ => E.fieldAddrN 1 rfl Try.underlying94 rfl Try.sz26 rfl) ?_
            refine D.evP 4 rfl (by kernel_rfl) rfl (fun _ => hs.to) (fun _ => E.assign rfl) ?_
            refine D.ev 3 rfl (by kernel_rfl) rfl hs.to (fun _ hS => E.load1 rfl Try.underlying26 rfl (by first | exact hS.ldc | exact hS.ld rfl | exact hS.ld (by assumption) | exact by assumption | exact At.cellC (by assumption) | exact At.cellC ((by assumption : ∀ w', Sat _ w' _ → At w' _ _ _) _ hS) | exact (by assumption : ∀ w', Sat _ w' _ → World.cell? w' _ = some _) _ hS)) ?_
            refine D.evP 5 rfl (by kernel_rfl) rfl (fun _ => hs.to) (fun _ => E.assign rfl) ?_
            refine D.done rfl (by kernel_rfl) ?_
            refine X.keep [(2, _), (3, _)] ⟨rfl, rfl, trivial⟩ ?_
            refine X.next ?_
            refine C.ret ?_
            refine X.thenRet ?_
            refine X.ret2 rfl rfl rfl ?_
            exact ⟨K1, hk1, .inl ⟨h109, rfl, hs.to⟩⟩
          · refine C.skip ?_
            refine X.next ?_
            refine C.seq ?_
            refine C.region ?_
            refine R.ev rfl (E.load1 rfl Try.underlying25 rfl (by first | exact hs.ldc | exact hs.ld rfl | exact hs.ld (by assumption) | exact by assumption | exact At.cellC (by assumption))) ?_
            refine R.ev rfl (E.assign rfl) ?_
            refine R.ev rfl (E.assign rfl) ?_
            refine R.done ?_
            refine X.keep [(2, _), (3, _)] ⟨rfl, rfl, trivial⟩ ?_
            refine X.next ?_
            refine C.ret ?_
            refine X.ret2 rfl rfl rfl ?_
            exact ⟨K1, hk1, .inr ⟨by simpa using h109, b15, _, rfl, by rw [decS, hst]; exact BkL.mk' re m13, hs.to⟩⟩
  · refine R.gskip rfl rfl rfl ?_
    refine R.gskip rfl rfl rfl ?_
    refine R.gskip rfl rfl rfl ?_
    refine R.gskip rfl rfl rfl ?_
    refine R.gskip rfl rfl rfl ?_
    refine R.ev rfl (E.pickF rfl rfl) ?_
    refine R.done ?_
    refine X.keep [(4, _), (5, _), (7, _), (8, _), (51, _)] ⟨rfl, rfl, rfl, rfl, rfl, trivial⟩ ?_
    refine X.next ?_
    refine C.cfalse rfl ?_
    refine C.exit ?_
    refine X.thenExit ?_
    refine X.loopExit ?_
    refine X.blockExit ?_
    refine X.next ?_
    refine C.seq ?_
    refine C.seq ?_
    refine C.region ?_
    have hst : dEnd P = st := by
      rw [hend]
      by_cases he : st.1.err = 0
      · rw [show (dN P).toNat - i = 0 by first | (have := of_decide_eq_false h45; omega) | exact absurd he (of_decide_eq_false h51)]; rfl
      · exact dLoop_stop he
    refine R.ev rfl (E.move rfl) ?_
    refine R.ev rfl (E.nilCheck rfl) ?_
    first | refine R.ev rfl (E.fieldAddr0 1 rfl Try.underlying94 rfl Try.sz26 rfl) ?_ | refine R.ev rfl (E.fieldAddrN 1 rfl Try.underlying94 rfl Try.sz26 rfl) ?_
    refine R.ev rfl (E.load1 rfl Try.underlying26 rfl (by first | exact hs.ldc | exact hs.ld rfl | exact hs.ld (by assumption) | exact by assumption | exact At.cellC (by assumption))) ?_
    refine R.ev rfl (E.eql rfl rfl) ?_
    refine R.ev rfl (E.move rfl) ?_
    refine R.split 94 rfl (fun h94 => ?_) (fun h94 => ?_)
    · refine R.gyes rfl rfl ?_
      refine R.ev rfl (E.move rfl) ?_
      refine R.gyes rfl rfl ?_
      refine R.ev rfl (E.nilCheck rfl) ?_
      refine R.gyes rfl rfl ?_
      first | refine R.ev rfl (E.fieldAddr0 0 rfl Try.underlying94 rfl Try.sz57 rfl) ?_ | refine R.ev rfl (E.fieldAddrN 0 rfl Try.underlying94 rfl Try.sz57 rfl) ?_
      refine R.gyes rfl rfl ?_
      refine R.ev rfl (E.load1 rfl Try.underlying57 rfl (by first | exact hs.ldc | exact hs.ld rfl | exact hs.ld (by assumption) | exact by assumption | exact At.cellC (by assumption))) ?_
      refine R.gyes rfl rfl ?_
      refine R.ev rfl (E.lenSl rfl Try.underlying57) ?_
      refine R.gyes rfl rfl ?_
      refine R.ev rfl (E.gtr rfl rfl) ?_
      refine R.ev rfl (E.pickT rfl rfl) ?_
      refine R.done ?_
      refine X.keep [(4, _), (5, _), (101, _)] ⟨rfl, rfl, rfl, trivial⟩ ?_
      refine X.next ?_
      refine C.cut [(4, _), (5, _)] (fun (_ : Unit) => []) (fun _ w' => Sat K1 w' (row b12 94 [.slice ad1 st.1.rest.length cap1, .int .i64 (decE P)] :: row b5 25 [ptr b15] :: row b15 84 [.int .i64 (dCap P), .int .i64 (dWt P), .bool (decide (dFl P = 1)), ve, v13] :: G1 :: F13 :: Hs)) ⟨rfl, rfl, trivial⟩ ?_ ?_
      · refine C.cbool rfl (fun h101 => ?_) (fun h101 => ?_)
        · refine C.region ?_
          refine R.ev rfl (E.move rfl) ?_
          refine R.ev rfl (E.nilCheck rfl) ?_
          first | refine R.ev rfl (E.fieldAddr0 1 rfl Try.underlying94 rfl Try.sz26 rfl) ?_ | refine R.ev rfl (E.fieldAddrN 1 rfl Try.underlying94 rfl Try.sz26 rfl) ?_
          refine R.cstore1 hs rfl rfl Try.sz26 (by first | decide | simp [*]) (by first | rfl | exact OneC.one | exact KRow.oneC' (by assumption)) ?_
          intro w19_3 hs
          try simp only [List.set_cons_zero, List.set_cons_succ] at hs
          refine R.done ?_
          refine X.keep [(4, _), (5, _)] ⟨rfl, rfl, trivial⟩ ?_
          first
            | exact X.cut (()) ⟨rfl, rfl, trivial⟩ (by rw [decE_T hst h94 h101]; exact hs.to)
            | exact X.cut (()) ⟨rfl, rfl, trivial⟩ (by rw [decE_F2 hst h101]; exact hs.to)
            | exact X.cut (()) ⟨rfl, rfl, trivial⟩ (by rw [decE_F1 hst h94]; exact hs.to)
        · refine C.skip ?_
          first
            | exact X.cut (()) ⟨rfl, rfl, trivial⟩ (by rw [decE_T hst h94 h101]; exact hs.to)
            | exact X.cut (()) ⟨rfl, rfl, trivial⟩ (by rw [decE_F2 hst h101]; exact hs.to)
            | exact X.cut (()) ⟨rfl, rfl, trivial⟩ (by rw [decE_F1 hst h94]; exact hs.to)
      · rintro _ w20 hs
        refine X.keep [(4, _), (5, _)] ⟨rfl, rfl, trivial⟩ ?_
        refine X.next ?_
        refine C.seq ?_
        refine C.seq ?_
        refine C.region ?_
        refine R.ev rfl (E.move rfl) ?_
        refine R.ev rfl (E.nilCheck rfl) ?_
        first | refine R.ev rfl (E.fieldAddr0 1 rfl Try.underlying94 rfl Try.sz26 rfl) ?_ | refine R.ev rfl (E.fieldAddrN 1 rfl Try.underlying94 rfl Try.sz26 rfl) ?_
        refine R.ev rfl (E.load1 rfl Try.underlying26 rfl (by first | exact hs.ldc | exact hs.ld rfl | exact hs.ld (by assumption) | exact by assumption | exact At.cellC (by assumption))) ?_
        refine R.ev rfl (E.neq rfl rfl) ?_
        refine R.done ?_
        refine X.keep [(4, _), (5, _), (109, _)] ⟨rfl, rfl, rfl, trivial⟩ ?_
        refine X.next ?_
        refine C.cdec rfl (fun h109 => ?_) (fun h109 => ?_)
        · refine C.seq ?_
          refine C.drawn (SatS hs) ([3], [0, 1, 2, 4, 5]) (by kernel_rfl) ?_
          have hs := hs.drew
          refine D.evP 0 rfl (by kernel_rfl) rfl (fun _ => hs.to) (fun _ => E.move rfl) ?_
          refine D.evP 1 rfl (by kernel_rfl) rfl (fun _ => hs.to) (fun _ => E.nilCheck rfl) ?_
          first | refine D.evP 2 rfl (by kernel_rfl) rfl (fun _ => hs.to) (fun _ => E.fieldAddr0 1 rfl Try.underlying94 rfl Try.sz26 rfl) ?_ | refine D.evP 2 rfl (by kernel_rfl) rfl (fun _ => hs.to) (fun _ => E.fieldAddrN 1 rfl Try.underlying94 rfl Try.sz26 rfl) ?_
          refine D.evP 4 rfl (by kernel_rfl) rfl (fun _ => hs.to) (fun _ => E.assign rfl) ?_
          refine D.ev 3 rfl (by kernel_rfl) rfl hs.to (fun _ hS => E.load1 rfl Try.underlying26 rfl (by first | exact hS.ldc | exact hS.ld rfl | exact hS.ld (by assumption) | exact by assumption | exact At.cellC (by assumption) | exact At.cellC ((by assumption : ∀ w', Sat _ w' _ → At w' _ _ _) _ hS) | exact (by assumption : ∀ w', Sat _ w' _ → World.cell? w' _ = some _) _ hS)) ?_
          refine D.evP 5 rfl (by kernel_rfl) rfl (fun _ => hs.to) (fun _ => E.assign rfl) ?_
          refine D.done rfl (by kernel_rfl) ?_
          refine X.keep [(2, _), (3, _)] ⟨rfl, rfl, trivial⟩ ?_
          refine X.next ?_
          refine C.ret ?_
          refine X.thenRet ?_
          refine X.ret2 rfl rfl rfl ?_
          exact ⟨K1, hk1, .inl ⟨h109, rfl, hs.to⟩⟩
        · refine C.skip ?_
          refine X.next ?_
          refine C.seq ?_
          refine C.region ?_
          refine R.ev rfl (E.load1 rfl Try.underlying25 rfl (by first | exact hs.ldc | exact hs.ld rfl | exact hs.ld (by assumption) | exact by assumption | exact At.cellC (by assumption))) ?_
          refine R.ev rfl (E.assign rfl) ?_
          refine R.ev rfl (E.assign rfl) ?_
          refine R.done ?_
          refine X.keep [(2, _), (3, _)] ⟨rfl, rfl, trivial⟩ ?_
          refine X.next ?_
          refine C.ret ?_
          refine X.ret2 rfl rfl rfl ?_
          exact ⟨K1, hk1, .inr ⟨by simpa using h109, b15, _, rfl, by rw [decS, hst]; exact BkL.mk' re m13, hs.to⟩⟩
    · refine R.gskip rfl rfl rfl ?_
      refine R.gskip rfl rfl rfl ?_
      refine R.gskip rfl rfl rfl ?_
      refine R.gskip rfl rfl rfl ?_
      refine R.gskip rfl rfl rfl ?_
      refine R.gskip rfl rfl rfl ?_
      refine R.ev rfl (E.pickF rfl rfl) ?_
      refine R.done ?_
      refine X.keep [(4, _), (5, _), (101, _)] ⟨rfl, rfl, rfl, trivial⟩ ?_
      refine X.next ?_
      refine C.cut [(4, _), (5, _)] (fun (_ : Unit) => []) (fun _ w' => Sat K1 w' (row b12 94 [.slice ad1 st.1.rest.length cap1, .int .i64 (decE P)] :: row b5 25 [ptr b15] :: row b15 84 [.int .i64 (dCap P), .int .i64 (dWt P), .bool (decide (dFl P = 1)), ve, v13] :: G1 :: F13 :: Hs)) ⟨rfl, rfl, trivial⟩ ?_ ?_
      · refine C.cfalse rfl ?_
        refine C.skip ?_
        first
          | exact X.cut (()) ⟨rfl, rfl, trivial⟩ (by rw [decE_T hst h94 h101]; exact hs.to)
          | exact X.cut (()) ⟨rfl, rfl, trivial⟩ (by rw [decE_F2 hst h101]; exact hs.to)
          | exact X.cut (()) ⟨rfl, rfl, trivial⟩ (by rw [decE_F1 hst h94]; exact hs.to)
      · rintro _ w20 hs
        refine X.keep [(4, _), (5, _)] ⟨rfl, rfl, trivial⟩ ?_
        refine X.next ?_
        refine C.seq ?_
        refine C.seq ?_
        refine C.region ?_
        refine R.ev rfl (E.move rfl) ?_
        refine R.ev rfl (E.nilCheck rfl) ?_
        first | refine R.ev rfl (E.fieldAddr0 1 rfl Try.underlying94 rfl Try.sz26 rfl) ?_ | refine R.ev rfl (E.fieldAddrN 1 rfl Try.underlying94 rfl Try.sz26 rfl) ?_
        refine R.ev rfl (E.load1 rfl Try.underlying26 rfl (by first | exact hs.ldc | exact hs.ld rfl | exact hs.ld (by assumption) | exact by assumption | exact At.cellC (by assumption))) ?_
        refine R.ev rfl (E.neq rfl rfl) ?_
        refine R.done ?_
        refine X.keep [(4, _), (5, _), (109, _)] ⟨rfl, rfl, rfl, trivial⟩ ?_
        refine X.next ?_
        refine C.cdec rfl (fun h109 => ?_) (fun h109 => ?_)
        · refine C.seq ?_
          refine C.drawn (SatS hs) ([3], [0, 1, 2, 4, 5]) (by kernel_rfl) ?_
          have hs := hs.drew
          refine D.evP 0 rfl (by kernel_rfl) rfl (fun _ => hs.to) (fun _ => E.move rfl) ?_
          refine D.evP 1 rfl (by kernel_rfl) rfl (fun _ => hs.to) (fun _ => E.nilCheck rfl) ?_
          first | refine D.evP 2 rfl (by kernel_rfl) rfl (fun _ => hs.to) (fun _ => E.fieldAddr0 1 rfl Try.underlying94 rfl Try.sz26 rfl) ?_ | refine D.evP 2 rfl (by kernel_rfl) rfl (fun _ => hs.to) (fun _ => E.fieldAddrN 1 rfl Try.underlying94 rfl Try.sz26 rfl) ?_
          refine D.evP 4 rfl (by kernel_rfl) rfl (fun _ => hs.to) (fun _ => E.assign rfl) ?_
          refine D.ev 3 rfl (by kernel_rfl) rfl hs.to (fun _ hS => E.load1 rfl Try.underlying26 rfl (by first | exact hS.ldc | exact hS.ld rfl | exact hS.ld (by assumption) | exact by assumption | exact At.cellC (by assumption) | exact At.cellC ((by assumption : ∀ w', Sat _ w' _ → At w' _ _ _) _ hS) | exact (by assumption : ∀ w', Sat _ w' _ → World.cell? w' _ = some _) _ hS)) ?_
          refine D.evP 5 rfl (by kernel_rfl) rfl (fun _ => hs.to) (fun _ => E.assign rfl) ?_
          refine D.done rfl (by kernel_rfl) ?_
          refine X.keep [(2, _), (3, _)] ⟨rfl, rfl, trivial⟩ ?_
          refine X.next ?_
          refine C.ret ?_
          refine X.thenRet ?_
          refine X.ret2 rfl rfl rfl ?_
          exact ⟨K1, hk1, .inl ⟨h109, rfl, hs.to⟩⟩
        · refine C.skip ?_
          refine X.next ?_
          refine C.seq ?_
          refine C.region ?_
          refine R.ev rfl (E.load1 rfl Try.underlying25 rfl (by first | exact hs.ldc | exact hs.ld rfl | exact hs.ld (by assumption) | exact by assumption | exact At.cellC (by assumption))) ?_
          refine R.ev rfl (E.assign rfl) ?_
          refine R.ev rfl (E.assign rfl) ?_
          refine R.done ?_
          refine X.keep [(2, _), (3, _)] ⟨rfl, rfl, trivial⟩ ?_
          refine X.next ?_
          refine C.ret ?_
          refine X.ret2 rfl rfl rfl ?_
          exact ⟨K1, hk1, .inr ⟨by simpa using h109, b15, _, rfl, by rw [decS, hst]; exact BkL.mk' re m13, hs.to⟩⟩
end Go.Proofs.Ytoidpcmcbmioiaa
