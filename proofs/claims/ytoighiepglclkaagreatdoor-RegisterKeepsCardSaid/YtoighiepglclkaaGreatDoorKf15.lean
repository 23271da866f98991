/-
Part 15 of the base.
-/
import Derived.Test.YtoighiepglclkaaGreatDoorKf10
import Derived.Test.YtoighiepglclkaaGreatDoorKf13
import Derived.Test.YtoighiepglclkaaGreatDoorKf14
import Derived.DeepKeys
import Derived.DeepKeys4
import Derived.Maps.OwnSet
import Derived.Maps.OwnOps
import Derived.Maps.Views
import Derived.IntWalk
set_option maxRecDepth 100000
namespace Go.Proofs.YtoighiepglclkaaGreatDoor
open Go.RowKit
section
variable {H : Type} {P : Program}
theorem b1t {e : TypeId} (he : P.underlying e = some .bool) {v : Value} {x : Bool} {ps : List MemPlace} (h : plainElem (H := H) P e v = some (.lit (.bool x), ps)) : v = .bool x := by
 unfold plainElem at h
 rw [he] at h
 cases v <;> simp at h
 rw [h.1]
theorem a5e (w : World) {ops : Array Oper} {rest : List Oper} {o : Oper} {a : Act} {Q : Exit -> Act -> World -> Prop}
  (hg : o.guard = none) (m x : Operand) (t : TypeId) (hop : o.op = Op.lookup t m x false)
  (k e : TypeId) (K : Maps.Keyed P k) (ht : P.underlying t = some (.map k e)) (he : P.underlying e = some .bool) (hz : (zeroValue e).run P w = .ok (.bool false) w) (b n : Nat) (D : DataW H)
  (hm : a.eval m = .map (some b)) (hown : w.ownsMap P k (plainElem P e) b n D) (key : Value) (kl : Lit) (hx : a.eval x = key) (hkey : keyOf P k key = some kl) (y : Bool) (hy : D.atKey kl (.lit (.bool false)) = .lit (.bool y))
  (hK : wpList P ops Q rest (a.put o.dst (.bool y)) w) :
  wpList P ops Q (o :: rest) a w := by
 refine wpList_plain hg fun K' hK' => ?_
 obtain ⟨v, ps, hrun, hv⟩ := hown.lookup K ht hz (plainElem_bool he false) hkey
 rw [hy] at hv
 have := b1t he hv
 subst this
 unfold Oper.wp
 simp [execOp, hop, hm, hx, hrun, Result.andThen]
 exact hK' _ _ hK
end
theorem c7t {a w : World} (h : Below a.heap.size a w) (row : Option Nat) : a.grownBy w row := ⟨h.os, h.tape, h.output, h.size, fun i hi _ => h.block i hi⟩
theorem c4r : laidOutB Tryz.prog = true := by kernel_rfl
theorem c9h : (40 : TypeId) < Tryz.prog.types.size := of_decide_eq_true (by kernel_rfl)
theorem c5y : (match Tryz.prog.underlying 40 with | some (.array _ _) | some (.struct _) => true | _ => false) = true := by kernel_rfl
theorem c5z : Tryz.prog.keyTypeAt 3 40 = true := by kernel_rfl
theorem rat_keyed : WideMaps.KeyLaw Tryz.prog 40 := deep_law_laid c4r (m := 3) (by omega) c9h c5z c5y
theorem c9j (neg : Bool) (num den : List UInt8) (hn : num.length <= 1099511627776) (hd : den.length <= 1099511627776) :
  keyOf Tryz.prog 40 (raw neg num den) = some (.string (keyBytes [.bool neg, .string num, .string den])) := by
 unfold raw
 have hu := Tryz.underlying40
 obtain ⟨n, hs⟩ : ∃ n, Tryz.prog.types.size = n + 1 := ⟨Tryz.prog.types.size - 1, (Nat.sub_add_cancel (Nat.lt_of_le_of_lt (Nat.zero_le _) c9h)).symm⟩
 have hkt : Tryz.prog.keyType 40 = true := by kernel_rfl
 have c2 : Tryz.prog.cellsOf 40 = 3 := by kernel_rfl
 have c9 : Tryz.prog.cellsOf 9 = 1 := by kernel_rfl
 have c4 : Tryz.prog.cellsOf 4 = 1 := by kernel_rfl
 have u9 := Tryz.underlying9
 have u4 := Tryz.underlying4
 have hsz : (bs num).size <= maxLen := by rw [a2b]; unfold maxLen; omega
 have hsz2 : (bs den).size <= maxLen := by rw [a2b]; unfold maxLen; omega
 unfold keyOf
 rw [hu]
 have hf : (Value.agg #[Value.bool neg, Value.string (bs num), Value.string (bs den)]).formed Tryz.prog 40 = true := by
  simp [Value.formed, hu, c2]
 rw [hkt, hf, hs]
 have hl : Tryz.prog.keyLits (n + 1 + 1) 40 [.bool neg, .string (bs num), .string (bs den)] = some [.bool neg, .string num, .string den] := by
  simp [Program.keyLits, hu, c2, c9, c4, u9, u4, hsz, hsz2, a2n]
 simp [Value.cells, hl]
theorem raw_inj {n1 n2 : Bool} {a1 a2 b1 b2 : List UInt8} (h : raw n1 a1 b1 = raw n2 a2 b2) : n1 = n2 /\ a1 = a2 /\ b1 = b2 := by
 unfold raw at h
 injection h with h
 simp only [Array.mk.injEq, List.cons.injEq, Value.bool.injEq, Value.string.injEq, and_true] at h
 exact ⟨h.1, d1g h.2.1, d1g h.2.2⟩
theorem rat_eql (n1 n2 : Bool) (a1 a2 b1 b2 : List UInt8) (ha1 : a1.length <= 1099511627776) (hb1 : b1.length <= 1099511627776) (ha2 : a2.length <= 1099511627776) (hb2 : b2.length <= 1099511627776) (y : Bool)
  (hy : decide (n1 = n2 /\ a1 = a2 /\ b1 = b2) = y) (w : World) :
  (binOp .eql 40 (raw n1 a1 b1) (raw n2 a2 b2)).run Tryz.prog w = .ok (.bool y) w := by
 have k1 := c9j n1 a1 b1 ha1 hb1
 have k2 := c9j n2 a2 b2 ha2 hb2
 obtain ⟨r, hr, hiff⟩ := run_equal_deep w (m := 3) (by decide) c5z c5y k1 k2
 have hry : r = y := by
  rw [<- hy, Bool.eq_iff_iff, hiff, decide_eq_true_eq]
  constructor
  ·intro e
   rw [e] at k1
   exact raw_inj (rat_keyed.inj k1 k2)
  rintro ⟨rfl, rfl, rfl⟩; rfl
 subst hry
 unfold raw at hr ⊢
 simp only [binOp]
 simp [hr, Result.andThen]
theorem a3h {n : Int} (h : n.natAbs < 18446744073709551616) : Sized 8 (n : Rat) := by
 have hp : (256 : Nat) ^ 8 = 18446744073709551616 := by decide
 refine ⟨?_, ?_⟩
 ·rw [Rat.num_intCast]; exact a0s _ _ (by omega)
 rw [Rat.den_intCast]; exact a0s _ _ (by decide)
theorem b2r {q : Rat} (h : 0 <= sgn q.num) : 0 <= q := by
 rw [<- Rat.num_nonneg]
 unfold sgn at h
 split at h
 ·omega
 split at h <;> omega
theorem b8n {q : Rat} (h : 0 <= q) : ¬ sgn q.num < 0 := by
 rw [<- Rat.num_nonneg] at h
 unfold sgn
 split
 ·omega
 split <;> omega
theorem b2c : decR false [] [] = 0 := by decide +kernel
theorem a8h (p q : Rat) (w : World) (hp : Sized 17179869184 p) (hq : Sized 17179869184 q) :
  Calls Tryz.prog 50 #[rat p, rat q] w fun e w' => e = .returned (rat (p + q)) /\ Below w.heap.size w w' := by
 have := b3r (negB p) (numB p) (a0a p) (negB q) (numB q) (a0a q) w hp.num hp.denom hq.num hq.denom
 rwa [show decR (negB p) (numB p) (a0a p) = p from a6y p, show decR (negB q) (numB q) (a0a q) = q from a6y q] at this
theorem a5a (n : Bool) (a b : List UInt8) (q : Rat) (w : World) (ha : a.length <= 17179869184) (hb : b.length <= 17179869184) (hq : Sized 17179869184 q) :
  Calls Tryz.prog 72 #[raw n a b, rat q] w fun e w' => e = .returned (rat (decR n a b * q)) /\ Below w.heap.size w w' := by
 have := a7v n a b (negB q) (numB q) (a0a q) w ha hb hq.num hq.denom
 rwa [show decR (negB q) (numB q) (a0a q) = q from a6y q] at this
theorem b4k (p q : Rat) (w : World) (hp : Sized 17179869184 p) (hq : Sized 17179869184 q) (h0 : q ≠ 0) :
  Calls Tryz.prog 71 #[rat p, rat q] w fun e w' => e = .returned (.tuple #[rat (p / q), .bool true]) /\ Below w.heap.size w w' := by
 have := a9h (negB p) (numB p) (a0a p) (negB q) (numB q) (a0a q) w hp.num hp.denom hq.num hq.denom (by rw [show decR (negB q) (numB q) (a0a q) = q from a6y q]; exact h0)
 rwa [show decR (negB p) (numB p) (a0a p) = p from a6y p, show decR (negB q) (numB q) (a0a q) = q from a6y q] at this
theorem b9c {n : Int} (h : n ≠ 0) : (n : Rat) ≠ 0 := by exact_mod_cast h
theorem c0v {q : Rat} {N : Nat} (h : Sized N q) (hN : N <= 1099511627776) (W : World) : (binOp .eql 40 (rat q) (rat q)).run Tryz.prog W = .ok (.bool true) W :=
 rat_eql _ _ _ _ _ _ (Nat.le_trans h.num hN) (Nat.le_trans h.denom hN) (Nat.le_trans h.num hN) (Nat.le_trans h.denom hN) true (by simp) W
end Go.Proofs.YtoighiepglclkaaGreatDoor
