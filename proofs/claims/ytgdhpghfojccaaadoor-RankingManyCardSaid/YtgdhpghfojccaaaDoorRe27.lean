/-
Part 27 of the base.
-/
import Derived.Test.YtgdhpghfojccaaaDoorRe19
import Derived.Test.YtgdhpghfojccaaaDoorRe22
import Derived.Test.YtgdhpghfojccaaaDoorRe28
namespace Go.Proofs.YtgdhpghfojccaaaDoor
open Go.RowKit
theorem b6d (l : List Nat) : ∀ y ∈ l, ∀ u ∈ intE y, u.oneCell' = true := by
 intro y _ u hu
 obtain rfl : u = .int .i64 (y : Nat) := by simpa [intE] using hu
 rfl
theorem a8n {F : Nat -> Bool} {m : Nat} : putA F m true = putI F m := by
 funext x
 unfold putA putI
 by_cases h : x = m
 ·rw [if_pos h, beq_iff_eq.2 h, Bool.or_true]
 rw [if_neg h, beq_eq_false_iff_ne.2 h, Bool.or_false]
theorem Ldr0.lt {l : List Cls} {i x : Nat} {s0 : List UInt8} {seen : Nat -> Bool} {todo : List Nat} (h : Ldr0 l i s0 seen (x :: todo)) : x < l.length := by
 obtain ⟨m, hm, _⟩ := h.1 x (List.mem_cons_self ..)
 exact b2e hm
theorem strE_one (l : List (List UInt8)) : ∀ y ∈ l, ∀ u ∈ strE y, u.oneCell' = true := by
 intro y _ u hu
 obtain rfl : u = .string (bs y) := by simpa [strE] using hu
 rfl
end Go.Proofs.YtgdhpghfojccaaaDoor
