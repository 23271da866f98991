/-
Part 47 of the base.
-/
import Derived.Test.YtlkhoommpkndpaaGreatDoorKd7
namespace Go.Proofs.YtlkhoommpkndpaaGreatDoor
open Go.RowKit

section
variable {w0 w : World} {R : List Own}
theorem cC (h : Hid (St w0 R w)) (k i : Nat) {g : Nat} {cs : Array Value} {t : TypeId} {v : Value} (hk : R[k]? = some ⟨g, cs, t⟩ := by exact rfl) (hv : cs[i]? = some v := by exact rfl) : w.cell? ⟨g, i, none⟩ = some v := h.out.cell k hk i hv
theorem cF (h : Hid (St w0 R w)) (k i : Nat) {g : Nat} {cs : Array Value} {t : TypeId} (hk : R[k]? = some ⟨g, cs, t⟩ := by exact rfl) : w.frozen? ⟨g, i, none⟩ = false := h.out.frozen k hk i
theorem cN (h : Hid (St w0 R w)) (j k : Nat) {g g' : Nat} {cs cs' : Array Value} {t t' : TypeId} (hj : R[j]? = some ⟨g, cs, t⟩ := by exact rfl) (hk : R[k]? = some ⟨g', cs', t'⟩ := by exact rfl) (hjk : j ≠ k := by decide) : ¬ g = g' := h.out.ne j k hj hk hjk
theorem cL {P : Program} {f : FuncId} {args : Array Value} {Q : Ending → World → Prop} {X : Ending} (h : Calls P f args w (fun e w' => e = X ∧ Below w.heap.size w w')) (HS : Hid (St w0 R w)) (k : ∀ w', Hid (St w0 R w') → Q X w') : Calls P f args w Q :=
  h.mono (fun _ w' ⟨he, hb⟩ => he ▸ k w' (Lib.hid (HS.out.call hb)))
end
end Go.Proofs.YtlkhoommpkndpaaGreatDoor
