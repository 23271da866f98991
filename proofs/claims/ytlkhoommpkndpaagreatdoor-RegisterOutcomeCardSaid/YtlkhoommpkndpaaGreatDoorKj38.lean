/-
Part 38 of the base.
-/
import Derived.Test.YtlkhoommpkndpaaGreatDoorKj37
namespace Go.Proofs.YtlkhoommpkndpaaGreatDoor
open Go.RowKit
def AppI (w0 : World) (R : List Own) (a b d : Value) (B : Nat) (n : Nat) (es : List Ent) (gp : World -> Prop) (vc : Value) (wv : World) : Prop :=
 ∃ g A c, vc = Value.pointer (some ⟨g, 0, none⟩) /\ Hid (St w0 (⟨g, #[a, b, d, .slice A n c], 24⟩ :: R) wv) /\ Hid (Grows wv B 63 30 (.slice A n c) n (flat Ent.enc es)) /\ Hid (gp wv)
theorem AppI.below {w0 : World} {R : List Own} {a b d : Value} {B n : Nat} {es : List Ent} {gp : World -> Prop} {vc : Value} {w1 w2 : World} (h : AppI w0 R a b d B n es gp vc w1) (hb : Below w1.heap.size w1 w2) (hg : ∀ w1 w2, gp w1 -> Below w1.heap.size w1 w2 -> gp w2) : AppI w0 R a b d B n es gp vc w2 := by
 obtain ⟨g, A, c, hx, h, h2, h3⟩ := h
 exact ⟨g, A, c, hx, zh (h.out.call hb), zh (Grows.below h2.out hb), zh (hg _ _ h3.out hb)⟩
end Go.Proofs.YtlkhoommpkndpaaGreatDoor
