/-
Part 48 of the base.
-/
import Derived.Test.YtoighiepglclkaaGreatDoorKf20
import Derived.Test.YtoighiepglclkaaGreatDoorRows
import Derived.Test.YtoighiepglclkaaGreatDoorCards
import Derived.Test.YtoighiepglclkaaGreatDoorTie
import Derived.ProofKit
import Derived.Lay
import Derived.SevenTiedAt
import Derived.ChangeMaps5
import Derived.OpenShut
set_option maxRecDepth 100000
namespace Go.Proofs.YtoighiepglclkaaGreatDoor
open Go.ChangeShapes Go.WideShapes Go.ChangeAt Go.ChangeMaps Go.RowKit
theorem own_knob : ownKnob Tryz.prog.godebug = none := by kernel_rfl
def c4s : List (String × DataW Unit) := [("unicode/utf8.acceptRanges", Rows.laid_unicode_utf8_acceptRanges), ("unicode/utf8.first", Rows.laid_unicode_utf8_first)]
section
variable {H : Type} {enc : TypeId × Value -> H} {P : Program} {W W' : World}
theorem b1k (hl : laidOutB P = true) (hb : Below W.heap.size W W') : ∀ {ts : List TypeId} {vs : List Value} {ds : List (DataW H)} {ps : List MemPlace}, DataW.TrodAll enc P W 0 (fun _ => true) true ts vs ds ps ->
  (∀ t ∈ ts, P.readableRec t = true /\ t < P.types.size) -> (∀ x ∈ ps, x.block < W.heap.size) -> DataW.TrodAll enc P W' 0 (fun b => decide (b < W.heap.size)) true ts vs ds ps
 | [], [], [], _, h, _, _ => h
 | t :: ts, v :: vs, d :: ds, ps, ⟨p, q, h, hs, e⟩, hr, hlt => by
  subst e
  exact ⟨p, q, Below.trod hl (hr t (by simp)).1 (hr t (by simp)).2 h hb (fun x hx => hlt x (by simp [hx])), b1k hl hb hs (fun u hu => hr u (by simp [hu])) (fun x hx => hlt x (by simp [hx])), rfl⟩
end
theorem b1j {a : Int} (h : (Lit.int .u8 a).wf = true) : 0 <= a /\ a <= 255 := by
 simpa [Lit.wf, IntKind.min, IntKind.max, IntKind.signed, IntKind.bits] using h
theorem a4j {a : Int} (h : (Lit.int .u16 a).wf = true) : 0 <= a /\ a <= 65535 := by
 simpa [Lit.wf, IntKind.min, IntKind.max, IntKind.signed, IntKind.bits] using h
theorem c4q (os : Os) (args : Array Value) : ((World.laidAll Tryz.prog os c4s).forCall (fun _ _ => 0) ⟨#[], args, []⟩).Shaped Tryz.prog :=
 World.shaped_of_ZipB (by kernel_rfl) (by kernel_rfl)
theorem laid_met (os : Os) (args : Array Value) : laidMetH Tryz.prog c4s ((World.laidAll Tryz.prog os c4s).forCall (fun _ _ => 0) ⟨#[], args, []⟩).memory := by
 rw [MakeChecks.laidMetH_plain _ _ _ (by kernel_rfl)]
 exact laidMet_laidAll _ (by kernel_rfl) (by kernel_rfl)
section
variable {H : Type} {enc : TypeId × Value -> H} {W : World} {base : Nat} {sp : Nat -> Bool} {held : Bool}
theorem a4q : Tryz.prog.cellsOf 24 = 1 := by kernel_rfl
end
end Go.Proofs.YtoighiepglclkaaGreatDoor
