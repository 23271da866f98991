/-
Part 13 of the base.
-/
import Derived.Test.YtgdhpghfojccaaaDoorRe6
import Derived.Deep.RegionWith
import Derived.Deep.RegionHeld3
namespace Go.Proofs.YtgdhpghfojccaaaDoor
open Go.RowKit
theorem Raw.far {w : World} {g : Nat} {neg : Bool} {num den : List UInt8} (h : Raw w g neg num den) {p : Addr} (hp : g ≠ p.block) (u : Value) : Raw (w.setCell p u) g neg num den :=
 (Below.heap_setCell w p u g hp).trans h
theorem Raw.drew {w : World} {g : Nat} {neg : Bool} {num den : List UInt8} (h : Raw w g neg num den) : Raw w.drew g neg num den := h
end Go.Proofs.YtgdhpghfojccaaaDoor
