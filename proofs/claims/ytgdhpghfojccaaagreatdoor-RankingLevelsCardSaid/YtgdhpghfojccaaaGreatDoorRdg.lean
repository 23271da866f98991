/-
A short word.
-/
import Derived.Below
namespace Go.Proofs.YtgdhpghfojccaaaGreatDoor
open Go.RowKit
theorem zh {p : Prop} (h : p) : Hid p := h
end Go.Proofs.YtgdhpghfojccaaaGreatDoor
