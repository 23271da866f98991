/-
A short word.
-/
import Derived.Below
namespace Go.Proofs.YtgdhpghfojccaaaDoor
open Go.RowKit
theorem zh {p : Prop} (h : p) : Hid p := h
end Go.Proofs.YtgdhpghfojccaaaDoor
