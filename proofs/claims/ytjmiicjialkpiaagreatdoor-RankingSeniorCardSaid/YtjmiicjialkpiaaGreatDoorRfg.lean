/-
A short word.
-/
import Derived.Below
namespace Go.Proofs.YtjmiicjialkpiaaGreatDoor
open Go.RowKit
theorem zh{p:Prop}(h:p):Hid p:=h
end Go.Proofs.YtjmiicjialkpiaaGreatDoor
