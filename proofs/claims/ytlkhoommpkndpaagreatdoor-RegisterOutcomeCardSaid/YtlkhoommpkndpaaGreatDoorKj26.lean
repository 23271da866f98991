/-
Part 26 of the base.
-/
import Derived.Deep.AppendLies
import Derived.Test.YtlkhoommpkndpaaGreatDoorKj18
import Derived.IntWalk
namespace Go.Proofs.YtlkhoommpkndpaaGreatDoor
open Go.RowKit
structure Tri where
 a : Nat
 b : Nat
 c : Nat
def Tri.enc (t : Tri) : List Value := [.int .u16 (t.a : Nat), .int .u16 (t.b : Nat), .int .u16 (t.c : Nat)]
def Tri.ok (t : Tri) : Prop := t.a <= 65535 /\ t.b <= 65535 /\ t.c <= 65535
def usdL : List UInt8 := [85, 83, 68]
def gbpL : List UInt8 := [71, 66, 80]
def eurL : List UInt8 := [69, 85, 82]
theorem quo_len' (q : Quo) : q.enc.length = 5 := rfl
theorem Blk.set_ {w : World} {g : Nat} {cs : Array Value} {t : TypeId} (h : Blk w g cs t) (i : Nat) (v : Value) : Blk (w.setCell ⟨g, i, none⟩ v) g (cs.setIfInBounds i v) t := by
 unfold Blk at *
 simp [World.setCell, Array.getElem?_modify, h]
end Go.Proofs.YtlkhoommpkndpaaGreatDoor
