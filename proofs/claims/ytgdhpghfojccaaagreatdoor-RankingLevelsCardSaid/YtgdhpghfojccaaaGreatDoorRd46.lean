/-
Part 46 of the base.
-/
import Derived.Test.YtgdhpghfojccaaaGreatDoorRd45
namespace Go.Proofs.YtgdhpghfojccaaaGreatDoor
open Go.RowKit
def PrgL (w : World) (p : Value × Value) (R : List Int) (A : List (List (List Prt))) : Prop := IntsL w p.1 R /\ AgrL w p.2 A
theorem PrgL.below {w w' : World} {p : Value × Value} {R : List Int} {A : List (List (List Prt))} (h : PrgL w p R A) (hb : Below w.heap.size w w') : PrgL w' p R A := ⟨Slc.below h.1 hb, AgrL.below h.2 hb⟩
def CmpS (cl : List Nmd) (l : List Cls) (w : World) (e : Ending) (w' : World) : Prop := ∃ (A1 : Option Addr) (c1 : Nat) (A2 : Option Addr) (c2 : Nat) (R : List Int) (A : List (List (List Prt))) (i : Nat) (er : Int), e = .returned (.tuple #[.agg #[.slice A1 R.length c1, .slice A2 A.length c2], .int .i64 (i : Nat), .int .i64 er]) /\ PrgL w' (.slice A1 R.length c1, .slice A2 A.length c2) R A /\ Comp cl l R A i er /\ Below w.heap.size w w'
theorem CmpR.open {cl : List Nmd} {l : List Cls} {w : World} {e : Ending} {w' : World} (h : CmpR cl l w e w') : CmpS cl l w e w' := by
 obtain ⟨vr, va, R, A, i, er, rfl, h1, h2, h3, h4⟩ := h
 obtain ⟨A1, c1, rfl, _, _⟩ := Slc.slice h1
 obtain ⟨A2, c2, rfl, _, _⟩ := NstL.slice h2
 exact ⟨A1, c1, A2, c2, R, A, i, er, rfl, ⟨h1, h2⟩, h3, h4⟩
end Go.Proofs.YtgdhpghfojccaaaGreatDoor
