/-
Part 46 of the base.
-/
import Derived.Test.YtlkhoommpkndpaaGreatDoorKd9
namespace Go.Proofs.YtlkhoommpkndpaaGreatDoor
open Go.RowKit

structure SH (A B C : Prop) : Prop where
  ev : A
  ev0 : B
  hd : C
theorem SH.r {l : List Oper} {n : Nat} {a1 : Act} {x : Nat → Value} {B : Prop} {es : Array Edge} {Ψ : Edge → Prop}
    (H : SH (∀ j o' t, (l.take n)[j]? = some o' → o'.dst = some t → a1.tmps[t]?.getD undef = x j) B (∀ e ∈ es, Region.binds .any e = true → Ψ e)) (j t : Nat) {c : Value}
    (h1 : ((l.take n)[j]?).bind (fun o => o.dst) = some t := by exact rfl) (h2 : ⟨j, .data⟩ ∈ es := by simp) (h3 : Ψ ⟨j, .data⟩ = (x j = c) := by exact rfl) : a1.tmps[t]?.getD undef = c := by
  obtain ⟨o, ho, hd⟩ := Option.bind_eq_some_iff.1 h1
  have h := H.hd ⟨j, .data⟩ h2 rfl
  rw [h3] at h
  exact (H.ev j o t ho hd).trans h
theorem SH.g {l : List Oper} {n : Nat} {a1 : Act} {x : Nat → Value} {B : Prop} {es : Array Edge} {Ψ : Edge → Prop}
    (H : SH (∀ j o' t, (l.take n)[j]? = some o' → o'.dst = some t → a1.tmps[t]?.getD undef = x j) B (∀ e ∈ es, Region.binds .any e = true → Ψ e)) (j t : Nat) {c : Value}
    (h1 : ((l.take n)[j]?).bind (fun o => o.dst) = some t := by exact rfl) (h2 : ⟨j, .guard⟩ ∈ es := by simp) (h3 : Ψ ⟨j, .guard⟩ = (x j = c) := by exact rfl) : a1.tmps[t]?.getD undef = c := by
  obtain ⟨o, ho, hd⟩ := Option.bind_eq_some_iff.1 h1
  have h := H.hd ⟨j, .guard⟩ h2 rfl
  rw [h3] at h
  exact (H.ev j o t ho hd).trans h
theorem SH.n {l : List Oper} {n : Nat} {a1 : Act} {x : Nat → Value} {B : Prop} {es : Array Edge} {Ψ : Edge → Prop}
    (H : SH (∀ j o' t, (l.take n)[j]? = some o' → o'.dst = some t → a1.tmps[t]?.getD undef = x j) B (∀ e ∈ es, Region.binds .any e = true → Ψ e)) (j t : Nat) {A : Prop} {c : Value}
    (h1 : ((l.take n)[j]?).bind (fun o => o.dst) = some t := by exact rfl) (h2 : ⟨j, .data⟩ ∈ es := by simp) (h3 : Ψ ⟨j, .data⟩ = (A → x j = c) := by exact rfl) (hA : A := by decide) : a1.tmps[t]?.getD undef = c := by
  obtain ⟨o, ho, hd⟩ := Option.bind_eq_some_iff.1 h1
  have h := H.hd ⟨j, .data⟩ h2 rfl
  rw [h3] at h
  exact (H.ev j o t ho hd).trans (h hA)
theorem SH.i {A C : Prop} {p : Nat → Bool} {a a1 : Act} (H : SH A (∀ t, p t = true → a1.tmps[t]?.getD undef = a.tmps[t]?.getD undef) C) (t : Nat) {c : Value} (h1 : p t = true := by exact rfl) (h2 : a.tmps[t]? = some c := by exact rfl) : a1.tmps[t]?.getD undef = c := by
  rw [H.ev0 t h1, h2]; rfl
theorem vQ {F : List (World → Value → Prop)} {n : Nat} {x : Nat → Value} {w1 : World} (hv : ∀ i, i < n → (F.getD i (fun _ _ => True)) w1 (x i)) (i : Nat) {c : Value} (h : i < n := by decide) (e : (F.getD i (fun _ _ => True)) w1 (x i) = (x i = c) := by exact rfl) : x i = c := e.mp (hv i h)
theorem pP {c : Value} {R : World → World → Prop} : ∀ (w1 w2 : World) (v : Value), v = c → R w1 w2 → v = c := fun _ _ _ h _ => h
theorem sR {a1 : Act} {d : Option Tmp} {w1 : World} {p : World → Value → Prop} {v : Value} (h : p w1 v) : StepQ a1 d w1 p .normal (a1.put d v) w1 := StepQ.mk v (Below.refl _ _) h
end Go.Proofs.YtlkhoommpkndpaaGreatDoor
