/-
Part 40 of the base.
-/
import Derived.Test.YtlkhoommpkndpaaGreatDoorKd16
import Derived.Test.YtlkhoommpkndpaaGreatDoorKd17
import Derived.Deep.Slices
import Derived.Deep.Fields
import Derived.ChangeSame
import Derived.Carry
namespace Go.Proofs.YtlkhoommpkndpaaGreatDoor
open Go.ChangeShapes Go.WideShapes Go.Deep Go.RowKit
section
variable {H : Type} {enc : TypeId × Value → H} {P : Program} {W : World} {held : Bool}
theorem spot_none {w : World} {a : Addr} {v : Value} (h : w.cell? a = some v) : a = ⟨a.block, a.off, none⟩ ∧ a.block < w.heap.size := by
 unfold World.cell? at h
 split at h
 ·rename_i c _ _ hb
  split at h
  ·cases h
  ·rename_i hs
   refine ⟨?_, (Array.getElem?_eq_some_iff.1 hb).1⟩
   cases a with
   | mk b o s => cases s with
    | none => rfl
    | some _ => simp at hs
 ·cases h
theorem open_slc {α : Type} (d : α) {f : α → List Value} {k : Nat} (Good : α → Prop) {t e : TypeId} {fuel : Nat} {cs : List Value} {x : DataW H × List MemPlace} (ht : P.underlying t = some (.slice e)) (hk0 : 0 < k) (hk : P.cellsOf e = k)
  (hf : ∀ z, (f z).length = k) (hdec : ∀ n cs' y, DataW.trod enc P W 0 (fun _ => true) held n e cs' = some y → ∃ z : α, cs' = f z ∧ Good z) (h : DataW.trod enc P W 0 (fun _ => true) held fuel t cs = some x) :
  ∃ v xs, cs = [v] ∧ Slc f k W v xs ∧ ∀ z ∈ xs, Good z := by
 rcases open_slice ht h with ⟨rfl, _⟩ | ⟨a, len, cap, m, n, D, Pl, rfl, hb, hl, hm, hmm, hx, hi⟩
 ·exact ⟨_, [], rfl, Slc.nil_ _ _ _ _ _ (by decide), by simp⟩
 ·have hm' : m = cap := by simpa using hmm
  subst hm'
  rw [hk] at hi
  have hch : ∀ i, ∃ z : α, i < m → Good z ∧ ∀ j u, (f z)[j]? = some u → W.cell? ((a.add (i * k)).add j) = some u := by
   intro i
   by_cases him : i < m
   ·obtain ⟨cs', hc, ht'⟩ := hi i him
    obtain ⟨z, rfl, hg⟩ := hdec _ _ _ ht'
    obtain ⟨_, hcl, hat⟩ := World.cells?_some hc
    refine ⟨z, fun _ => ⟨hg, fun j u hu => ?_⟩⟩
    have hj : j < k := by rw [← hcl]; exact (List.getElem?_eq_some_iff.1 hu).1
    rw [hat j hj, hu]
   ·exact ⟨d, fun h => absurd h him⟩
  obtain ⟨z, hz⟩ := Classical.axiomOfChoice hch
  refine ⟨_, (List.range len).map z, rfl, ⟨some a, m, by simp, by simpa using hl, by unfold maxLen at hm; omega, fun h0 => ?_⟩, ?_⟩
  ·have h0' : 0 < len := by simpa using h0
   have hfz : ∃ u, (f (z 0))[0]? = some u := ⟨(f (z 0))[0]'(by rw [hf]; exact hk0), List.getElem?_eq_getElem _⟩
   obtain ⟨u, hu⟩ := hfz
   have hc := (hz 0 (by omega)).2 0 u hu
   rw [Nat.zero_mul] at hc
   have hs := spot_none (a := a) (by simpa [Addr.add] using hc)
   refine ⟨a.block, a.off, by rw [← hs.1], hs.2, fun j y hj i u hu => ?_⟩
   rw [List.getElem?_map] at hj
   have hjl : j < len := by
    rcases Nat.lt_or_ge j len with h | h
    ·exact h
    ·rw [List.getElem?_eq_none (by simpa using h)] at hj; cases hj
   rw [List.getElem?_range hjl] at hj
   have e : z j = y := by simpa using hj
   subst e
   have hc := (hz j (by omega)).2 i u hu
   rw [hs.1, Addr.add_lit, Addr.add_lit] at hc
   exact hc
  ·intro y hy
   rw [List.mem_map] at hy
   obtain ⟨j, hj, rfl⟩ := hy
   have : j < len := by simpa using hj
   exact (hz j (by omega)).1
end
section
variable {H : Type} {enc : TypeId × Value → H} {W : World} {base : Nat} {sp : Nat → Bool} {held : Bool}
theorem int_range {a : Int} (h : (Lit.int .i64 a).wf = true) : -9223372036854775808 ≤ a ∧ a ≤ 9223372036854775807 := by
 simpa [Lit.wf, IntKind.min, IntKind.max, IntKind.signed, IntKind.bits] using h
end
end Go.Proofs.YtlkhoommpkndpaaGreatDoor
