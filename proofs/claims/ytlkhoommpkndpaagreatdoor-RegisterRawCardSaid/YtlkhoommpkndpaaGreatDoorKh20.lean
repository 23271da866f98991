/-
Part 20 of the base.
-/
import Derived.Test.YtlkhoommpkndpaaGreatDoorKh15
import Derived.Deep.Slices
import Derived.Deep.Fields
import Derived.ChangeSame
import Derived.Carry
set_option maxRecDepth 100000
namespace Go.Proofs.YtlkhoommpkndpaaGreatDoor
open Go.RowKit
theorem c0n (q : Rat) (w : World) :
  Calls Tryz.prog 163 #[rat q] w fun e w' => e = .returned (rat (-q)) /\ Below w.heap.size w w' := by
 by_cases h0 : q = 0
 have f1 := a2q (numB_nil.2 h0)
 have e : -q = q := by rw [h0]; rfl
 rw [e]
 unfold rat raw
 clear h0 e
 rotate_left
 have f1 := a0z (mt numB_nil.1 h0)
 have e1 := c8j h0
 have e2 := c8h q
 have e3 := c2u q
 unfold rat raw
 rw [e1, e2, e3]
 clear h0 e1 e2 e3
 rotate_left
 all_goals
  go_enter Tryz.func163, Tryz.ntmps163
  go_wp2
 ·exact bodyPost_ret (a0n rfl _ _ _ _ _ _ rfl (Blk.new1 w _ _ _)) rfl ⟨rfl, Ext.alloc (Ext.alloc (Below.refl _ _) _) _⟩
 exact bodyPost_ret (a0n rfl _ _ _ _ _ _ rfl (Blk.new1 w _ _ _)) rfl ⟨rfl, Ext.alloc (Ext.alloc (Below.refl _ _) _) _⟩
open Go.ChangeShapes Go.WideShapes Go.Deep Go.RowKit
section
variable {H : Type} {enc : TypeId × Value -> H} {P : Program} {W : World} {held : Bool}
theorem c7e {w : World} {a : Addr} {v : Value} (h : w.cell? a = some v) : a = ⟨a.block, a.off, none⟩ /\ a.block < w.heap.size := by
 unfold World.cell? at h
 split at h
 ·rename_i c _ _ hb
  split at h
  ·cases h
  rename_i hs
  refine ⟨?_, (Array.getElem?_eq_some_iff.1 hb).1⟩
  cases a with
  | mk b o s => cases s with
   | none => rfl
   | some _ => simp at hs
 cases h
theorem open_slc {α : Type} (d : α) {f : α -> List Value} {k : Nat} (Good : α -> Prop) {t e : TypeId} {fuel : Nat} {cs : List Value} {x : DataW H × List MemPlace} (ht : P.underlying t = some (.slice e)) (hk0 : 0 < k) (hk : P.cellsOf e = k)
  (hf : ∀ z, (f z).length = k) (hdec : ∀ n cs' y, DataW.trod enc P W 0 (fun _ => true) held n e cs' = some y -> ∃ z : α, cs' = f z /\ Good z) (h : DataW.trod enc P W 0 (fun _ => true) held fuel t cs = some x) :
  ∃ v xs, cs = [v] /\ Slc f k W v xs /\ ∀ z ∈ xs, Good z := by
 rcases open_slice ht h with ⟨rfl, _⟩ | ⟨a, len, cap, m, n, D, Pl, rfl, hb, hl, hm, hmm, hx, hi⟩
 ·exact ⟨_, [], rfl, Slc.nil_ _ _ _ _ _ (by decide), by simp⟩
 have hm' : m = cap := by simpa using hmm
 subst hm'
 rw [hk] at hi
 have hch : ∀ i, ∃ z : α, i < m -> Good z /\ ∀ j u, (f z)[j]? = some u -> W.cell? ((a.add (i * k)).add j) = some u := by
  intro i
  by_cases him : i < m
  ·obtain ⟨cs', hc, ht'⟩ := hi i him
   obtain ⟨z, rfl, hg⟩ := hdec _ _ _ ht'
   obtain ⟨_, hcl, hat⟩ := World.cells?_some hc
   refine ⟨z, fun _ => ⟨hg, fun j u hu => ?_⟩⟩
   have hj : j < k := by rw [<- hcl]; exact (List.getElem?_eq_some_iff.1 hu).1
   rw [hat j hj, hu]
  exact ⟨d, fun h => absurd h him⟩
 obtain ⟨z, hz⟩ := Classical.axiomOfChoice hch
 refine ⟨_, (List.range len).map z, rfl, ⟨some a, m, by simp, by simpa using hl, by unfold maxLen at hm; omega, fun h0 => ?_⟩, ?_⟩
 ·have h0' : 0 < len := by simpa using h0
  have hfz : ∃ u, (f (z 0))[0]? = some u := ⟨(f (z 0))[0]'(by rw [hf]; exact hk0), List.getElem?_eq_getElem _⟩
  obtain ⟨u, hu⟩ := hfz
  have hc := (hz 0 (by omega)).2 0 u hu
  rw [Nat.zero_mul] at hc
  have hs := c7e (a := a) (by simpa [Addr.add] using hc)
  refine ⟨a.block, a.off, by rw [<- hs.1], hs.2, fun j y hj i u hu => ?_⟩
  rw [List.getElem?_map] at hj
  have hjl : j < len := by
   rcases Nat.lt_or_ge j len with h | h
   ·exact h
   rw [List.getElem?_eq_none (by simpa using h)] at hj; cases hj
  rw [List.getElem?_range hjl] at hj
  have e : z j = y := by simpa using hj
  subst e
  have hc := (hz j (by omega)).2 i u hu
  rw [hs.1, Addr.add_lit, Addr.add_lit] at hc
  exact hc
 intro y hy
 rw [List.mem_map] at hy
 obtain ⟨j, hj, rfl⟩ := hy
 have : j < len := by simpa using hj
 exact (hz j (by omega)).1
end
theorem list3 {α : Type} {l : List α} (h : l.length = 3) : ∃ a b c, l = [a, b, c] := by
 match l, h with
 | [a, b, c], _ => exact ⟨a, b, c, rfl⟩
section
variable {H : Type} {enc : TypeId × Value -> H} {W : World} {base : Nat} {sp : Nat -> Bool} {held : Bool}
theorem b1v : Tryz.prog.cellsOf 9 = 1 := by kernel_rfl
theorem b8q : Tryz.prog.cellsOf 4 = 1 := by kernel_rfl
theorem a3f : Tryz.prog.cellsOf 3 = 1 := by kernel_rfl
theorem a5r : Tryz.prog.cellsOf 34 = 3 := by kernel_rfl
def a6v (neg : Bool) (num den : List UInt8) : List Value := [.bool neg, .string (bs num), .string (bs den)]
theorem b0p {n : Nat} {cs : List Value} {y : DataW H × List MemPlace} (h : DataW.trod enc Tryz.prog W base sp held n 34 cs = some y) :
  ∃ neg num den, cs = a6v neg num den /\ num.length <= maxLen /\ den.length <= maxLen := by
 obtain ⟨xs, m, rfl, hx, hl, hxl, hf⟩ := DataW.trod_struct Tryz.underlying34 h
 rw [a5r] at hl
 obtain ⟨c0, c1, c2, rfl⟩ := list3 hl
 obtain ⟨y0, y1, y2, rfl⟩ := list3 (show xs.length = 3 from hxl)
 have h0 := hf 0 _ rfl
 have h1 := hf 1 _ rfl
 have h2 := hf 2 _ rfl
 simp only [List.getElem_toArray, List.getElem_cons_zero, List.getElem_cons_succ] at h0 h1 h2
 rw [b8q] at h0
 rw [b1v] at h1 h2
 obtain ⟨b, e0, _⟩ := DataW.trod_bool Tryz.underlying4 (show DataW.trod enc Tryz.prog W base sp held m 4 [c0] = some y0 from h0)
 obtain ⟨s1, e1, _, l1⟩ := DataW.trod_string Tryz.underlying9 (show DataW.trod enc Tryz.prog W base sp held m 9 [c1] = some y1 from h1)
 obtain ⟨s2, e2, _, l2⟩ := DataW.trod_string Tryz.underlying9 (show DataW.trod enc Tryz.prog W base sp held m 9 [c2] = some y2 from h2)
 injection e0 with e0
 injection e1 with e1
 injection e2 with e2
 subst e0; subst e1; subst e2
 exact ⟨b, s1.data.toList, s2.data.toList, rfl, by rw [a0x]; exact l1, by rw [a0x]; exact l2⟩
theorem a8y {a : Int} (h : (Lit.int .i64 a).wf = true) : -9223372036854775808 <= a /\ a <= 9223372036854775807 := by
 simpa [Lit.wf, IntKind.min, IntKind.max, IntKind.signed, IntKind.bits] using h
end
end Go.Proofs.YtlkhoommpkndpaaGreatDoor
