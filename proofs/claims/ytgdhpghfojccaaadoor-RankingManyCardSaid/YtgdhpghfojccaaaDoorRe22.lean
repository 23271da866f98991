/-
Part 22 of the base.
-/
import Derived.Test.YtgdhpghfojccaaaDoorRe20
namespace Go.Proofs.YtgdhpghfojccaaaDoor
open Go.RowKit
def rowF (n : Nat) (f : Nat -> Value) : Array Value := ((List.range n).map f).toArray
theorem a6d {n k : Nat} {f : Nat -> Value} (hk : k < n) : (rowF n f)[k]? = some (f k) := by
 unfold rowF
 rw [List.getElem?_toArray, List.getElem?_map, List.getElem?_range hk]
 rfl
theorem a6c (n : Nat) (f : Nat -> Value) : (rowF n f).size = n := by unfold rowF; simp
theorem rowF_set {n k : Nat} {f : Nat -> Value} (v : Value) : (rowF n f).setIfInBounds k v = rowF n (fun x => if x = k then v else f x) := by
 refine Array.ext_getElem? fun i => ?_
 rw [Array.getElem?_setIfInBounds, a6c]
 by_cases hi : i < n
 ·rw [a6d hi, a6d hi]
  by_cases hk : k = i
  ·subst hk; simp [hi]
  rw [if_neg hk, if_neg (fun e => hk e.symm)]
 have h1 : (rowF n f)[i]? = none := Array.getElem?_eq_none (by rw [a6c]; omega)
 have h2 : (rowF n (fun x => if x = k then v else f x))[i]? = none := Array.getElem?_eq_none (by rw [a6c]; omega)
 rw [h1, h2]
 split
 ·split
  ·omega
  rfl
 rfl
theorem b6u {n : Nat} {f g : Nat -> Value} (h : ∀ k, k < n -> f k = g k) : rowF n f = rowF n g := by
 unfold rowF
 congr 1
 exact List.map_congr_left fun k hk => h k (List.mem_range.1 hk)
def a9u (t : TypeId) (n : Nat) (gs : List Nat) (m : Nat -> Nat -> Value) : List Own := (List.range gs.length).map fun i => ⟨gs.getD i 0, rowF n (m i), t⟩
theorem a4x {t : TypeId} {n i : Nat} {gs : List Nat} {m : Nat -> Nat -> Value} (hi : i < gs.length) : (a9u t n gs m)[i]? = some ⟨gs.getD i 0, rowF n (m i), t⟩ := by
 unfold a9u
 rw [List.getElem?_map, List.getElem?_range hi]
 rfl
theorem a0q {t : TypeId} {n : Nat} {gs : List Nat} {m : Nat -> Nat -> Value} : (a9u t n gs m).length = gs.length := by unfold a9u; simp
theorem b8f {t : TypeId} {n i : Nat} {gs : List Nat} {m : Nat -> Nat -> Value} (f : Nat -> Value) : (a9u t n gs m).set i ⟨gs.getD i 0, rowF n f, t⟩ = a9u t n gs (fun x => if x = i then f else m x) := by
 refine List.ext_getElem? fun j => ?_
 rw [List.getElem?_set, a0q]
 by_cases hj : j < gs.length
 ·rw [a4x hj, a4x hj]
  by_cases hi : i = j
  ·subst hi; simp [hj]
  rw [if_neg hi, if_neg (fun e => hi e.symm)]
 rw [List.getElem?_eq_none (by rw [a0q]; omega), List.getElem?_eq_none (by rw [a0q]; omega)]
 split
 ·split
  ·omega
  rfl
 rfl
theorem b8g {t : TypeId} {n g : Nat} {gs : List Nat} {m : Nat -> Nat -> Value} (f : Nat -> Value) : a9u t n (gs ++ [g]) (fun x => if x = gs.length then f else m x) = a9u t n gs m ++ [⟨g, rowF n f, t⟩] := by
 refine List.ext_getElem? fun j => ?_
 rw [List.getElem?_append, a0q]
 by_cases hj : j < gs.length
 ·rw [a4x (by rw [List.length_append]; omega), if_pos hj, a4x hj, if_neg (by omega)]
  congr 2
  rw [List.getD_eq_getElem?_getD, List.getD_eq_getElem?_getD, List.getElem?_append_left hj]
 rw [if_neg hj]
 by_cases hj2 : j = gs.length
 ·subst hj2
  rw [a4x (by rw [List.length_append]; simp), if_pos rfl, Nat.sub_self]
  congr 2
  rw [List.getD_eq_getElem?_getD, List.getElem?_append_right (Nat.le_refl _), Nat.sub_self]
  rfl
 rw [List.getElem?_eq_none (by rw [a0q, List.length_append]; simp; omega), List.getElem?_eq_none (by simp; omega)]
section
variable {β : Type}
def rowE (e : β -> Value) (n : Nat) (f : Nat -> β) : Array Value := rowF n fun x => e (f x)
def putA (f : Nat -> β) (i : Nat) (b : β) : Nat -> β := fun x => if x = i then b else f x
theorem b3d {f : Nat -> β} {i : Nat} {b : β} : putA f i b i = b := if_pos rfl
theorem a4y {f : Nat -> β} {i j : Nat} {b : β} (h : j ≠ i) : putA f i b j = f j := if_neg h
theorem a4j {e : β -> Value} {n k : Nat} {f : Nat -> β} (hk : k < n) : (rowE e n f)[k]? = some (e (f k)) := a6d hk
theorem rowE_set {e : β -> Value} {n i : Nat} {f : Nat -> β} (b : β) : (rowE e n f).setIfInBounds i (e b) = rowE e n (putA f i b) := by
 unfold rowE
 rw [rowF_set]
 refine b6u fun k _ => ?_
 unfold putA
 split <;> rfl
theorem St.setE {w0 w : World} {R : List Own} (h : St w0 R w) (k : Nat) {g : Nat} {e : β -> Value} {n : Nat} {f : Nat -> β} {t : TypeId} (hk : R[k]? = some ⟨g, rowE e n f, t⟩) (i : Nat) (b : β) :
  St w0 (R.set k ⟨g, rowE e n (putA f i b), t⟩) (w.setCell ⟨g, i, none⟩ (e b)) := by
 have := h.set k hk i (e b)
 rw [rowE_set] at this
 exact this
theorem St.cellE {w0 w : World} {R : List Own} (h : St w0 R w) (k : Nat) {g : Nat} {e : β -> Value} {n : Nat} {f : Nat -> β} {t : TypeId} (hk : R[k]? = some ⟨g, rowE e n f, t⟩) {i : Nat} (hi : i < n) : w.cell? ⟨g, i, none⟩ = some (e (f i)) :=
 h.cell k hk i (a4j hi)
end
theorem b6b (v : Value) (n : Nat) : madeCells #[v] n = rowF n (fun _ => v) := by
 apply Array.ext_getElem?
 intro i
 by_cases hi : i < n
 ·rw [a6d hi]
  unfold madeCells
  rw [Array.getElem?_map, Array.getElem?_range, if_pos hi]
  simp [Nat.mod_one]
 rw [Array.getElem?_eq_none (by rw [size_madeCells]; omega), Array.getElem?_eq_none (by rw [a6c]; omega)]
theorem b9q : (Tryd.prog.info? 4).map (fun i => (i.zero, i.size, i.bytes)) = some (some (.bool false), 1, 1) := by kernel_rfl
theorem b6e : (Tryd.prog.info? 3).map (fun i => (i.zero, i.size, i.bytes)) = some (some (.int .i64 0), 1, 8) := by kernel_rfl
theorem b1x : ∃ i, Tryd.prog.info? 3 = some i /\ i.zero = some (.int .i64 0) /\ i.size = 1 /\ i.bytes = 8 := by
 obtain ⟨i, hi, hzz⟩ := Option.map_eq_some_iff.1 b6e
 simp only [Prod.mk.injEq] at hzz
 exact ⟨i, hi, hzz⟩
theorem b9m : (Tryd.prog.info? 9).map (fun i => (i.zero, i.size, i.bytes)) = some (some (.string (bs [])), 1, 16) := by kernel_rfl
theorem str_info : ∃ i, Tryd.prog.info? 9 = some i /\ i.zero = some (.string (bs [])) /\ i.size = 1 /\ i.bytes = 16 := by
 obtain ⟨i, hi, hzz⟩ := Option.map_eq_some_iff.1 b9m
 simp only [Prod.mk.injEq] at hzz
 exact ⟨i, hi, hzz⟩
def intE (c : Nat) : List Value := [.int .i64 (c : Nat)]
theorem a1b (c : Nat) : (intE c).length = 1 := rfl
def outN (sn : Nat -> Bool) (n : Nat) : Nat := (List.range n).countP fun j => !sn j
theorem b5w {sn : Nat -> Bool} {n c : Nat} (hc : c < n) (h : sn c = false) : outN (putA sn c true) n + 1 = outN sn n := by
 unfold outN
 induction n with
 | zero => omega
 | succ n ih =>
  rw [List.range_succ, List.countP_append, List.countP_append, List.countP_singleton, List.countP_singleton]
  by_cases hcn : c < n
  ·have := ih hcn
   rw [a4y (show n ≠ c by omega)]
   omega
  obtain rfl : c = n := by omega
  rw [b3d, h]
  have e : (List.range c).countP (fun j => !putA sn c true j) = (List.range c).countP fun j => !sn j := by
   refine List.countP_congr fun j hj => ?_
   rw [a4y (show j ≠ c by have := List.mem_range.1 hj; omega)]
  rw [e]
  simp
theorem outN_le (sn : Nat -> Bool) (n : Nat) : outN sn n <= n := by
 have := List.countP_le_length (p := fun j => !sn j) (l := List.range n)
 rwa [List.length_range] at this
theorem b0x (n : Nat) (hn : n <= 1000000) (W : World) :
  (Instr.makeSlice 49 (.int .i64 (n : Int)) (.int .i64 (n : Int))).run Tryd.prog W = .ok (.slice (some ⟨W.heap.size, 0, none⟩) n n) (W.alloc (.cells (rowE .bool n (fun _ => false)) 4)) := by
 obtain ⟨i, hi, hzz⟩ := Option.map_eq_some_iff.1 b9q
 simp only [Prod.mk.injEq] at hzz
 obtain ⟨hz, hs, hb⟩ := hzz
 have := Go.run_make (P := Tryd.prog) W 49 4 i _ Tryd.underlying49 hi hz .i64 .i64 (n : Int) (n : Int) (by omega) (Int.le_refl _) (by rw [hb]; omega) (by omega)
 rw [hs, Int.toNat_natCast, show (Value.bool false).cells = #[.bool false] from rfl, Nat.mul_one, b6b] at this
 exact this
theorem b9e (n : Nat) (hn : n <= 1000000) (W : World) :
  (Instr.makeSlice 32 (.int .i64 (n : Int)) (.int .i64 (n : Int))).run Tryd.prog W = .ok (.slice (some ⟨W.heap.size, 0, none⟩) n n) (W.alloc (.cells (rowE (.int .i64) n (fun _ => 0)) 3)) := by
 obtain ⟨i, hi, hzz⟩ := Option.map_eq_some_iff.1 b6e
 simp only [Prod.mk.injEq] at hzz
 obtain ⟨hz, hs, hb⟩ := hzz
 have := Go.run_make (P := Tryd.prog) W 32 3 i _ Tryd.underlying32 hi hz .i64 .i64 (n : Int) (n : Int) (by omega) (Int.le_refl _) (by rw [hb]; omega) (by omega)
 rw [hs, Int.toNat_natCast, show (Value.int .i64 0).cells = #[.int .i64 0] from rfl, Nat.mul_one, b6b] at this
 exact this
theorem St.perm {w0 w : World} {R R' : List Own} (h : St w0 R w) (hp : R.Perm R') : St w0 R' w :=
 ⟨h.below, fun r hr => h.ok r (hp.mem_iff.2 hr), (hp.pairwise_iff (fun h => h.symm)).1 h.apart⟩
def a3b (t : TypeId) (n : Nat) (gs : List Nat) (M : Nat -> Nat -> Bool) : List Own := a9u t n gs fun i j => .bool (M i j)
theorem b5r {t : TypeId} {n i : Nat} {gs : List Nat} {M : Nat -> Nat -> Bool} (hi : i < gs.length) : (a3b t n gs M)[i]? = some ⟨gs.getD i 0, rowE .bool n (M i), t⟩ := a4x hi
theorem b2x {t : TypeId} {n i : Nat} {gs : List Nat} {M : Nat -> Nat -> Bool} (f : Nat -> Bool) : (a3b t n gs M).set i ⟨gs.getD i 0, rowE .bool n f, t⟩ = a3b t n gs (fun x => if x = i then f else M x) := by
 unfold a3b rowE
 rw [b8f]
 congr 1
 funext x
 dsimp only
 by_cases h : x = i
 ·simp only [if_pos h]
 simp only [if_neg h]
theorem St.turnedO {w0 w w' : World} {R : List Own} (h : St w0 R w) {o : Option Nat} (hg : w.grownBy w' o) (h0 : ∀ q, o = some q -> w0.heap.size <= q) (hne : ∀ x ∈ R, o ≠ some x.g) : St w0 R w' :=
 ⟨h.below.grown hg h.below.size h0, fun r hr => ⟨(hg.block r.g (h.ok r hr).1.lt (fun e => hne r hr e.symm)).trans (h.ok r hr).1, (h.ok r hr).2⟩, h.apart⟩
theorem b7e : (Tryd.prog.info? 49).map (fun i => (i.zero, i.size, i.bytes)) = some (some (.slice none 0 0), 1, 24) := by kernel_rfl
theorem b7p : ∃ i, Tryd.prog.info? 49 = some i /\ i.zero = some (.slice none 0 0) /\ i.size = 1 /\ i.bytes = 24 := by
 obtain ⟨i, hi, hzz⟩ := Option.map_eq_some_iff.1 b7e
 simp only [Prod.mk.injEq] at hzz
 exact ⟨i, hi, hzz⟩
def slcE (n g : Nat) : List Value := [.slice (some ⟨g, 0, none⟩) n n]
theorem b5p (n g : Nat) : (slcE n g).length = 1 := rfl
def MatB (w : World) (v : Value) (n : Nat) (M : Nat -> Nat -> Bool) : Prop := ∃ gs : List Nat, gs.length = n /\ Slc (slcE n) 1 w v gs /\ ∀ i g, gs[i]? = some g -> ∃ t, Blk w g (rowE .bool n (M i)) t
theorem MatB.below {w w' : World} {v : Value} {n : Nat} {M : Nat -> Nat -> Bool} (h : MatB w v n M) (hb : Below w.heap.size w w') : MatB w' v n M := by
 obtain ⟨gs, h1, h2, h3⟩ := h
 refine ⟨gs, h1, h2.below hb, fun i g hg => ?_⟩
 obtain ⟨t, ht⟩ := h3 i g hg
 exact ⟨t, ht.below hb ht.lt⟩
theorem MatB.slice {w : World} {v : Value} {n : Nat} {M : Nat -> Nat -> Bool} (h : MatB w v n M) : ∃ A c, v = .slice A n c /\ n <= c /\ c <= 9223372036854775807 := by
 obtain ⟨gs, rfl, h2, _⟩ := h
 exact h2.slice
theorem MatB.at_ {w : World} {A : Option Addr} {n c : Nat} {M : Nat -> Nat -> Bool} (h : MatB w (.slice A n c) n M) {i : Nat} (hi : i < n) :
  ∃ b o g, A = some ⟨b, o, none⟩ /\ b < w.heap.size /\ g < w.heap.size /\ (∀ w', Below w.heap.size w w' -> w'.cell? ⟨b, o + i, none⟩ = some (.slice (some ⟨g, 0, none⟩) n n)) /\ ∀ w', Below w.heap.size w w' -> ∀ j, j < n -> w'.cell? ⟨g, j, none⟩ = some (.bool (M i j)) := by
 obtain ⟨gs, h1, h2, h3⟩ := h
 rw [<- h1] at h2
 obtain ⟨b, o, g, hA, hb, hg, hx⟩ := Slc.at_ (n := gs.length) (c := c) h2 (j := i) (by omega)
 obtain ⟨t, ht⟩ := h3 i g hg
 refine ⟨b, o, g, hA, hb, ht.lt, fun w' hw => ?_, fun w' hw j hj => (ht.below hw ht.lt).cell j _ (a4j hj)⟩
 have := hx w' hw 0 _ rfl
 rw [Nat.mul_one, Nat.add_zero, h1] at this
 exact this
end Go.Proofs.YtgdhpghfojccaaaDoor
