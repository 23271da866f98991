/-
Part 16 of the base.
-/
import Derived.Test.YtoighiepglclkaaGreatDoorKf15
namespace Go.Proofs.YtoighiepglclkaaGreatDoor
open Go.RowKit
section
variable {w0 w : World} {R : List Own} {g : Nat} {cs : Array Value} {t : TypeId}
theorem St.k0 {a b c : Value} (h : St w0 R w) (k : Nat) (hk : R[k]? = some ⟨g, cs, t⟩) (h0 : cs[0]? = some a) (h1 : cs[1]? = some b) (h2 : cs[2]? = some c) : w.cell? ⟨g, 0, none⟩ = some a /\ w.cell? ⟨g, 1, none⟩ = some b /\ w.cell? ⟨g, 2, none⟩ = some c := ⟨h.cell k hk 0 h0, h.cell k hk 1 h1, h.cell k hk 2 h2⟩
theorem St.k1 {a b c : Value} (h : St w0 R w) (k : Nat) (hk : R[k]? = some ⟨g, cs, t⟩) (h0 : cs[1]? = some a) (h1 : cs[2]? = some b) (h2 : cs[3]? = some c) : w.cell? ⟨g, 1, none⟩ = some a /\ w.cell? ⟨g, 2, none⟩ = some b /\ w.cell? ⟨g, 3, none⟩ = some c := ⟨h.cell k hk 1 h0, h.cell k hk 2 h1, h.cell k hk 3 h2⟩
theorem St.k4 {a b c : Value} (h : St w0 R w) (k : Nat) (hk : R[k]? = some ⟨g, cs, t⟩) (h0 : cs[4]? = some a) (h1 : cs[5]? = some b) (h2 : cs[6]? = some c) : w.cell? ⟨g, 4, none⟩ = some a /\ w.cell? ⟨g, 5, none⟩ = some b /\ w.cell? ⟨g, 6, none⟩ = some c := ⟨h.cell k hk 4 h0, h.cell k hk 5 h1, h.cell k hk 6 h2⟩
theorem St.k7 {a b c : Value} (h : St w0 R w) (k : Nat) (hk : R[k]? = some ⟨g, cs, t⟩) (h0 : cs[7]? = some a) (h1 : cs[8]? = some b) (h2 : cs[9]? = some c) : w.cell? ⟨g, 7, none⟩ = some a /\ w.cell? ⟨g, 8, none⟩ = some b /\ w.cell? ⟨g, 9, none⟩ = some c := ⟨h.cell k hk 7 h0, h.cell k hk 8 h1, h.cell k hk 9 h2⟩
theorem St.kA {a0 a1 a2 a3 a4 a5 a6 a7 a8 a9 aA : Value} (h : St w0 R w) (k : Nat) (hk : R[k]? = some ⟨g, cs, t⟩) (h0 : cs[0]? = some a0) (h1 : cs[1]? = some a1) (h2 : cs[2]? = some a2) (h3 : cs[3]? = some a3) (h4 : cs[4]? = some a4) (h5 : cs[5]? = some a5) (h6 : cs[6]? = some a6) (h7 : cs[7]? = some a7) (h8 : cs[8]? = some a8) (h9 : cs[9]? = some a9) (hA : cs[10]? = some aA) :
  w.cell? ⟨g, 0, none⟩ = some a0 /\ w.cell? ⟨g, 1, none⟩ = some a1 /\ w.cell? ⟨g, 2, none⟩ = some a2 /\ w.cell? ⟨g, 3, none⟩ = some a3 /\ w.cell? ⟨g, 4, none⟩ = some a4 /\ w.cell? ⟨g, 5, none⟩ = some a5 /\ w.cell? ⟨g, 6, none⟩ = some a6 /\ w.cell? ⟨g, 7, none⟩ = some a7 /\ w.cell? ⟨g, 8, none⟩ = some a8 /\ w.cell? ⟨g, 9, none⟩ = some a9 /\ w.cell? ⟨g, 10, none⟩ = some aA :=
 ⟨h.cell k hk 0 h0, h.cell k hk 1 h1, h.cell k hk 2 h2, h.cell k hk 3 h3, h.cell k hk 4 h4, h.cell k hk 5 h5, h.cell k hk 6 h6, h.cell k hk 7 h7, h.cell k hk 8 h8, h.cell k hk 9 h9, h.cell k hk 10 hA⟩
theorem St.f0 (h : St w0 R w) (k : Nat) (hk : R[k]? = some ⟨g, cs, t⟩) : w.frozen? ⟨g, 0, none⟩ = false /\ w.frozen? ⟨g, 1, none⟩ = false /\ w.frozen? ⟨g, 2, none⟩ = false := ⟨h.frozen k hk 0, h.frozen k hk 1, h.frozen k hk 2⟩
theorem St.f4 (h : St w0 R w) (k : Nat) (hk : R[k]? = some ⟨g, cs, t⟩) : w.frozen? ⟨g, 4, none⟩ = false /\ w.frozen? ⟨g, 5, none⟩ = false /\ w.frozen? ⟨g, 6, none⟩ = false := ⟨h.frozen k hk 4, h.frozen k hk 5, h.frozen k hk 6⟩
theorem St.f7 (h : St w0 R w) (k : Nat) (hk : R[k]? = some ⟨g, cs, t⟩) : w.frozen? ⟨g, 7, none⟩ = false /\ w.frozen? ⟨g, 8, none⟩ = false /\ w.frozen? ⟨g, 9, none⟩ = false := ⟨h.frozen k hk 7, h.frozen k hk 8, h.frozen k hk 9⟩
end
def eQ (x : Value) : World -> Value -> Prop := fun _ v => v = x
theorem stE {x : Value} (w1 w2 : World) (v : Value) (h : eQ x w1 v) (_ : Below w1.heap.size w1 w2) : eQ x w2 v := h
theorem sQ {a1 : Act} {d : Option Tmp} {w1 : World} {p : World -> Value -> Prop} {v : Value} (h : p w1 v) : StepQ a1 d w1 p .normal (a1.put d v) w1 := StepQ.mk v (Below.refl _ _) h
theorem stb_eq : ∀ V : List Value, stb (V.map eQ)
 | [] => trivial
 | _ :: V => ⟨pP, stb_eq V⟩
theorem a1z {P : Program} {id : Nat} {Q : Exit -> Act -> World -> Prop} {a : Act} {w : World} {l : List Oper} (n : Nat) (V : List Value) (hm : P.follows .mixedOrders = true) (hB : invB l.toArray n = true) (hD : a5y (l.take n) = true)
  (hS : (l.take n).all (fun o => match o.dst with | some d => decide (d < a.tmps.size) | none => true) = true)
  (hstep : a8c (StepR P l n (fun i => (V.map eQ).getD i (fun _ _ => True)) a w) (l.take n) 0)
  (hend : ∀ x w1, Below w.heap.size w w1 -> (∀ i, i < n -> ((V.map eQ).getD i (fun _ _ => True)) w1 (x i)) -> wpList P l.toArray Q (l.drop n) (a0r (l.take n) 0 x a) w1) : (Code.region id l.toArray true).wp P Q a w :=
 a0d n (V.map eQ) hm hB hD hS (stb_eq V) hstep hend
def dayB (d : Int) : Bool := decide (0 <= d) && decide (d <= 1048576)
theorem a3p (d : Int) (w : World) : Calls Tryz.prog 23 #[.int .i64 d] w fun e w' => e = .returned (.bool (dayB d)) /\ w = w' := by
 unfold dayB
 obtain ⟨x, hx⟩ : ∃ x, x = decide (0 <= d) := ⟨_, rfl⟩
 obtain ⟨y, hy⟩ : ∃ y, y = decide (d <= 1048576) := ⟨_, rfl⟩
 rw [<- hx, <- hy]
 have hx' := hx.symm
 have hy' := hy.symm
 clear hx hy
 cases x <;> cases y
 all_goals
  go_enter Tryz.func23, Tryz.ntmps23
  go_wp2
  go_ret
  exact ⟨rfl, rfl⟩
structure Stp where
 frm : Int
 neg : Bool
 num : List UInt8
 den : List UInt8
def Stp.enc (s : Stp) : List Value := [.int .i64 s.frm, .bool s.neg, .string (bs s.num), .string (bs s.den)]
def Stp.rate (s : Stp) : Rat := decR s.neg s.num s.den
abbrev a9x (w : World) (v : Value) (l : List Stp) : Prop := Slc Stp.enc 4 w v l
theorem c8t (s : Stp) : s.enc.length = 4 := rfl
def a2y (l : List Stp) (i : Nat) : Int := match l[i]? with | some s => s.frm | none => 0
def a3w (l : List Stp) (i : Nat) (s : Stp) : Int :=
 if dayB s.frm = false then 1 else if 0 < i /\ s.frm <= a2y l (i - 1) then 15 else if sgn s.rate.num < 0 then 7 else 0
def a3d (l : List Stp) : Nat -> Int
 | 0 => 0
 | i + 1 => if a3d l i = 0 then (match l[i]? with | some s => a3w l i s | none => 0) else a3d l i
def a3s (l : List Stp) : Int := if 64 < l.length then 2 else a3d l l.length
theorem a7j {l : List Stp} {i : Nat} {s : Stp} (h : a3d l i = 0) (hs : l[i]? = some s) : a3d l (i + 1) = a3w l i s := by
 rw [a3d, if_pos h, hs]
theorem a7k {l : List Stp} {i : Nat} (h : a3d l i ≠ 0) : ∀ k, a3d l (i + k) = a3d l i
 | 0 => rfl
 | k + 1 => by rw [<- Nat.add_assoc, a3d, a7k h k, if_neg h]
theorem b6w {l : List Stp} (h : 64 < l.length) : a3s l = 2 := by unfold a3s; rw [if_pos h]
theorem a6r {l : List Stp} {i : Nat} {s : Stp} {e : Int} (hl : l.length <= 64) (h : a3d l i = 0) (hs : l[i]? = some s) (he : a3w l i s = e) (h0 : e ≠ 0) : a3s l = e := by
 have hi := (List.getElem?_eq_some_iff.1 hs).1
 have h1 := a7j h hs
 rw [he] at h1
 unfold a3s
 rw [if_neg (by omega), show l.length = (i + 1) + (l.length - (i + 1)) by omega, a7k (by rw [h1]; exact h0), h1]
theorem c2z {l : List Stp} (hl : l.length <= 64) (h : a3d l l.length = 0) : a3s l = 0 := by unfold a3s; rw [if_neg (by omega), h]
theorem b5d {l : List Stp} {i : Nat} {s : Stp} (h : dayB s.frm = false) : a3w l i s = 1 := by unfold a3w; rw [if_pos h]
theorem b1n {l : List Stp} {i : Nat} {s : Stp} (h : dayB s.frm = true) (h1 : 0 < i) (h2 : s.frm <= a2y l (i - 1)) : a3w l i s = 15 := by
 unfold a3w; rw [if_neg (by rw [h]; decide), if_pos ⟨h1, h2⟩]
theorem b5c {l : List Stp} {i : Nat} {s : Stp} (h : dayB s.frm = true) (h1 : ¬ (0 < i /\ s.frm <= a2y l (i - 1))) (h2 : sgn s.rate.num < 0) : a3w l i s = 7 := by
 unfold a3w; rw [if_neg (by rw [h]; decide), if_neg h1, if_pos h2]
theorem b8h {l : List Stp} {i : Nat} {s : Stp} (h : dayB s.frm = true) (h1 : ¬ (0 < i /\ s.frm <= a2y l (i - 1))) (h2 : ¬ sgn s.rate.num < 0) : a3w l i s = 0 := by
 unfold a3w; rw [if_neg (by rw [h]; decide), if_neg h1, if_neg h2]
theorem b3m {l : List Stp} {i : Nat} {s : Stp} (h : a3w l i s = 0) : dayB s.frm = true /\ (0 < i -> a2y l (i - 1) < s.frm) /\ 0 <= sgn s.rate.num := by
 unfold a3w at h
 split at h
 ·cases h
 rename_i h1
 split at h
 ·cases h
 rename_i h2
 split at h
 ·cases h
 rename_i h3
 exact ⟨by simpa using h1, fun h0 => Int.not_le.1 fun h => h2 ⟨h0, h⟩, Int.not_lt.1 h3⟩
theorem c2y {l : List Stp} {i k : Nat} {s : Stp} (h : a3d l i = 0) (hk : k < i) (hs : l[k]? = some s) : a3w l k s = 0 := by
 have h1 : a3d l (k + 1) = 0 := Classical.byContradiction fun hn => by
  have := a7k hn (i - (k + 1))
  rw [show k + 1 + (i - (k + 1)) = i by omega, h] at this
  exact hn this.symm
 have h0 : a3d l k = 0 := Classical.byContradiction fun hn => hn (by rw [<- a7k hn 1]; exact h1)
 rw [<- a7j h0 hs]; exact h1
theorem b1f {l : List Stp} (h : a3s l = 0) : l.length <= 64 /\ a3d l l.length = 0 := by
 unfold a3s at h
 split at h
 ·cases h
 exact ⟨by omega, h⟩
def a4r : List Stp -> Prop
 | [] => True
 | s :: rest => (∀ t ∈ rest, s.frm < t.frm) /\ 0 <= s.frm /\ s.frm <= 1048576 /\ 0 <= s.rate /\ a4r rest
theorem a5n {d : Int} (h : dayB d = true) : 0 <= d /\ d <= 1048576 := by
 unfold dayB at h
 simpa using h
theorem c1m (l : List Stp) : ∀ (k i : Nat), i + k = l.length -> (∀ j s, l[j]? = some s -> a3w l j s = 0) -> a4r (l.drop i)
 | 0, i, hi, _ => by rw [List.drop_of_length_le (by omega)]; exact trivial
 | k + 1, i, hi, h => by
  have hs : l[i]? = some l[i] := List.getElem?_eq_getElem (by omega)
  have ih := c1m l k (i + 1) (by omega) h
  rw [b3f hs]
  obtain ⟨h1, _, h3⟩ := b3m (h i _ hs)
  refine ⟨fun t ht => ?_, (a5n h1).1, (a5n h1).2, b2r h3, ih⟩
  by_cases hk : i + 1 < l.length
  ·have hn : l[i + 1]? = some l[i + 1] := List.getElem?_eq_getElem hk
   have h2 := (b3m (h (i + 1) _ hn)).2.1 (by omega)
   have hf : a2y l (i + 1 - 1) = l[i].frm := by unfold a2y; rw [show i + 1 - 1 = i by omega, hs]
   rw [hf] at h2
   rw [b3f hn] at ht ih
   rcases List.mem_cons.1 ht with rfl | ht
   ·exact h2
   have := ih.1 t ht; omega
  rw [List.drop_of_length_le (by omega)] at ht; cases ht
theorem a4h {l : List Stp} (h : a3s l = 0) : a4r l := by
 obtain ⟨_, h2⟩ := b1f h
 have := c1m l l.length 0 (by omega) (fun j s hj => c2y h2 (List.getElem?_eq_some_iff.1 hj).1 hj)
 rwa [List.drop_zero] at this
def a7c (l : List Stp) (day : Int) : Rat := l.foldl (fun r s => if s.frm <= day then s.rate else r) 0
theorem c2u (day : Int) : ∀ (l : List Stp) (r : Rat), (∀ s ∈ l, day < s.frm) -> l.foldl (fun r s => if s.frm <= day then s.rate else r) r = r
 | [], _, _ => rfl
 | s :: l, r, h => by
  have h1 := h s (by simp)
  rw [List.foldl_cons, if_neg (by omega)]
  exact c2u day l r (fun t ht => h t (by simp [ht]))
theorem b5k {l : List Stp} (h : a4r l) : ∀ {i : Nat} {s : Stp}, l[i]? = some s -> ∀ t ∈ l.drop (i + 1), s.frm < t.frm := by
 induction l with
 | nil => intro i s hs; simp at hs
 | cons a l ih =>
  intro i s hs t ht
  cases i with
  | zero =>
   have : a = s := by simpa using hs
   subst this
   exact h.1 t (by simpa using ht)
  | succ i => exact ih h.2.2.2.2 (by simpa using hs) t (by simpa using ht)
theorem b2y {l : List Stp} (h : a4r l) {day : Int} {i : Nat} {s : Stp} (hs : l[i]? = some s) (hd : day < s.frm) : a7c l day = (l.take i).foldl (fun r s => if s.frm <= day then s.rate else r) 0 := by
 unfold a7c
 conv => lhs; rw [<- List.take_append_drop i l, List.foldl_append]
 refine c2u day _ _ (fun t ht => ?_)
 rw [b3f hs] at ht
 rcases List.mem_cons.1 ht with rfl | ht
 ·exact hd
 have := b5k h hs t ht; omega
theorem b6q {l : List Stp} {day : Int} {i : Nat} {s : Stp} (hs : l[i]? = some s) : (l.take (i + 1)).foldl (fun r s => if s.frm <= day then s.rate else r) (0 : Rat) = if s.frm <= day then s.rate else (l.take i).foldl (fun r s => if s.frm <= day then s.rate else r) 0 := by
 rw [b2p hs, List.foldl_append]; rfl
def a2d (l : List Stp) (day : Int) : Nat -> Rat
 | 0 => 0
 | n + 1 => a2d l day n + a7c l (day + n)
theorem b3h (l : List Stp) (day : Int) (m : Nat) : ∀ n, a2d l day (m + n) = a2d l day m + a2d l (day + m) n
 | 0 => by rw [Nat.add_zero, a2d, Rat.add_zero]
 | n + 1 => by
  rw [<- Nat.add_assoc, a2d, b3h l day m n, a2d, Rat.add_assoc, show day + ((m + n : Nat) : Int) = day + m + n by omega]
theorem a7h {l : List Stp} {day : Int} {r : Rat} : ∀ {n : Nat}, (∀ k : Nat, k < n -> a7c l (day + k) = r) -> a2d l day n = r * (n : Rat)
 | 0, _ => by rw [a2d]; grind
 | n + 1, h => by
  rw [a2d, a7h (n := n) (fun k hk => h k (by omega)), h n (by omega)]
  rw [Rat.natCast_add]; grind
theorem c1x {l : List Stp} (h : a4r l) (day : Int) : 0 <= a7c l day := by
 have : ∀ (l : List Stp) (r : Rat), 0 <= r -> a4r l -> 0 <= l.foldl (fun r s => if s.frm <= day then s.rate else r) r := by
  intro l
  induction l with
  | nil => intro r hr _; exact hr
  | cons s l ih =>
   intro r hr h
   rw [List.foldl_cons]
   refine ih _ ?_ h.2.2.2.2
   split
   ·exact h.2.2.2.1
   exact hr
 exact this l 0 (by decide) h
theorem b2d {l : List Stp} (h : a4r l) (day : Int) : ∀ n, 0 <= a2d l day n
 | 0 => by rw [a2d]; decide
 | n + 1 => by
  have h1 := b2d h day n
  have h2 := c1x h (day + n)
  rw [a2d]; grind
theorem c7p {l : List Stp} {a b : Int} (h : ∀ s ∈ l, s.frm <= a ↔ s.frm <= b) : a7c l a = a7c l b := by
 unfold a7c
 have : ∀ (l : List Stp) (r : Rat), (∀ s ∈ l, s.frm <= a ↔ s.frm <= b) -> l.foldl (fun r s => if s.frm <= a then s.rate else r) r = l.foldl (fun r s => if s.frm <= b then s.rate else r) r := by
  intro l
  induction l with
  | nil => intros; rfl
  | cons s l ih =>
   intro r h
   rw [List.foldl_cons, List.foldl_cons, ih _ (fun t ht => h t (by simp [ht]))]
   congr 1
   by_cases hs : s.frm <= a
   ·rw [if_pos hs, if_pos ((h s (by simp)).1 hs)]
   rw [if_neg hs, if_neg (fun hb => hs ((h s (by simp)).2 hb))]
 exact this l 0 h
def a4n (l : List Stp) (dst : Int) (i : Nat) : Int := if i < l.length then min dst (a2y l i) else dst
def a6d (l : List Stp) (src dst : Int) : Nat -> Rat
 | 0 => 0
 | i + 1 => if max src (a2y l i) < a4n l dst (i + 1) then a6d l src dst i + (match l[i]? with | some s => s.rate | none => 0) * ((a4n l dst (i + 1) - max src (a2y l i) : Int) : Rat) else a6d l src dst i
theorem b5f {l : List Stp} {src dst : Int} {i : Nat} {s : Stp} (hs : l[i]? = some s) (h : max src s.frm < a4n l dst (i + 1)) : a6d l src dst (i + 1) = a6d l src dst i + s.rate * ((a4n l dst (i + 1) - max src s.frm : Int) : Rat) := by
 have hf : a2y l i = s.frm := by unfold a2y; rw [hs]
 rw [a6d, hf, if_pos h, hs]
theorem b2s {l : List Stp} {src dst : Int} {i : Nat} {s : Stp} (hs : l[i]? = some s) (h : ¬ max src s.frm < a4n l dst (i + 1)) : a6d l src dst (i + 1) = a6d l src dst i := by
 have hf : a2y l i = s.frm := by unfold a2y; rw [hs]
 rw [a6d, hf, if_neg h]
theorem rateS_at {l : List Stp} (h : a4r l) {day : Int} {i : Nat} {s : Stp} (hs : l[i]? = some s) (h1 : s.frm <= day) (h2 : i + 1 < l.length -> day < a2y l (i + 1)) : a7c l day = s.rate := by
 by_cases hi : i + 1 < l.length
 ·have hn : l[i + 1]? = some l[i + 1] := List.getElem?_eq_getElem hi
  have hf : a2y l (i + 1) = l[i + 1].frm := by unfold a2y; rw [hn]
  have := h2 hi
  rw [b2y h hn (by omega), b6q hs, if_pos h1]
 have hlt := (List.getElem?_eq_some_iff.1 hs).1
 have e : l.take (i + 1) = l := List.take_of_length_le (by omega)
 unfold a7c
 rw [<- e, b6q hs, if_pos h1]
theorem c3v {l : List Stp} (h : a4r l) {day : Int} (h1 : 0 < l.length -> day < a2y l 0) : a7c l day = 0 := by
 cases l with
 | nil => rfl
 | cons s l =>
  have := h1 (by simp)
  rw [b2y h (i := 0) (s := s) rfl (by exact this)]; rfl
theorem c6n {l : List Stp} (h : a4r l) {i : Nat} (hi : i + 1 < l.length) : a2y l i < a2y l (i + 1) := by
 have h0 : l[i]? = some l[i] := List.getElem?_eq_getElem (by omega)
 have h1 : l[i + 1]? = some l[i + 1] := List.getElem?_eq_getElem hi
 have := b5k h h0 l[i + 1] (by rw [b3f h1]; exact List.mem_cons_self)
 unfold a2y
 rw [h0, h1]; exact this
theorem c5t {l : List Stp} (h : a4r l) {src dst : Int} : ∀ i, i <= l.length -> a6d l src dst i = a2d l src (a4n l dst i - src).toNat
 | 0, _ => by
  rw [a6d, a7h (r := 0) (fun k hk => c3v h fun hl => ?_)]
  ·grind
  have he : a4n l dst 0 = min dst (a2y l 0) := by unfold a4n; rw [if_pos hl]
  rw [he] at hk; omega
 | i + 1, hi => by
  have ih := c5t h (src := src) (dst := dst) i (by omega)
  have hs : l[i]? = some l[i] := List.getElem?_eq_getElem (by omega)
  obtain ⟨s, hse⟩ : ∃ s, s = l[i] := ⟨_, rfl⟩
  rw [<- hse] at hs
  have hf : a2y l i = s.frm := by unfold a2y; rw [hs]
  have e0 : a4n l dst i = min dst s.frm := by unfold a4n; rw [if_pos (by omega), hf]
  have e1 : a4n l dst (i + 1) <= dst /\ (i + 1 < l.length -> a4n l dst (i + 1) <= a2y l (i + 1)) /\ min dst s.frm <= a4n l dst (i + 1) := by
   unfold a4n
   split
   ·rename_i hh
    have := c6n h hh
    rw [hf] at this
    omega
   omega
  rw [e0] at ih
  obtain ⟨e2, e3, e4⟩ := e1
  by_cases hlt : max src s.frm < a4n l dst (i + 1)
  ·rw [b5f hs hlt, ih]
   have hd : (a4n l dst (i + 1) - src).toNat = (min dst s.frm - src).toNat + (a4n l dst (i + 1) - max src s.frm).toNat := by omega
   rw [hd, b3h]
   congr 1
   rw [a7h (r := s.rate) (fun k hk => rateS_at h hs (by omega) (fun hl => by have := e3 hl; omega))]
   congr 1
   have : ((a4n l dst (i + 1) - max src s.frm : Int)) = (((a4n l dst (i + 1) - max src s.frm).toNat : Nat) : Int) := by omega
   rw [this, Rat.intCast_natCast]
   rfl
  rw [b2s hs hlt, ih]
  congr 1
  by_cases hl : i + 1 < l.length
  ·have := c6n h hl
   have he : a4n l dst (i + 1) = min dst (a2y l (i + 1)) := by unfold a4n; rw [if_pos hl]
   rw [hf] at this
   omega
  have he : a4n l dst (i + 1) = dst := by unfold a4n; rw [if_neg hl]
  omega
theorem c8y {l : List Stp} (h : a4r l) {src dst : Int} : a6d l src dst l.length = a2d l src (dst - src).toNat := by
 rw [c5t h l.length (Nat.le_refl _)]
 unfold a4n
 rw [if_neg (by omega)]
def b3k (N : Nat) (l : List Stp) : Prop := ∀ s ∈ l, Sized N s.rate
theorem b5e {l : List Stp} {N : Nat} (hN : b3k N l) {src dst : Int} (h1 : -1099511627776 <= src /\ src <= 1099511627776) (h2 : -1099511627776 <= dst /\ dst <= 1099511627776) : ∀ i, Sized (i * (N + 9) + 1) (a6d l src dst i)
 | 0 => by rw [a6d, Nat.zero_mul]; exact sized_zero
 | i + 1 => by
  have ih := b5e hN h1 h2 i
  by_cases hs : ∃ s, l[i]? = some s
  ·obtain ⟨s, hs⟩ := hs
   by_cases hlt : max src s.frm < a4n l dst (i + 1)
   ·rw [b5f hs hlt]
    have hb : a4n l dst (i + 1) <= dst := by unfold a4n; split <;> omega
    exact (ih.add ((hN s (List.mem_of_getElem? hs)).mul (a3h (n := a4n l dst (i + 1) - max src s.frm) (by omega)))).mono (by rw [Nat.add_mul]; omega)
   rw [b2s hs hlt]
   exact ih.mono (by rw [Nat.add_mul]; omega)
  have hn : l[i]? = none := by
   cases hh : l[i]? with
   | none => rfl
   | some s => exact absurd ⟨s, hh⟩ hs
  rw [a6d, hn]
  split
  ·rw [Rat.zero_mul, Rat.add_zero]; exact ih.mono (by rw [Nat.add_mul]; omega)
  exact ih.mono (by rw [Nat.add_mul]; omega)
theorem b3g {l : List Stp} {N : Nat} (h : a4r l) (hl : l.length <= 64) (hN : b3k N l) {src : Int} {n : Nat} (h1 : -549755813888 <= src /\ src <= 549755813888) (h2 : n <= 549755813888) : Sized (64 * (N + 9) + 1) (a2d l src n) := by
 have := b5e hN (src := src) (dst := src + n) (by omega) (by omega) l.length
 rw [c8y h, show (src + (n : Int) - src).toNat = n by omega] at this
 exact this.mono (by have := Nat.mul_le_mul_right (N + 9) hl; omega)
def b0q (l : List Stp) (src dst base : Int) : Rat := a2d l src (dst - src).toNat / (base : Rat)
theorem a7u {l : List Stp} {N : Nat} (h : a4r l) (hl : l.length <= 64) (hN : b3k N l) {src dst base : Int} (h1 : 0 <= src) (h2 : dst <= 549755813888) (hb : base.natAbs < 18446744073709551616) (hs : src <= 549755813888) : Sized (64 * (N + 9) + 9) (b0q l src dst base) := by
 unfold b0q
 exact ((b3g h hl hN ⟨by omega, by omega⟩ (by omega)).div (a3h hb)).mono (by omega)
theorem c1h {l : List Stp} (h : a4r l) {a b base : Int} (hb : 0 < base) : 0 <= b0q l a b base := by
 unfold b0q
 have h1 := b2d h a (b - a).toNat
 have h2 : (0 : Rat) < (base : Rat) := by exact_mod_cast hb
 rw [Rat.div_def]
 exact Rat.mul_nonneg h1 (Rat.le_of_lt (Rat.inv_pos.2 h2))
theorem b2u : ∀ {l : List Stp}, a4r l -> ∀ {i : Nat} {s : Stp}, l[i]? = some s -> 0 <= s.frm /\ s.frm <= 1048576 /\ 0 <= s.rate
 | [], _, i, s, hs => by simp at hs
 | a :: l, h, 0, s, hs => by
  have : a = s := by simpa using hs
  subst this
  exact ⟨h.2.1, h.2.2.1, h.2.2.2.1⟩
 | a :: l, h, i + 1, s, hs => b2u h.2.2.2.2 (by simpa using hs)
structure Duo where
 a : Nat
 b : Nat
def Duo.enc (t : Duo) : List Value := [.int .u16 (t.a : Nat), .int .u16 (t.b : Nat)]
def Duo.ok (t : Duo) : Prop := t.a <= 65535 /\ t.b <= 65535
def a7t (l : List Stp) (src dst : Int) : Nat -> Int
 | 0 => dst
 | i + 1 => if src < a2y l i /\ a2y l i < a7t l src dst i then a2y l i else a7t l src dst i
theorem b6t {l : List Stp} {src dst : Int} (h : src < dst) : ∀ i, i <= l.length -> src < a7t l src dst i /\ a7t l src dst i <= dst /\ ∀ j < i, a2y l j <= src \/ a7t l src dst i <= a2y l j
 | 0, _ => ⟨h, Int.le_refl _, fun j hj => by omega⟩
 | i + 1, hi => by
  obtain ⟨h1, h2, h3⟩ := b6t (l := l) h i (by omega)
  rw [a7t]
  split
  ·rename_i hc
   refine ⟨hc.1, by omega, fun j hj => ?_⟩
   by_cases hji : j = i
   ·subst hji; right; omega
   rcases h3 j (by omega) with h4 | h4
   ·exact .inl h4
   right; omega
  rename_i hc
  refine ⟨h1, h2, fun j hj => ?_⟩
  by_cases hji : j = i
  ·subst hji
   by_cases h5 : src < a2y l j
   ·right
    exact Int.not_lt.1 fun h6 => hc ⟨h5, h6⟩
   left; omega
  exact h3 j (by omega)
theorem c8a {l : List Stp} {src dst : Int} {i : Nat} (h1 : src < a2y l i) (h2 : a2y l i < a7t l src dst i) : a7t l src dst (i + 1) = a2y l i := by rw [a7t, if_pos ⟨h1, h2⟩]
theorem c8b {l : List Stp} {src dst : Int} {i : Nat} (h : ¬ (src < a2y l i /\ a2y l i < a7t l src dst i)) : a7t l src dst (i + 1) = a7t l src dst i := by rw [a7t, if_neg h]
theorem d0z {l : List Stp} {a src dst : Int} (h0 : a <= src) (h : src < dst) : a2d l a (a7t l src dst l.length - a).toNat = a2d l a (src - a).toNat + a7c l src * ((a7t l src dst l.length - src : Int) : Rat) := by
 obtain ⟨h1, h2, h3⟩ := b6t (l := l) h l.length (Nat.le_refl _)
 generalize a7t l src dst l.length = e at *
 rw [show (e - a).toNat = (src - a).toNat + (e - src).toNat by omega, b3h]
 congr 1
 rw [show a + ((src - a).toNat : Int) = src by omega]
 rw [a7h (r := a7c l src) (fun k hk => c7p fun s hs => ?_)]
 ·congr 1
  have : (e - src : Int) = (((e - src).toNat : Nat) : Int) := by omega
  rw [this, Rat.intCast_natCast]
  rfl
 obtain ⟨j, hj, hjs⟩ := List.mem_iff_getElem.1 hs
 have hf : a2y l j = s.frm := by unfold a2y; rw [List.getElem?_eq_getElem hj, hjs]
 have := h3 j hj
 rw [hf] at this
 omega
theorem c3u {l : List Stp} {N : Nat} (h1 : 1 <= N) (hN : b3k N l) (day : Int) : Sized N (a7c l day) := by
 unfold a7c
 have : ∀ (l : List Stp) (r : Rat), Sized N r -> b3k N l -> Sized N (l.foldl (fun r s => if s.frm <= day then s.rate else r) r) := by
  intro l
  induction l with
  | nil => intro r h _; exact h
  | cons s l ih =>
   intro r h hl
   rw [List.foldl_cons]
   refine ih _ ?_ (fun t ht => hl t (by simp [ht]))
   split
   ·exact hl s (by simp)
   exact h
 exact this l 0 (sized_zero.mono h1) hN
end Go.Proofs.YtoighiepglclkaaGreatDoor
