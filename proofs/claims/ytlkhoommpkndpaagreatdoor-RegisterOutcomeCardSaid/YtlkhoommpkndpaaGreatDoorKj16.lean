/-
Part 16 of the base.
-/
import Derived.Test.YtlkhoommpkndpaaGreatDoorKj15
namespace Go.Proofs.YtlkhoommpkndpaaGreatDoor
open Go.RowKit
section
variable {w0 w : World} {R : List Own} {g : Nat} {cs : Array Value} {t : TypeId}
theorem St.k0 {a b c : Value} (h : St w0 R w) (k : Nat) (hk : R[k]? = some ⟨g, cs, t⟩) (h0 : cs[0]? = some a) (h1 : cs[1]? = some b) (h2 : cs[2]? = some c) : w.cell? ⟨g, 0, none⟩ = some a /\ w.cell? ⟨g, 1, none⟩ = some b /\ w.cell? ⟨g, 2, none⟩ = some c := ⟨h.cell k hk 0 h0, h.cell k hk 1 h1, h.cell k hk 2 h2⟩
theorem St.k1 {a b c : Value} (h : St w0 R w) (k : Nat) (hk : R[k]? = some ⟨g, cs, t⟩) (h0 : cs[1]? = some a) (h1 : cs[2]? = some b) (h2 : cs[3]? = some c) : w.cell? ⟨g, 1, none⟩ = some a /\ w.cell? ⟨g, 2, none⟩ = some b /\ w.cell? ⟨g, 3, none⟩ = some c := ⟨h.cell k hk 1 h0, h.cell k hk 2 h1, h.cell k hk 3 h2⟩
theorem St.k4 {a b c : Value} (h : St w0 R w) (k : Nat) (hk : R[k]? = some ⟨g, cs, t⟩) (h0 : cs[4]? = some a) (h1 : cs[5]? = some b) (h2 : cs[6]? = some c) : w.cell? ⟨g, 4, none⟩ = some a /\ w.cell? ⟨g, 5, none⟩ = some b /\ w.cell? ⟨g, 6, none⟩ = some c := ⟨h.cell k hk 4 h0, h.cell k hk 5 h1, h.cell k hk 6 h2⟩
theorem St.k7 {a b c : Value} (h : St w0 R w) (k : Nat) (hk : R[k]? = some ⟨g, cs, t⟩) (h0 : cs[7]? = some a) (h1 : cs[8]? = some b) (h2 : cs[9]? = some c) : w.cell? ⟨g, 7, none⟩ = some a /\ w.cell? ⟨g, 8, none⟩ = some b /\ w.cell? ⟨g, 9, none⟩ = some c := ⟨h.cell k hk 7 h0, h.cell k hk 8 h1, h.cell k hk 9 h2⟩
theorem St.kA {a0 a1 a2 a3 a4 a5 a6 a7 a8 a9 aA : Value} (h : St w0 R w) (k : Nat) (hk : R[k]? = some ⟨g, cs, t⟩) (h0 : cs[0]? = some a0) (h1 : cs[1]? = some a1) (h2 : cs[2]? = some a2) (h3 : cs[3]? = some a3) (h4 : cs[4]? = some a4) (h5 : cs[5]? = some a5) (h6 : cs[6]? = some a6) (h7 : cs[7]? = some a7) (h8 : cs[8]? = some a8) (h9 : cs[9]? = some a9) (hA : cs[10]? = some aA) :
  w.cell? ⟨g, 0, none⟩ = some a0 /\ w.cell? ⟨g, 1, none⟩ = some a1 /\ w.cell? ⟨g, 2, none⟩ = some a2 /\ w.cell? ⟨g, 3, none⟩ = some a3 /\ w.cell? ⟨g, 4, none⟩ = some a4 /\ w.cell? ⟨g, 5, none⟩ = some a5 /\ w.cell? ⟨g, 6, none⟩ = some a6 /\ w.cell? ⟨g, 7, none⟩ = some a7 /\ w.cell? ⟨g, 8, none⟩ = some a8 /\ w.cell? ⟨g, 9, none⟩ = some a9 /\ w.cell? ⟨g, 10, none⟩ = some aA :=
 ⟨h.cell k hk 0 h0, h.cell k hk 1 h1, h.cell k hk 2 h2, h.cell k hk 3 h3, h.cell k hk 4 h4, h.cell k hk 5 h5, h.cell k hk 6 h6, h.cell k hk 7 h7, h.cell k hk 8 h8, h.cell k hk 9 h9, h.cell k hk 10 hA⟩
theorem St.f0 (h : St w0 R w) (k : Nat) (hk : R[k]? = some ⟨g, cs, t⟩) : w.frozen? ⟨g, 0, none⟩ = false /\ w.frozen? ⟨g, 1, none⟩ = false /\ w.frozen? ⟨g, 2, none⟩ = false := ⟨h.frozen k hk 0, h.frozen k hk 1, h.frozen k hk 2⟩
theorem St.f4 (h : St w0 R w) (k : Nat) (hk : R[k]? = some ⟨g, cs, t⟩) : w.frozen? ⟨g, 4, none⟩ = false /\ w.frozen? ⟨g, 5, none⟩ = false /\ w.frozen? ⟨g, 6, none⟩ = false := ⟨h.frozen k hk 4, h.frozen k hk 5, h.frozen k hk 6⟩
theorem St.f7 (h : St w0 R w) (k : Nat) (hk : R[k]? = some ⟨g, cs, t⟩) : w.frozen? ⟨g, 7, none⟩ = false /\ w.frozen? ⟨g, 8, none⟩ = false /\ w.frozen? ⟨g, 9, none⟩ = false := ⟨h.frozen k hk 7, h.frozen k hk 8, h.frozen k hk 9⟩
end
def eQ (x : Value) : World -> Value -> Prop := fun _ v => v = x
theorem stE {x : Value} (w1 w2 : World) (v : Value) (h : eQ x w1 v) (_ : Below w1.heap.size w1 w2) : eQ x w2 v := h
theorem sQ {a1 : Act} {d : Option Tmp} {w1 : World} {p : World -> Value -> Prop} {v : Value} (h : p w1 v) : StepQ a1 d w1 p .normal (a1.put d v) w1 := StepQ.mk v (Below.refl _ _) h
theorem stb_eq : ∀ V : List Value, stb (V.map eQ)
 | [] => trivial
 | _ :: V => ⟨pP, stb_eq V⟩
theorem a1k {P : Program} {id : Nat} {Q : Exit -> Act -> World -> Prop} {a : Act} {w : World} {l : List Oper} (n : Nat) (V : List Value) (hm : P.follows .mixedOrders = true) (hB : invB l.toArray n = true) (hD : a4n (l.take n) = true)
  (hS : (l.take n).all (fun o => match o.dst with | some d => decide (d < a.tmps.size) | none => true) = true)
  (hstep : a6j (StepR P l n (fun i => (V.map eQ).getD i (fun _ _ => True)) a w) (l.take n) 0)
  (hend : ∀ x w1, Below w.heap.size w w1 -> (∀ i, i < n -> ((V.map eQ).getD i (fun _ _ => True)) w1 (x i)) -> wpList P l.toArray Q (l.drop n) (a0h (l.take n) 0 x a) w1) : (Code.region id l.toArray true).wp P Q a w :=
 a0e n (V.map eQ) hm hB hD hS (stb_eq V) hstep hend
def dayB (d : Int) : Bool := decide (0 <= d) && decide (d <= 1048576)
structure Stp where
 frm : Int
 neg : Bool
 num : List UInt8
 den : List UInt8
def Stp.enc (s : Stp) : List Value := [.int .i64 s.frm, .bool s.neg, .string (bs s.num), .string (bs s.den)]
def Stp.rate (s : Stp) : Rat := decR s.neg s.num s.den
abbrev b8e (w : World) (v : Value) (l : List Stp) : Prop := Slc Stp.enc 4 w v l
theorem stp_len (s : Stp) : s.enc.length = 4 := rfl
def a3s (l : List Stp) (i : Nat) : Int := match l[i]? with | some s => s.frm | none => 0
def a2t (l : List Stp) (i : Nat) (s : Stp) : Int :=
 if dayB s.frm = false then 1 else if 0 < i /\ s.frm <= a3s l (i - 1) then 15 else if sgn s.rate.num < 0 then 7 else 0
def a2k (l : List Stp) : Nat -> Int
 | 0 => 0
 | i + 1 => if a2k l i = 0 then (match l[i]? with | some s => a2t l i s | none => 0) else a2k l i
def a3c (l : List Stp) : Int := if 64 < l.length then 2 else a2k l l.length
theorem a7p {l : List Stp} {i : Nat} {s : Stp} (h : a2k l i = 0) (hs : l[i]? = some s) : a2k l (i + 1) = a2t l i s := by
 rw [a2k, if_pos h, hs]
theorem a5t {l : List Stp} {i : Nat} (h : a2k l i ≠ 0) : ∀ k, a2k l (i + k) = a2k l i
 | 0 => rfl
 | k + 1 => by rw [<- Nat.add_assoc, a2k, a5t h k, if_neg h]
theorem b9p {l : List Stp} (h : 64 < l.length) : a3c l = 2 := by unfold a3c; rw [if_pos h]
theorem b0g {l : List Stp} {i : Nat} {s : Stp} {e : Int} (hl : l.length <= 64) (h : a2k l i = 0) (hs : l[i]? = some s) (he : a2t l i s = e) (h0 : e ≠ 0) : a3c l = e := by
 have hi := (List.getElem?_eq_some_iff.1 hs).1
 have h1 := a7p h hs
 rw [he] at h1
 unfold a3c
 rw [if_neg (by omega), show l.length = (i + 1) + (l.length - (i + 1)) by omega, a5t (by rw [h1]; exact h0), h1]
theorem c4f {l : List Stp} (hl : l.length <= 64) (h : a2k l l.length = 0) : a3c l = 0 := by unfold a3c; rw [if_neg (by omega), h]
theorem b8h {l : List Stp} {i : Nat} {s : Stp} (h : dayB s.frm = false) : a2t l i s = 1 := by unfold a2t; rw [if_pos h]
theorem b5k {l : List Stp} {i : Nat} {s : Stp} (h : dayB s.frm = true) (h1 : 0 < i) (h2 : s.frm <= a3s l (i - 1)) : a2t l i s = 15 := by
 unfold a2t; rw [if_neg (by rw [h]; decide), if_pos ⟨h1, h2⟩]
theorem b8g {l : List Stp} {i : Nat} {s : Stp} (h : dayB s.frm = true) (h1 : ¬ (0 < i /\ s.frm <= a3s l (i - 1))) (h2 : sgn s.rate.num < 0) : a2t l i s = 7 := by
 unfold a2t; rw [if_neg (by rw [h]; decide), if_neg h1, if_pos h2]
theorem c0t {l : List Stp} {i : Nat} {s : Stp} (h : dayB s.frm = true) (h1 : ¬ (0 < i /\ s.frm <= a3s l (i - 1))) (h2 : ¬ sgn s.rate.num < 0) : a2t l i s = 0 := by
 unfold a2t; rw [if_neg (by rw [h]; decide), if_neg h1, if_neg h2]
theorem b0h {l : List Stp} {i : Nat} {s : Stp} (h : a2t l i s = 0) : dayB s.frm = true /\ (0 < i -> a3s l (i - 1) < s.frm) /\ 0 <= sgn s.rate.num := by
 unfold a2t at h
 split at h
 ·cases h
 rename_i h1
 split at h
 ·cases h
 rename_i h2
 split at h
 ·cases h
 rename_i h3
 exact ⟨by simpa using h1, fun h0 => Int.not_le.1 fun h => h2 ⟨h0, h⟩, Int.not_lt.1 h3⟩
theorem b7y {l : List Stp} {i k : Nat} {s : Stp} (h : a2k l i = 0) (hk : k < i) (hs : l[k]? = some s) : a2t l k s = 0 := by
 have h1 : a2k l (k + 1) = 0 := Classical.byContradiction fun hn => by
  have := a5t hn (i - (k + 1))
  rw [show k + 1 + (i - (k + 1)) = i by omega, h] at this
  exact hn this.symm
 have h0 : a2k l k = 0 := Classical.byContradiction fun hn => hn (by rw [<- a5t hn 1]; exact h1)
 rw [<- a7p h0 hs]; exact h1
theorem b2z {l : List Stp} (h : a3c l = 0) : l.length <= 64 /\ a2k l l.length = 0 := by
 unfold a3c at h
 split at h
 ·cases h
 exact ⟨by omega, h⟩
def a4c : List Stp -> Prop
 | [] => True
 | s :: rest => (∀ t ∈ rest, s.frm < t.frm) /\ 0 <= s.frm /\ s.frm <= 1048576 /\ 0 <= s.rate /\ a4c rest
theorem a7m {d : Int} (h : dayB d = true) : 0 <= d /\ d <= 1048576 := by
 unfold dayB at h
 simpa using h
theorem b6q (l : List Stp) : ∀ (k i : Nat), i + k = l.length -> (∀ j s, l[j]? = some s -> a2t l j s = 0) -> a4c (l.drop i)
 | 0, i, hi, _ => by rw [List.drop_of_length_le (by omega)]; exact trivial
 | k + 1, i, hi, h => by
  have hs : l[i]? = some l[i] := List.getElem?_eq_getElem (by omega)
  have ih := b6q l k (i + 1) (by omega) h
  rw [b0f hs]
  obtain ⟨h1, _, h3⟩ := b0h (h i _ hs)
  refine ⟨fun t ht => ?_, (a7m h1).1, (a7m h1).2, b1s h3, ih⟩
  -- the next one is later, and all behind it
  by_cases hk : i + 1 < l.length
  ·have hn : l[i + 1]? = some l[i + 1] := List.getElem?_eq_getElem hk
   have h2 := (b0h (h (i + 1) _ hn)).2.1 (by omega)
   have hf : a3s l (i + 1 - 1) = l[i].frm := by unfold a3s; rw [show i + 1 - 1 = i by omega, hs]
   rw [hf] at h2
   rw [b0f hn] at ht ih
   rcases List.mem_cons.1 ht with rfl | ht
   ·exact h2
   have := ih.1 t ht; omega
  rw [List.drop_of_length_le (by omega)] at ht; cases ht
theorem a4w {l : List Stp} (h : a3c l = 0) : a4c l := by
 obtain ⟨_, h2⟩ := b2z h
 have := b6q l l.length 0 (by omega) (fun j s hj => b7y h2 (List.getElem?_eq_some_iff.1 hj).1 hj)
 rwa [List.drop_zero] at this
def b6z (l : List Stp) (day : Int) : Rat := l.foldl (fun r s => if s.frm <= day then s.rate else r) 0
theorem b7p (day : Int) : ∀ (l : List Stp) (r : Rat), (∀ s ∈ l, day < s.frm) -> l.foldl (fun r s => if s.frm <= day then s.rate else r) r = r
 | [], _, _ => rfl
 | s :: l, r, h => by
  have h1 := h s (by simp)
  rw [List.foldl_cons, if_neg (by omega)]
  exact b7p day l r (fun t ht => h t (by simp [ht]))
theorem b1x {l : List Stp} (h : a4c l) : ∀ {i : Nat} {s : Stp}, l[i]? = some s -> ∀ t ∈ l.drop (i + 1), s.frm < t.frm := by
 induction l with
 | nil => intro i s hs; simp at hs
 | cons a l ih =>
  intro i s hs t ht
  cases i with
  | zero =>
   have : a = s := by simpa using hs
   subst this
   exact h.1 t (by simpa using ht)
  | succ i => exact ih h.2.2.2.2 (by simpa using hs) t (by simpa using ht)
theorem b4k {l : List Stp} (h : a4c l) {day : Int} {i : Nat} {s : Stp} (hs : l[i]? = some s) (hd : day < s.frm) : b6z l day = (l.take i).foldl (fun r s => if s.frm <= day then s.rate else r) 0 := by
 unfold b6z
 conv => lhs; rw [<- List.take_append_drop i l, List.foldl_append]
 refine b7p day _ _ (fun t ht => ?_)
 rw [b0f hs] at ht
 rcases List.mem_cons.1 ht with rfl | ht
 ·exact hd
 have := b1x h hs t ht; omega
theorem b7n {l : List Stp} {day : Int} {i : Nat} {s : Stp} (hs : l[i]? = some s) : (l.take (i + 1)).foldl (fun r s => if s.frm <= day then s.rate else r) (0 : Rat) = if s.frm <= day then s.rate else (l.take i).foldl (fun r s => if s.frm <= day then s.rate else r) 0 := by
 rw [b8f hs, List.foldl_append]; rfl
def a3y (l : List Stp) (day : Int) : Nat -> Rat
 | 0 => 0
 | n + 1 => a3y l day n + b6z l (day + n)
theorem b4y (l : List Stp) (day : Int) (m : Nat) : ∀ n, a3y l day (m + n) = a3y l day m + a3y l (day + m) n
 | 0 => by rw [Nat.add_zero, a3y, Rat.add_zero]
 | n + 1 => by
  rw [<- Nat.add_assoc, a3y, b4y l day m n, a3y, Rat.add_assoc, show day + ((m + n : Nat) : Int) = day + m + n by omega]
theorem a7k {l : List Stp} {day : Int} {r : Rat} : ∀ {n : Nat}, (∀ k : Nat, k < n -> b6z l (day + k) = r) -> a3y l day n = r * (n : Rat)
 | 0, _ => by rw [a3y]; grind
 | n + 1, h => by
  rw [a3y, a7k (n := n) (fun k hk => h k (by omega)), h n (by omega)]
  rw [Rat.natCast_add]; grind
theorem b6y {l : List Stp} (h : a4c l) (day : Int) : 0 <= b6z l day := by
 have : ∀ (l : List Stp) (r : Rat), 0 <= r -> a4c l -> 0 <= l.foldl (fun r s => if s.frm <= day then s.rate else r) r := by
  intro l
  induction l with
  | nil => intro r hr _; exact hr
  | cons s l ih =>
   intro r hr h
   rw [List.foldl_cons]
   refine ih _ ?_ h.2.2.2.2
   split
   ·exact h.2.2.2.1
   exact hr
 exact this l 0 (by decide) h
theorem a9n {l : List Stp} (h : a4c l) (day : Int) : ∀ n, 0 <= a3y l day n
 | 0 => by rw [a3y]; decide
 | n + 1 => by
  have h1 := a9n h day n
  have h2 := b6y h (day + n)
  rw [a3y]; grind
def a3f (l : List Stp) (dst : Int) (i : Nat) : Int := if i < l.length then min dst (a3s l i) else dst
def a4r (l : List Stp) (src dst : Int) : Nat -> Rat
 | 0 => 0
 | i + 1 => if max src (a3s l i) < a3f l dst (i + 1) then a4r l src dst i + (match l[i]? with | some s => s.rate | none => 0) * ((a3f l dst (i + 1) - max src (a3s l i) : Int) : Rat) else a4r l src dst i
theorem b1v {l : List Stp} {src dst : Int} {i : Nat} {s : Stp} (hs : l[i]? = some s) (h : max src s.frm < a3f l dst (i + 1)) : a4r l src dst (i + 1) = a4r l src dst i + s.rate * ((a3f l dst (i + 1) - max src s.frm : Int) : Rat) := by
 have hf : a3s l i = s.frm := by unfold a3s; rw [hs]
 rw [a4r, hf, if_pos h, hs]
theorem a9u {l : List Stp} {src dst : Int} {i : Nat} {s : Stp} (hs : l[i]? = some s) (h : ¬ max src s.frm < a3f l dst (i + 1)) : a4r l src dst (i + 1) = a4r l src dst i := by
 have hf : a3s l i = s.frm := by unfold a3s; rw [hs]
 rw [a4r, hf, if_neg h]
theorem rateS_at {l : List Stp} (h : a4c l) {day : Int} {i : Nat} {s : Stp} (hs : l[i]? = some s) (h1 : s.frm <= day) (h2 : i + 1 < l.length -> day < a3s l (i + 1)) : b6z l day = s.rate := by
 by_cases hi : i + 1 < l.length
 ·have hn : l[i + 1]? = some l[i + 1] := List.getElem?_eq_getElem hi
  have hf : a3s l (i + 1) = l[i + 1].frm := by unfold a3s; rw [hn]
  have := h2 hi
  rw [b4k h hn (by omega), b7n hs, if_pos h1]
 have hlt := (List.getElem?_eq_some_iff.1 hs).1
 have e : l.take (i + 1) = l := List.take_of_length_le (by omega)
 unfold b6z
 rw [<- e, b7n hs, if_pos h1]
theorem b8m {l : List Stp} (h : a4c l) {day : Int} (h1 : 0 < l.length -> day < a3s l 0) : b6z l day = 0 := by
 cases l with
 | nil => rfl
 | cons s l =>
  have := h1 (by simp)
  rw [b4k h (i := 0) (s := s) rfl (by exact this)]; rfl
theorem c0m {l : List Stp} (h : a4c l) {i : Nat} (hi : i + 1 < l.length) : a3s l i < a3s l (i + 1) := by
 have h0 : l[i]? = some l[i] := List.getElem?_eq_getElem (by omega)
 have h1 : l[i + 1]? = some l[i + 1] := List.getElem?_eq_getElem hi
 have := b1x h h0 l[i + 1] (by rw [b0f h1]; exact List.mem_cons_self)
 unfold a3s
 rw [h0, h1]; exact this
theorem c0b {l : List Stp} (h : a4c l) {src dst : Int} : ∀ i, i <= l.length -> a4r l src dst i = a3y l src (a3f l dst i - src).toNat
 | 0, _ => by
  rw [a4r, a7k (r := 0) (fun k hk => b8m h fun hl => ?_)]
  ·grind
  have he : a3f l dst 0 = min dst (a3s l 0) := by unfold a3f; rw [if_pos hl]
  rw [he] at hk; omega
 | i + 1, hi => by
  have ih := c0b h (src := src) (dst := dst) i (by omega)
  have hs : l[i]? = some l[i] := List.getElem?_eq_getElem (by omega)
  obtain ⟨s, hse⟩ : ∃ s, s = l[i] := ⟨_, rfl⟩
  rw [<- hse] at hs
  have hf : a3s l i = s.frm := by unfold a3s; rw [hs]
  have e0 : a3f l dst i = min dst s.frm := by unfold a3f; rw [if_pos (by omega), hf]
  have e1 : a3f l dst (i + 1) <= dst /\ (i + 1 < l.length -> a3f l dst (i + 1) <= a3s l (i + 1)) /\ min dst s.frm <= a3f l dst (i + 1) := by
   unfold a3f
   split
   ·rename_i hh
    have := c0m h hh
    rw [hf] at this
    omega
   omega
  rw [e0] at ih
  obtain ⟨e2, e3, e4⟩ := e1
  by_cases hlt : max src s.frm < a3f l dst (i + 1)
  ·rw [b1v hs hlt, ih]
   have hd : (a3f l dst (i + 1) - src).toNat = (min dst s.frm - src).toNat + (a3f l dst (i + 1) - max src s.frm).toNat := by omega
   rw [hd, b4y]
   congr 1
   rw [a7k (r := s.rate) (fun k hk => rateS_at h hs (by omega) (fun hl => by have := e3 hl; omega))]
   congr 1
   have : ((a3f l dst (i + 1) - max src s.frm : Int)) = (((a3f l dst (i + 1) - max src s.frm).toNat : Nat) : Int) := by omega
   rw [this, Rat.intCast_natCast]
   rfl
  rw [a9u hs hlt, ih]
  congr 1
  -- the end of this part is its beginning
  by_cases hl : i + 1 < l.length
  ·have := c0m h hl
   have he : a3f l dst (i + 1) = min dst (a3s l (i + 1)) := by unfold a3f; rw [if_pos hl]
   rw [hf] at this
   omega
  have he : a3f l dst (i + 1) = dst := by unfold a3f; rw [if_neg hl]
  omega
theorem c2j {l : List Stp} (h : a4c l) {src dst : Int} : a4r l src dst l.length = a3y l src (dst - src).toNat := by
 rw [c0b h l.length (Nat.le_refl _)]
 unfold a3f
 rw [if_neg (by omega)]
def b6g (N : Nat) (l : List Stp) : Prop := ∀ s ∈ l, Sized N s.rate
theorem b1u {l : List Stp} {N : Nat} (hN : b6g N l) {src dst : Int} (h1 : -1099511627776 <= src /\ src <= 1099511627776) (h2 : -1099511627776 <= dst /\ dst <= 1099511627776) : ∀ i, Sized (i * (N + 9) + 1) (a4r l src dst i)
 | 0 => by rw [a4r, Nat.zero_mul]; exact sized_zero
 | i + 1 => by
  have ih := b1u hN h1 h2 i
  by_cases hs : ∃ s, l[i]? = some s
  ·obtain ⟨s, hs⟩ := hs
   by_cases hlt : max src s.frm < a3f l dst (i + 1)
   ·rw [b1v hs hlt]
    have hb : a3f l dst (i + 1) <= dst := by unfold a3f; split <;> omega
    exact (ih.add ((hN s (List.mem_of_getElem? hs)).mul (a2x (n := a3f l dst (i + 1) - max src s.frm) (by omega)))).mono (by rw [Nat.add_mul]; omega)
   rw [a9u hs hlt]
   exact ih.mono (by rw [Nat.add_mul]; omega)
  have hn : l[i]? = none := by
   cases hh : l[i]? with
   | none => rfl
   | some s => exact absurd ⟨s, hh⟩ hs
  rw [a4r, hn]
  split
  ·rw [Rat.zero_mul, Rat.add_zero]; exact ih.mono (by rw [Nat.add_mul]; omega)
  exact ih.mono (by rw [Nat.add_mul]; omega)
theorem c1m {l : List Stp} {N : Nat} (h : a4c l) (hl : l.length <= 64) (hN : b6g N l) {src : Int} {n : Nat} (h1 : -549755813888 <= src /\ src <= 549755813888) (h2 : n <= 549755813888) : Sized (64 * (N + 9) + 1) (a3y l src n) := by
 have := b1u hN (src := src) (dst := src + n) (by omega) (by omega) l.length
 rw [c2j h, show (src + (n : Int) - src).toNat = n by omega] at this
 exact this.mono (by have := Nat.mul_le_mul_right (N + 9) hl; omega)
def a9t (l : List Stp) (src dst base : Int) : Rat := a3y l src (dst - src).toNat / (base : Rat)
theorem a9s {l : List Stp} {N : Nat} (h : a4c l) (hl : l.length <= 64) (hN : b6g N l) {src dst base : Int} (h1 : 0 <= src) (h2 : dst <= 549755813888) (hb : base.natAbs < 18446744073709551616) (hs : src <= 549755813888) : Sized (64 * (N + 9) + 9) (a9t l src dst base) := by
 unfold a9t
 exact ((c1m h hl hN ⟨by omega, by omega⟩ (by omega)).div (a2x hb)).mono (by omega)
theorem b6p {l : List Stp} (h : a4c l) {a b base : Int} (hb : 0 < base) : 0 <= a9t l a b base := by
 unfold a9t
 have h1 := a9n h a (b - a).toNat
 have h2 : (0 : Rat) < (base : Rat) := by exact_mod_cast hb
 rw [Rat.div_def]
 exact Rat.mul_nonneg h1 (Rat.le_of_lt (Rat.inv_pos.2 h2))
theorem a9v : ∀ {l : List Stp}, a4c l -> ∀ {i : Nat} {s : Stp}, l[i]? = some s -> 0 <= s.frm /\ s.frm <= 1048576 /\ 0 <= s.rate
 | [], _, i, s, hs => by simp at hs
 | a :: l, h, 0, s, hs => by
  have : a = s := by simpa using hs
  subst this
  exact ⟨h.2.1, h.2.2.1, h.2.2.2.1⟩
 | a :: l, h, i + 1, s, hs => a9v h.2.2.2.2 (by simpa using hs)
structure Duo where
 a : Nat
 b : Nat
def Duo.enc (t : Duo) : List Value := [.int .u16 (t.a : Nat), .int .u16 (t.b : Nat)]
def Duo.ok (t : Duo) : Prop := t.a <= 65535 /\ t.b <= 65535
end Go.Proofs.YtlkhoommpkndpaaGreatDoor
