/-
Part 16 of the base.
-/
import Derived.Test.YtlkhoommpkndpaaGreatDoorKh15
namespace Go.Proofs.YtlkhoommpkndpaaGreatDoor
open Go.RowKit
section
variable {w0 w : World} {R : List Own} {g : Nat} {cs : Array Value} {t : TypeId}
theorem St.k0 {a b c : Value} (h : St w0 R w) (k : Nat) (hk : R[k]? = some ⟨g, cs, t⟩) (h0 : cs[0]? = some a) (h1 : cs[1]? = some b) (h2 : cs[2]? = some c) : w.cell? ⟨g, 0, none⟩ = some a /\ w.cell? ⟨g, 1, none⟩ = some b /\ w.cell? ⟨g, 2, none⟩ = some c := ⟨h.cell k hk 0 h0, h.cell k hk 1 h1, h.cell k hk 2 h2⟩
theorem St.k1 {a b c : Value} (h : St w0 R w) (k : Nat) (hk : R[k]? = some ⟨g, cs, t⟩) (h0 : cs[1]? = some a) (h1 : cs[2]? = some b) (h2 : cs[3]? = some c) : w.cell? ⟨g, 1, none⟩ = some a /\ w.cell? ⟨g, 2, none⟩ = some b /\ w.cell? ⟨g, 3, none⟩ = some c := ⟨h.cell k hk 1 h0, h.cell k hk 2 h1, h.cell k hk 3 h2⟩
theorem St.k4 {a b c : Value} (h : St w0 R w) (k : Nat) (hk : R[k]? = some ⟨g, cs, t⟩) (h0 : cs[4]? = some a) (h1 : cs[5]? = some b) (h2 : cs[6]? = some c) : w.cell? ⟨g, 4, none⟩ = some a /\ w.cell? ⟨g, 5, none⟩ = some b /\ w.cell? ⟨g, 6, none⟩ = some c := ⟨h.cell k hk 4 h0, h.cell k hk 5 h1, h.cell k hk 6 h2⟩
theorem St.k7 {a b c : Value} (h : St w0 R w) (k : Nat) (hk : R[k]? = some ⟨g, cs, t⟩) (h0 : cs[7]? = some a) (h1 : cs[8]? = some b) (h2 : cs[9]? = some c) : w.cell? ⟨g, 7, none⟩ = some a /\ w.cell? ⟨g, 8, none⟩ = some b /\ w.cell? ⟨g, 9, none⟩ = some c := ⟨h.cell k hk 7 h0, h.cell k hk 8 h1, h.cell k hk 9 h2⟩
theorem St.kA {a0 a1 a2 a3 a4 a5 a6 a7 a8 a9 aA : Value} (h : St w0 R w) (k : Nat) (hk : R[k]? = some ⟨g, cs, t⟩) (h0 : cs[0]? = some a0) (h1 : cs[1]? = some a1) (h2 : cs[2]? = some a2) (h3 : cs[3]? = some a3) (h4 : cs[4]? = some a4) (h5 : cs[5]? = some a5) (h6 : cs[6]? = some a6) (h7 : cs[7]? = some a7) (h8 : cs[8]? = some a8) (h9 : cs[9]? = some a9) (hA : cs[10]? = some aA) :
  w.cell? ⟨g, 0, none⟩ = some a0 /\ w.cell? ⟨g, 1, none⟩ = some a1 /\ w.cell? ⟨g, 2, none⟩ = some a2 /\ w.cell? ⟨g, 3, none⟩ = some a3 /\ w.cell? ⟨g, 4, none⟩ = some a4 /\ w.cell? ⟨g, 5, none⟩ = some a5 /\ w.cell? ⟨g, 6, none⟩ = some a6 /\ w.cell? ⟨g, 7, none⟩ = some a7 /\ w.cell? ⟨g, 8, none⟩ = some a8 /\ w.cell? ⟨g, 9, none⟩ = some a9 /\ w.cell? ⟨g, 10, none⟩ = some aA :=
 ⟨h.cell k hk 0 h0, h.cell k hk 1 h1, h.cell k hk 2 h2, h.cell k hk 3 h3, h.cell k hk 4 h4, h.cell k hk 5 h5, h.cell k hk 6 h6, h.cell k hk 7 h7, h.cell k hk 8 h8, h.cell k hk 9 h9, h.cell k hk 10 hA⟩
theorem St.f0 (h : St w0 R w) (k : Nat) (hk : R[k]? = some ⟨g, cs, t⟩) : w.frozen? ⟨g, 0, none⟩ = false /\ w.frozen? ⟨g, 1, none⟩ = false /\ w.frozen? ⟨g, 2, none⟩ = false := ⟨h.frozen k hk 0, h.frozen k hk 1, h.frozen k hk 2⟩
theorem St.f4 (h : St w0 R w) (k : Nat) (hk : R[k]? = some ⟨g, cs, t⟩) : w.frozen? ⟨g, 4, none⟩ = false /\ w.frozen? ⟨g, 5, none⟩ = false /\ w.frozen? ⟨g, 6, none⟩ = false := ⟨h.frozen k hk 4, h.frozen k hk 5, h.frozen k hk 6⟩
theorem St.f7 (h : St w0 R w) (k : Nat) (hk : R[k]? = some ⟨g, cs, t⟩) : w.frozen? ⟨g, 7, none⟩ = false /\ w.frozen? ⟨g, 8, none⟩ = false /\ w.frozen? ⟨g, 9, none⟩ = false := ⟨h.frozen k hk 7, h.frozen k hk 8, h.frozen k hk 9⟩
end
theorem kE0 {w : World} {b o : Nat} {l : List Value} {a0 a1 a2 : Value} (h : ∀ i u, l[i]? = some u -> w.cell? ⟨b, o + i, none⟩ = some u) (h0 : l[0]? = some a0) (h1 : l[1]? = some a1) (h2 : l[2]? = some a2) : w.cell? ⟨b, o, none⟩ = some a0 /\ w.cell? ⟨b, o + 1, none⟩ = some a1 /\ w.cell? ⟨b, o + 2, none⟩ = some a2 := ⟨h 0 _ h0, h 1 _ h1, h 2 _ h2⟩
def eQ (x : Value) : World -> Value -> Prop := fun _ v => v = x
theorem stE {x : Value} (w1 w2 : World) (v : Value) (h : eQ x w1 v) (_ : Below w1.heap.size w1 w2) : eQ x w2 v := h
theorem sQ {a1 : Act} {d : Option Tmp} {w1 : World} {p : World -> Value -> Prop} {v : Value} (h : p w1 v) : StepQ a1 d w1 p .normal (a1.put d v) w1 := StepQ.mk v (Below.refl _ _) h
theorem stb_eq : ∀ V : List Value, stb (V.map eQ)
 | [] => trivial
 | _ :: V => ⟨pP, stb_eq V⟩
theorem a1u {P : Program} {id : Nat} {Q : Exit -> Act -> World -> Prop} {a : Act} {w : World} {l : List Oper} (n : Nat) (V : List Value) (hm : P.follows .mixedOrders = true) (hB : invB l.toArray n = true) (hD : a5t (l.take n) = true)
  (hS : (l.take n).all (fun o => match o.dst with | some d => decide (d < a.tmps.size) | none => true) = true)
  (hstep : a7w (StepR P l n (fun i => (V.map eQ).getD i (fun _ _ => True)) a w) (l.take n) 0)
  (hend : ∀ x w1, Below w.heap.size w w1 -> (∀ i, i < n -> ((V.map eQ).getD i (fun _ _ => True)) w1 (x i)) -> wpList P l.toArray Q (l.drop n) (a0p (l.take n) 0 x a) w1) : (Code.region id l.toArray true).wp P Q a w :=
 a0d n (V.map eQ) hm hB hD hS (stb_eq V) hstep hend
def dayB (d : Int) : Bool := decide (0 <= d) && decide (d <= 1048576)
theorem a3k (d : Int) (w : World) : Calls Tryz.prog 42 #[.int .i64 d] w fun e w' => e = .returned (.bool (dayB d)) /\ w = w' := by
 unfold dayB
 obtain ⟨x, hx⟩ : ∃ x, x = decide (0 <= d) := ⟨_, rfl⟩
 obtain ⟨y, hy⟩ : ∃ y, y = decide (d <= 1048576) := ⟨_, rfl⟩
 rw [<- hx, <- hy]
 have hx' := hx.symm
 have hy' := hy.symm
 clear hx hy
 cases x <;> cases y
 all_goals
  go_enter Tryz.func42, Tryz.ntmps42
  go_wp2
  go_ret
  exact ⟨rfl, rfl⟩
structure Stp where
 frm : Int
 neg : Bool
 num : List UInt8
 den : List UInt8
def Stp.enc (s : Stp) : List Value := [.int .i64 s.frm, .bool s.neg, .string (bs s.num), .string (bs s.den)]
def Stp.rate (s : Stp) : Rat := decR s.neg s.num s.den
abbrev a9h (w : World) (v : Value) (l : List Stp) : Prop := Slc Stp.enc 4 w v l
theorem c7d (s : Stp) : s.enc.length = 4 := rfl
def a2v (l : List Stp) (i : Nat) : Int := match l[i]? with | some s => s.frm | none => 0
def a3s (l : List Stp) (i : Nat) (s : Stp) : Int :=
 if dayB s.frm = false then 1 else if 0 < i /\ s.frm <= a2v l (i - 1) then 15 else if sgn s.rate.num < 0 then 7 else 0
def a3a (l : List Stp) : Nat -> Int
 | 0 => 0
 | i + 1 => if a3a l i = 0 then (match l[i]? with | some s => a3s l i s | none => 0) else a3a l i
def a3p (l : List Stp) : Int := if 64 < l.length then 2 else a3a l l.length
theorem a7a {l : List Stp} {i : Nat} {s : Stp} (h : a3a l i = 0) (hs : l[i]? = some s) : a3a l (i + 1) = a3s l i s := by
 rw [a3a, if_pos h, hs]
theorem a7b {l : List Stp} {i : Nat} (h : a3a l i ≠ 0) : ∀ k, a3a l (i + k) = a3a l i
 | 0 => rfl
 | k + 1 => by rw [<- Nat.add_assoc, a3a, a7b h k, if_neg h]
theorem b5z {l : List Stp} (h : 64 < l.length) : a3p l = 2 := by unfold a3p; rw [if_pos h]
theorem a6k {l : List Stp} {i : Nat} {s : Stp} {e : Int} (hl : l.length <= 64) (h : a3a l i = 0) (hs : l[i]? = some s) (he : a3s l i s = e) (h0 : e ≠ 0) : a3p l = e := by
 have hi := (List.getElem?_eq_some_iff.1 hs).1
 have h1 := a7a h hs
 rw [he] at h1
 unfold a3p
 rw [if_neg (by omega), show l.length = (i + 1) + (l.length - (i + 1)) by omega, a7b (by rw [h1]; exact h0), h1]
theorem c1s {l : List Stp} (hl : l.length <= 64) (h : a3a l l.length = 0) : a3p l = 0 := by unfold a3p; rw [if_neg (by omega), h]
theorem b4g {l : List Stp} {i : Nat} {s : Stp} (h : dayB s.frm = false) : a3s l i s = 1 := by unfold a3s; rw [if_pos h]
theorem b0x {l : List Stp} {i : Nat} {s : Stp} (h : dayB s.frm = true) (h1 : 0 < i) (h2 : s.frm <= a2v l (i - 1)) : a3s l i s = 15 := by
 unfold a3s; rw [if_neg (by rw [h]; decide), if_pos ⟨h1, h2⟩]
theorem b4f {l : List Stp} {i : Nat} {s : Stp} (h : dayB s.frm = true) (h1 : ¬ (0 < i /\ s.frm <= a2v l (i - 1))) (h2 : sgn s.rate.num < 0) : a3s l i s = 7 := by
 unfold a3s; rw [if_neg (by rw [h]; decide), if_neg h1, if_pos h2]
theorem b7t {l : List Stp} {i : Nat} {s : Stp} (h : dayB s.frm = true) (h1 : ¬ (0 < i /\ s.frm <= a2v l (i - 1))) (h2 : ¬ sgn s.rate.num < 0) : a3s l i s = 0 := by
 unfold a3s; rw [if_neg (by rw [h]; decide), if_neg h1, if_neg h2]
theorem b2v {l : List Stp} {i : Nat} {s : Stp} (h : a3s l i s = 0) : dayB s.frm = true /\ (0 < i -> a2v l (i - 1) < s.frm) /\ 0 <= sgn s.rate.num := by
 unfold a3s at h
 split at h
 ·cases h
 rename_i h1
 split at h
 ·cases h
 rename_i h2
 split at h
 ·cases h
 rename_i h3
 exact ⟨by simpa using h1, fun h0 => Int.not_le.1 fun h => h2 ⟨h0, h⟩, Int.not_lt.1 h3⟩
theorem c1r {l : List Stp} {i k : Nat} {s : Stp} (h : a3a l i = 0) (hk : k < i) (hs : l[k]? = some s) : a3s l k s = 0 := by
 have h1 : a3a l (k + 1) = 0 := Classical.byContradiction fun hn => by
  have := a7b hn (i - (k + 1))
  rw [show k + 1 + (i - (k + 1)) = i by omega, h] at this
  exact hn this.symm
 have h0 : a3a l k = 0 := Classical.byContradiction fun hn => hn (by rw [<- a7b hn 1]; exact h1)
 rw [<- a7a h0 hs]; exact h1
theorem b0s {l : List Stp} (h : a3p l = 0) : l.length <= 64 /\ a3a l l.length = 0 := by
 unfold a3p at h
 split at h
 ·cases h
 exact ⟨by omega, h⟩
def a5u : List Stp -> Prop
 | [] => True
 | s :: rest => (∀ t ∈ rest, s.frm < t.frm) /\ 0 <= s.frm /\ s.frm <= 1048576 /\ 0 <= s.rate /\ a5u rest
theorem a5c {d : Int} (h : dayB d = true) : 0 <= d /\ d <= 1048576 := by
 unfold dayB at h
 simpa using h
theorem c0h (l : List Stp) : ∀ (k i : Nat), i + k = l.length -> (∀ j s, l[j]? = some s -> a3s l j s = 0) -> a5u (l.drop i)
 | 0, i, hi, _ => by rw [List.drop_of_length_le (by omega)]; exact trivial
 | k + 1, i, hi, h => by
  have hs : l[i]? = some l[i] := List.getElem?_eq_getElem (by omega)
  have ih := c0h l k (i + 1) (by omega) h
  rw [b2r hs]
  obtain ⟨h1, _, h3⟩ := b2v (h i _ hs)
  refine ⟨fun t ht => ?_, (a5c h1).1, (a5c h1).2, b9c h3, ih⟩
  -- the next one is later, and all behind it
  by_cases hk : i + 1 < l.length
  ·have hn : l[i + 1]? = some l[i + 1] := List.getElem?_eq_getElem hk
   have h2 := (b2v (h (i + 1) _ hn)).2.1 (by omega)
   have hf : a2v l (i + 1 - 1) = l[i].frm := by unfold a2v; rw [show i + 1 - 1 = i by omega, hs]
   rw [hf] at h2
   rw [b2r hn] at ht ih
   rcases List.mem_cons.1 ht with rfl | ht
   ·exact h2
   have := ih.1 t ht; omega
  rw [List.drop_of_length_le (by omega)] at ht; cases ht
theorem a4w {l : List Stp} (h : a3p l = 0) : a5u l := by
 obtain ⟨_, h2⟩ := b0s h
 have := c0h l l.length 0 (by omega) (fun j s hj => c1r h2 (List.getElem?_eq_some_iff.1 hj).1 hj)
 rwa [List.drop_zero] at this
def a7e (l : List Stp) (day : Int) : Rat := l.foldl (fun r s => if s.frm <= day then s.rate else r) 0
theorem c1m (day : Int) : ∀ (l : List Stp) (r : Rat), (∀ s ∈ l, day < s.frm) -> l.foldl (fun r s => if s.frm <= day then s.rate else r) r = r
 | [], _, _ => rfl
 | s :: l, r, h => by
  have h1 := h s (by simp)
  rw [List.foldl_cons, if_neg (by omega)]
  exact c1m day l r (fun t ht => h t (by simp [ht]))
theorem b4p {l : List Stp} (h : a5u l) : ∀ {i : Nat} {s : Stp}, l[i]? = some s -> ∀ t ∈ l.drop (i + 1), s.frm < t.frm := by
 induction l with
 | nil => intro i s hs; simp at hs
 | cons a l ih =>
  intro i s hs t ht
  cases i with
  | zero =>
   have : a = s := by simpa using hs
   subst this
   exact h.1 t (by simpa using ht)
  | succ i => exact ih h.2.2.2.2 (by simpa using hs) t (by simpa using ht)
theorem b2k {l : List Stp} (h : a5u l) {day : Int} {i : Nat} {s : Stp} (hs : l[i]? = some s) (hd : day < s.frm) : a7e l day = (l.take i).foldl (fun r s => if s.frm <= day then s.rate else r) 0 := by
 unfold a7e
 conv => lhs; rw [<- List.take_append_drop i l, List.foldl_append]
 refine c1m day _ _ (fun t ht => ?_)
 rw [b2r hs] at ht
 rcases List.mem_cons.1 ht with rfl | ht
 ·exact hd
 have := b4p h hs t ht; omega
theorem b5r {l : List Stp} {day : Int} {i : Nat} {s : Stp} (hs : l[i]? = some s) : (l.take (i + 1)).foldl (fun r s => if s.frm <= day then s.rate else r) (0 : Rat) = if s.frm <= day then s.rate else (l.take i).foldl (fun r s => if s.frm <= day then s.rate else r) 0 := by
 rw [b4e hs, List.foldl_append]; rfl
def a2f (l : List Stp) (day : Int) : Nat -> Rat
 | 0 => 0
 | n + 1 => a2f l day n + a7e l (day + n)
theorem b2t (l : List Stp) (day : Int) (m : Nat) : ∀ n, a2f l day (m + n) = a2f l day m + a2f l (day + m) n
 | 0 => by rw [Nat.add_zero, a2f, Rat.add_zero]
 | n + 1 => by
  rw [<- Nat.add_assoc, a2f, b2t l day m n, a2f, Rat.add_assoc, show day + ((m + n : Nat) : Int) = day + m + n by omega]
theorem a6z {l : List Stp} {day : Int} {r : Rat} : ∀ {n : Nat}, (∀ k : Nat, k < n -> a7e l (day + k) = r) -> a2f l day n = r * (n : Rat)
 | 0, _ => by rw [a2f]; grind
 | n + 1, h => by
  rw [a2f, a6z (n := n) (fun k hk => h k (by omega)), h n (by omega)]
  rw [Rat.natCast_add]; grind
theorem c6a {l : List Stp} {a b : Int} (h : ∀ s ∈ l, s.frm <= a ↔ s.frm <= b) : a7e l a = a7e l b := by
 unfold a7e
 have : ∀ (l : List Stp) (r : Rat), (∀ s ∈ l, s.frm <= a ↔ s.frm <= b) -> l.foldl (fun r s => if s.frm <= a then s.rate else r) r = l.foldl (fun r s => if s.frm <= b then s.rate else r) r := by
  intro l
  induction l with
  | nil => intros; rfl
  | cons s l ih =>
   intro r h
   rw [List.foldl_cons, List.foldl_cons, ih _ (fun t ht => h t (by simp [ht]))]
   congr 1
   by_cases hs : s.frm <= a
   ·rw [if_pos hs, if_pos ((h s (by simp)).1 hs)]
   rw [if_neg hs, if_neg (fun hb => hs ((h s (by simp)).2 hb))]
 exact this l 0 h
def a4e (l : List Stp) (dst : Int) (i : Nat) : Int := if i < l.length then min dst (a2v l i) else dst
def a5y (l : List Stp) (src dst : Int) : Nat -> Rat
 | 0 => 0
 | i + 1 => if max src (a2v l i) < a4e l dst (i + 1) then a5y l src dst i + (match l[i]? with | some s => s.rate | none => 0) * ((a4e l dst (i + 1) - max src (a2v l i) : Int) : Rat) else a5y l src dst i
theorem b4k {l : List Stp} {src dst : Int} {i : Nat} {s : Stp} (hs : l[i]? = some s) (h : max src s.frm < a4e l dst (i + 1)) : a5y l src dst (i + 1) = a5y l src dst i + s.rate * ((a4e l dst (i + 1) - max src s.frm : Int) : Rat) := by
 have hf : a2v l i = s.frm := by unfold a2v; rw [hs]
 rw [a5y, hf, if_pos h, hs]
theorem b2d {l : List Stp} {src dst : Int} {i : Nat} {s : Stp} (hs : l[i]? = some s) (h : ¬ max src s.frm < a4e l dst (i + 1)) : a5y l src dst (i + 1) = a5y l src dst i := by
 have hf : a2v l i = s.frm := by unfold a2v; rw [hs]
 rw [a5y, hf, if_neg h]
theorem rateS_at {l : List Stp} (h : a5u l) {day : Int} {i : Nat} {s : Stp} (hs : l[i]? = some s) (h1 : s.frm <= day) (h2 : i + 1 < l.length -> day < a2v l (i + 1)) : a7e l day = s.rate := by
 by_cases hi : i + 1 < l.length
 ·have hn : l[i + 1]? = some l[i + 1] := List.getElem?_eq_getElem hi
  have hf : a2v l (i + 1) = l[i + 1].frm := by unfold a2v; rw [hn]
  have := h2 hi
  rw [b2k h hn (by omega), b5r hs, if_pos h1]
 have hlt := (List.getElem?_eq_some_iff.1 hs).1
 have e : l.take (i + 1) = l := List.take_of_length_le (by omega)
 unfold a7e
 rw [<- e, b5r hs, if_pos h1]
theorem c2n {l : List Stp} (h : a5u l) {day : Int} (h1 : 0 < l.length -> day < a2v l 0) : a7e l day = 0 := by
 cases l with
 | nil => rfl
 | cons s l =>
  have := h1 (by simp)
  rw [b2k h (i := 0) (s := s) rfl (by exact this)]; rfl
theorem c4x {l : List Stp} (h : a5u l) {i : Nat} (hi : i + 1 < l.length) : a2v l i < a2v l (i + 1) := by
 have h0 : l[i]? = some l[i] := List.getElem?_eq_getElem (by omega)
 have h1 : l[i + 1]? = some l[i + 1] := List.getElem?_eq_getElem hi
 have := b4p h h0 l[i + 1] (by rw [b2r h1]; exact List.mem_cons_self)
 unfold a2v
 rw [h0, h1]; exact this
theorem c4d {l : List Stp} (h : a5u l) {src dst : Int} : ∀ i, i <= l.length -> a5y l src dst i = a2f l src (a4e l dst i - src).toNat
 | 0, _ => by
  rw [a5y, a6z (r := 0) (fun k hk => c2n h fun hl => ?_)]
  ·grind
  have he : a4e l dst 0 = min dst (a2v l 0) := by unfold a4e; rw [if_pos hl]
  rw [he] at hk; omega
 | i + 1, hi => by
  have ih := c4d h (src := src) (dst := dst) i (by omega)
  have hs : l[i]? = some l[i] := List.getElem?_eq_getElem (by omega)
  obtain ⟨s, hse⟩ : ∃ s, s = l[i] := ⟨_, rfl⟩
  rw [<- hse] at hs
  have hf : a2v l i = s.frm := by unfold a2v; rw [hs]
  have e0 : a4e l dst i = min dst s.frm := by unfold a4e; rw [if_pos (by omega), hf]
  have e1 : a4e l dst (i + 1) <= dst /\ (i + 1 < l.length -> a4e l dst (i + 1) <= a2v l (i + 1)) /\ min dst s.frm <= a4e l dst (i + 1) := by
   unfold a4e
   split
   ·rename_i hh
    have := c4x h hh
    rw [hf] at this
    omega
   omega
  rw [e0] at ih
  obtain ⟨e2, e3, e4⟩ := e1
  by_cases hlt : max src s.frm < a4e l dst (i + 1)
  ·rw [b4k hs hlt, ih]
   have hd : (a4e l dst (i + 1) - src).toNat = (min dst s.frm - src).toNat + (a4e l dst (i + 1) - max src s.frm).toNat := by omega
   rw [hd, b2t]
   congr 1
   rw [a6z (r := s.rate) (fun k hk => rateS_at h hs (by omega) (fun hl => by have := e3 hl; omega))]
   congr 1
   have : ((a4e l dst (i + 1) - max src s.frm : Int)) = (((a4e l dst (i + 1) - max src s.frm).toNat : Nat) : Int) := by omega
   rw [this, Rat.intCast_natCast]
   rfl
  rw [b2d hs hlt, ih]
  congr 1
  -- the end of this part is its beginning
  by_cases hl : i + 1 < l.length
  ·have := c4x h hl
   have he : a4e l dst (i + 1) = min dst (a2v l (i + 1)) := by unfold a4e; rw [if_pos hl]
   rw [hf] at this
   omega
  have he : a4e l dst (i + 1) = dst := by unfold a4e; rw [if_neg hl]
  omega
theorem c7j {l : List Stp} (h : a5u l) {src dst : Int} : a5y l src dst l.length = a2f l src (dst - src).toNat := by
 rw [c4d h l.length (Nat.le_refl _)]
 unfold a4e
 rw [if_neg (by omega)]
def b2u (N : Nat) (l : List Stp) : Prop := ∀ s ∈ l, Sized N s.rate
theorem b4j {l : List Stp} {N : Nat} (hN : b2u N l) {src dst : Int} (h1 : -1099511627776 <= src /\ src <= 1099511627776) (h2 : -1099511627776 <= dst /\ dst <= 1099511627776) : ∀ i, Sized (i * (N + 9) + 1) (a5y l src dst i)
 | 0 => by rw [a5y, Nat.zero_mul]; exact sized_zero
 | i + 1 => by
  have ih := b4j hN h1 h2 i
  by_cases hs : ∃ s, l[i]? = some s
  ·obtain ⟨s, hs⟩ := hs
   by_cases hlt : max src s.frm < a4e l dst (i + 1)
   ·rw [b4k hs hlt]
    have hb : a4e l dst (i + 1) <= dst := by unfold a4e; split <;> omega
    exact (ih.add ((hN s (List.mem_of_getElem? hs)).mul (a3d (n := a4e l dst (i + 1) - max src s.frm) (by omega)))).mono (by rw [Nat.add_mul]; omega)
   rw [b2d hs hlt]
   exact ih.mono (by rw [Nat.add_mul]; omega)
  have hn : l[i]? = none := by
   cases hh : l[i]? with
   | none => rfl
   | some s => exact absurd ⟨s, hh⟩ hs
  rw [a5y, hn]
  split
  ·rw [Rat.zero_mul, Rat.add_zero]; exact ih.mono (by rw [Nat.add_mul]; omega)
  exact ih.mono (by rw [Nat.add_mul]; omega)
theorem b2s {l : List Stp} {N : Nat} (h : a5u l) (hl : l.length <= 64) (hN : b2u N l) {src : Int} {n : Nat} (h1 : -549755813888 <= src /\ src <= 549755813888) (h2 : n <= 549755813888) : Sized (64 * (N + 9) + 1) (a2f l src n) := by
 have := b4j hN (src := src) (dst := src + n) (by omega) (by omega) l.length
 rw [c7j h, show (src + (n : Int) - src).toNat = n by omega] at this
 exact this.mono (by have := Nat.mul_le_mul_right (N + 9) hl; omega)
def b0z (l : List Stp) (src dst base : Int) : Rat := a2f l src (dst - src).toNat / (base : Rat)
theorem a7k {l : List Stp} {N : Nat} (h : a5u l) (hl : l.length <= 64) (hN : b2u N l) {src dst base : Int} (h1 : 0 <= src) (h2 : dst <= 549755813888) (hb : base.natAbs < 18446744073709551616) (hs : src <= 549755813888) : Sized (64 * (N + 9) + 9) (b0z l src dst base) := by
 unfold b0z
 exact ((b2s h hl hN ⟨by omega, by omega⟩ (by omega)).div (a3d hb)).mono (by omega)
theorem b2f : ∀ {l : List Stp}, a5u l -> ∀ {i : Nat} {s : Stp}, l[i]? = some s -> 0 <= s.frm /\ s.frm <= 1048576 /\ 0 <= s.rate
 | [], _, i, s, hs => by simp at hs
 | a :: l, h, 0, s, hs => by
  have : a = s := by simpa using hs
  subst this
  exact ⟨h.2.1, h.2.2.1, h.2.2.2.1⟩
 | a :: l, h, i + 1, s, hs => b2f h.2.2.2.2 (by simpa using hs)
structure Duo where
 a : Nat
 b : Nat
def Duo.enc (t : Duo) : List Value := [.int .u16 (t.a : Nat), .int .u16 (t.b : Nat)]
def Duo.ok (t : Duo) : Prop := t.a <= 65535 /\ t.b <= 65535
def a7h (l : List Stp) (src dst : Int) : Nat -> Int
 | 0 => dst
 | i + 1 => if src < a2v l i /\ a2v l i < a7h l src dst i then a2v l i else a7h l src dst i
theorem b5u {l : List Stp} {src dst : Int} (h : src < dst) : ∀ i, i <= l.length -> src < a7h l src dst i /\ a7h l src dst i <= dst /\ ∀ j < i, a2v l j <= src \/ a7h l src dst i <= a2v l j
 | 0, _ => ⟨h, Int.le_refl _, fun j hj => by omega⟩
 | i + 1, hi => by
  obtain ⟨h1, h2, h3⟩ := b5u (l := l) h i (by omega)
  rw [a7h]
  split
  ·rename_i hc
   refine ⟨hc.1, by omega, fun j hj => ?_⟩
   by_cases hji : j = i
   ·subst hji; right; omega
   rcases h3 j (by omega) with h4 | h4
   ·exact .inl h4
   right; omega
  rename_i hc
  refine ⟨h1, h2, fun j hj => ?_⟩
  by_cases hji : j = i
  ·subst hji
   by_cases h5 : src < a2v l j
   ·right
    exact Int.not_lt.1 fun h6 => hc ⟨h5, h6⟩
   left; omega
  exact h3 j (by omega)
theorem c6m {l : List Stp} {src dst : Int} {i : Nat} (h1 : src < a2v l i) (h2 : a2v l i < a7h l src dst i) : a7h l src dst (i + 1) = a2v l i := by rw [a7h, if_pos ⟨h1, h2⟩]
theorem c6n {l : List Stp} {src dst : Int} {i : Nat} (h : ¬ (src < a2v l i /\ a2v l i < a7h l src dst i)) : a7h l src dst (i + 1) = a7h l src dst i := by rw [a7h, if_neg h]
theorem c9c {l : List Stp} {a src dst : Int} (h0 : a <= src) (h : src < dst) : a2f l a (a7h l src dst l.length - a).toNat = a2f l a (src - a).toNat + a7e l src * ((a7h l src dst l.length - src : Int) : Rat) := by
 obtain ⟨h1, h2, h3⟩ := b5u (l := l) h l.length (Nat.le_refl _)
 generalize a7h l src dst l.length = e at *
 rw [show (e - a).toNat = (src - a).toNat + (e - src).toNat by omega, b2t]
 congr 1
 rw [show a + ((src - a).toNat : Int) = src by omega]
 rw [a6z (r := a7e l src) (fun k hk => c6a fun s hs => ?_)]
 ·congr 1
  have : (e - src : Int) = (((e - src).toNat : Nat) : Int) := by omega
  rw [this, Rat.intCast_natCast]
  rfl
 obtain ⟨j, hj, hjs⟩ := List.mem_iff_getElem.1 hs
 have hf : a2v l j = s.frm := by unfold a2v; rw [List.getElem?_eq_getElem hj, hjs]
 have := h3 j hj
 rw [hf] at this
 omega
theorem c2m {l : List Stp} {N : Nat} (h1 : 1 <= N) (hN : b2u N l) (day : Int) : Sized N (a7e l day) := by
 unfold a7e
 have : ∀ (l : List Stp) (r : Rat), Sized N r -> b2u N l -> Sized N (l.foldl (fun r s => if s.frm <= day then s.rate else r) r) := by
  intro l
  induction l with
  | nil => intro r h _; exact h
  | cons s l ih =>
   intro r h hl
   rw [List.foldl_cons]
   refine ih _ ?_ (fun t ht => hl t (by simp [ht]))
   split
   ·exact hl s (by simp)
   exact h
 exact this l 0 (sized_zero.mono h1) hN
end Go.Proofs.YtlkhoommpkndpaaGreatDoor
