/-
Part 14 of the base.
-/
import Derived.Test.YtoighiepglclkaaGreatDoorKf5
import Derived.Deep.OwnRows
import Derived.Deep.AppendLies
namespace Go.Proofs.YtoighiepglclkaaGreatDoor
open Go.RowKit
def Slc {α : Type} (enc : α -> List Value) (k : Nat) (w : World) (v : Value) (xs : List α) : Prop :=
 ∃ A c, v = .slice A xs.length c /\ xs.length <= c /\ c <= 9223372036854775807 /\
  (0 < xs.length -> ∃ b o, A = some ⟨b, o, none⟩ /\ b < w.heap.size /\ ∀ j x, xs[j]? = some x -> ∀ i u, (enc x)[i]? = some u -> w.cell? ⟨b, o + j * k + i, none⟩ = some u)
section
variable {α : Type} {enc : α -> List Value} {k : Nat} {w w' : World} {v : Value} {xs : List α}
theorem Slc.below (h : Slc enc k w v xs) (hb : Below w.heap.size w w') : Slc enc k w' v xs := by
 obtain ⟨A, c, rfl, hl, hc, hx⟩ := h
 refine ⟨A, c, rfl, hl, hc, fun h0 => ?_⟩
 obtain ⟨b, o, e, hbb, hcell⟩ := hx h0
 exact ⟨b, o, e, Nat.lt_of_lt_of_le hbb hb.size, fun j x hj i u hu => by rw [hb.cell (p := ⟨b, o + j * k + i, none⟩) hbb]; exact hcell j x hj i u hu⟩
theorem Slc.nil_ (enc : α -> List Value) (k : Nat) (w : World) (A : Option Addr) (c : Nat) (hc : c <= 9223372036854775807) : Slc enc k w (.slice A 0 c) [] :=
 ⟨A, c, rfl, Nat.zero_le _, hc, fun h => absurd h (by simp)⟩
theorem Slc.slice (h : Slc enc k w v xs) : ∃ A c, v = .slice A xs.length c /\ xs.length <= c /\ c <= 9223372036854775807 := by
 obtain ⟨A, c, e, h1, h2, _⟩ := h
 exact ⟨A, c, e, h1, h2⟩
theorem Slc.at_ {A : Option Addr} {n c : Nat} (h : Slc enc k w (.slice A n c) xs) {j : Nat} (hj : j < xs.length) :
  ∃ b o x, A = some ⟨b, o, none⟩ /\ b < w.heap.size /\ xs[j]? = some x /\ ∀ w', Below w.heap.size w w' -> ∀ i u, (enc x)[i]? = some u -> w'.cell? ⟨b, o + j * k + i, none⟩ = some u := by
 obtain ⟨A', c', e, hl, hc, hx⟩ := h
 injection e with e1 e2 e3
 subst e1
 obtain ⟨b, o, e, hb, hcell⟩ := hx (by omega)
 exact ⟨b, o, xs[j], e, hb, List.getElem?_eq_getElem hj, fun w' hw i u hu => (hw.cell (p := ⟨b, o + j * k + i, none⟩) hb).trans (hcell j _ (List.getElem?_eq_getElem hj) i u hu)⟩
theorem Slc.cellAt {b o n c : Nat} (h : Slc enc k w (.slice (some ⟨b, o, none⟩) n c) xs) {j : Nat} {x : α} (hx : xs[j]? = some x) {w' : World} (hw : Below w.heap.size w w') {i : Nat} {u : Value} (hu : (enc x)[i]? = some u) :
  w'.cell? ⟨b, o + j * k + i, none⟩ = some u := by
 obtain ⟨hj, _⟩ := List.getElem?_eq_some_iff.1 hx
 obtain ⟨b', o', x', e, _, hx', hc⟩ := h.at_ hj
 injection e with e
 injection e with e1 e2
 subst e1; subst e2
 have : x = x' := Option.some.inj (hx.symm.trans hx')
 subst this
 exact hc w' hw i u hu
end
theorem c5k {α : Type} {f : α -> Bool} {xs : List α} {i : Nat} {x : α} (h : xs[i]? = some x) : (xs.take (i + 1)).all f = ((xs.take i).all f && f x) := by
 rw [List.take_add_one, h, List.all_append]; simp
theorem bcell {W w1 : World} (hb : Below W.heap.size W w1) : (∀ b o, b < W.heap.size -> w1.cell? ⟨b, o, none⟩ = W.cell? ⟨b, o, none⟩) /\ (∀ b o, b < W.heap.size -> w1.frozen? ⟨b, o, none⟩ = W.frozen? ⟨b, o, none⟩) :=
 ⟨fun b o h => hb.cell (p := ⟨b, o, none⟩) h, fun b o h => hb.frozen (p := ⟨b, o, none⟩) h⟩
theorem b3f {α : Type} {l : List α} {i : Nat} {x : α} (h : l[i]? = some x) : l.drop i = x :: l.drop (i + 1) := by
 obtain ⟨hi, e⟩ := List.getElem?_eq_some_iff.1 h
 rw [List.drop_eq_getElem_cons hi, e]
theorem b2p {α : Type} {l : List α} {i : Nat} {x : α} (h : l[i]? = some x) : l.take (i + 1) = l.take i ++ [x] := by
 rw [List.take_add_one, h]; rfl
theorem c5j {α : Type} {f : α -> Bool} {xs : List α} {i : Nat} {x : α} (h : xs[i]? = some x) : (xs.take (i + 1)).any f = ((xs.take i).any f || f x) := by
 rw [b2p h, List.any_append]; simp
theorem any_at {α : Type} {f : α -> Bool} {xs : List α} {i k : Nat} {x : α} (h : xs[k]? = some x) (hk : k < i) (hf : f x = true) : (xs.take i).any f = true := by
 rw [List.any_eq_true]
 exact ⟨x, List.mem_of_getElem? (by rw [List.getElem?_take, if_pos hk]; exact h), hf⟩
def flat {α : Type} (enc : α -> List Value) : List α -> List Value
 | [] => []
 | x :: xs => enc x ++ flat enc xs
section
variable {α : Type} {enc : α -> List Value} {k : Nat}
theorem a8p (xs ys : List α) : flat enc (xs ++ ys) = flat enc xs ++ flat enc ys := by
 induction xs with
 | nil => rfl
 | cons x xs ih => simp [flat, ih]
theorem a8n (hk : ∀ x, (enc x).length = k) (xs : List α) : (flat enc xs).length = xs.length * k := by
 induction xs with
 | nil => simp [flat]
 | cons x xs ih => simp [flat, ih, hk, Nat.add_mul]; omega
theorem c0s (hk : ∀ x, (enc x).length = k) : ∀ (xs : List α) (j : Nat) (x : α), xs[j]? = some x -> ∀ (i : Nat) (u : Value), (enc x)[i]? = some u -> (flat enc xs)[j * k + i]? = some u
 | [], j, x, h, _, _, _ => by simp at h
 | y :: ys, 0, x, h, i, u, hu => by
  have e : y = x := by simpa using h
  subst e
  obtain ⟨hi, _⟩ := List.getElem?_eq_some_iff.1 hu
  rw [flat, Nat.zero_mul, Nat.zero_add, List.getElem?_append_left hi, hu]
 | y :: ys, j + 1, x, h, i, u, hu => by
  have h' : ys[j]? = some x := by simpa using h
  have ih := c0s hk ys j x h' i u hu
  rw [flat, List.getElem?_append_right (by rw [hk, Nat.add_mul]; omega), hk]
  rw [show (j + 1) * k + i - k = j * k + i by rw [Nat.add_mul]; omega]
  exact ih
theorem Slc.of_blk (hk : ∀ x, (enc x).length = k) {w : World} {g : Nat} {cs : Array Value} {t : TypeId} {xs : List α} (h : Blk w g cs t) (hcs : cs.toList = flat enc xs) {n c : Nat} (hn : xs.length = n) (hl : n <= c) (hc : c <= 9223372036854775807) :
  Slc enc k w (.slice (some ⟨g, 0, none⟩) n c) xs := by
 subst hn
 refine ⟨_, c, rfl, hl, hc, fun _ => ⟨g, 0, rfl, h.lt, fun j x hj i u hu => ?_⟩⟩
 rw [Nat.zero_add]
 refine h.cell _ _ ?_
 rw [<- Array.getElem?_toList, hcs]
 exact c0s hk xs j x hj i u hu
theorem Slc.of_own (hk : ∀ x, (enc x).length = k) {w : World} {base : Nat} {e : TypeId} {v : Value} {n : Nat} {xs : List α} (h : w.ownsRow base e k v n (flat enc xs)) (hn : xs.length = n) : Slc enc k w v xs := by
 subst hn
 rcases h.2 with ⟨rfl, h0⟩ | ⟨g, cap, cur, rfl, hb, hg, hc, hm, _, _⟩
 ·have : xs = [] := List.length_eq_zero_iff.1 h0
  subst this
  exact Slc.nil_ _ _ _ _ _ (by decide)
 refine ⟨_, cap, rfl, hc, by unfold maxLen at hm; omega, fun _ => ⟨g, 0, rfl, (h.lt g rfl).2, fun j x hj i u hu => ?_⟩⟩
 have := h.cells (g := g) rfl (j * k + i) u (c0s hk xs j x hj i u hu)
 rw [Addr.add_lit] at this
 rw [Nat.add_assoc]
 exact this
end
section
variable {α : Type} {enc : α -> List Value} {P : Program}
theorem c3m (w : World) {ops : Array Oper} {rest : List Oper} {o : Oper} {a : Act} {Q : Exit -> Act -> World -> Prop} (hgd : o.guard = none) (s x : Operand) (t : TypeId)
  (ho : o.op = .call { callee := .builtin .append, args := #[s, x], argTypes := #[t, t] })
  (base : Nat) (e : TypeId) (i : TypeInfo) (z : Value) (size bytes : Nat) (ht : P.underlying t = some (.slice e)) (hi : P.info? e = some i) (hz : i.zero = some z)
  (hsize : i.size = size) (hby : i.bytes = bytes) (hzs : z.cells.size = size) (hsz : 0 < size) (hk : ∀ y, (enc y).length = size)
  (v : Value) (n : Nat) (xs : List α) (hs : a.eval s = v) (hown : w.ownsRow base e size v n (flat enc xs)) (y : α) (cs : Array Value) (hcs : cs.toList = enc y) (hx : a.eval x = .slice (some ⟨w.heap.size, 0, none⟩) 1 1)
  (h1 : ∀ u ∈ enc y, u.oneCell' = true) (h63 : n + 1 <= maxLen) (hbytes : (n + 1) * bytes <= 140737488355328) (hbase : base <= w.heap.size)
  (h : ∀ v' w', w'.ownsRow base e size v' (n + 1) (flat enc (xs ++ [y])) -> Below base w w' -> wpList P ops Q rest (a.put o.dst v') w') : wpList P ops Q (o :: rest) a (w.alloc (.cells cs e)) := by
 refine wpList_append_own (w.alloc (.cells cs e)) hgd s x t ho base e i z size bytes ht hi hz hsize hby hzs hsz v n (flat enc xs) hs (hown.alloc _) ⟨w.heap.size, 0, none⟩ 1 1 (enc y) hx (by rw [hk, Nat.one_mul]) ?_ h1 h63 hbytes (by rw [size_alloc]; omega) ?_
 ·intro j u hu
  rw [Addr.add_lit, Nat.zero_add, (Blk.new w cs e).cell j u]
  rw [<- Array.getElem?_toList, hcs]; exact hu
 intro v' w' hown' hg _
 refine h v' w' (by rw [a8p]; simpa [flat] using hown') ?_
 refine ((Below.refl base w).alloc hbase _).grown hg (by rw [size_alloc]; omega) (fun k hk => ?_)
 rcases hown.2 with ⟨rfl, _⟩ | ⟨g, cap, cur, rfl, hb, _⟩
 ·simp [Value.ownBlock] at hk
 have : g = k := by simpa [Value.ownBlock] using hk
 omega
end
end Go.Proofs.YtoighiepglclkaaGreatDoor
