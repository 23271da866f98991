/-
Part 15 of the base.
-/
import Derived.Deep.OwnRows
import Derived.Deep.AppendLies
import Derived.Test.YtgdhpghfojccaaaDoorRe11
import Derived.Test.YtgdhpghfojccaaaDoorRe13
import Derived.DeepKeys
import Derived.DeepKeys4
import Derived.Maps.OwnSet
import Derived.Maps.OwnOps
import Derived.Maps.Views
import Derived.IntWalk
import Derived.Deep.Slices
import Derived.Deep.Fields
import Derived.ChangeSame
import Derived.Carry
import Derived.Test.YtgdhpghfojccaaaDoorRows
import Derived.Test.YtgdhpghfojccaaaDoorCards
import Derived.Test.YtgdhpghfojccaaaDoorTie
import Derived.ProofKit
import Derived.Lay
import Derived.SevenTiedAt
import Derived.ChangeMaps5
import Derived.OpenShut
namespace Go.Proofs.YtgdhpghfojccaaaDoor
open Go.RowKit
def Slc {α : Type} (enc : α -> List Value) (k : Nat) (w : World) (v : Value) (xs : List α) : Prop :=
 ∃ A c, v = .slice A xs.length c /\ xs.length <= c /\ c <= 9223372036854775807 /\
  (0 < xs.length -> ∃ b o, A = some ⟨b, o, none⟩ /\ b < w.heap.size /\ ∀ j x, xs[j]? = some x -> ∀ i u, (enc x)[i]? = some u -> w.cell? ⟨b, o + j * k + i, none⟩ = some u)
section
variable {α : Type} {enc : α -> List Value} {k : Nat} {w w' : World} {v : Value} {xs : List α}
theorem Slc.below (h : Slc enc k w v xs) (hb : Below w.heap.size w w') : Slc enc k w' v xs := by
 obtain ⟨A, c, rfl, hl, hc, hx⟩ := h
 refine ⟨A, c, rfl, hl, hc, fun h0 => ?_⟩
 obtain ⟨b, o, e, hbb, hcell⟩ := hx h0
 exact ⟨b, o, e, Nat.lt_of_lt_of_le hbb hb.size, fun j x hj i u hu => by rw [hb.cell (p := ⟨b, o + j * k + i, none⟩) hbb]; exact hcell j x hj i u hu⟩
theorem Slc.nil_ (enc : α -> List Value) (k : Nat) (w : World) (A : Option Addr) (c : Nat) (hc : c <= 9223372036854775807) : Slc enc k w (.slice A 0 c) [] :=
 ⟨A, c, rfl, Nat.zero_le _, hc, fun h => absurd h (by simp)⟩
theorem Slc.slice (h : Slc enc k w v xs) : ∃ A c, v = .slice A xs.length c /\ xs.length <= c /\ c <= 9223372036854775807 := by
 obtain ⟨A, c, e, h1, h2, _⟩ := h
 exact ⟨A, c, e, h1, h2⟩
theorem Slc.at_ {A : Option Addr} {n c : Nat} (h : Slc enc k w (.slice A n c) xs) {j : Nat} (hj : j < xs.length) :
  ∃ b o x, A = some ⟨b, o, none⟩ /\ b < w.heap.size /\ xs[j]? = some x /\ ∀ w', Below w.heap.size w w' -> ∀ i u, (enc x)[i]? = some u -> w'.cell? ⟨b, o + j * k + i, none⟩ = some u := by
 obtain ⟨A', c', e, hl, hc, hx⟩ := h
 injection e with e1 e2 e3
 subst e1
 obtain ⟨b, o, e, hb, hcell⟩ := hx (by omega)
 exact ⟨b, o, xs[j], e, hb, List.getElem?_eq_getElem hj, fun w' hw i u hu => (hw.cell (p := ⟨b, o + j * k + i, none⟩) hb).trans (hcell j _ (List.getElem?_eq_getElem hj) i u hu)⟩
theorem Slc.cellAt {b o n c : Nat} (h : Slc enc k w (.slice (some ⟨b, o, none⟩) n c) xs) {j : Nat} {x : α} (hx : xs[j]? = some x) {w' : World} (hw : Below w.heap.size w w') {i : Nat} {u : Value} (hu : (enc x)[i]? = some u) :
  w'.cell? ⟨b, o + j * k + i, none⟩ = some u := by
 obtain ⟨hj, _⟩ := List.getElem?_eq_some_iff.1 hx
 obtain ⟨b', o', x', e, _, hx', hc⟩ := h.at_ hj
 injection e with e
 injection e with e1 e2
 subst e1; subst e2
 have : x = x' := Option.some.inj (hx.symm.trans hx')
 subst this
 exact hc w' hw i u hu
end
theorem take_all {α : Type} {f : α -> Bool} {xs : List α} {i : Nat} {x : α} (h : xs[i]? = some x) : (xs.take (i + 1)).all f = ((xs.take i).all f && f x) := by
 rw [List.take_add_one, h, List.all_append]; simp
theorem drop_at {α : Type} {l : List α} {i : Nat} {x : α} (h : l[i]? = some x) : l.drop i = x :: l.drop (i + 1) := by
 obtain ⟨hi, e⟩ := List.getElem?_eq_some_iff.1 h
 rw [List.drop_eq_getElem_cons hi, e]
theorem a6v {α : Type} {l : List α} {i : Nat} {x : α} (h : l[i]? = some x) : l.take (i + 1) = l.take i ++ [x] := by
 rw [List.take_add_one, h]; rfl
def flat {α : Type} (enc : α -> List Value) : List α -> List Value
 | [] => []
 | x :: xs => enc x ++ flat enc xs
section
variable {α : Type} {enc : α -> List Value} {k : Nat}
theorem a1m (xs ys : List α) : flat enc (xs ++ ys) = flat enc xs ++ flat enc ys := by
 induction xs with
 | nil => rfl
 | cons x xs ih => simp [flat, ih]
theorem a4c (hk : ∀ x, (enc x).length = k) (xs : List α) : (flat enc xs).length = xs.length * k := by
 induction xs with
 | nil => simp [flat]
 | cons x xs ih => simp [flat, ih, hk, Nat.add_mul]; omega
theorem a3d (hk : ∀ x, (enc x).length = k) : ∀ (xs : List α) (j : Nat) (x : α), xs[j]? = some x -> ∀ (i : Nat) (u : Value), (enc x)[i]? = some u -> (flat enc xs)[j * k + i]? = some u
 | [], j, x, h, _, _, _ => by simp at h
 | y :: ys, 0, x, h, i, u, hu => by
  have e : y = x := by simpa using h
  subst e
  obtain ⟨hi, _⟩ := List.getElem?_eq_some_iff.1 hu
  rw [flat, Nat.zero_mul, Nat.zero_add, List.getElem?_append_left hi, hu]
 | y :: ys, j + 1, x, h, i, u, hu => by
  have h' : ys[j]? = some x := by simpa using h
  have ih := a3d hk ys j x h' i u hu
  rw [flat, List.getElem?_append_right (by rw [hk, Nat.add_mul]; omega), hk]
  rw [show (j + 1) * k + i - k = j * k + i by rw [Nat.add_mul]; omega]
  exact ih
theorem Slc.of_blk (hk : ∀ x, (enc x).length = k) {w : World} {g : Nat} {cs : Array Value} {t : TypeId} {xs : List α} (h : Blk w g cs t) (hcs : cs.toList = flat enc xs) {n c : Nat} (hn : xs.length = n) (hl : n <= c) (hc : c <= 9223372036854775807) :
  Slc enc k w (.slice (some ⟨g, 0, none⟩) n c) xs := by
 subst hn
 refine ⟨_, c, rfl, hl, hc, fun _ => ⟨g, 0, rfl, h.lt, fun j x hj i u hu => ?_⟩⟩
 rw [Nat.zero_add]
 refine h.cell _ _ ?_
 rw [<- Array.getElem?_toList, hcs]
 exact a3d hk xs j x hj i u hu
theorem Slc.of_own (hk : ∀ x, (enc x).length = k) {w : World} {base : Nat} {e : TypeId} {v : Value} {n : Nat} {xs : List α} (h : w.ownsRow base e k v n (flat enc xs)) (hn : xs.length = n) : Slc enc k w v xs := by
 subst hn
 rcases h.2 with ⟨rfl, h0⟩ | ⟨g, cap, cur, rfl, hb, hg, hc, hm, _, _⟩
 ·have : xs = [] := List.length_eq_zero_iff.1 h0
  subst this
  exact Slc.nil_ _ _ _ _ _ (by decide)
 refine ⟨_, cap, rfl, hc, by unfold maxLen at hm; omega, fun _ => ⟨g, 0, rfl, (h.lt g rfl).2, fun j x hj i u hu => ?_⟩⟩
 have := h.cells (g := g) rfl (j * k + i) u (a3d hk xs j x hj i u hu)
 rw [Addr.add_lit] at this
 rw [Nat.add_assoc]
 exact this
end
section
variable {α : Type} {enc : α -> List Value} {P : Program}
theorem a9s (w : World) {ops : Array Oper} {rest : List Oper} {o : Oper} {a : Act} {Q : Exit -> Act -> World -> Prop} (hgd : o.guard = none) (s x : Operand) (t : TypeId)
  (ho : o.op = .call { callee := .builtin .append, args := #[s, x], argTypes := #[t, t] })
  (base : Nat) (e : TypeId) (i : TypeInfo) (z : Value) (size bytes : Nat) (ht : P.underlying t = some (.slice e)) (hi : P.info? e = some i) (hz : i.zero = some z)
  (hsize : i.size = size) (hby : i.bytes = bytes) (hzs : z.cells.size = size) (hsz : 0 < size) (hk : ∀ y, (enc y).length = size)
  (v : Value) (n : Nat) (xs : List α) (hs : a.eval s = v) (hown : w.ownsRow base e size v n (flat enc xs)) (y : α) (g : Nat) (cs : Array Value) (hB : Blk w g cs e) (hcs : cs.toList = enc y) (hx : a.eval x = .slice (some ⟨g, 0, none⟩) 1 1)
  (h1 : ∀ u ∈ enc y, u.oneCell' = true) (h63 : n + 1 <= maxLen) (hbytes : (n + 1) * bytes <= 140737488355328) (hbase : base <= w.heap.size)
  (h : ∀ v' w', w'.ownsRow base e size v' (n + 1) (flat enc (xs ++ [y])) -> Below base w w' -> wpList P ops Q rest (a.put o.dst v') w') : wpList P ops Q (o :: rest) a w := by
 refine wpList_append_own w hgd s x t ho base e i z size bytes ht hi hz hsize hby hzs hsz v n (flat enc xs) hs hown ⟨g, 0, none⟩ 1 1 (enc y) hx (by rw [hk, Nat.one_mul]) ?_ h1 h63 hbytes hbase ?_
 ·intro j u hu
  rw [Addr.add_lit, Nat.zero_add, hB.cell j u]
  rw [<- Array.getElem?_toList, hcs]; exact hu
 intro v' w' hown' hg _
 refine h v' w' (by rw [a1m]; simpa [flat] using hown') ?_
 refine (Below.refl base w).grown hg hbase (fun k hk => ?_)
 rcases hown.2 with ⟨rfl, _⟩ | ⟨g, cap, cur, rfl, hb, _⟩
 ·simp [Value.ownBlock] at hk
 have : g = k := by simpa [Value.ownBlock] using hk
 omega
end
theorem b0v {a w : World} (h : Below a.heap.size a w) (row : Option Nat) : a.grownBy w row := ⟨h.os, h.tape, h.output, h.size, fun i hi _ => h.block i hi⟩
theorem laidOut : laidOutB Tryd.prog = true := by kernel_rfl
set_option maxRecDepth 100000
open Go.ChangeShapes Go.WideShapes Go.ChangeAt Go.ChangeMaps Go.RowKit
theorem own_knob : ownKnob Tryd.prog.godebug = none := by kernel_rfl
def b4q : List (String × DataW Unit) := [("unicode/utf8.acceptRanges", Rows.laid_unicode_utf8_acceptRanges), ("unicode/utf8.first", Rows.laid_unicode_utf8_first)]
section
variable {H : Type} {enc : TypeId × Value -> H} {P : Program} {W W' : World}
theorem a6a (hl : laidOutB P = true) (hb : Below W.heap.size W W') : ∀ {ts : List TypeId} {vs : List Value} {ds : List (DataW H)} {ps : List MemPlace}, DataW.TrodAll enc P W 0 (fun _ => true) true ts vs ds ps ->
  (∀ t ∈ ts, P.readableRec t = true /\ t < P.types.size) -> (∀ x ∈ ps, x.block < W.heap.size) -> DataW.TrodAll enc P W' 0 (fun b => decide (b < W.heap.size)) true ts vs ds ps
 | [], [], [], _, h, _, _ => h
 | t :: ts, v :: vs, d :: ds, ps, ⟨p, q, h, hs, e⟩, hr, hlt => by
  subst e
  exact ⟨p, q, Below.trod hl (hr t (by simp)).1 (hr t (by simp)).2 h hb (fun x hx => hlt x (by simp [hx])), a6a hl hb hs (fun u hu => hr u (by simp [hu])) (fun x hx => hlt x (by simp [hx])), rfl⟩
end
theorem b5f {a : Int} (h : (Lit.int .u8 a).wf = true) : 0 <= a /\ a <= 255 := by
 simpa [Lit.wf, IntKind.min, IntKind.max, IntKind.signed, IntKind.bits] using h
theorem b4p (os : Os) (args : Array Value) : ((World.laidAll Tryd.prog os b4q).forCall (fun _ _ => 0) ⟨#[], args, []⟩).Shaped Tryd.prog :=
 World.shaped_of_ZipB (by kernel_rfl) (by kernel_rfl)
theorem laid_met (os : Os) (args : Array Value) : laidMetH Tryd.prog b4q ((World.laidAll Tryd.prog os b4q).forCall (fun _ _ => 0) ⟨#[], args, []⟩).memory := by
 rw [MakeChecks.laidMetH_plain _ _ _ (by kernel_rfl)]
 exact laidMet_laidAll _ (by kernel_rfl) (by kernel_rfl)
end Go.Proofs.YtgdhpghfojccaaaDoor
