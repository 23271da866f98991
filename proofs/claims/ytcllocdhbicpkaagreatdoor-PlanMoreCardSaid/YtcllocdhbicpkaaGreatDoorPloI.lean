/-
A bloc that asks for less; a list copied (printed by gen_pln17.py).
-/
import Derived.Test.YtcllocdhbicpkaaGreatDoorPloG
import Derived.Test.YtcllocdhbicpkaaGreatDoorPlnR
namespace Go.Proofs.YtcllocdhbicpkaaGreatDoor
open Go.RowKit

section
variable {α : Type} {enc : α → List Value} {P : Program}
/-- A list copied: append to an empty slice that has no room. -/
theorem wpList_copy (w : World) {ops : Array Oper} {rest : List Oper} {o : Oper} {a : Act} {Q : Exit → Act → World → Prop} (hgd : o.guard = none) (s x : Operand) (t : TypeId)
  (ho : o.op = .call { callee := .builtin .append, args := #[s, x], argTypes := #[t, t] })
  (e : TypeId) (i : TypeInfo) (z : Value) (size bytes : Nat) (ht : P.underlying t = some (.slice e)) (hi : P.info? e = some i) (hz : i.zero = some z)
  (hsize : i.size = size) (hby : i.bytes = bytes) (hk : ∀ y, (enc y).length = size)
  (g : Nat) (hs : a.eval s = .slice (some ⟨g, 0, none⟩) 0 0) (u : Value) (ys : List α) (hsrc : Slc enc size w u ys) (hx : a.eval x = u)
  (h0 : 0 < ys.length) (h63 : ys.length ≤ maxLen) (hbytes : ys.length * bytes ≤ 140737488355328)
  (h : ∀ v' w', (∃ cap rest, v' = .slice (some ⟨w.heap.size, 0, none⟩) ys.length cap ∧ ys.length ≤ cap ∧ cap ≤ maxLen ∧ Blk w' w.heap.size ((flat enc ys ++ rest).toArray) e) → Below w.heap.size w w' → wpList P ops Q rest (a.put o.dst v') w') : wpList P ops Q (o :: rest) a w := by
 subst hsize
 subst hby
 obtain ⟨A, c, rfl, hl, hc⟩ := hsrc.slice
 cases A with
 | none => rw [hsrc.none_nil] at h0; exact absurd h0 (by simp)
 | some ad =>
  refine wpList_plain hgd fun K hK => ?_
  have hsmall : ys.length ≤ 9223372036854775807 := by simp only [maxLen] at h63; omega
  have hr := run_append_grow (P := P) w t o.type e i z ht hi hz ⟨g, 0, none⟩ 0 0 [] (by simp) (by simp) ad ys.length c (flat enc ys) (flat_length hk ys) (hsrc.flat_cells hk (Below.refl _ _)) (by omega) (by omega) (growslice_fits (by omega) (by rw [Nat.zero_add]; exact hbytes))
  unfold Oper.wp execOp
  simp only [ho, resolve, invoke, builtin, Sem.run_bind, Sem.run_pure, Result.andThen_ok, List.map_toArray, List.map_cons, List.map_nil, hs, hx, hr]
  refine hK _ _ (h _ _ ⟨grownCap w (0 + ys.length) 0 e, (Builtin.zeroCells z.cells (grownCap w (0 + ys.length) 0 e - (0 + ys.length))).toList, by rw [Nat.zero_add], ?_, grownCap_le_maxLen w _ 0 e (by omega), ?_⟩ (Ext.alloc (Below.refl _ _).drew _))
  ·have := grownCap_ge w (0 + ys.length) 0 e
   omega
  ·refine (heap_alloc_new w.drew _).trans ?_
   congr 2
   apply Array.ext'
   simp
end
/-- A row of these blocs of the call's own; a venture with such a row. -/
def RowAt (n : Nat) (l : List Blc) (ww : World) (vv : Value) : Prop := ∃ (g cap : Nat) (rest : List Value), vv = .slice (some ⟨g, 0, none⟩) l.length cap ∧ n ≤ g ∧ l.length ≤ cap ∧ cap ≤ maxLen ∧ Blk ww g (rowX l rest) 59
def AggAt (n : Nat) (l : List Blc) (q : Rat) (ww : World) (vv : Value) : Prop := ∃ (g cap : Nat) (rest : List Value), vv = .agg #[.bool (negB q), .string (bs (numB q)), .string (bs (denomB q)), .slice (some ⟨g, 0, none⟩) l.length cap] ∧ n ≤ g ∧ l.length ≤ cap ∧ cap ≤ maxLen ∧ Blk ww g (rowX l rest) 59
theorem RowAt.mk {n : Nat} {l : List Blc} {ww : World} {g cap : Nat} {rest : List Value} (h1 : n ≤ g) (h2 : l.length ≤ cap) (h3 : cap ≤ maxLen) (h4 : Blk ww g (rowX l rest) 59) : RowAt n l ww (.slice (some ⟨g, 0, none⟩) l.length cap) := by
 unfold RowAt; exact ⟨g, cap, rest, rfl, h1, h2, h3, h4⟩
theorem AggAt.mk {n : Nat} {l : List Blc} {q : Rat} {ww : World} {g cap : Nat} {rest : List Value} (h1 : n ≤ g) (h2 : l.length ≤ cap) (h3 : cap ≤ maxLen) (h4 : Blk ww g (rowX l rest) 59) : AggAt n l q ww (.agg #[.bool (negB q), .string (bs (numB q)), .string (bs (denomB q)), .slice (some ⟨g, 0, none⟩) l.length cap]) := by
 unfold AggAt; exact ⟨g, cap, rest, rfl, h1, h2, h3, h4⟩
theorem RowAt.st {n : Nat} {l : List Blc} (w1 w2 : World) (v : Value) (h : RowAt n l w1 v) (hb : Below w1.heap.size w1 w2) : RowAt n l w2 v := by
 obtain ⟨g, cap, rest, e, h1, h2, h3, h4⟩ := h
 rw [e]; exact RowAt.mk h1 h2 h3 (h4.below hb h4.lt)
theorem AggAt.st {n : Nat} {l : List Blc} {q : Rat} (w1 w2 : World) (v : Value) (h : AggAt n l q w1 v) (hb : Below w1.heap.size w1 w2) : AggAt n l q w2 v := by
 obtain ⟨g, cap, rest, e, h1, h2, h3, h4⟩ := h
 rw [e]; exact AggAt.mk h1 h2 h3 (h4.below hb h4.lt)
theorem notAfter_rank {p p' : Option Blc} {b c : Blc} (h : p.map Blc.rank = p'.map Blc.rank) (hb : b.rank = c.rank) : notAfter p b = notAfter p' c := by
 cases p with
 | none => cases p' with
  | none => rfl
  | some y => cases h
 | some x => cases p' with
  | none => cases h
  | some y =>
   have h1 : x.rank = y.rank := by simpa using h
   show decide (b.rank ≤ x.rank) = decide (c.rank ≤ y.rank)
   rw [hb, h1]
theorem bErr_after {p : Option Blc} {b : Blc} (h : bErr p b = 0) : notAfter p b = false := by
 unfold bErr at h
 split at h
 ·cases h
 ·split at h
  ·cases h
  ·rename_i h2
   cases hn : notAfter p b
   ·rfl
   ·exact absurd hn h2
theorem checkBl_each : ∀ (l : List Blc) (p : Option Blc), checkBl p l = 0 → ∀ k b, l[k]? = some b → bErr (if k = 0 then p else l[k - 1]?) b = 0
 | [], _, _, k, b, hb => by simp at hb
 | c :: l, p, h, k, b, hb => by
  rw [checkBl] at h
  split at h
  ·rename_i h0
   cases k with
   | zero =>
    obtain rfl : c = b := by simpa using hb
    rw [if_pos rfl]; exact h0
   | succ k =>
    have hh := checkBl_each l (some c) h k b (by simpa using hb)
    rw [if_neg (by omega)]
    cases k with
    | zero => rw [if_pos rfl] at hh; exact hh
    | succ k => rw [if_neg (by omega)] at hh; exact hh
  ·rename_i h0
   exact absurd h h0
/-- A venture stays in order when one bloc asks for another rate. -/
theorem check_set {value : Rat} {l : List Blc} {j : Nat} {u b' : Blc} (h : checkVn value l = 0) (hu : l[j]? = some u) (h1 : b'.rank = u.rank) (h2 : b'.total = u.total) (h3 : b'.floor = u.floor) (h4 : 0 ≤ b'.ask ∧ b'.ask ≤ 1) : checkVn value (l.set j b') = 0 := by
 obtain ⟨v0, h16, hb⟩ := checkVn_zero h
 have hbl : checkBl none l = 0 := by
  unfold checkVn at h
  rw [if_neg (sgn_nonneg v0), if_neg (by omega)] at h
  exact h
 have hjl := (List.getElem?_eq_some_iff.1 hu).1
 have hr : ∀ i, ((l.set j b')[i]?).map Blc.rank = (l[i]?).map Blc.rank := fun i => by
  by_cases e : j = i
  ·subst e
   rw [List.getElem?_set_self hjl, hu, Option.map_some, Option.map_some, h1]
  ·rw [List.getElem?_set_ne e]
 unfold checkVn
 rw [if_neg (sgn_nonneg v0), if_neg (by rw [List.length_set]; omega)]
 have := checkBl_all (l := l.set j b') (fun k b hk => ?_) (l.set j b').length 0 (by omega)
 ·rwa [List.drop_zero] at this
 ·have hkl : k < l.length := by have := (List.getElem?_eq_some_iff.1 hk).1; rwa [List.length_set] at this
  have hc : l[k]? = some l[k] := List.getElem?_eq_getElem hkl
  have he := checkBl_each l none hbl k _ hc
  have hrk : b.rank = l[k].rank := by
   have := hr k
   rw [hk, hc, Option.map_some, Option.map_some] at this
   exact Option.some.inj this
  obtain ⟨g1, g2, g3⟩ := hb _ (List.mem_of_getElem? hc)
  have hg : goodB b := by
   by_cases e : j = k
   ·subst e
    rw [List.getElem?_set_self hjl] at hk
    obtain rfl : b' = b := Option.some.inj hk
    rw [hu] at hc
    have hu2 : u = l[j] := Option.some.inj hc
    unfold goodB
    rw [h2, h3, hu2]
    exact ⟨g3.1, g3.2.1, g3.2.2.1, h4⟩
   ·rw [List.getElem?_set_ne e, hc] at hk
    rw [← Option.some.inj hk]; exact g3
  refine bErr_good (by omega) ?_ hg
  have hn := bErr_after he
  rw [← hn]
  refine notAfter_rank ?_ hrk
  unfold prevAt
  by_cases h0 : k = 0
  ·rw [if_pos h0, if_pos h0]
  ·rw [if_neg h0, if_neg h0]; exact hr _
theorem set_same {α : Type} {l : List α} {j : Nat} {u : α} (h : l[j]? = some u) : l.set j u = l := by
 apply List.ext_getElem?
 intro i
 by_cases e : j = i
 ·subst e; rw [List.getElem?_set_self (List.getElem?_eq_some_iff.1 h).1, h]
 ·rw [List.getElem?_set_ne e]
theorem ask_less {a z : Rat} (h0 : 0 ≤ a) (h1 : a ≤ 1) (hz : 0 ≤ z) : (0 ≤ maxR 0 (a - z) ∧ maxR 0 (a - z) ≤ 1) ∧ maxR 0 (a - z) ≤ a :=
 ⟨⟨maxR_l _ _, maxR_le (by grind) (by grind)⟩, maxR_le h0 (by grind)⟩
theorem maxR_sized {N : Nat} {a b : Rat} (ha : Sized N a) (hb : Sized N b) : Sized N (maxR a b) := by
 unfold maxR; split <;> assumption
theorem wAsk_ask (u : Blc) (q : Rat) : (u.wAsk (negB q) (numB q) (denomB q)).ask = q := dec_enc q
end Go.Proofs.YtcllocdhbicpkaaGreatDoor
