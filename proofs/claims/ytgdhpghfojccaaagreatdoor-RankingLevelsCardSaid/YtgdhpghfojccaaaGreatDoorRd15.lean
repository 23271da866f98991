/-
Part 15 of the base.
-/
import Derived.Deep.OwnRows
import Derived.Deep.AppendLies
import Derived.Test.YtgdhpghfojccaaaGreatDoorRd11
import Derived.Test.YtgdhpghfojccaaaGreatDoorRd13
import Derived.DeepKeys
import Derived.DeepKeys4
import Derived.Maps.OwnSet
import Derived.Maps.OwnOps
import Derived.Maps.Views
import Derived.IntWalk
import Derived.Deep.Slices
import Derived.Deep.Fields
import Derived.ChangeSame
import Derived.Carry
import Derived.Test.YtgdhpghfojccaaaGreatDoorRows
import Derived.Test.YtgdhpghfojccaaaGreatDoorCards
import Derived.Test.YtgdhpghfojccaaaGreatDoorTie
import Derived.ProofKit
import Derived.Lay
import Derived.SevenTiedAt
import Derived.ChangeMaps5
import Derived.OpenShut
namespace Go.Proofs.YtgdhpghfojccaaaGreatDoor
open Go.RowKit
def Slc {α : Type} (enc : α -> List Value) (k : Nat) (w : World) (v : Value) (xs : List α) : Prop :=
 ∃ A c, v = .slice A xs.length c /\ xs.length <= c /\ c <= 9223372036854775807 /\
  (0 < xs.length -> ∃ b o, A = some ⟨b, o, none⟩ /\ b < w.heap.size /\ ∀ j x, xs[j]? = some x -> ∀ i u, (enc x)[i]? = some u -> w.cell? ⟨b, o + j * k + i, none⟩ = some u)
section
variable {α : Type} {enc : α -> List Value} {k : Nat} {w w' : World} {v : Value} {xs : List α}
theorem Slc.below (h : Slc enc k w v xs) (hb : Below w.heap.size w w') : Slc enc k w' v xs := by
 obtain ⟨A, c, rfl, hl, hc, hx⟩ := h
 refine ⟨A, c, rfl, hl, hc, fun h0 => ?_⟩
 obtain ⟨b, o, e, hbb, hcell⟩ := hx h0
 exact ⟨b, o, e, Nat.lt_of_lt_of_le hbb hb.size, fun j x hj i u hu => by rw [hb.cell (p := ⟨b, o + j * k + i, none⟩) hbb]; exact hcell j x hj i u hu⟩
theorem Slc.nil_ (enc : α -> List Value) (k : Nat) (w : World) (A : Option Addr) (c : Nat) (hc : c <= 9223372036854775807) : Slc enc k w (.slice A 0 c) [] :=
 ⟨A, c, rfl, Nat.zero_le _, hc, fun h => absurd h (by simp)⟩
theorem Slc.slice (h : Slc enc k w v xs) : ∃ A c, v = .slice A xs.length c /\ xs.length <= c /\ c <= 9223372036854775807 := by
 obtain ⟨A, c, e, h1, h2, _⟩ := h
 exact ⟨A, c, e, h1, h2⟩
theorem Slc.at_ {A : Option Addr} {n c : Nat} (h : Slc enc k w (.slice A n c) xs) {j : Nat} (hj : j < xs.length) :
  ∃ b o x, A = some ⟨b, o, none⟩ /\ b < w.heap.size /\ xs[j]? = some x /\ ∀ w', Below w.heap.size w w' -> ∀ i u, (enc x)[i]? = some u -> w'.cell? ⟨b, o + j * k + i, none⟩ = some u := by
 obtain ⟨A', c', e, hl, hc, hx⟩ := h
 injection e with e1 e2 e3
 subst e1
 obtain ⟨b, o, e, hb, hcell⟩ := hx (by omega)
 exact ⟨b, o, xs[j], e, hb, List.getElem?_eq_getElem hj, fun w' hw i u hu => (hw.cell (p := ⟨b, o + j * k + i, none⟩) hb).trans (hcell j _ (List.getElem?_eq_getElem hj) i u hu)⟩
theorem Slc.cellAt {b o n c : Nat} (h : Slc enc k w (.slice (some ⟨b, o, none⟩) n c) xs) {j : Nat} {x : α} (hx : xs[j]? = some x) {w' : World} (hw : Below w.heap.size w w') {i : Nat} {u : Value} (hu : (enc x)[i]? = some u) :
  w'.cell? ⟨b, o + j * k + i, none⟩ = some u := by
 obtain ⟨hj, _⟩ := List.getElem?_eq_some_iff.1 hx
 obtain ⟨b', o', x', e, _, hx', hc⟩ := h.at_ hj
 injection e with e
 injection e with e1 e2
 subst e1; subst e2
 have : x = x' := Option.some.inj (hx.symm.trans hx')
 subst this
 exact hc w' hw i u hu
end
theorem take_all {α : Type} {f : α -> Bool} {xs : List α} {i : Nat} {x : α} (h : xs[i]? = some x) : (xs.take (i + 1)).all f = ((xs.take i).all f && f x) := by
 rw [List.take_add_one, h, List.all_append]; simp
theorem drop_at {α : Type} {l : List α} {i : Nat} {x : α} (h : l[i]? = some x) : l.drop i = x :: l.drop (i + 1) := by
 obtain ⟨hi, e⟩ := List.getElem?_eq_some_iff.1 h
 rw [List.drop_eq_getElem_cons hi, e]
theorem a5a {α : Type} {l : List α} {i : Nat} {x : α} (h : l[i]? = some x) : l.take (i + 1) = l.take i ++ [x] := by
 rw [List.take_add_one, h]; rfl
def flat {α : Type} (enc : α -> List Value) : List α -> List Value
 | [] => []
 | x :: xs => enc x ++ flat enc xs
section
variable {α : Type} {enc : α -> List Value} {k : Nat}
theorem a2b (xs ys : List α) : flat enc (xs ++ ys) = flat enc xs ++ flat enc ys := by
 induction xs with
 | nil => rfl
 | cons x xs ih => simp [flat, ih]
theorem a5x (hk : ∀ x, (enc x).length = k) (xs : List α) : (flat enc xs).length = xs.length * k := by
 induction xs with
 | nil => simp [flat]
 | cons x xs ih => simp [flat, ih, hk, Nat.add_mul]; omega
theorem a3t (hk : ∀ x, (enc x).length = k) : ∀ (xs : List α) (j : Nat) (x : α), xs[j]? = some x -> ∀ (i : Nat) (u : Value), (enc x)[i]? = some u -> (flat enc xs)[j * k + i]? = some u
 | [], j, x, h, _, _, _ => by simp at h
 | y :: ys, 0, x, h, i, u, hu => by
  have e : y = x := by simpa using h
  subst e
  obtain ⟨hi, _⟩ := List.getElem?_eq_some_iff.1 hu
  rw [flat, Nat.zero_mul, Nat.zero_add, List.getElem?_append_left hi, hu]
 | y :: ys, j + 1, x, h, i, u, hu => by
  have h' : ys[j]? = some x := by simpa using h
  have ih := a3t hk ys j x h' i u hu
  rw [flat, List.getElem?_append_right (by rw [hk, Nat.add_mul]; omega), hk]
  rw [show (j + 1) * k + i - k = j * k + i by rw [Nat.add_mul]; omega]
  exact ih
theorem Slc.of_blk (hk : ∀ x, (enc x).length = k) {w : World} {g : Nat} {cs : Array Value} {t : TypeId} {xs : List α} (h : Blk w g cs t) (hcs : cs.toList = flat enc xs) {n c : Nat} (hn : xs.length = n) (hl : n <= c) (hc : c <= 9223372036854775807) :
  Slc enc k w (.slice (some ⟨g, 0, none⟩) n c) xs := by
 subst hn
 refine ⟨_, c, rfl, hl, hc, fun _ => ⟨g, 0, rfl, h.lt, fun j x hj i u hu => ?_⟩⟩
 rw [Nat.zero_add]
 refine h.cell _ _ ?_
 rw [<- Array.getElem?_toList, hcs]
 exact a3t hk xs j x hj i u hu
theorem Slc.of_own (hk : ∀ x, (enc x).length = k) {w : World} {base : Nat} {e : TypeId} {v : Value} {n : Nat} {xs : List α} (h : w.ownsRow base e k v n (flat enc xs)) (hn : xs.length = n) : Slc enc k w v xs := by
 subst hn
 rcases h.2 with ⟨rfl, h0⟩ | ⟨g, cap, cur, rfl, hb, hg, hc, hm, _, _⟩
 ·have : xs = [] := List.length_eq_zero_iff.1 h0
  subst this
  exact Slc.nil_ _ _ _ _ _ (by decide)
 refine ⟨_, cap, rfl, hc, by unfold maxLen at hm; omega, fun _ => ⟨g, 0, rfl, (h.lt g rfl).2, fun j x hj i u hu => ?_⟩⟩
 have := h.cells (g := g) rfl (j * k + i) u (a3t hk xs j x hj i u hu)
 rw [Addr.add_lit] at this
 rw [Nat.add_assoc]
 exact this
end
section
variable {α : Type} {enc : α -> List Value} {P : Program}
theorem b3m (w : World) {ops : Array Oper} {rest : List Oper} {o : Oper} {a : Act} {Q : Exit -> Act -> World -> Prop} (hgd : o.guard = none) (s x : Operand) (t : TypeId)
  (ho : o.op = .call { callee := .builtin .append, args := #[s, x], argTypes := #[t, t] })
  (base : Nat) (e : TypeId) (i : TypeInfo) (z : Value) (size bytes : Nat) (ht : P.underlying t = some (.slice e)) (hi : P.info? e = some i) (hz : i.zero = some z)
  (hsize : i.size = size) (hby : i.bytes = bytes) (hzs : z.cells.size = size) (hsz : 0 < size) (hk : ∀ y, (enc y).length = size)
  (v : Value) (n : Nat) (xs : List α) (hs : a.eval s = v) (hown : w.ownsRow base e size v n (flat enc xs)) (y : α) (g : Nat) (cs : Array Value) (hB : Blk w g cs e) (hcs : cs.toList = enc y) (hx : a.eval x = .slice (some ⟨g, 0, none⟩) 1 1)
  (h1 : ∀ u ∈ enc y, u.oneCell' = true) (h63 : n + 1 <= maxLen) (hbytes : (n + 1) * bytes <= 140737488355328) (hbase : base <= w.heap.size)
  (h : ∀ v' w', w'.ownsRow base e size v' (n + 1) (flat enc (xs ++ [y])) -> Below base w w' -> wpList P ops Q rest (a.put o.dst v') w') : wpList P ops Q (o :: rest) a w := by
 refine wpList_append_own w hgd s x t ho base e i z size bytes ht hi hz hsize hby hzs hsz v n (flat enc xs) hs hown ⟨g, 0, none⟩ 1 1 (enc y) hx (by rw [hk, Nat.one_mul]) ?_ h1 h63 hbytes hbase ?_
 ·intro j u hu
  rw [Addr.add_lit, Nat.zero_add, hB.cell j u]
  rw [<- Array.getElem?_toList, hcs]; exact hu
 intro v' w' hown' hg _
 refine h v' w' (by rw [a2b]; simpa [flat] using hown') ?_
 refine (Below.refl base w).grown hg hbase (fun k hk => ?_)
 rcases hown.2 with ⟨rfl, _⟩ | ⟨g, cap, cur, rfl, hb, _⟩
 ·simp [Value.ownBlock] at hk
 have : g = k := by simpa [Value.ownBlock] using hk
 omega
end
theorem b4p {a w : World} (h : Below a.heap.size a w) (row : Option Nat) : a.grownBy w row := ⟨h.os, h.tape, h.output, h.size, fun i hi _ => h.block i hi⟩
theorem laidOut : laidOutB Tryz.prog = true := by kernel_rfl
theorem sgn_rat {q : Rat} (h : 0 <= sgn q.num) : 0 <= q := by
 rw [<- Rat.num_nonneg]
 unfold sgn at h
 split at h
 ·omega
 split at h <;> omega
theorem c1w {q : Rat} (h : 0 <= q) : ¬ sgn q.num < 0 := by
 rw [<- Rat.num_nonneg] at h
 unfold sgn
 split
 ·omega
 split <;> omega
open Go.ChangeShapes Go.WideShapes Go.Deep Go.RowKit
section
variable {H : Type} {enc : TypeId × Value -> H} {P : Program} {W : World} {held : Bool}
theorem c3g {w : World} {a : Addr} {v : Value} (h : w.cell? a = some v) : a = ⟨a.block, a.off, none⟩ /\ a.block < w.heap.size := by
 unfold World.cell? at h
 split at h
 ·rename_i c _ _ hb
  split at h
  ·cases h
  rename_i hs
  refine ⟨?_, (Array.getElem?_eq_some_iff.1 hb).1⟩
  cases a with
  | mk b o s => cases s with
   | none => rfl
   | some _ => simp at hs
 cases h
theorem c0x {α : Type} (d : α) {f : α -> List Value} {k : Nat} (Good : α -> Prop) {t e : TypeId} {fuel : Nat} {cs : List Value} {x : DataW H × List MemPlace} (ht : P.underlying t = some (.slice e)) (hk0 : 0 < k) (hk : P.cellsOf e = k)
  (hf : ∀ z, (f z).length = k) (hdec : ∀ n cs' y, DataW.trod enc P W 0 (fun _ => true) held n e cs' = some y -> ∃ z : α, cs' = f z /\ Good z) (h : DataW.trod enc P W 0 (fun _ => true) held fuel t cs = some x) :
  ∃ v xs, cs = [v] /\ Slc f k W v xs /\ ∀ z ∈ xs, Good z := by
 rcases open_slice ht h with ⟨rfl, _⟩ | ⟨a, len, cap, m, n, D, Pl, rfl, hb, hl, hm, hmm, hx, hi⟩
 ·exact ⟨_, [], rfl, Slc.nil_ _ _ _ _ _ (by decide), by simp⟩
 have hm' : m = cap := by simpa using hmm
 subst hm'
 rw [hk] at hi
 have hch : ∀ i, ∃ z : α, i < m -> Good z /\ ∀ j u, (f z)[j]? = some u -> W.cell? ((a.add (i * k)).add j) = some u := by
  intro i
  by_cases him : i < m
  ·obtain ⟨cs', hc, ht'⟩ := hi i him
   obtain ⟨z, rfl, hg⟩ := hdec _ _ _ ht'
   obtain ⟨_, hcl, hat⟩ := World.cells?_some hc
   refine ⟨z, fun _ => ⟨hg, fun j u hu => ?_⟩⟩
   have hj : j < k := by rw [<- hcl]; exact (List.getElem?_eq_some_iff.1 hu).1
   rw [hat j hj, hu]
  exact ⟨d, fun h => absurd h him⟩
 obtain ⟨z, hz⟩ := Classical.axiomOfChoice hch
 refine ⟨_, (List.range len).map z, rfl, ⟨some a, m, by simp, by simpa using hl, by unfold maxLen at hm; omega, fun h0 => ?_⟩, ?_⟩
 ·have h0' : 0 < len := by simpa using h0
  have hfz : ∃ u, (f (z 0))[0]? = some u := ⟨(f (z 0))[0]'(by rw [hf]; exact hk0), List.getElem?_eq_getElem _⟩
  obtain ⟨u, hu⟩ := hfz
  have hc := (hz 0 (by omega)).2 0 u hu
  rw [Nat.zero_mul] at hc
  have hs := c3g (a := a) (by simpa [Addr.add] using hc)
  refine ⟨a.block, a.off, by rw [<- hs.1], hs.2, fun j y hj i u hu => ?_⟩
  rw [List.getElem?_map] at hj
  have hjl : j < len := by
   rcases Nat.lt_or_ge j len with h | h
   ·exact h
   rw [List.getElem?_eq_none (by simpa using h)] at hj; cases hj
  rw [List.getElem?_range hjl] at hj
  have e : z j = y := by simpa using hj
  subst e
  have hc := (hz j (by omega)).2 i u hu
  rw [hs.1, Addr.add_lit, Addr.add_lit] at hc
  exact hc
 intro y hy
 rw [List.mem_map] at hy
 obtain ⟨j, hj, rfl⟩ := hy
 have : j < len := by simpa using hj
 exact (hz j (by omega)).1
end
theorem list2 {α : Type} {l : List α} (h : l.length = 2) : ∃ a b, l = [a, b] := by
 match l, h with
 | [a, b], _ => exact ⟨a, b, rfl⟩
set_option maxRecDepth 100000
def a2q (x : Nat) : Rat := if x % 5 = 0 then mkRat ((x : Int) / 5 % 23) (1 + x / 115 % 6) else if x % 5 = 1 then ((10 * ((x : Int) / 5 % 4) : Int) : Rat) else (((x : Int) / 5 % 13 : Int) : Rat)
theorem a6a {x : Nat} (_ : x <= 65535) : Sized 8 (a2q x) := by
 have hp : (256 : Nat) ^ 8 = 18446744073709551616 := by decide
 have hi : ∀ n : Int, n.natAbs < 256 ^ 8 -> Sized 8 (n : Rat) := by
  intro n hn
  refine ⟨?_, ?_⟩
  ·rw [Rat.num_intCast]; exact a0t _ _ hn
  rw [Rat.den_intCast]; exact a0t _ _ (by decide)
 unfold a2q
 split
 ·exact a7z (by omega) (a0t _ _ (by omega)) (a0t _ _ (by omega))
 split
 ·exact hi _ (by omega)
 exact hi _ (by omega)
theorem b2n (x : Nat) (w : World) (hx : x <= 65535) :
  Calls Tryz.prog 22 #[.int .u16 (x : Nat)] w fun e w' => e = .returned (rat (a2q x)) /\ Below w.heap.size w w' := by
 have k0 : Raw (w.alloc (Obj.cells #[.bool false, .string (bs []), .string (bs [])] 48)) w.heap.size false [] [] := Blk.new w _ _
 have hbw : Hid (Below w.heap.size w (w.alloc (Obj.cells #[.bool false, .string (bs []), .string (bs [])] 48))) := Ext.alloc (Below.refl _ _) _
 have e1 : Int.tmod (x : Int) 5 = (x : Int) % 5 := Int.tmod_eq_emod_of_nonneg (by omega)
 have e2 : Int.tdiv (x : Int) 5 = (x : Int) / 5 := Int.tdiv_eq_ediv_of_nonneg (by omega)
 have e3 : Int.tdiv (x : Int) 115 = (x : Int) / 115 := Int.tdiv_eq_ediv_of_nonneg (by omega)
 have e4 : Int.tmod ((x : Int) / 5) 23 = (x : Int) / 5 % 23 := Int.tmod_eq_emod_of_nonneg (by omega)
 have e5 : Int.tmod ((x : Int) / 115) 6 = (x : Int) / 115 % 6 := Int.tmod_eq_emod_of_nonneg (by omega)
 have e6 : Int.tmod ((x : Int) / 5) 4 = (x : Int) / 5 % 4 := Int.tmod_eq_emod_of_nonneg (by omega)
 have e7 : Int.tmod ((x : Int) / 5) 13 = (x : Int) / 5 % 13 := Int.tmod_eq_emod_of_nonneg (by omega)
 have v1 : IntKind.u16.wrap ((x : Int) / 5) = (x : Int) / 5 := by rw [IntKind.wrap_u16]; omega
 have v2 : IntKind.u16.wrap ((x : Int) / 115) = (x : Int) / 115 := by rw [IntKind.wrap_u16]; omega
 have v3 : IntKind.i64.wrap ((x : Int) / 5 % 23) = (x : Int) / 5 % 23 := IntWalk.i64_in _ (by omega)
 have v4 : IntKind.i64.wrap ((x : Int) / 115 % 6) = (x : Int) / 115 % 6 := IntWalk.i64_in _ (by omega)
 have v5 : IntKind.i64.wrap (1 + (x : Int) / 115 % 6) = 1 + (x : Int) / 115 % 6 := IntWalk.i64_in _ (by omega)
 have v6 : IntKind.i64.wrap ((x : Int) / 5 % 4) = (x : Int) / 5 % 4 := IntWalk.i64_in _ (by omega)
 have v7 : IntKind.i64.wrap (10 * ((x : Int) / 5 % 4)) = 10 * ((x : Int) / 5 % 4) := IntWalk.i64_in _ (by omega)
 have v8 : IntKind.i64.wrap ((x : Int) / 5 % 13) = (x : Int) / 5 % 13 := IntWalk.i64_in _ (by omega)
 have hR := fun W => c2g ((x : Int) / 5 % 23) (1 + (x : Int) / 115 % 6) W (by omega) (by omega) (by omega) (by omega)
 rw [show (1 + (x : Int) / 115 % 6).toNat = 1 + x / 115 % 6 by omega] at hR
 have hA := fun W => b4w (10 * ((x : Int) / 5 % 4)) W (by omega) (by omega)
 have hB := fun W => b4w ((x : Int) / 5 % 13) W (by omega) (by omega)
 by_cases h0 : x % 5 = 0
 have c1 : (x : Int) % 5 = 0 := by omega
 have hq : a2q x = mkRat ((x : Int) / 5 % 23) (1 + x / 115 % 6) := by unfold a2q; rw [if_pos h0]
 rw [hq]
 generalize mkRat ((x : Int) / 5 % 23) (1 + x / 115 % 6) = q at *
 have HF := zh hR
 clear hA hB hR hq h0
 have K0 := zh k0
 clear k0
 unfold rat raw at *
 rotate_left
 by_cases h1 : x % 5 = 1
 have c1 : (x : Int) % 5 = 1 := by omega
 have hq : a2q x = ((10 * ((x : Int) / 5 % 4) : Int) : Rat) := by unfold a2q; rw [if_neg h0, if_pos h1]
 rw [hq]
 generalize ((10 * ((x : Int) / 5 % 4) : Int) : Rat) = q at *
 have HF := zh hA
 clear hA hB hR hq h0 h1
 have K0 := zh k0
 clear k0
 unfold rat raw at *
 rotate_left
 have c0 : ((x : Int) % 5 == 0) = false := by rw [beq_eq_false_iff_ne]; omega
 have c1 : ((x : Int) % 5 == 1) = false := by rw [beq_eq_false_iff_ne]; omega
 have c2 : ¬ (x : Int) % 5 = 0 := by omega
 have c3 : ¬ (x : Int) % 5 = 1 := by omega
 have hq : a2q x = (((x : Int) / 5 % 13 : Int) : Rat) := by unfold a2q; rw [if_neg h0, if_neg h1]
 rw [hq]
 generalize (((x : Int) / 5 % 13 : Int) : Rat) = q at *
 have HF := zh hB
 clear hA hB hR hq h0 h1
 have K0 := zh k0
 clear k0
 unfold rat raw at *
 rotate_left
 all_goals
  go_enter Tryz.func22, Tryz.ntmps22
  go_wp2_with fail
  refine (HF.out _).mono ?_
  rintro e w2 ⟨rfl, hb2⟩
  have k1 := K0.out.below hb2 (Raw.lt K0.out)
  have z0 := k1.frozen 0
  have z1 := k1.frozen 1
  have z2 := k1.frozen 2
  have d0 := k1.c0
  have d1 := k1.c1
  have d2 := k1.c2
  have K1 := zh k1
  have HB := zh (Ext.trans hbw.out hb2)
  clear k1 hb2
  go_wp2
 ·exact bodyPost_ret (a0q rfl _ _ _ _ _ _ rfl (K1.out.put _ _ _)) rfl ⟨rfl, a1f HB.out (Nat.le_refl _) _ _ _⟩
 ·exact bodyPost_ret (a0q rfl _ _ _ _ _ _ rfl (K1.out.put _ _ _)) rfl ⟨rfl, a1f HB.out (Nat.le_refl _) _ _ _⟩
 exact bodyPost_ret (a0q rfl _ _ _ _ _ _ rfl (K1.out.put _ _ _)) rfl ⟨rfl, a1f HB.out (Nat.le_refl _) _ _ _⟩
open Go.ChangeShapes Go.WideShapes Go.ChangeAt Go.ChangeMaps Go.RowKit
theorem own_knob : ownKnob Tryz.prog.godebug = none := by kernel_rfl
def b9r : List (String × DataW Unit) := [("unicode/utf8.acceptRanges", Rows.laid_unicode_utf8_acceptRanges), ("unicode/utf8.first", Rows.laid_unicode_utf8_first)]
section
variable {H : Type} {enc : TypeId × Value -> H} {P : Program} {W W' : World}
theorem a8m (hl : laidOutB P = true) (hb : Below W.heap.size W W') : ∀ {ts : List TypeId} {vs : List Value} {ds : List (DataW H)} {ps : List MemPlace}, DataW.TrodAll enc P W 0 (fun _ => true) true ts vs ds ps ->
  (∀ t ∈ ts, P.readableRec t = true /\ t < P.types.size) -> (∀ x ∈ ps, x.block < W.heap.size) -> DataW.TrodAll enc P W' 0 (fun b => decide (b < W.heap.size)) true ts vs ds ps
 | [], [], [], _, h, _, _ => h
 | t :: ts, v :: vs, d :: ds, ps, ⟨p, q, h, hs, e⟩, hr, hlt => by
  subst e
  exact ⟨p, q, Below.trod hl (hr t (by simp)).1 (hr t (by simp)).2 h hb (fun x hx => hlt x (by simp [hx])), a8m hl hb hs (fun u hu => hr u (by simp [hu])) (fun x hx => hlt x (by simp [hx])), rfl⟩
end
theorem a5g {a : Int} (h : (Lit.int .u16 a).wf = true) : 0 <= a /\ a <= 65535 := by
 simpa [Lit.wf, IntKind.min, IntKind.max, IntKind.signed, IntKind.bits] using h
theorem b9q (os : Os) (args : Array Value) : ((World.laidAll Tryz.prog os b9r).forCall (fun _ _ => 0) ⟨#[], args, []⟩).Shaped Tryz.prog :=
 World.shaped_of_ZipB (by kernel_rfl) (by kernel_rfl)
theorem laid_met (os : Os) (args : Array Value) : laidMetH Tryz.prog b9r ((World.laidAll Tryz.prog os b9r).forCall (fun _ _ => 0) ⟨#[], args, []⟩).memory := by
 rw [MakeChecks.laidMetH_plain _ _ _ (by kernel_rfl)]
 exact laidMet_laidAll _ (by kernel_rfl) (by kernel_rfl)
theorem list4 {α : Type} {l : List α} (h : l.length = 4) : ∃ a b c d, l = [a, b, c, d] := by
 match l, h with
 | [a, b, c, d], _ => exact ⟨a, b, c, d, rfl⟩
section
variable {H : Type} {enc : TypeId × Value -> H} {W : World} {base : Nat} {sp : Nat -> Bool} {held : Bool}
theorem b8u : Tryz.prog.cellsOf 65 = 1 := by kernel_rfl
end
end Go.Proofs.YtgdhpghfojccaaaGreatDoor
