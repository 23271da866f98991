/-
Part 44 of the base.
-/
import Derived.Test.YtgdhpghfojccaaaGreatDoorRb35
set_option maxRecDepth 100000
namespace Go.Proofs.YtgdhpghfojccaaaGreatDoor
open Go.ChangeShapes Go.WideShapes Go.ChangeAt Go.ChangeMaps Go.RowKit
section
variable {H : Type} {enc : TypeId × Value -> H} {W : World} {base : Nat} {sp : Nat -> Bool} {held : Bool}
theorem b5k : Tryz.prog.cellsOf 64 = 5 := by kernel_rfl
def d1d (c : Nmd) : Prop := c.id.length <= 9223372036854775807
theorem nmd_len5 (c : Nmd) : c.enc.length = 5 := rfl
theorem d0n {n : Nat} {cs : List Value} {y : DataW H × List MemPlace} (h : DataW.trod enc Tryz.prog W base sp held n 64 cs = some y) : ∃ q : Nmd, cs = q.enc /\ d1d q := by
 obtain ⟨xs, m, rfl, hx, hl, hxl, hf⟩ := DataW.trod_struct Tryz.underlying64 h
 rw [b5k] at hl
 obtain ⟨c0, c1, c2, c3, c4, rfl⟩ := list5 hl
 obtain ⟨y0, y1, y2, rfl⟩ := list3 (show xs.length = 3 from hxl)
 have h0 := hf 0 _ rfl
 have h1 := hf 1 _ rfl
 have h2 := hf 2 _ rfl
 simp only [List.getElem_toArray, List.getElem_cons_zero, List.getElem_cons_succ] at h0 h1 h2
 rw [b0c] at h0
 rw [c1q] at h1
 rw [b5j] at h2
 obtain ⟨s0, e0, _, l0⟩ := DataW.trod_string Tryz.underlying9 (show DataW.trod enc Tryz.prog W base sp held m 9 [c0] = some y0 from h0)
 obtain ⟨a, e1, _, wa⟩ := DataW.trod_int Tryz.underlying3 (show DataW.trod enc Tryz.prog W base sp held m 3 [c1] = some y1 from h1)
 obtain ⟨neg, num, den, e2, _, _⟩ := d0m (show DataW.trod enc Tryz.prog W base sp held m 48 [c2, c3, c4] = some y2 from h2)
 injection e0 with e0
 injection e1 with e1
 unfold b8a at e2
 simp only [List.cons.injEq, and_true] at e2
 obtain ⟨rfl, rfl, rfl⟩ := e2
 subst e0
 subst e1
 exact ⟨⟨s0.data.toList, a, ⟨neg, num, den⟩⟩, rfl, by unfold d1d; dsimp only; rw [a0u]; exact l0⟩
end
open Go.RowKit
structure Duo where
 a : Nat
 b : Nat
def Duo.enc (t : Duo) : List Value := [.int .u16 (t.a : Nat), .int .u16 (t.b : Nat)]
def Duo.ok (t : Duo) : Prop := t.a <= 65535 /\ t.b <= 65535
abbrev Duos (w : World) (v : Value) (ts : List Duo) : Prop := Slc Duo.enc 2 w v ts
theorem c3f (t : Duo) : t.enc.length = 2 := rfl
structure Qua where
 a : Nat
 b : Nat
 c : Nat
 d : Nat
def Qua.enc (t : Qua) : List Value := [.int .u16 (t.a : Nat), .int .u16 (t.b : Nat), .int .u16 (t.c : Nat), .int .u16 (t.d : Nat)]
def Qua.ok (t : Qua) : Prop := t.a <= 65535 /\ t.b <= 65535 /\ t.c <= 65535 /\ t.d <= 65535
abbrev Quas (w : World) (v : Value) (ts : List Qua) : Prop := Slc Qua.enc 4 w v ts
theorem c2p (t : Qua) : t.enc.length = 4 := rfl
def nmA (k : Nat) : List UInt8 := [UInt8.ofNat (97 + k)]
def nmZ (k : Nat) : List UInt8 := [UInt8.ofNat (if k < 6 then 97 + k else 106 + k)]
def namN (k : Nat) (t : Duo) : Nmd := ⟨nmA k, 1 + (t.a : Int) % 4, enc3 (a2u t.b)⟩
def namF : Nat -> List Duo -> List Nmd
 | _, [] => []
 | k, t :: ts => namN k t :: namF (k + 1) ts
def a5r (ts : List Duo) : List Nmd := namF 0 (ts.take 8)
theorem b8t : ∀ (ts : List Duo) (k : Nat), (namF k ts).length = ts.length
 | [], _ => rfl
 | _ :: ts, k => by rw [namF, List.length_cons, b8t ts (k + 1), List.length_cons]
theorem c0z : ∀ (ts : List Duo) (k : Nat) (t : Duo), namF k (ts ++ [t]) = namF k ts ++ [namN (k + ts.length) t]
 | [], k, t => by simp [namF]
 | u :: ts, k, t => by
  rw [List.cons_append, namF, c0z ts (k + 1) t, namF, List.cons_append, List.length_cons, show k + 1 + ts.length = k + (ts.length + 1) by omega]
theorem c6r {ts : List Duo} {k : Nat} {t : Duo} (h : ts[k]? = some t) : namF 0 (ts.take (k + 1)) = namF 0 (ts.take k) ++ [namN k t] := by
 have hl := (List.getElem?_eq_some_iff.1 h).1
 rw [a4e h, c0z, Nat.zero_add, List.length_take, Nat.min_eq_left (by omega)]
theorem c4x : ∀ (ts : List Duo) (k : Nat) (x : Nmd), x ∈ namF k ts -> ∃ j t, x = namN j t /\ t ∈ ts
 | [], _, x, h => by simp [namF] at h
 | u :: ts, k, x, h => by
  rw [namF] at h
  rcases List.mem_cons.1 h with rfl | h
  ·exact ⟨k, u, rfl, List.mem_cons_self ..⟩
  obtain ⟨j, t, h1, h2⟩ := c4x ts (k + 1) x h
  exact ⟨j, t, h1, List.mem_cons_of_mem _ h2⟩
theorem c9k {ts : List Duo} {x : Nmd} (h : x ∈ a5r ts) : ∃ j t, x = namN j t /\ t ∈ ts := by
 obtain ⟨j, t, h1, h2⟩ := c4x _ _ _ h
 exact ⟨j, t, h1, List.mem_of_mem_take h2⟩
theorem a9r (ts : List Duo) : (a5r ts).length <= 8 := by
 unfold a5r
 rw [b8t, List.length_take]; omega
def memZ (x : Qua) (k : Nat) : List UInt8 := nmZ (x.c / 16 ^ k % 16 % 9)
def a9a (x : Qua) (n : Nat) : List (List UInt8) := (List.range n).map (memZ x)
def clsN (x : Qua) : Cls :=
 if x.a % 4 = 0 then ⟨1, nmZ (6 + x.b % 3), [], a9a x (1 + x.d % 3), a6e, 0⟩
 else if x.a % 4 = 1 then ⟨2, nmZ (x.b % 9), nmZ (x.c % 9), [], a6e, 0⟩
 else if x.a % 4 = 2 then ⟨3, nmZ (x.b % 6), [], [], enc3 (a2u x.c), 0⟩
 else ⟨4, nmZ (x.b % 9), [], [], a6e, 0⟩
def a3c (xs : List Qua) : List Cls := (xs.take 10).map clsN
theorem a6u (xs : List Qua) : (a3c xs).length <= 10 := by
 unfold a3c
 rw [List.length_map, List.length_take]; omega
theorem c6u (x : Qua) (n : Nat) : a9a x (n + 1) = a9a x n ++ [memZ x n] := by
 unfold a9a
 rw [List.range_succ, List.map_append]; rfl
theorem a7n (x : Qua) (n : Nat) : (a9a x n).length = n := by
 unfold a9a
 rw [List.length_map, List.length_range]
theorem c1n {xs : List Qua} {k : Nat} {x : Qua} (h : xs[k]? = some x) : (xs.take (k + 1)).map clsN = (xs.take k).map clsN ++ [clsN x] := by
 rw [a4e h, List.map_append]; rfl
theorem nmA_len (k : Nat) : (nmA k).length = 1 := rfl
theorem b1c (k : Nat) : (nmZ k).length = 1 := rfl
theorem c5n {q : Rat} (h : Sized 8 q) : (enc3 q).a.length <= 17179869184 /\ (enc3 q).b.length <= 17179869184 := by
 unfold enc3
 dsimp only
 exact ⟨Nat.le_trans h.num (by decide), Nat.le_trans h.denom (by decide)⟩
theorem clsN_fit {x : Qua} (hx : x.ok) : (clsN x).name.length <= 9223372036854775807 /\ (clsN x).other.length <= 9223372036854775807 /\ (clsN x).list.length <= 1000 /\ (∀ s ∈ (clsN x).list, s.length <= 9223372036854775807) /\ (clsN x).am.a.length <= 17179869184 /\ (clsN x).am.b.length <= 17179869184 := by
 have hc := c5n (b0e hx.2.2.1)
 unfold clsN
 split
 ·refine ⟨(by dsimp only; rw [b1c]; decide), (Nat.zero_le _), (by dsimp only; rw [a7n]; omega), fun s hs => ?_, (Nat.zero_le _), (Nat.zero_le _)⟩
  dsimp only at hs
  unfold a9a at hs
  obtain ⟨k, _, rfl⟩ := List.mem_map.1 hs
  unfold memZ
  rw [b1c]; decide
 split
 ·exact ⟨(by dsimp only; rw [b1c]; decide), (by dsimp only; rw [b1c]; decide), (Nat.zero_le _), (fun s hs => by cases hs), (Nat.zero_le _), (Nat.zero_le _)⟩
 split
 ·exact ⟨(by dsimp only; rw [b1c]; decide), (Nat.zero_le _), (Nat.zero_le _), (fun s hs => by cases hs), hc.1, hc.2⟩
 exact ⟨(by dsimp only; rw [b1c]; decide), (Nat.zero_le _), (Nat.zero_le _), (fun s hs => by cases hs), (Nat.zero_le _), (Nat.zero_le _)⟩
theorem b5p {ts : List Duo} {xs : List Qua} (h1 : ∀ t ∈ ts, t.ok) (h2 : ∀ x ∈ xs, x.ok) : Fit (a5r ts) (a3c xs) := by
 refine ⟨Nat.le_trans (a9r ts) (by decide), Nat.le_trans (a6u xs) (by decide), fun x hx => ?_, fun x hx => ?_⟩
 ·obtain ⟨j, t, rfl, ht⟩ := c9k hx
  have hc := c5n (b0e (h1 t ht).2)
  exact ⟨(by show (nmA j).length <= _; rw [nmA_len]; decide), hc.1, hc.2⟩
 unfold a3c at hx
 obtain ⟨y, hy, rfl⟩ := List.mem_map.1 hx
 exact clsN_fit (h2 y (List.mem_of_mem_take hy))
theorem Comp.okay {cl : List Nmd} {l : List Cls} {R : List Int} {A : List (List (List Prt))} {i : Nat} (h : Comp cl l R A i 0) : a1y cl = 0 /\ l.length <= 64 /\ Okay cl l /\ Ranks cl l l.length R /\ Agrs cl l A := by
 rcases h with ⟨h1, _, _, _, h2⟩ | ⟨_, _, _, _, _, h2⟩ | ⟨_, _, _, _, s, hs, _, hf⟩ | ⟨h1, h2, hp, _, _, hr, ha⟩
 ·exact absurd h2.symm h1
 ·cases h2
 ·exact absurd rfl hf.2.1
 exact ⟨h1, h2, passes_iff.1 hp, hr, ha⟩
theorem Comp.bad {cl : List Nmd} {l : List Cls} {R : List Int} {A : List (List (List Prt))} {i : Nat} {e : Int} (h : Comp cl l R A i e) (he : e ≠ 0) : R = [] /\ A = [] := by
 rcases h with ⟨_, h1, h2, _⟩ | ⟨_, _, h1, h2, _⟩ | ⟨_, _, h1, h2, _⟩ | ⟨_, _, _, _, h0, _⟩
 ·exact ⟨h1, h2⟩
 ·exact ⟨h1, h2⟩
 ·exact ⟨h1, h2⟩
 exact absurd h0 he
theorem b9s {cl : List Nmd} {l : List Cls} {R : List Int} {i : Nat} {c : Nmd} {r : Int} (h : Okay cl l) (hr : Ranks cl l l.length R) (hc : cl[i]? = some c) (hR : R[i]? = some r) : (r = c.rank \/ r = 4) /\ c.rank <= r /\ (c.rank <= 1 -> r = c.rank) := by
 by_cases hp : ∃ (j : Nat) (x : Cls), j < l.length /\ l[j]? = some x /\ x.kind = 4 /\ Den cl l x.name i
 ·have h1 := (hr.2 i c r hc hR).1 hp
  refine ⟨by omega, by omega, fun h2 => ?_⟩
  obtain ⟨j, x, _, hx, hk, hd⟩ := hp
  exact absurd ⟨i, c, hd, hc, h2⟩ (h.sub x (List.mem_of_getElem? hx) hk)
 have h1 := (hr.2 i c r hc hR).2 hp
 exact ⟨.inl h1, by omega, fun _ => h1⟩
theorem c2b {cl : List Nmd} {l : List Cls} {i j k : Nat} {c : Nmd} (h : Okay cl l) (hc : cl[i]? = some c) (h1 : c.rank <= 1) : ¬ Rel cl l k j i := by
 rintro ⟨m, x, _, hx, hk, _, hd⟩
 exact h.bef x (List.mem_of_getElem? hx) hk ⟨i, c, hd, hc, h1⟩
theorem list8r {α : Type} {l : List α} (h : l.length = 8) : ∃ a b c d e f g i, l = [a, b, c, d, e, f, g, i] := by
 match l, h with
 | [a, b, c, d, e, f, g, i], _ => exact ⟨a, b, c, d, e, f, g, i, rfl⟩
theorem list6r {α : Type} {l : List α} (h : l.length = 6) : ∃ a b c d e f, l = [a, b, c, d, e, f] := by
 match l, h with
 | [a, b, c, d, e, f], _ => exact ⟨a, b, c, d, e, f, rfl⟩
def d1c (s : List UInt8) : Prop := s.length <= 9223372036854775807
def CRowG (W : World) (r : CRow) : Prop := a6d W r.v r.c.list /\ ∀ s ∈ r.c.list, s.length <= 9223372036854775807
theorem d0p {W : World} {rs : List CRow} (h : ∀ r ∈ rs, CRowG W r) : ∀ x ∈ rs.map (·.c), ∀ s ∈ x.list, s.length <= 9223372036854775807 := by
 intro x hx
 obtain ⟨r, hr, rfl⟩ := List.mem_map.1 hx
 exact (h r hr).2
section
variable {H : Type} {enc : TypeId × Value -> H} {W : World} {base : Nat} {sp : Nat -> Bool} {held : Bool}
theorem a8h : Tryz.prog.cellsOf 94 = 2 := by kernel_rfl
theorem b9d {n : Nat} {cs : List Value} {y : DataW H × List MemPlace} (h : DataW.trod enc Tryz.prog W base sp held n 94 cs = some y) : ∃ t : Duo, cs = t.enc /\ t.ok := by
 obtain ⟨xs, m, rfl, hx, hl, hxl, hf⟩ := DataW.trod_array Tryz.underlying94 h
 rw [a8h] at hl
 obtain ⟨c0, c1, rfl⟩ := list2 hl
 obtain ⟨y0, y1, rfl⟩ := list2 (show xs.length = 2 from hxl)
 have h0 := hf 0 (by decide)
 have h1 := hf 1 (by decide)
 rw [c1p] at h0 h1
 obtain ⟨a, e0, _, w0⟩ := DataW.trod_int Tryz.underlying65 (show DataW.trod enc Tryz.prog W base sp held m 65 [c0] = some y0 from h0)
 obtain ⟨b, e1, _, w1⟩ := DataW.trod_int Tryz.underlying65 (show DataW.trod enc Tryz.prog W base sp held m 65 [c1] = some y1 from h1)
 injection e0 with e0
 injection e1 with e1
 subst e0; subst e1
 obtain ⟨a0, a1⟩ := a5v w0
 obtain ⟨b0, b1⟩ := a5v w1
 refine ⟨⟨a.toNat, b.toNat⟩, ?_, ?_⟩
 ·unfold Duo.enc
  dsimp only
  rw [Int.toNat_of_nonneg a0, Int.toNat_of_nonneg b0]
 unfold Duo.ok
 dsimp only
 omega
theorem a8g : Tryz.prog.cellsOf 95 = 4 := by kernel_rfl
theorem b9c {n : Nat} {cs : List Value} {y : DataW H × List MemPlace} (h : DataW.trod enc Tryz.prog W base sp held n 95 cs = some y) : ∃ t : Qua, cs = t.enc /\ t.ok := by
 obtain ⟨xs, m, rfl, hx, hl, hxl, hf⟩ := DataW.trod_array Tryz.underlying95 h
 rw [a8g] at hl
 obtain ⟨c0, c1, c2, c3, rfl⟩ := list4 hl
 obtain ⟨y0, y1, y2, y3, rfl⟩ := list4 (show xs.length = 4 from hxl)
 have h0 := hf 0 (by decide)
 have h1 := hf 1 (by decide)
 have h2 := hf 2 (by decide)
 have h3 := hf 3 (by decide)
 rw [c1p] at h0 h1 h2 h3
 obtain ⟨a, e0, _, w0⟩ := DataW.trod_int Tryz.underlying65 (show DataW.trod enc Tryz.prog W base sp held m 65 [c0] = some y0 from h0)
 obtain ⟨b, e1, _, w1⟩ := DataW.trod_int Tryz.underlying65 (show DataW.trod enc Tryz.prog W base sp held m 65 [c1] = some y1 from h1)
 obtain ⟨c, e2, _, w2⟩ := DataW.trod_int Tryz.underlying65 (show DataW.trod enc Tryz.prog W base sp held m 65 [c2] = some y2 from h2)
 obtain ⟨d, e3, _, w3⟩ := DataW.trod_int Tryz.underlying65 (show DataW.trod enc Tryz.prog W base sp held m 65 [c3] = some y3 from h3)
 injection e0 with e0
 injection e1 with e1
 injection e2 with e2
 injection e3 with e3
 subst e0; subst e1; subst e2; subst e3
 obtain ⟨a0, a1⟩ := a5v w0
 obtain ⟨b0, b1⟩ := a5v w1
 obtain ⟨c0, c1⟩ := a5v w2
 obtain ⟨d0, d1⟩ := a5v w3
 refine ⟨⟨a.toNat, b.toNat, c.toNat, d.toNat⟩, ?_, ?_⟩
 ·unfold Qua.enc
  dsimp only
  rw [Int.toNat_of_nonneg a0, Int.toNat_of_nonneg b0, Int.toNat_of_nonneg c0, Int.toNat_of_nonneg d0]
 unfold Qua.ok
 dsimp only
 omega
theorem dec_strE {n : Nat} {cs : List Value} {y : DataW H × List MemPlace} (h : DataW.trod enc Tryz.prog W base sp held n 9 cs = some y) : ∃ s : List UInt8, cs = strE s /\ d1c s := by
 obtain ⟨s0, e0, _, l0⟩ := DataW.trod_string Tryz.underlying9 h
 exact ⟨s0.data.toList, e0, by unfold d1c; rw [a0u]; exact l0⟩
theorem b2a : Tryz.prog.cellsOf 61 = 8 := by kernel_rfl
theorem c7e : Tryz.prog.cellsOf 59 = 1 := by kernel_rfl
theorem dec_crow {n : Nat} {cs : List Value} {y : DataW H × List MemPlace} (h : DataW.trod enc Tryz.prog W 0 (fun _ => true) held n 61 cs = some y) : ∃ q : CRow, cs = q.enc /\ CRowG W q := by
 obtain ⟨xs, m, rfl, hx, hl, hxl, hf⟩ := DataW.trod_struct Tryz.underlying61 h
 rw [b2a] at hl
 obtain ⟨c0, c1, c2, c3, c4, c5, c6, c7, rfl⟩ := list8r hl
 obtain ⟨y0, y1, y2, y3, y4, y5, rfl⟩ := list6r (show xs.length = 6 from hxl)
 have h0 := hf 0 _ rfl
 have h1 := hf 1 _ rfl
 have h2 := hf 2 _ rfl
 have h3 := hf 3 _ rfl
 have h4 := hf 4 _ rfl
 have h5 := hf 5 _ rfl
 simp only [List.getElem_toArray, List.getElem_cons_zero, List.getElem_cons_succ] at h0 h1 h2 h3 h4 h5
 rw [c1q] at h0 h5
 rw [b0c] at h1 h2
 rw [c7e] at h3
 rw [b5j] at h4
 obtain ⟨a, e0, _, _⟩ := DataW.trod_int Tryz.underlying3 (show DataW.trod enc Tryz.prog W 0 (fun _ => true) held m 3 [c0] = some y0 from h0)
 obtain ⟨s1, e1, _, _⟩ := DataW.trod_string Tryz.underlying9 (show DataW.trod enc Tryz.prog W 0 (fun _ => true) held m 9 [c1] = some y1 from h1)
 obtain ⟨s2, e2, _, _⟩ := DataW.trod_string Tryz.underlying9 (show DataW.trod enc Tryz.prog W 0 (fun _ => true) held m 9 [c2] = some y2 from h2)
 obtain ⟨v, l, e3, hs, hs2⟩ := a4h ([] : List UInt8) d1c Tryz.underlying59 (by decide) b0c a2c (fun n cs' y h => dec_strE h) (show DataW.trod enc Tryz.prog W 0 (fun _ => true) held m 59 [c3] = some y3 from h3)
 obtain ⟨neg, num, den, e4, _, _⟩ := d0m (show DataW.trod enc Tryz.prog W 0 (fun _ => true) held m 48 [c4, c5, c6] = some y4 from h4)
 obtain ⟨b, e5, _, _⟩ := DataW.trod_int Tryz.underlying3 (show DataW.trod enc Tryz.prog W 0 (fun _ => true) held m 3 [c7] = some y5 from h5)
 injection e0 with e0
 injection e1 with e1
 injection e2 with e2
 injection e3 with e3
 injection e5 with e5
 unfold b8a at e4
 simp only [List.cons.injEq, and_true] at e4
 obtain ⟨rfl, rfl, rfl⟩ := e4
 subst e0; subst e1; subst e2; subst e3; subst e5
 exact ⟨⟨⟨a, s1.data.toList, s2.data.toList, l, ⟨neg, num, den⟩, b⟩, c3⟩, rfl, hs, hs2⟩
end
end Go.Proofs.YtgdhpghfojccaaaGreatDoor
