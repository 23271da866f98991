/-
Part 26 of the base.
-/
import Derived.Deep.AppendLies
import Derived.Test.YtoighiepglclkaaGreatDoorKf18
import Derived.IntWalk
set_option maxRecDepth 100000
namespace Go.Proofs.YtoighiepglclkaaGreatDoor
open Go.RowKit
theorem b9d : (Tryz.prog.info? 52).map (fun i => (i.zero, i.size, i.bytes)) = some (some (.agg #[.string ⟨#[]⟩, .int .i64 0, .bool false, .string ⟨#[]⟩, .string ⟨#[]⟩]), 5, 64) := by kernel_rfl
theorem c1z (q : Quo) : ∀ u ∈ q.enc, u.oneCell' = true := by
 intro u hu
 unfold Quo.enc at hu
 simp only [List.mem_cons, List.mem_nil_iff, or_false] at hu
 rcases hu with rfl | rfl | rfl | rfl | rfl <;> rfl
structure Tri where
 a : Nat
 b : Nat
 c : Nat
def Tri.enc (t : Tri) : List Value := [.int .u16 (t.a : Nat), .int .u16 (t.b : Nat), .int .u16 (t.c : Nat)]
def Tri.ok (t : Tri) : Prop := t.a <= 65535 /\ t.b <= 65535 /\ t.c <= 65535
abbrev Tris (w : World) (v : Value) (ts : List Tri) : Prop := Slc Tri.enc 3 w v ts
theorem tri_len (t : Tri) : t.enc.length = 3 := rfl
def usdL : List UInt8 := [85, 83, 68]
def gbpL : List UInt8 := [71, 66, 80]
def jpyL : List UInt8 := [74, 80, 89]
def eurL : List UInt8 := [69, 85, 82]
def a8y (k : Nat) : List UInt8 := if k = 0 then usdL else if k = 1 then gbpL else jpyL
def triQ (t : Tri) : Quo := ⟨a8y (t.a % 3), ((t.b % 40 : Nat) : Int), negB (mkRat (1 + (t.c : Int) % 30) (1 + t.c / 30 % 9)), numB (mkRat (1 + (t.c : Int) % 30) (1 + t.c / 30 % 9)), a0a (mkRat (1 + (t.c : Int) % 30) (1 + t.c / 30 % 9))⟩
def addQ (out : List Quo) (t : Tri) : List Quo := if out.any (a7b (triQ t)) then out else out ++ [triQ t]
def a7d (ts : List Tri) : List Quo := (ts.take 8).foldl addQ []
theorem c0j {ts : List Tri} {i : Nat} {t : Tri} (h : ts[i]? = some t) : (ts.take (i + 1)).foldl addQ [] = addQ ((ts.take i).foldl addQ []) t := by
 rw [b2p h, List.foldl_append]; rfl
theorem addQ_len (out : List Quo) (t : Tri) : (addQ out t).length <= out.length + 1 := by
 unfold addQ
 split
 ·omega
 rw [List.length_append]; simp
theorem b9k : ∀ (rest pre : List Quo) (q : Quo), a1j pre (rest ++ [q]) = if a1j pre rest = 0 then qErr (pre ++ rest) q else a1j pre rest
 | [], pre, q => by
  rw [List.append_nil]
  show (if qErr pre q = 0 then 0 else qErr pre q) = _
  rw [a1j, if_pos rfl]
  split <;> simp_all
 | p :: rest, pre, q => by
  rw [List.cons_append, a1j, a1j]
  by_cases h : qErr pre p = 0
  ·rw [if_pos h, if_pos h, b9k rest (pre ++ [p]) q, List.append_assoc]; rfl
  rw [if_neg h, if_neg h, if_neg h]
theorem fold_len (ts : List Tri) : (ts.foldl addQ []).length <= ts.length := by
 induction ts using b5m with
 | h0 => exact Nat.le_refl _
 | h1 l t ih =>
  rw [List.foldl_append, List.length_append]
  show (addQ (l.foldl addQ []) t).length <= l.length + 1
  have := addQ_len (l.foldl addQ []) t
  omega
theorem c9m {n : Int} {d : Nat} (hn : 0 < n) (hd : d ≠ 0) : 0 < (mkRat n d).num := by
 rw [<- Rat.normalize_eq_mkRat hd, Rat.num_normalize]
 exact Int.ediv_pos_of_pos_of_dvd hn (by omega) (Int.ofNat_dvd_left.2 (Nat.gcd_dvd_left _ _))
def triR (t : Tri) : Rat := mkRat (1 + (t.c : Int) % 30) (1 + t.c / 30 % 9)
theorem triQ_rat (t : Tri) : (triQ t).rat = triR t := a6y _
theorem triQ_pos (t : Tri) : posQ (triQ t) = true := by
 unfold posQ
 rw [triQ_rat]
 exact decide_eq_true (c9m (by omega) (by omega))
theorem b8f {t : Tri} (h : t.ok) : Sized 8 (triR t) := by
 refine a6s (by omega) ?_ ?_
 ·refine a0s _ _ ?_
  have : (256 : Nat) ^ 8 = 18446744073709551616 := by decide
  have := h.2.2
  omega
 refine a0s _ _ ?_
 have : (256 : Nat) ^ 8 = 18446744073709551616 := by decide
 have := h.2.2
 omega
theorem d1b (k : Nat) : (a8y k).length = 3 := by unfold a8y; split <;> (try split) <;> rfl
theorem code3_is (k : Nat) : a1u (a8y k) = true := by unfold a8y; split <;> (try split) <;> decide
theorem d1c (k : Nat) : (a8y k == eur) = false := by unfold a8y; split <;> (try split) <;> decide
theorem triQ_ok {t : Tri} (h : t.ok) : (triQ t).ok := by
 have hs := b8f h
 refine ⟨?_, ?_, ?_, ?_, ?_⟩
 ·show (a8y (t.a % 3)).length <= _
  rw [d1b]; decide
 ·have := hs.num
  show (numB (triR t)).length <= _
  omega
 ·have := hs.denom
  show (a0a (triR t)).length <= _
  omega
 ·show _ <= ((t.b % 40 : Nat) : Int)
  omega
 show ((t.b % 40 : Nat) : Int) <= _
 omega
theorem d0u (ts : List Tri) (h : ∀ t ∈ ts, t.ok) : (∀ q ∈ ts.foldl addQ [], q.ok) /\ a1j [] (ts.foldl addQ []) = 0 /\ ∀ q ∈ ts.foldl addQ [], ∃ t, q = triQ t := by
 induction ts using b5m with
 | h0 => exact ⟨by simp, rfl, by simp⟩
 | h1 l t ih =>
  obtain ⟨h1, h2, h3⟩ := ih (fun x hx => h x (List.mem_append.2 (.inl hx)))
  have ht := h t (List.mem_append.2 (.inr (by simp)))
  rw [List.foldl_append]
  show (∀ q ∈ addQ (l.foldl addQ []) t, q.ok) /\ a1j [] (addQ (l.foldl addQ []) t) = 0 /\ ∀ q ∈ addQ (l.foldl addQ []) t, ∃ t, q = triQ t
  generalize l.foldl addQ [] = out at *
  unfold addQ
  split
  ·exact ⟨h1, h2, h3⟩
  rename_i hn
  have hn' : out.any (a7b (triQ t)) = false := by simpa using hn
  refine ⟨?_, ?_, ?_⟩
  ·intro q hq
   rcases List.mem_append.1 hq with hq | hq
   ·exact h1 q hq
   have : q = triQ t := by simpa using hq
   subst this; exact triQ_ok ht
  ·rw [b9k, h2, if_pos rfl, List.nil_append]
   exact b6b (code3_is _) (d1c _) (by
    show (decide (0 <= ((t.b % 40 : Nat) : Int)) && decide (((t.b % 40 : Nat) : Int) <= 1048576)) = true
    rw [decide_eq_true (by omega), decide_eq_true (by omega)]; rfl) (triQ_pos t) hn'
  intro q hq
  rcases List.mem_append.1 hq with hq | hq
  ·exact h3 q hq
  exact ⟨t, by simpa using hq⟩
set_option maxHeartbeats 4000000
theorem triQ_enc (t : Tri) : (triQ t).enc = [.string (bs (a8y (t.a % 3))), .int .i64 ((t.b : Int) % 40), .bool (negB (triR t)), .string (bs (numB (triR t))), .string (bs (a0a (triR t)))] := by
 show [Value.string (bs (a8y (t.a % 3))), .int .i64 ((t.b % 40 : Nat) : Int), .bool (negB (triR t)), .string (bs (numB (triR t))), .string (bs (a0a (triR t)))] = _
 rw [Int.natCast_emod]; rfl
theorem c5b (k : Nat) : (k % 3 = 0 /\ a8y (k % 3) = usdL /\ ((k : Int) % 3 = 0)) \/ (k % 3 = 1 /\ a8y (k % 3) = gbpL /\ ((k : Int) % 3 = 1)) \/ (k % 3 = 2 /\ a8y (k % 3) = jpyL /\ ((k : Int) % 3 = 2)) := by
 have h : k % 3 = 0 \/ k % 3 = 1 \/ k % 3 = 2 := by omega
 rcases h with h | h | h
 ·left; rw [h]; exact ⟨rfl, rfl, by omega⟩
 ·right; left; rw [h]; exact ⟨rfl, rfl, by omega⟩
 right; right; rw [h]; exact ⟨rfl, rfl, by omega⟩
theorem a8j (q : Quo) : q.enc.length = 5 := rfl
theorem Blk.set_ {w : World} {g : Nat} {cs : Array Value} {t : TypeId} (h : Blk w g cs t) (i : Nat) (v : Value) : Blk (w.setCell ⟨g, i, none⟩ v) g (cs.setIfInBounds i v) t := by
 unfold Blk at *
 simp [World.setCell, Array.getElem?_modify, h]
theorem c6c {w w' : World} {base : Nat} {e : TypeId} {size : Nat} {v : Value} {n : Nat} {xs : List Value} (h : w.ownsRow base e size v n xs) (hb : Below w.heap.size w w') : w'.ownsRow base e size v n xs := by
 refine ⟨h.1, ?_⟩
 rcases h.2 with ⟨rfl, h0⟩ | ⟨g, cap, cur, rfl, hbl, hg, hrest⟩
 ·exact .inl ⟨rfl, h0⟩
 exact .inr ⟨g, cap, cur, rfl, hbl, (hb.block g (h.lt g rfl).2).trans hg, hrest⟩
theorem b6j (v : Value) (ts : List Tri) (w : World) (h : Tris w v ts) (hok : ∀ t ∈ ts, t.ok) :
  Calls Tryz.prog 12 #[v] w fun e w' => ∃ v', e = .returned v' /\ w'.ownsRow w.heap.size 52 5 v' (a7d ts).length (flat Quo.enc (a7d ts)) /\ Below w.heap.size w w' := by
 obtain ⟨i0, hi0, hz0, hz1, hz2⟩ := info_parts b9d
 have HI := zh hi0
 have H := zh h
 have HOK := zh hok
 obtain ⟨A, c, rfl, hl, hc⟩ := h.slice
 clear h hok hi0
 go_enter Tryz.func12, Tryz.ntmps12
 go_wp2
 go_loopw [3, 4] (fun l i wr => ∃ (k n : Nat), k <= ts.length /\ k <= 8 /\ i = .int .i64 k /\ n <= k /\ Hid (n = ((ts.take k).foldl addQ []).length) /\ wr.ownsRow w.heap.size 52 5 l n (flat Quo.enc ((ts.take k).foldl addQ [])) /\ Below w.heap.size w wr) (fun _ i _ => ts.length - (intOf i).toNat)
 case atStart => exact ⟨0, 0, Nat.zero_le _, Nat.zero_le _, rfl, Nat.le_refl _, rfl, ⟨rfl, .inl ⟨rfl, rfl⟩⟩, Below.refl _ _⟩
 case round =>
  obtain ⟨k, n, hk, hk8, rfl, hnk, hn, hown, hb⟩ := hrel
  have hown := hown
  have HOWN := zh hown
  have hsz := hb.size
  clear hown
  by_cases hlt : k < ts.length
  ·by_cases hlt8 : k < 8
   ·obtain ⟨b, o, t, rfl, hbb, ht, hx⟩ := H.out.at_ hlt
    obtain ⟨t1, t2, t3⟩ := HOK.out t (List.mem_of_getElem? ht)
    have x0 := hx wr hb 0 _ rfl
    rw [Nat.add_zero] at x0
    have x1 := hx wr hb 1 _ rfl
    have x2 := hx wr hb 2 _ rfl
    have hbr : b < wr.heap.size := Nat.lt_of_lt_of_le hbb hsz
    have R := fun W => b0g (1 + (t.c : Int) % 30) (1 + (t.c : Int) / 30 % 9) W (by omega) (by omega) (by omega) (by omega)
    rw [show (1 + (t.c : Int) / 30 % 9).toNat = 1 + t.c / 30 % 9 by omega] at R
    have henc := triQ_enc t
    have hfold := c0j ht
    obtain ⟨q, hq⟩ : ∃ q, q = triQ t := ⟨_, rfl⟩
    rw [<- hq] at henc
    have hadd : addQ ((ts.take k).foldl addQ []) t = if ((ts.take k).foldl addQ []).any (a7b q) then (ts.take k).foldl addQ [] else (ts.take k).foldl addQ [] ++ [q] := by rw [hq]; rfl
    rw [hadd] at hfold
    change ∀ W, Calls Tryz.prog _ _ _ (fun e w' => e = .returned (rat (triR t)) /\ _) at R
    generalize triR t = r at *
    unfold rat raw at R
    have HR := zh R
    have HENC := zh henc
    have HFOLD := zh hfold
    have HX := zh hx
    clear R henc hfold hx ht hq hadd
    obtain ⟨wo, hwo⟩ : ∃ wo : World, wo = wr := ⟨_, rfl⟩
    subst hwo
    go_wp2
    go_cut [5] (fun s5 wx => ∃ g : Nat, s5 = .pointer (some ⟨g, 0, none⟩) /\ wo.heap.size <= g /\ Hid (Blk wx g q.enc.toArray 52) /\ Hid (Below wo.heap.size wo wx))
    case first =>
     have hb' := zh hb
     have e1 : Int.tmod (t.a : Int) 3 = (t.a : Int) % 3 := Int.tmod_eq_emod_of_nonneg (by omega)
     have e2 : Int.tmod (t.b : Int) 40 = (t.b : Int) % 40 := Int.tmod_eq_emod_of_nonneg (by omega)
     have e3 : Int.tmod (t.c : Int) 30 = (t.c : Int) % 30 := Int.tmod_eq_emod_of_nonneg (by omega)
     have e4 : Int.tdiv (t.c : Int) 30 = (t.c : Int) / 30 := Int.tdiv_eq_ediv_of_nonneg (by omega)
     have e5 : Int.tmod ((t.c : Int) / 30) 9 = (t.c : Int) / 30 % 9 := Int.tmod_eq_emod_of_nonneg (by omega)
     have e6 : IntKind.i64.wrap (1 + (t.c : Int) % 30) = 1 + (t.c : Int) % 30 := IntWalk.i64_in _ (by omega)
     have e7 : IntKind.i64.wrap (1 + (t.c : Int) / 30 % 9) = 1 + (t.c : Int) / 30 % 9 := IntWalk.i64_in _ (by omega)
     have e8 : IntKind.i64.wrap ((t.c : Int) / 30 % 9) = (t.c : Int) / 30 % 9 := IntWalk.i64_in _ (by omega)
     have e9 : IntKind.i64.wrap ((t.c : Int) % 30) = (t.c : Int) % 30 := IntWalk.i64_in _ (by omega)
     have e10 : IntKind.i64.wrap ((t.b : Int) % 40) = (t.b : Int) % 40 := IntWalk.i64_in _ (by omega)
     have e11 : IntKind.u16.wrap ((t.c : Int) / 30) = (t.c : Int) / 30 := by rw [IntKind.wrap_u16]; omega
     have e12 : ((k : Nat) : Int) < (ts.length : Int) := by omega
     have e13 : (0 : Int) <= ((k : Nat) : Int) := by omega
     have e14 : (t.a : Int) % 3 < 3 := by omega
     have e15 : 0 <= (t.a : Int) % 3 := by omega
     have hsel : (#[Value.string ⟨#[85, 83, 68]⟩, .string ⟨#[71, 66, 80]⟩, .string ⟨#[74, 80, 89]⟩] : Array Value)[t.a % 3]? = some (.string (bs (a8y (t.a % 3)))) := by
      rcases c5b t.a with ⟨ha, hcd, _⟩ | ⟨ha, hcd, _⟩ | ⟨ha, hcd, _⟩ <;> (rw [hcd, ha]; rfl)
     refine a0d 36 [fun w v => ∃ g, v = .slice (some ⟨g, 0, none⟩) 3 3 /\ ∃ T, Blk w g #[.string ⟨#[85, 83, 68]⟩, .string ⟨#[71, 66, 80]⟩, .string ⟨#[74, 80, 89]⟩] T, fun _ v => v = .slice (some ⟨b, o, none⟩) ts.length c, fun _ v => v = .int .i64 (k : Nat), fun _ v => v = .pointer (some ⟨b, o + k * 3, none⟩), fun _ v => v = .pointer (some ⟨b, o + k * 3, none⟩), fun _ v => v = .int .u16 (t.a : Nat), fun _ v => v = .int .u16 ((t.a : Int) % 3), fun w v => ∃ g, v = .pointer (some ⟨g, t.a % 3, none⟩) /\ ∃ T, Blk w g #[.string ⟨#[85, 83, 68]⟩, .string ⟨#[71, 66, 80]⟩, .string ⟨#[74, 80, 89]⟩] T, fun _ v => v = .string (bs (a8y (t.a % 3))), fun _ v => v = .slice (some ⟨b, o, none⟩) ts.length c, fun _ v => v = .int .i64 (k : Nat), fun _ v => v = .pointer (some ⟨b, o + k * 3, none⟩), fun _ v => v = .pointer (some ⟨b, o + k * 3 + 1, none⟩), fun _ v => v = .int .u16 (t.b : Nat), fun _ v => v = .int .u16 ((t.b : Int) % 40), fun _ v => v = .int .i64 ((t.b : Int) % 40), fun _ v => v = .slice (some ⟨b, o, none⟩) ts.length c, fun _ v => v = .int .i64 (k : Nat), fun _ v => v = .pointer (some ⟨b, o + k * 3, none⟩), fun _ v => v = .pointer (some ⟨b, o + k * 3 + 2, none⟩), fun _ v => v = .int .u16 (t.c : Nat), fun _ v => v = .int .u16 ((t.c : Int) % 30), fun _ v => v = .int .i64 ((t.c : Int) % 30), fun _ v => v = .int .i64 (1 + (t.c : Int) % 30), fun _ v => v = .slice (some ⟨b, o, none⟩) ts.length c, fun _ v => v = .int .i64 (k : Nat), fun _ v => v = .pointer (some ⟨b, o + k * 3, none⟩), fun _ v => v = .pointer (some ⟨b, o + k * 3 + 2, none⟩), fun _ v => v = .int .u16 (t.c : Nat), fun _ v => v = .int .u16 ((t.c : Int) / 30), fun _ v => v = .int .u16 ((t.c : Int) / 30 % 9), fun _ v => v = .int .i64 ((t.c : Int) / 30 % 9), fun _ v => v = .int .i64 (1 + (t.c : Int) / 30 % 9), fun _ v => v = .agg #[.bool (negB r), .string (bs (numB r)), .string (bs (a0a r))], fun _ v => v = .agg #[.string (bs (a8y (t.a % 3))), .int .i64 ((t.b : Int) % 40), .bool (negB r), .string (bs (numB r)), .string (bs (a0a r))], fun w v => ∃ g, v = .pointer (some ⟨g, 0, none⟩) /\ wo.heap.size <= g /\ Blk w g #[.string ⟨#[]⟩, .int .i64 0, .bool false, .string ⟨#[]⟩, .string ⟨#[]⟩] 52] rfl (by kernel_rfl) (by kernel_rfl) (by kernel_rfl) ⟨fun _ _ _ ⟨g, e, T, h⟩ hb => ⟨g, e, T, h.below hb h.lt⟩, pP, pP, pP, pP, pP, pP, fun _ _ _ ⟨g, e, T, h⟩ hb => ⟨g, e, T, h.below hb h.lt⟩, pP, pP, pP, pP, pP, pP, pP, pP, pP, pP, pP, pP, pP, pP, pP, pP, pP, pP, pP, pP, pP, pP, pP, pP, pP, pP, pP, fun _ _ _ ⟨g, e, hg, h⟩ hb => ⟨g, e, hg, h.below hb h.lt⟩, trivial⟩ ?_ ?_
     refine ⟨?_, ?_, ?_, ?_, ?_, ?_, ?_, ?_, ?_, ?_, ?_, ?_, ?_, ?_, ?_, ?_, ?_, ?_, ?_, ?_, ?_, ?_, ?_, ?_, ?_, ?_, ?_, ?_, ?_, ?_, ?_, ?_, ?_, ?_, ?_, ?_, trivial⟩ <;> (intro x a1 w1 hbx hev hev0 hd; have H := SH.mk hev hev0 hd; clear hev hev0 hd)
     ·clear H; go_wp2; exact StepQ.mk _ (Ext.alloc (Below.refl _ _) _) ⟨_, rfl, _, Blk.new _ _ _⟩
     ·have e0 := H.i 0; clear H; go_wp2; exact sR rfl
     ·have e4 := H.i 4; clear H; go_wp2; exact sR rfl
     ·have e20 := H.r 1 20; have e21 := H.r 2 21; clear H; go_wp2; exact sR rfl
     ·have e22 := H.r 3 22; clear H; go_wp2; exact sR rfl
     ·have e23 := H.r 4 23; clear H; have x0 := HX.out w1 (Ext.trans hb'.out hbx) 0 _ rfl; rw [Nat.add_zero] at x0; go_wp2; exact sR rfl
     ·have e24 := H.r 5 24; clear H; go_wp2; exact sR rfl
     ·have e19 := H.ev 0 _ 19 rfl rfl; have d0 := H.hd ⟨0, .data⟩ (by simp) rfl; have e25 := H.r 6 25; clear H; obtain ⟨g, hv, T, hB⟩ := d0; rw [hv] at e19; clear hv; go_wp2; exact StepQ.mk _ (Below.refl _ _) ⟨g, rfl, T, hB⟩
     ·have e26 := H.ev 7 _ 26 rfl rfl; have d7 := H.hd ⟨7, .data⟩ (by simp) rfl; clear H; obtain ⟨g, hv, T, hB⟩ := d7; rw [hv] at e26; have hc := hB.cell (t.a % 3) (.string (bs (a8y (t.a % 3)))) hsel; clear hv; go_wp2; exact sR rfl
     ·have e0 := H.i 0; clear H; go_wp2; exact sR rfl
     ·have e4 := H.i 4; clear H; go_wp2; exact sR rfl
     ·have e28 := H.r 9 28; have e29 := H.r 10 29; clear H; go_wp2; exact sR rfl
     ·have e30 := H.r 11 30; clear H; go_wp2; exact sR rfl
     ·have e31 := H.r 12 31; clear H; have x0 := HX.out w1 (Ext.trans hb'.out hbx) 1 _ rfl; go_wp2; exact sR rfl
     ·have e32 := H.r 13 32; clear H; go_wp2; exact sR rfl
     ·have e33 := H.r 14 33; clear H; go_wp2; exact sR rfl
     ·have e0 := H.i 0; clear H; go_wp2; exact sR rfl
     ·have e4 := H.i 4; clear H; go_wp2; exact sR rfl
     ·have e35 := H.r 16 35; have e36 := H.r 17 36; clear H; go_wp2; exact sR rfl
     ·have e37 := H.r 18 37; clear H; go_wp2; exact sR rfl
     ·have e38 := H.r 19 38; clear H; have x0 := HX.out w1 (Ext.trans hb'.out hbx) 2 _ rfl; go_wp2; exact sR rfl
     ·have e39 := H.r 20 39; clear H; go_wp2; exact sR rfl
     ·have e40 := H.r 21 40; clear H; go_wp2; exact sR rfl
     ·have e41 := H.r 22 41; clear H; go_wp2; exact sR rfl
     ·have e0 := H.i 0; clear H; go_wp2; exact sR rfl
     ·have e4 := H.i 4; clear H; go_wp2; exact sR rfl
     ·have e43 := H.r 24 43; have e44 := H.r 25 44; clear H; go_wp2; exact sR rfl
     ·have e45 := H.r 26 45; clear H; go_wp2; exact sR rfl
     ·have e46 := H.r 27 46; clear H; have x0 := HX.out w1 (Ext.trans hb'.out hbx) 2 _ rfl; go_wp2; exact sR rfl
     ·have e47 := H.r 28 47; clear H; go_wp2; exact sR rfl
     ·have e48 := H.r 29 48; clear H; go_wp2; exact sR rfl
     ·have e49 := H.r 30 49; clear H; go_wp2; exact sR rfl
     ·have e50 := H.r 31 50; clear H; go_wp2; exact sR rfl
     ·have e42 := H.r 23 42; have e51 := H.r 32 51; clear H
      go_wp2_with fail
      refine (HR.out _).mono ?_
      rintro e w2 ⟨rfl, hb2⟩; go_wp2; exact StepQ.mk _ hb2 rfl
     ·have e27 := H.r 8 27; have e34 := H.r 15 34; have e52 := H.r 33 52; clear H; go_wp2; exact sR rfl
     ·clear H; have hi0 := HI.out; have hs0 := hbx.size; go_wp2; exact StepQ.mk _ (Ext.alloc (Below.refl _ _) _) ⟨_, rfl, hs0, Blk.new _ _ _⟩
     intro x w2 hb2 hf
     obtain ⟨g, hg, hlg, hB⟩ := hf 35 (by decide)
     have hv : x 34 = _ := hf 34 (by decide)
     clear hf
     have hqe : q.enc = _ := HENC.out
     simp only [List.take, List.drop, a0r, Act.put]
     rw [hg, hv]
     clear hg hv
     have z0 := hB.cell 0 _ rfl
     have z1 := hB.cell 1 _ rfl
     have z2 := hB.cell 2 _ rfl
     have z3 := hB.cell 3 _ rfl
     have z4 := hB.cell 4 _ rfl
     have zf := fun i => hB.frozen i
     go_wp2
     go_meet
     case rel =>
      refine ⟨g, rfl, hlg, ?_, (((((hb2.setCell hlg _).setCell hlg _).setCell hlg _).setCell hlg _).setCell hlg _)⟩
      have h5 := ((((hB.set_ 0 (.string (bs (a8y (t.a % 3))))).set_ 1 (.int .i64 ((t.b : Int) % 40))).set_ 2 (.bool (negB r))).set_ 3 (.string (bs (numB r)))).set_ 4 (.string (bs (a0a r)))
      show Blk _ _ _ _
      rw [hqe]
      exact h5
    case rest =>
     obtain ⟨wx, hwx⟩ : ∃ wx : World, wx = wc := ⟨_, rfl⟩
     subst hwx
     obtain ⟨g, rfl, hg, hG, HW⟩ := hcut
     have hbx := hb.trans (HW.out.mono hsz)
     have hown := c6c HOWN.out HW.out
     have hnn := hn.out
     have hfd := HFOLD.out
     clear HOWN hn HFOLD x0 x1 x2 HENC HR
     generalize (ts.take k).foldl addQ [] = out at *
     subst hnn
     have hq2 := Slc.of_own a8j hown rfl
     have HOWN := zh hown
     have HFD := zh hfd
     have HBX := zh hbx
     have H2 := zh hq2
     obtain ⟨A', c', rfl, hl', hc'⟩ := hq2.slice
     clear hown hfd hbx
     have hsx : w.heap.size <= wx.heap.size := HBX.out.size
     go_wp2
     go_loopw [6, 56] (fun d j wy => ∃ j' : Nat, j' <= out.length /\ j = .int .i64 j' /\ d = .bool ((out.take j').any (a7b q)) /\ Below wx.heap.size wx wy) (fun d j _ => out.length - (intOf j).toNat)
     case atStart => exact ⟨0, Nat.zero_le _, rfl, rfl, Below.refl _ _⟩
     case round =>
      obtain ⟨j, hj, rfl, rfl, hby⟩ := hrel
      have hG2 := hG.out.below hby hG.out.lt
      obtain ⟨d, hd⟩ : ∃ d, d = (out.take j).any (a7b q) := ⟨_, rfl⟩
      by_cases hlt2 : j < out.length
      ·obtain ⟨b2, o2, p, rfl, hbb2, hp, hy⟩ := H2.out.at_ hlt2
       have y0 := hy _ hby 0 _ rfl
       rw [Nat.add_zero] at y0
       have y1 := hy _ hby 1 _ rfl
       have y2 := hy _ hby 2 _ rfl
       have y3 := hy _ hby 3 _ rfl
       have y4 := hy _ hby 4 _ rfl
       have z0 := hG2.cell 0 (.string (bs q.code)) rfl
       have z1 := hG2.cell 1 (.int .i64 q.day) rfl
       have hgl := hG2.lt
       have hgn : ¬ g = wr.heap.size := by omega
       obtain ⟨sc, hsc⟩ : ∃ s, s = (p.code == q.code) := ⟨_, rfl⟩
       obtain ⟨sd, hsd⟩ : ∃ s, s = (p.day == q.day) := ⟨_, rfl⟩
       have fc : ((bs p.code).toList == (bs q.code).toList) = sc := by rw [a1q, a1q]; exact hsc.symm
       have fd : (p.day == q.day) = sd := hsd.symm
       have hsame : a7b q p = (sc && sd) := by unfold a7b; rw [hsc, hsd]
       have HTA := zh (c5j (f := a7b q) hp)
       have HSM := zh hsame
       have HD := zh hd
       rw [<- hd]
       clear hsc hsd hy hp hsame hd
       cases d <;> cases sc <;> cases sd
       all_goals
        go_wp2
        go_roundw
        case rel => exact ⟨j + 1, by omega, by go_num, by rw [HTA.out, <- HD.out, HSM.out]; rfl, Ext.alloc hby _⟩
        case measure => simp [intOf]; omega
      have hj' : j = out.length := by omega
      subst hj'
      rw [<- hd]
      rw [List.take_length] at hd
      have hfd := HFD.out
      rw [<- hd] at hfd
      have HFE := zh hfd
      have hbz := HBX.out.trans (hby.mono hsx)
      have hown2 := c6c HOWN.out hby
      have hsz2 := hbz.size
      clear hfd hd
      cases d
      ·have hfe : (ts.take (k + 1)).foldl addQ [] = out ++ [q] := HFE.out
       have HFF := zh hfe
       have HQE : Hid (q.enc = [.string (bs q.code), .int .i64 q.day, .bool q.neg, .string (bs q.num), .string (bs q.den)]) := rfl
       have z0 := hG2.cell 0 (.string (bs q.code)) rfl
       have z1 := hG2.cell 1 (.int .i64 q.day) rfl
       have z2 := hG2.cell 2 (.bool q.neg) rfl
       have z3 := hG2.cell 3 (.string (bs q.num)) rfl
       have z4 := hG2.cell 4 (.string (bs q.den)) rfl
       clear HFE hfe
       go_wp2_with (at_builtin; refine c3m wr rfl _ _ 28 rfl w.heap.size 52 i0 _ 5 64 Tryz.underlying28 HI.out hz0 hz1 hz2 rfl (by decide) a8j _ out.length out rfl (by exact hown2) q _ ?c1 rfl (c1z _) (by unfold maxLen; omega) (by omega) hsz2 ?_)
       case c1 => rfl
       intro v2 w2 hown3 hb2
       go_wp2
       go_roundw
       case rel => exact ⟨k + 1, out.length + 1, by omega, by omega, by go_num, by omega, by show _ = _; rw [HFF.out, List.length_append]; rfl, by rw [HFF.out]; exact hown3, hbz.trans hb2⟩
       case measure => simp [intOf]; omega
      have hfe : (ts.take (k + 1)).foldl addQ [] = out := HFE.out
      have HFF := zh hfe
      clear HFE hfe
      go_wp2
      go_roundw
      case rel => exact ⟨k + 1, out.length, by omega, by omega, by go_num, by omega, by show _ = _; rw [HFF.out], by rw [HFF.out]; exact hown2, hbz⟩
      case measure => simp [intOf]; omega
   have hk' : k = 8 := by omega
   subst hk'
   go_wp2
   go_ret
   exact ⟨_, rfl, hn.out ▸ HOWN.out, hb⟩
  have hk' : k = ts.length := by omega
  subst hk'
  have ht8 : a7d ts = (ts.take ts.length).foldl addQ [] := by unfold a7d; rw [List.take_length, List.take_of_length_le hk8]
  go_wp2
  go_ret
  rw [ht8]
  exact ⟨_, rfl, hn.out ▸ HOWN.out, hb⟩
end Go.Proofs.YtoighiepglclkaaGreatDoor
