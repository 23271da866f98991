/-
Part 8 of the base.
-/
import Derived.Test.YtoighiepglclkaaGreatDoorKf7
import Derived.Test.YtoighiepglclkaaGreatDoorKf5
namespace Go.Proofs.YtoighiepglclkaaGreatDoor
open Go.RowKit
section
variable {P : Program} {ops : Array Oper} {Q : Exit -> Act -> World -> Prop} {l : List Oper} {a0 : Act} {w0 : World} {n : Nat}
theorem inv_J (hl : l.toArray = ops) (hB : invB ops n = true) (hD : a5y (l.take n) = true) (J : Array Bool -> (Nat -> Value) -> World -> Prop)
  (hstep : ∀ listed x w1 i o, l[i]? = some o -> i < n -> listed.size = ops.size -> listed.getD i true = false -> (∀ e ∈ o.after, Region.binds .any e = true -> listed.getD e.on true = true) -> J listed x w1 ->
   if Region.wanted o (yielded ops (a0r (l.take n) 0 x a0).tmps) then o.wp P (a0r (l.take n) 0 x a0) w1 (fun a' w2 => ∃ v, a' = (a0r (l.take n) 0 x a0).put o.dst v /\ J (listed.setIfInBounds i true) (upd x i v) w2) (fun _ _ _ => False) else ∃ v, (a0r (l.take n) 0 x a0).put o.dst undef = (a0r (l.take n) 0 x a0).put o.dst v /\ J (listed.setIfInBounds i true) (upd x i v) w1)
  (hend : ∀ x w1, J (b0s ops.size n) x w1 -> wpList P ops Q (l.drop n) (a0r (l.take n) 0 x a0) w1) :
  ∀ (m : Nat) (listed : Array Bool) (x : Nat -> Value) (w1 : World), HeadInv .any ops n listed -> (unl listed n).length = m -> J listed x w1 ->
   wpAny P .any ops Q (m + (ops.size - n)) listed (a0r (l.take n) 0 x a0) w1 := by
 simp only [invB, Bool.and_eq_true, decide_eq_true_eq] at hB
 obtain ⟨⟨⟨⟨hn, hs⟩, hc⟩, hseq⟩, hedge⟩ := hB
 have hsz : ops.size = l.length := by rw [<- hl]; simp
 intro m
 induction m with
 | zero =>
  intro listed x w1 inv hm hJ
  have hall : ∀ j, j < n -> listed.getD j true = true := by
   intro j hj
   cases hh : listed.getD j true with
   | true => rfl
   | false =>
    have : j ∈ unl listed n := mem_unl.2 ⟨hj, hh⟩
    rw [List.length_eq_zero_iff.1 hm] at this
    cases this
  have hcan : listed = b0s ops.size n := by
   apply Array.ext_getElem?
   intro j
   rcases Nat.lt_or_ge j ops.size with hj | hj
   ·have hj' : j < listed.size := by rw [inv.size]; exact hj
    unfold b0s
    rw [Array.getElem?_map, Array.getElem?_range, if_pos hj, Array.getElem?_eq_getElem hj']
    simp only [Option.map_some, Option.some.injEq]
    rcases Nat.lt_or_ge j n with h1 | h1
    ·have := hall j h1
     rw [Array.getD_eq_getD_getElem?, Array.getElem?_eq_getElem hj'] at this
     simpa [h1] using this
    have := inv.tail j h1 hj
    rw [Array.getD_eq_getD_getElem?, Array.getElem?_eq_getElem hj'] at this
    have h2 : decide (j < n) = false := decide_eq_false (by omega)
    rw [h2]; simpa using this
   rw [Array.getElem?_eq_none (by rw [inv.size]; exact hj), Array.getElem?_eq_none (by simp [b0s]; exact hj)]
  rw [Nat.zero_add]
  have hdl : (l.drop n).length = ops.size - n := by rw [List.length_drop, hsz]
  have := wpAny_of_seq (P := P) (ops := ops) (md := .any) (Q' := Q) (l.drop n) n listed (a0r (l.take n) 0 x a0) w1 (fun j => by rw [List.getElem?_drop, <- hl]; simp) (by rw [hdl, hcan]; exact hseq) (hend x w1 (hcan ▸ hJ))
  rwa [hdl] at this
 | succ m ih =>
  intro listed x w1 inv hm hJ
  have hex : ∃ j, j ∈ unl listed n := by
   cases hu : unl listed n with
   | nil => rw [hu] at hm; simp at hm
   | cons j _ => exact ⟨j, by simp⟩
  obtain ⟨j, hj⟩ := hex
  have hj' := mem_unl.1 hj
  have hready : Region.ready .any ops listed ≠ [] := by
   obtain ⟨k, hk, hmin⟩ : ∃ k, k ∈ unl listed n /\ ∀ k', k' < k -> k' ∉ unl listed n := by
    have : ∀ (b : Nat) (k : Nat), k <= b -> k ∈ unl listed n -> ∃ k, k ∈ unl listed n /\ ∀ k', k' < k -> k' ∉ unl listed n := by
     intro b
     induction b with
     | zero => intro k hk hmem; exact ⟨k, hmem, fun k' h => by omega⟩
     | succ b ihb =>
      intro k hk hmem
      by_cases hh : ∃ k', k' < k /\ k' ∈ unl listed n
      ·obtain ⟨k', h1, h2⟩ := hh; exact ihb k' (by omega) h2
      exact ⟨k, hmem, fun k' h1 h2 => hh ⟨k', h1, h2⟩⟩
    exact this j j (Nat.le_refl _) hj
   have hk' := mem_unl.1 hk
   have hkl : k < ops.size := by omega
   have hko : ops[k]? = some ops[k] := Array.getElem?_eq_getElem hkl
   have hmem : k ∈ Region.ready .any ops listed := by
    refine mem_ready.2 ⟨hk'.2, ops[k], hko, fun e he hbe => ?_⟩
    have h1 := List.all_eq_true.1 hedge k (List.mem_range.2 hk'.1)
    rw [hko] at h1
    have h2 := Array.all_eq_true'.1 h1 e he
    rw [hbe] at h2
    have h3 : e.on < k := by simpa using h2
    cases hh : listed.getD e.on false with
    | true => rfl
    | false =>
     have : e.on ∈ unl listed n := mem_unl.2 ⟨by omega, getD_in (by rw [inv.size]; omega) hh⟩
     exact absurd this (hmin _ h3)
   intro h0
   rw [h0] at hmem; cases hmem
  rw [show m + 1 + (ops.size - n) = (m + (ops.size - n)) + 1 by omega]
  refine ⟨fun h0 => absurd h0 hready, fun i hi => ?_⟩
  have hin : i < n := Nat.lt_of_not_le fun h => tail_waits hs hc hn inv _ j rfl hj'.1 hj'.2 i h hi
  obtain ⟨hiun, o, ho, hdeps⟩ := mem_ready.1 hi
  have hol : l[i]? = some o := by rw [<- hl] at ho; simpa using ho
  have hot : (l.take n)[i]? = some o := by rw [List.getElem?_take, if_pos hin]; exact hol
  have hstep' := hstep listed x w1 i o hol hin inv.size hiun (fun e he hbe => by
   have h1 := hdeps e he hbe
   cases hh : listed.getD e.on true with
   | true => rfl
   | false => rw [getD_both hh] at h1; cases h1) hJ
  have hnext : ∀ v w2, J (listed.setIfInBounds i true) (upd x i v) w2 -> wpAny P .any ops Q (m + (ops.size - n)) (listed.setIfInBounds i true) ((a0r (l.take n) 0 x a0).put o.dst v) w2 := by
   intro v w2 hv
   rw [b6r (l.take n) 0 i o x a0 v hD hot]
   refine ih _ _ w2 (inv.set hi hin) (by have := c8p (mem_unl.2 ⟨hin, (mem_unl.1 (by first | exact mem_unl.2 ⟨hin, hiun⟩)).2⟩); omega) ?_
   rw [Nat.zero_add]; exact hv
  unfold wpOp
  rw [ho]
  simp only []
  split
  ·rename_i hw
   rw [if_pos hw] at hstep'
   exact .inl (Oper.wp_none (Oper.wp_mono (fun a' w2 ⟨v, e, hv⟩ => by subst e; exact hnext v w2 hv) hstep'))
  rename_i hw
  rw [if_neg hw] at hstep'
  obtain ⟨v, e, hv⟩ := hstep'
  rw [e]
  exact hnext v w1 hv
end
theorem a6f {P : Program} {ops : Array Oper} {o : Oper} {a1 : Act} {w1 : World} {Y Y' : Value -> World -> Prop} (hY : ∀ v w2, Y v w2 -> Y' v w2)
  (h : wpList P ops (fun e a' w2 => e = .normal /\ ∃ v, a' = a1.put o.dst v /\ Y v w2) [o] a1 w1) :
  if Region.wanted o (yielded ops a1.tmps) then o.wp P a1 w1 (fun a' w2 => ∃ v, a' = a1.put o.dst v /\ Y' v w2) (fun _ _ _ => False) else ∃ v, a1.put o.dst undef = a1.put o.dst v /\ Y' v w1 := by
 unfold wpList at h
 split
 ·rename_i hw
  rw [if_pos hw] at h
  rcases h with h | ⟨_, a2, w2, h⟩
  ·exact Oper.wp_mono (fun a' w2 hh => by obtain ⟨_, v, e, hv⟩ := hh; exact ⟨v, e, hY v w2 hv⟩) (Oper.wp_only (fun e a w he hh => he hh.1) h)
  cases h.1
 rename_i hw
 rw [if_neg hw] at h
 obtain ⟨_, v, e, hv⟩ := h
 exact ⟨v, e, hY v w1 hv⟩
def StepQB (a1 : Act) (d : Option Tmp) (B : Nat) (w1 : World) (p : World -> Prop) (e : Exit) (a' : Act) (w2 : World) : Prop := e = .normal /\ ∃ v, a' = a1.put d v /\ Below B w1 w2 /\ p w2
theorem StepQB.mk {a1 : Act} {B : Nat} {w1 : World} {p : World -> Prop} {w2 : World} (hb : Below B w1 w2) (hv : p w2) : StepQB a1 none B w1 p .normal a1 w2 := ⟨rfl, undef, rfl, hb, hv⟩
def StepP (P : Program) (l : List Oper) (n : Nat) (V : List Value) (A B : Nat) (Z R : Array Value) (T : TypeId) (a : Act) (w : World) (i : Nat) (o : Oper) : Prop :=
 ∀ (x : Nat -> Value) (a1 : Act) (w1 : World), Below w.heap.size w w1 -> (∀ j o' t, (l.take n)[j]? = some o' -> o'.dst = some t -> a1.tmps[t]?.getD undef = x j) -> (∀ t, (l.take n).all (fun o => o.dst != some t) = true -> a1.tmps[t]?.getD undef = a.tmps[t]?.getD undef) ->
  (∀ e ∈ o.after, Region.binds .any e = true -> e.on ≠ A -> e.on ≠ B -> x e.on = V.getD e.on undef) ->
  if i = A then wpList P l.toArray (StepQ a1 o.dst w1 (fun w2 v => ∃ g, v = .pointer (some ⟨g, 0, none⟩) /\ w1.heap.size <= g /\ Blk w2 g Z T)) [o] a1 w1
  else if i = B then ∀ g, x A = .pointer (some ⟨g, 0, none⟩) -> w.heap.size <= g -> Blk w1 g Z T -> wpList P l.toArray (StepQB a1 o.dst w.heap.size w1 (fun w2 => Blk w2 g R T)) [o] a1 w1
  else wpList P l.toArray (StepQ a1 o.dst w1 (fun _ v => v = V.getD i undef)) [o] a1 w1
def depB (l : List Oper) (B A : Nat) : Bool := match l[B]? with | some o => o.after.any fun e => Region.binds .any e && decide (e.on = A) | none => false
theorem a3j {L : Array Bool} {i j : Nat} (h : i ≠ j) : (L.setIfInBounds i true).getD j true = L.getD j true := by
 simp [Array.getD_eq_getD_getElem?, h]
theorem a9b {L : Array Bool} {i : Nat} : (L.setIfInBounds i true).getD i true = true := by
 rcases Nat.lt_or_ge i L.size with h | h
 ·simp [Array.getD_eq_getD_getElem?, h]
 rw [Array.getD_eq_getD_getElem?, Array.getElem?_eq_none (by simpa using h)]; rfl
theorem a6c {P : Program} {id : Nat} {Q : Exit -> Act -> World -> Prop} {a : Act} {w : World} {l : List Oper} (n A B : Nat) (V : List Value) (Z R : Array Value) (T : TypeId) (hm : P.follows .mixedOrders = true) (hB : invB l.toArray n = true) (hD : a5y (l.take n) = true)
  (hS : (l.take n).all (fun o => match o.dst with | some d => decide (d < a.tmps.size) | none => true) = true) (hdep : depB l B A = true) (hAn : A < n) (hBn : B < n) (hAB : A ≠ B)
  (hstep : a8c (StepP P l n V A B Z R T a w) (l.take n) 0)
  (hend : ∀ x w1 g, Below w.heap.size w w1 -> (∀ i, i < n -> i ≠ A -> i ≠ B -> x i = V.getD i undef) -> x A = .pointer (some ⟨g, 0, none⟩) -> w.heap.size <= g -> Blk w1 g R T -> wpList P l.toArray Q (l.drop n) (a0r (l.take n) 0 x a) w1) : (Code.region id l.toArray true).wp P Q a w := by
 refine wp_region_any hm ?_
 obtain ⟨x0, hx0⟩ := a6q a (l.take n) 0
 have inv0 : HeadInv .any l.toArray n (Array.replicate l.toArray.size false) :=
  ⟨by simp, fun j oj _ hl => (by rw [getD_replicate_false] at hl; cases hl), fun t _ ht => getD_in (by simpa using ht) (getD_replicate_false _ _)⟩
 have hBs := hB
 simp only [invB, Bool.and_eq_true, decide_eq_true_eq] at hBs
 have hlen : n < l.toArray.size := hBs.1.1.1.1
 have hedge := hBs.2
 have hunl : (unl (Array.replicate l.toArray.size false) n).length = n := by
  unfold unl
  rw [List.filter_eq_self.2]
  ·simp
  intro j hj
  have hjn := List.mem_range.1 hj
  have : (Array.replicate l.toArray.size false).getD j true = false := getD_in (by simpa using Nat.lt_trans hjn (by simpa using hlen)) (getD_replicate_false _ _)
  rw [this]; rfl
 have hfalse : ∀ i, i < n -> (Array.replicate l.toArray.size false).getD i true = true -> False := fun i hi h => by
  rw [getD_in (by simpa using Nat.lt_trans hi (by simpa using hlen)) (getD_replicate_false _ _)] at h; cases h
 have hw : Below w.heap.size w { w with drawn := w.drawn + 1 } := ⟨rfl, rfl, rfl, Nat.le_refl _, fun _ _ => rfl⟩
 have := inv_J (P := P) (Q := Q) (a0 := a) rfl hB hD
  (fun listed x w1 => Below w.heap.size w w1 /\ (∀ i, i < n -> i ≠ A -> i ≠ B -> listed.getD i true = true -> x i = V.getD i undef) /\ (listed.getD B true = true -> listed.getD A true = true) /\
   (listed.getD A true = true -> ∃ g, x A = .pointer (some ⟨g, 0, none⟩) /\ w.heap.size <= g /\ Blk w1 g (if listed.getD B true = true then R else Z) T))
  (fun listed x w1 i o ho hi hsz hun hdeps ⟨hb, hv, hBA, hA⟩ => by
   have hot : (l.take n)[i]? = some o := by rw [List.getElem?_take, if_pos hi]; exact ho
   have hq0 := a4y _ _ hstep i o hot
   rw [Nat.zero_add] at hq0
   have h := hq0 x (a0r (l.take n) 0 x a) w1 hb (fun j o' t hj hd' => by
    have hs := List.all_eq_true.1 hS o' (List.mem_of_getElem? hj)
    rw [hd'] at hs
    have := b0h (l.take n) 0 x a j o' t hD hj hd' (by simpa using hs)
    rwa [Nat.zero_add, a1p] at this) (fun t ht => by
    have := a4w (l.take n) 0 x a t ht
    rwa [a1p, a1p] at this) (fun e he hbe hnA hnB => by
    have h2 := List.all_eq_true.1 hedge i (List.mem_range.2 hi)
    rw [show l.toArray[i]? = some o by simpa using ho] at h2
    have h3 := Array.all_eq_true'.1 h2 e he
    rw [hbe] at h3
    have h4 : e.on < i := by simpa using h3
    exact hv e.on (by omega) hnA hnB (hdeps e he hbe))
   clear hq0
   by_cases hiA : i = A
   ·rw [if_pos hiA] at h
    subst hiA
    unfold StepQ at h
    refine a6f (fun v w2 hY => ?_) h
    obtain ⟨hb2, g, rfl, hg, hblk⟩ := hY
    have hnB : listed.getD B true = false := by
     cases hh : listed.getD B true with
     | false => rfl
     | true => rw [hBA hh] at hun; cases hun
    refine ⟨hb.trans (hb2.mono hb.size), fun j hj hjA hjB hlj => ?_, fun _ => a9b, fun _ => ⟨g, by simp [upd], Nat.le_trans hb.size hg, ?_⟩⟩
    ·rw [a3j (fun e => hjA e.symm)] at hlj
     rw [upd, if_neg hjA]; exact hv j hj hjA hjB hlj
    rw [a3j hAB, hnB]; exact hblk
   rw [if_neg hiA] at h
   by_cases hiB : i = B
   ·rw [if_pos hiB] at h
    subst hiB
    unfold depB at hdep
    rw [ho] at hdep
    obtain ⟨e, he, hbe⟩ := Array.any_eq_true'.1 hdep
    rw [Bool.and_eq_true, decide_eq_true_eq] at hbe
    have hlA := hdeps e he hbe.1
    rw [hbe.2] at hlA
    obtain ⟨g, hxg, hg, hblk⟩ := hA hlA
    rw [hun] at hblk
    have h := h g hxg hg hblk
    unfold StepQB at h
    refine a6f (fun v w2 hY => ?_) h
    obtain ⟨hb2, hblk2⟩ := hY
    refine ⟨hb.trans hb2, fun j hj hjA hjB hlj => ?_, fun _ => ?_, fun _ => ⟨g, ?_, hg, ?_⟩⟩
    ·rw [a3j (fun e => hjB e.symm)] at hlj
     rw [upd, if_neg hjB]; exact hv j hj hjA hjB hlj
    ·rw [a3j hiA]; exact hlA
    ·rw [upd, if_neg hAB]; exact hxg
    rw [a9b, if_pos rfl]; exact hblk2
   rw [if_neg hiB] at h
   unfold StepQ at h
   refine a6f (fun v w2 hY => ?_) h
   obtain ⟨hb2, hvv⟩ := hY
   refine ⟨hb.trans (hb2.mono hb.size), fun j hj hjA hjB hlj => ?_, fun hl => ?_, fun hl => ?_⟩
   ·by_cases hji : j = i
    ·subst hji; rw [upd, if_pos rfl]; exact hvv
    rw [a3j (fun e => hji e.symm)] at hlj
    rw [upd, if_neg hji]; exact hv j hj hjA hjB hlj
   ·rw [a3j hiB] at hl
    rw [a3j hiA]; exact hBA hl
   rw [a3j hiA] at hl
   obtain ⟨g, hxg, hg, hblk⟩ := hA hl
   refine ⟨g, ?_, hg, ?_⟩
   ·rw [upd, if_neg (fun e => hiA e.symm)]; exact hxg
   rw [a3j hiB]; exact hblk.below hb2 hblk.lt)
  (fun x w1 ⟨hb, hv, hBA, hA⟩ => by
   have hc : ∀ i, i < n -> (b0s l.toArray.size n).getD i true = true := by
    intro i hi
    unfold b0s
    rw [Array.getD_eq_getD_getElem?, Array.getElem?_map, Array.getElem?_range, if_pos (by omega)]
    simp [hi]
   obtain ⟨g, hxg, hg, hblk⟩ := hA (hc A hAn)
   rw [hc B hBn, if_pos rfl] at hblk
   exact hend x w1 g hb (fun i hi h1 h2 => hv i hi h1 h2 (hc i hi)) hxg hg hblk)
  n (Array.replicate l.toArray.size false) x0 { w with drawn := w.drawn + 1 } inv0 hunl ⟨hw, fun i hi _ _ h => (hfalse i hi h).elim, fun h => (hfalse B hBn h).elim, fun h => (hfalse A hAn h).elim⟩
 rw [hx0 x0 (fun _ _ => rfl)] at this
 rw [show n + (l.toArray.size - n) = l.toArray.size by omega] at this
 exact this
end Go.Proofs.YtoighiepglclkaaGreatDoor
