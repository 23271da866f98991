/-
Part 31 of the base.
-/
import Derived.Test.YtoighiepglclkaaGreatDoorKf14
import Derived.Deep.AppendSrc
import Derived.Laws.Slices
import Derived.Test.YtoighiepglclkaaGreatDoorKf6
import Derived.Test.YtoighiepglclkaaGreatDoorKf8
import Derived.Deep.MidRow
namespace Go.Proofs.YtoighiepglclkaaGreatDoor
open Go.RowKit
section
variable {α : Type} {enc : α -> List Value} {k : Nat}
theorem c0r (hk : ∀ x, (enc x).length = k) : ∀ (xs : List α) (j : Nat) (u : Value), (flat enc xs)[j]? = some u -> ∃ q i x, j = q * k + i /\ xs[q]? = some x /\ (enc x)[i]? = some u
 | [], j, u, h => by simp [flat] at h
 | x :: xs, j, u, h => by
  have h' : (enc x ++ flat enc xs)[j]? = some u := h
  by_cases hj : j < k
  ·rw [List.getElem?_append_left (by rw [hk]; exact hj)] at h'
   exact ⟨0, j, x, by omega, rfl, h'⟩
  rw [List.getElem?_append_right (by rw [hk]; omega), hk] at h'
  obtain ⟨q, i, y, h1, h2, h3⟩ := c0r hk xs (j - k) u h'
  exact ⟨q + 1, i, y, by rw [Nat.add_mul]; omega, by simpa using h2, h3⟩
theorem Slc.none_nil {w : World} {n c : Nat} {xs : List α} (h : Slc enc k w (.slice none n c) xs) : xs = [] := by
 obtain ⟨A, c', e, _, _, hr⟩ := h
 injection e with e1 e2 e3
 subst e1
 rcases Nat.eq_zero_or_pos xs.length with h0 | h0
 ·exact List.length_eq_zero_iff.1 h0
 obtain ⟨b, o, e, _⟩ := hr h0
 cases e
theorem Slc.flat_cells (hk : ∀ x, (enc x).length = k) {w w' : World} {ad : Addr} {n c : Nat} {xs : List α} (h : Slc enc k w (.slice (some ad) n c) xs) (hb : Below w.heap.size w w') : ∀ j u, (flat enc xs)[j]? = some u -> w'.cell? (ad.add j) = some u := by
 intro j u hj
 obtain ⟨q, i, x, rfl, hq, hi⟩ := c0r hk xs j u hj
 have hql : q < xs.length := (List.getElem?_eq_some_iff.1 hq).1
 obtain ⟨b, o, y, e, hbb, hy, hx⟩ := h.at_ hql
 injection e with e
 subst e
 rw [hq] at hy
 injection hy with hy
 subst hy
 have := hx w' hb i u hi
 rw [Addr.add_lit, <- Nat.add_assoc]
 exact this
theorem Slc.first {w : World} {A : Option Addr} {n c h : Nat} {xs : List α} (hs : Slc enc k w (.slice A n c) xs) (hhn : h <= xs.length) : Slc enc k w (.slice A h c) (xs.take h) := by
 obtain ⟨A', c', e, h1, h2, hr⟩ := hs
 injection e with e1 e2 e3
 subst e1; subst e2; subst e3
 have hlen : (xs.take h).length = h := by rw [List.length_take]; omega
 refine ⟨A, c, by rw [hlen], by rw [hlen]; omega, h2, fun hpos => ?_⟩
 rw [hlen] at hpos
 obtain ⟨b, o, e, hb, hx⟩ := hr (by omega)
 refine ⟨b, o, e, hb, fun j x hj i u hu => hx j x ?_ i u hu⟩
 have hlt : j < h := by
  rcases Nat.lt_or_ge j h with h3 | h3
  ·exact h3
  rw [List.getElem?_eq_none (by rw [hlen]; omega)] at hj; cases hj
 rwa [List.getElem?_take, if_pos hlt] at hj
end
def offA (pre cs post : List Value) : Array Value := (pre ++ cs ++ post).toArray
theorem a0g {pre cs post : List Value} {o i : Nat} {v : Value} (h : pre.length = o) (hv : cs[i]? = some v) : (offA pre cs post)[o + i]? = some v := by
 have hi := (List.getElem?_eq_some_iff.1 hv).1
 unfold offA
 rw [List.getElem?_toArray, List.append_assoc, List.getElem?_append_right (by omega), h, Nat.add_sub_cancel_left, List.getElem?_append_left hi]
 exact hv
theorem offA_set {pre cs post : List Value} {o i : Nat} {v : Value} (h : pre.length = o) (hi : i < cs.length) : (offA pre cs post).setIfInBounds (o + i) v = offA pre (cs.set i v) post := by
 unfold offA
 rw [List.setIfInBounds_toArray, List.append_assoc, List.set_append_right _ _ (by omega), h, Nat.add_sub_cancel_left, List.set_append_left _ _ hi, List.append_assoc]
section
variable {w0 w : World} {R : List Own}
theorem St.setO (h : St w0 R w) (k : Nat) {g : Nat} {pre cs post : List Value} {t : TypeId} (hk : R[k]? = some ⟨g, offA pre cs post, t⟩) {o : Nat} (ho : pre.length = o) (i : Nat) (hi : i < cs.length) (v : Value) :
  St w0 (R.set k ⟨g, offA pre (cs.set i v) post, t⟩) (w.setCell ⟨g, o + i, none⟩ v) := by
 have h1 := h.set k hk (o + i) v
 rwa [offA_set ho hi] at h1
end
section
variable {α : Type} {enc : α -> List Value} {k : Nat}
def rowG (enc : α -> List Value) (l : List α) (rest : List Value) : Array Value := (flat enc l ++ rest).toArray
theorem b2t (hk : ∀ x, (enc x).length = k) {l : List α} {rest : List Value} {j : Nat} {x : α} (h : l[j]? = some x) :
  rowG enc l rest = offA (flat enc (l.take j)) (enc x) (flat enc (l.drop (j + 1)) ++ rest) /\ (flat enc (l.take j)).length = j * k := by
 have hj := (List.getElem?_eq_some_iff.1 h).1
 refine ⟨?_, by rw [a8n hk, List.length_take]; congr 1; omega⟩
 have e : l = l.take j ++ x :: l.drop (j + 1) := by rw [<- b3f h, List.take_append_drop]
 unfold rowG offA
 conv => lhs; rw [e]
 rw [a8p]
 show ((flat enc (l.take j) ++ (enc x ++ flat enc (l.drop (j + 1)))) ++ rest).toArray = _
 congr 1
 simp only [List.append_assoc]
theorem c1k {l : List α} {rest : List Value} {j : Nat} {x x' : α} (h : l[j]? = some x) :
  offA (flat enc (l.take j)) (enc x') (flat enc (l.drop (j + 1)) ++ rest) = rowG enc (l.set j x') rest := by
 have hj := (List.getElem?_eq_some_iff.1 h).1
 have e : l.set j x' = l.take j ++ x' :: l.drop (j + 1) := List.set_eq_take_append_cons_drop.trans (if_pos hj)
 unfold rowG offA
 rw [e, a8p]
 show _ = ((flat enc (l.take j) ++ (enc x' ++ flat enc (l.drop (j + 1)))) ++ rest).toArray
 congr 1
 simp only [List.append_assoc]
theorem a5f (hk : ∀ x, (enc x).length = k) {w : World} {base g cap : Nat} {e : TypeId} {l : List α} {rest : List Value} (h : Blk w g (rowG enc l rest) e) (hb : base <= g) (hc : l.length <= cap) (hm : cap <= maxLen) (hr : rest.length + l.length * k = cap * k) :
  Grows w base e k (.slice (some ⟨g, 0, none⟩) l.length cap) l.length (flat enc l) := by
 have hl := a8n hk l
 refine ⟨hl, .inr ⟨g, cap, _, rfl, hb, h, hc, hm, ?_, ?_⟩⟩
 ·unfold rowG; rw [List.size_toArray, List.length_append, hl]; omega
 unfold rowG
 show (flat enc l ++ rest).take (l.length * k) = _
 rw [<- hl, List.take_left']; rfl
theorem Grows.toG {w : World} {base n : Nat} {e : TypeId} {v : Value} {l : List α} (h : Grows w base e k v n (flat enc l)) (h0 : 0 < n) :
  ∃ g cap rest, v = .slice (some ⟨g, 0, none⟩) n cap /\ base <= g /\ n <= cap /\ cap <= maxLen /\ rest.length + n * k = cap * k /\ Blk w g (rowG enc l rest) e := by
 rcases h.2 with ⟨_, hz⟩ | ⟨g, cap, cur, rfl, hb, hg, hc, hm, hs, ht⟩
 ·omega
 refine ⟨g, cap, cur.toList.drop (n * k), rfl, hb, hc, hm, ?_, ?_⟩
 ·have : n * k <= cap * k := Nat.mul_le_mul_right _ hc
  rw [List.length_drop, Array.length_toList, hs]; omega
 have : rowG enc l (cur.toList.drop (n * k)) = cur := by
  unfold rowG
  rw [<- ht, List.take_append_drop]
 rw [this]; exact hg
variable {P : Program}
theorem b2n (w : World) {ops : Array Oper} {rest : List Oper} {o : Oper} {a : Act} {Q : Exit -> Act -> World -> Prop} (hgd : o.guard = none) (s x : Operand) (t : TypeId)
  (ho : o.op = .call { callee := .builtin .append, args := #[s, x], argTypes := #[t, t] })
  (e : TypeId) (i : TypeInfo) (z : Value) (size bytes : Nat) (ht : P.underlying t = some (.slice e)) (hi : P.info? e = some i) (hz : i.zero = some z)
  (hsize : i.size = size) (hby : i.bytes = bytes) (hk : ∀ y, (enc y).length = size) (hzs : z.cells.size = size)
  (A : Option Addr) (hs : a.eval s = .slice A 0 0) (u : Value) (ys : List α) (hsrc : Slc enc size w u ys) (hx : a.eval x = u)
  (h0 : 0 < ys.length) (h1 : ∀ y ∈ ys, ∀ c ∈ enc y, c.oneCell' = true) (h63 : ys.length <= maxLen) (hbytes : ys.length * bytes <= 140737488355328)
  (h : ∀ cap (rs : List Value) w', ys.length <= cap -> cap <= maxLen -> rs.length + ys.length * size = cap * size -> Blk w' w.heap.size (rowG enc ys rs) e -> Below w.heap.size w w' -> wpList P ops Q rest (a.put o.dst (.slice (some ⟨w.heap.size, 0, none⟩) ys.length cap)) w') : wpList P ops Q (o :: rest) a w := by
 subst hsize
 subst hby
 obtain ⟨A', c, rfl, hl, hc⟩ := hsrc.slice
 cases A' with
 | none => rw [hsrc.none_nil] at h0; exact absurd h0 (by simp)
 | some ad =>
  refine wpList_plain hgd fun K hK => ?_
  have hsmall : ys.length <= 9223372036854775807 := by simp only [maxLen] at h63; omega
  have hsr : Src P i.size t (.slice (some ad) ys.length c) ys.length (flat enc ys) w := Src.ofSlice w ht ad ys.length c (flat enc ys) (a8n hk ys) (hsrc.flat_cells hk (Below.refl _ _)) (fun u hu => by
   obtain ⟨j, hj⟩ := List.mem_iff_getElem?.1 hu
   obtain ⟨q, i', y, _, hq, hi'⟩ := c0r hk ys j u hj
   exact h1 y (List.mem_of_getElem? hq) u (List.mem_of_getElem? hi'))
  have hold : (Builtin.firstCells i.size 0 (.slice A 0 0)).run P w.drew = .ok ([] : List Value).toArray w.drew := by
   cases A with
   | none => exact run_firstCells_none w.drew i.size 0 0 0
   | some b => exact run_firstCells_some w.drew i.size 0 b 0 0 [] (by simp) (by simp)
  have hr := run_append_grow_src (P := P) w t t o.type e i z ht hi hz A 0 0 [] hold _ ys.length (flat enc ys) hsr (by omega) (by omega) (growslice_fits (by omega) (by rw [Nat.zero_add]; exact hbytes))
  rw [Nat.zero_add] at hr
  unfold Oper.wp execOp
  simp only [ho, resolve, invoke, builtin, Sem.run_bind, Sem.run_pure, Result.andThen_ok, List.map_toArray, List.map_cons, List.map_nil, hs, hx, hr]
  refine hK _ _ (h _ (Builtin.zeroCells z.cells (grownCap w ys.length 0 e - ys.length)).toList _ (grownCap_ge w _ 0 e) (grownCap_le_maxLen w _ 0 e h63) ?_ ?_ (Ext.alloc (Below.refl _ _).drew _))
  ·have := grownCap_ge w ys.length 0 e
   rw [Array.length_toList, size_zeroCells, hzs, <- Nat.add_mul]; congr 1; omega
  refine (heap_alloc_new w.drew _).trans ?_
  unfold rowG
  congr 2
  apply Array.ext'
  simp
end
def StepW (a1 : Act) (d : Option Tmp) (w1 : World) (v0 : Value) (e : Exit) (a' : Act) (w2 : World) : Prop := e = .normal /\ ∃ v, a' = a1.put d v /\ v = v0 /\ w2 = w1
theorem StepW.mk {a1 : Act} {d : Option Tmp} {w1 : World} (v : Value) : StepW a1 d w1 v .normal (a1.put d v) w1 := ⟨rfl, v, rfl, rfl, rfl⟩
def StepI (a1 : Act) (d : Option Tmp) (p : World -> Value -> Prop) (e : Exit) (a' : Act) (w2 : World) : Prop := e = .normal /\ ∃ v, a' = a1.put d v /\ p w2 v
theorem StepI.mk {a1 : Act} {p : World -> Value -> Prop} {w2 : World} (hv : p w2 undef) : StepI a1 none p .normal a1 w2 := ⟨rfl, undef, rfl, hv⟩
theorem StepI.mkv {a1 : Act} {d : Option Tmp} {p : World -> Value -> Prop} {w2 : World} (v : Value) (hv : p w2 v) : StepI a1 d p .normal (a1.put d v) w2 := ⟨rfl, v, rfl, hv⟩
def c0m (S : List Nat) (x : Nat -> Value) (k : Nat) : Value := if k = 0 then undef else x (S.getD (k - 1) 0)
def StepS (P : Program) (l : List Oper) (n : Nat) (V : List Value) (S : List Nat) (I : Nat -> World -> Value -> Prop) (a : Act) (i : Nat) (o : Oper) : Prop :=
 ∀ (x : Nat -> Value) (a1 : Act) (w1 : World) (k : Nat), k <= S.length -> I k w1 (c0m S x k) -> (∀ j o' t, (l.take n)[j]? = some o' -> o'.dst = some t -> a1.tmps[t]?.getD undef = x j) -> (∀ t, (l.take n).all (fun o => o.dst != some t) = true -> a1.tmps[t]?.getD undef = a.tmps[t]?.getD undef) ->
  (∀ e ∈ o.after, Region.binds .any e = true -> e.on ∉ S -> x e.on = V.getD e.on undef) ->
  if i ∈ S then k = S.idxOf i -> wpList P l.toArray (StepI a1 o.dst (I (k + 1))) [o] a1 w1
  else wpList P l.toArray (StepW a1 o.dst w1 (V.getD i undef)) [o] a1 w1
def chainB (l : List Oper) : List Nat -> Bool
 | c :: c' :: t => depB l c' c && chainB l (c' :: t)
 | _ => true
theorem c3a {l : List Oper} : ∀ {S : List Nat} {j c c' : Nat}, chainB l S = true -> S[j]? = some c -> S[j + 1]? = some c' -> depB l c' c = true
 | [], j, c, c', _, h, _ => by simp at h
 | [a], j, c, c', _, _, h => by simp at h
 | a :: b :: t, 0, c, c', h, h1, h2 => by
  simp only [List.getElem?_cons_zero, Option.some.injEq] at h1
  simp only [Nat.zero_add, List.getElem?_cons_succ, List.getElem?_cons_zero, Option.some.injEq] at h2
  subst h1; subst h2
  unfold chainB at h
  exact (Bool.and_eq_true _ _ ▸ h).1
 | a :: b :: t, j + 1, c, c', h, h1, h2 => by
  unfold chainB at h
  exact c3a (S := b :: t) (Bool.and_eq_true _ _ ▸ h).2 (by simpa using h1) (by simpa using h2)
theorem idxOf_at {S : List Nat} {i : Nat} (h : i ∈ S) : S[S.idxOf i]? = some i := by
 have hl := List.idxOf_lt_length_iff.2 h
 rw [List.getElem?_eq_getElem hl, List.getElem_idxOf]
theorem nodup_at {S : List Nat} (hN : S.Nodup) {j j' c : Nat} (h : S[j]? = some c) (h' : S[j']? = some c) : j = j' := by
 exact (List.getElem?_inj (List.getElem?_eq_some_iff.1 h).1 hN).1 (h.trans h'.symm)
theorem a1v {P : Program} {id : Nat} {Q : Exit -> Act -> World -> Prop} {a : Act} {w : World} {l : List Oper} (n : Nat) (S : List Nat) (V : List Value) (I : Nat -> World -> Value -> Prop) (hm : P.follows .mixedOrders = true) (hB : invB l.toArray n = true) (hD : a5y (l.take n) = true)
  (hS : (l.take n).all (fun o => match o.dst with | some d => decide (d < a.tmps.size) | none => true) = true) (hC : chainB l S = true) (hN : S.Nodup) (hL : ∀ i ∈ S, i < n)
  (h0 : I 0 w.drew undef)
  (hstep : a8c (StepS P l n V S I a) (l.take n) 0)
  (hend : ∀ x w1, I S.length w1 (c0m S x S.length) -> (∀ i, i < n -> i ∉ S -> x i = V.getD i undef) -> wpList P l.toArray Q (l.drop n) (a0r (l.take n) 0 x a) w1) : (Code.region id l.toArray true).wp P Q a w := by
 refine wp_region_any hm ?_
 obtain ⟨x0, hx0⟩ := a6q a (l.take n) 0
 have inv0 : HeadInv .any l.toArray n (Array.replicate l.toArray.size false) :=
  ⟨by simp, fun j oj _ hl => (by rw [getD_replicate_false] at hl; cases hl), fun t _ ht => getD_in (by simpa using ht) (getD_replicate_false _ _)⟩
 have hBs := hB
 simp only [invB, Bool.and_eq_true, decide_eq_true_eq] at hBs
 have hlen : n < l.toArray.size := hBs.1.1.1.1
 have hedge := hBs.2
 have hunl : (unl (Array.replicate l.toArray.size false) n).length = n := by
  unfold unl
  rw [List.filter_eq_self.2]
  ·simp
  intro j hj
  have hjn := List.mem_range.1 hj
  have : (Array.replicate l.toArray.size false).getD j true = false := getD_in (by simpa using Nat.lt_trans hjn (by simpa using hlen)) (getD_replicate_false _ _)
  rw [this]; rfl
 have hfalse : ∀ i, i < n -> (Array.replicate l.toArray.size false).getD i true = true -> False := fun i hi h => by
  rw [getD_in (by simpa using Nat.lt_trans hi (by simpa using hlen)) (getD_replicate_false _ _)] at h; cases h
 have dep : ∀ {c c' : Nat} {o : Oper} {listed : Array Bool}, depB l c' c = true -> l[c']? = some o -> (∀ e ∈ o.after, Region.binds .any e = true -> listed.getD e.on true = true) -> listed.getD c true = true := by
  intro c c' o listed h ho hd
  unfold depB at h
  rw [ho] at h
  obtain ⟨e, he, hbe⟩ := Array.any_eq_true'.1 h
  rw [Bool.and_eq_true, decide_eq_true_eq] at hbe
  have := hd e he hbe.1
  rwa [hbe.2] at this
 have := inv_J (P := P) (Q := Q) (a0 := a) rfl hB hD
  (fun listed x w1 => ∃ k, k <= S.length /\ I k w1 (c0m S x k) /\ (∀ j c, S[j]? = some c -> (listed.getD c true = true ↔ j < k)) /\ (∀ i, i < n -> i ∉ S -> listed.getD i true = true -> x i = V.getD i undef))
  (fun listed x w1 i o ho hi hsz hun hdeps ⟨k, hk, hI, hlk, hv⟩ => by
   have hot : (l.take n)[i]? = some o := by rw [List.getElem?_take, if_pos hi]; exact ho
   have hs0 := a4y _ _ hstep i o hot
   rw [Nat.zero_add] at hs0
   have h := hs0 x (a0r (l.take n) 0 x a) w1 k hk hI (fun j o' t hj hd' => by
    have hs := List.all_eq_true.1 hS o' (List.mem_of_getElem? hj)
    rw [hd'] at hs
    have := b0h (l.take n) 0 x a j o' t hD hj hd' (by simpa using hs)
    rwa [Nat.zero_add, a1p] at this) (fun t ht => by
    have := a4w (l.take n) 0 x a t ht
    rwa [a1p, a1p] at this) (fun e he hbe hn => by
    have h2 := List.all_eq_true.1 hedge i (List.mem_range.2 hi)
    rw [show l.toArray[i]? = some o by simpa using ho] at h2
    have h3 := Array.all_eq_true'.1 h2 e he
    rw [hbe] at h3
    have h4 : e.on < i := by simpa using h3
    exact hv e.on (by omega) hn (hdeps e he hbe))
   clear hs0
   by_cases hiS : i ∈ S
   ·rw [if_pos hiS] at h
    have hat := idxOf_at hiS
    have hkj : k = S.idxOf i := by
     have h1 : ¬ S.idxOf i < k := fun hh => by
      have := (hlk _ _ hat).2 hh
      rw [hun] at this; cases this
     rcases Nat.eq_zero_or_pos (S.idxOf i) with hz | hz
     ·omega
     obtain ⟨j, hj⟩ : ∃ j, S.idxOf i = j + 1 := ⟨S.idxOf i - 1, by omega⟩
     rw [hj] at hat h1 ⊢
     have hjl : j < S.length := by have := (List.getElem?_eq_some_iff.1 hat).1; omega
     have hc := List.getElem?_eq_getElem hjl
     have := (hlk j _ hc).1 (dep (c3a hC hc hat) ho hdeps)
     omega
    have h := h hkj
    unfold StepI at h
    refine a6f (fun v w2 hY => ?_) h
    refine ⟨k + 1, by have := (List.getElem?_eq_some_iff.1 hat).1; omega, ?_, fun j c hc => ?_, fun j hj hjS hlj => ?_⟩
    ·have : c0m S (upd x i v) (k + 1) = v := by
      unfold c0m
      rw [if_neg (by omega), Nat.add_sub_cancel, hkj, List.getD_eq_getElem?_getD, hat]
      simp [upd]
     rw [this]
     exact hY
    ·by_cases hci : c = i
     ·subst hci
      have := nodup_at hN hc hat
      exact ⟨fun _ => by omega, fun _ => a9b⟩
     rw [a3j (fun e => hci e.symm), hlk j c hc]
     have : j ≠ k := fun e => hci (by rw [e, hkj] at hc; exact Option.some.inj (hc.symm.trans hat))
     omega
    have hji : j ≠ i := fun e => hjS (e ▸ hiS)
    rw [a3j (fun e => hji e.symm)] at hlj
    rw [upd, if_neg hji]; exact hv j hj hjS hlj
   rw [if_neg hiS] at h
   unfold StepW at h
   refine a6f (fun v w2 hY => ?_) h
   obtain ⟨hvv, rfl⟩ := hY
   refine ⟨k, hk, ?_, fun j c hc => ?_, fun j hj hjS hlj => ?_⟩
   ·have : c0m S (upd x i v) k = c0m S x k := by
     unfold c0m
     split
     ·rfl
     rename_i hk0
     have hkl : k - 1 < S.length := by omega
     rw [List.getD_eq_getElem?_getD, List.getElem?_eq_getElem hkl]
     refine if_neg (fun e => hiS ?_)
     rw [<- e]
     exact List.getElem_mem hkl
    rw [this]
    exact hI
   ·rw [a3j (fun (e : i = c) => hiS (by rw [e]; exact List.mem_of_getElem? hc))]; exact hlk j c hc
   by_cases hji : j = i
   ·subst hji; rw [upd, if_pos rfl]; exact hvv
   rw [a3j (fun e => hji e.symm)] at hlj
   rw [upd, if_neg hji]; exact hv j hj hjS hlj)
  (fun x w1 ⟨k, hk, hI, hlk, hv⟩ => by
   have hc : ∀ i, i < n -> (b0s l.toArray.size n).getD i true = true := by
    intro i hi
    unfold b0s
    rw [Array.getD_eq_getD_getElem?, Array.getElem?_map, Array.getElem?_range, if_pos (by omega)]
    simp [hi]
   have hkl : k = S.length := by
    rcases Nat.lt_or_ge k S.length with h | h
    ·have hg := List.getElem?_eq_getElem h
     have := (hlk k _ hg).1 (hc _ (hL _ (List.mem_of_getElem? hg)))
     omega
    omega
   subst hkl
   exact hend x w1 hI (fun i hi hn => hv i hi hn (hc i hi)))
  n (Array.replicate l.toArray.size false) x0 { w with drawn := w.drawn + 1 } inv0 hunl ⟨0, Nat.zero_le _, h0, fun j c hc => ⟨fun h => (hfalse c (hL c (List.mem_of_getElem? hc)) h).elim, fun h => absurd h (Nat.not_lt_zero _)⟩, fun i hi _ h => (hfalse i hi h).elim⟩
 rw [hx0 x0 (fun _ _ => rfl)] at this
 rw [show n + (l.toArray.size - n) = l.toArray.size by omega] at this
 exact this
theorem set_same {α : Type} {R : List α} {k : Nat} {x : α} (h : R[k]? = some x) : R.set k x = R := by
 apply List.ext_getElem?
 intro j
 rw [List.getElem?_set]
 split
 ·rename_i e
  subst e
  rw [if_pos (List.getElem?_eq_some_iff.1 h).1, h]
 rfl
theorem St.cells {w0 : World} {g : Nat} {t : TypeId} {k : Nat} : ∀ (cs : List Value) (o : Nat) (z : Array Value) (R : List Own) (w : World), St w0 R w -> R[k]? = some ⟨g, z, t⟩ -> o + cs.length <= z.size ->
  ∃ z' : Array Value, St w0 (R.set k ⟨g, z', t⟩) (w.setCells g o cs) /\ z'.toList = z.toList.take o ++ cs ++ z.toList.drop (o + cs.length)
 | [], o, z, R, w, h, hk, _ => ⟨z, by rw [World.setCells, set_same hk]; exact h, by simp⟩
 | v :: cs, o, z, R, w, h, hk, hl => by
  rw [List.length_cons] at hl
  have hkl := (List.getElem?_eq_some_iff.1 hk).1
  obtain ⟨z', h1, h2⟩ := St.cells (g := g) (t := t) (k := k) cs (o + 1) (z.setIfInBounds o v) (R.set k ⟨g, z.setIfInBounds o v, t⟩) (w.setCell ⟨g, o, none⟩ v) (h.set k hk o v) (by rw [List.getElem?_set, if_pos rfl, if_pos hkl]) (by rw [Array.size_setIfInBounds]; omega)
  refine ⟨z', by rw [World.setCells]; simpa using h1, h2.trans ?_⟩
  have ho : o < z.toList.length := by simp; omega
  rw [Array.toList_setIfInBounds, List.take_add_one, List.take_set_of_le (Nat.le_refl _), List.getElem?_set_self ho, List.drop_set_of_lt (by omega), List.length_cons]
  simp [Nat.add_comm 1, Nat.add_assoc]
theorem a0e {P : Program} {ops : Array Oper} {rest : List Oper} {op : Oper} {a : Act} {w : World} {Q : Exit -> Act -> World -> Prop} (hgd : op.guard = none) (ty : TypeId) (x y : Operand) (ho : op.op = .store ty x y)
  {w0 : World} {R : List Own} (hS : St w0 R w) (k : Nat) {g : Nat} {z : Array Value} {T : TypeId} (hk : R[k]? = some ⟨g, z, T⟩) (cs : List Value) (hz : z.size = cs.length)
  (hx : a.eval x = .pointer (some ⟨g, 0, none⟩)) (hy : a.eval y = .agg cs.toArray) (hi : (P.info? ty).map (·.size) = some cs.length) (h1 : cs.all (·.oneCell') = true)
  (h : ∀ w', St w0 (R.set k ⟨g, cs.toArray, T⟩) w' -> wpList P ops Q rest (a.put op.dst undef) w') : wpList P ops Q (op :: rest) a w := by
 refine wpList_store_mid hgd ty x y ho g 0 cs.toArray hx hy (fun j hj => ?_) (by simpa using hi) (by simpa using h1) (h _ ?_)
 ·rw [Nat.zero_add]
  have hj' : j < z.size := by simpa [hz] using hj
  exact ⟨by rw [hS.cell k hk j (Array.getElem?_eq_getElem hj')]; rfl, hS.frozen k hk j⟩
 obtain ⟨z', h2, h3⟩ := St.cells cs 0 z R w hS hk (by omega)
 have : z' = cs.toArray := by
  apply Array.ext'
  rw [h3, Nat.zero_add, <- hz]
  simp
 rw [this] at h2
 exact h2
theorem St.whole {w0 w : World} {R : List Own} (h : St w0 R w) (k : Nat) {g : Nat} {cs : List Value} {t : TypeId} (hk : R[k]? = some ⟨g, cs.toArray, t⟩) : w.rangeAt g 0 cs :=
 fun j v hv => h.cell k hk (0 + j) (by rw [Nat.zero_add, List.getElem?_toArray]; exact hv)
theorem St.fill2 {w0 w w' : World} {R : List Own} {g g' : Nat} {cs cs' : Array Value} {t t' : TypeId} (h : St w0 R w) (hb : Below w.heap.size w w') (hg : w.heap.size <= g) (hB : Blk w' g cs t) (hg' : w.heap.size <= g') (hB' : Blk w' g' cs' t') (hne : g ≠ g') : St w0 (⟨g', cs', t'⟩ :: ⟨g, cs, t⟩ :: R) w' := by
 have h1 := h.fill hb hg hB
 refine ⟨h1.below, fun r hr => ?_, List.pairwise_cons.2 ⟨fun r hr => ?_, h1.apart⟩⟩
 ·rcases List.mem_cons.1 hr with rfl | hr
  ·exact ⟨hB', Nat.le_trans h.below.size hg'⟩
  exact h1.ok r hr
 rcases List.mem_cons.1 hr with rfl | hr
 ·exact fun e => hne e.symm
 have := (h.ok r hr).1.lt
 show g' ≠ r.g
 omega
section
variable {w0 w : World} {R : List Own} {P : Program}
theorem b6z {B g : Nat} (hg : B <= g) : ∀ (cs : List Value) (o : Nat) (w1 : World), Below B w w1 -> Below B w (w1.setCells g o cs)
 | [], _, _, h => h
 | v :: cs, o, w1, h => by
  rw [World.setCells]
  exact b6z hg cs (o + 1) _ (h.setCell hg v)
theorem c3f {g : Nat} {t : TypeId} : ∀ (cs : List Value) (o : Nat) (z : Array Value) (w : World), Blk w g z t -> o + cs.length <= z.size ->
  ∃ z' : Array Value, Blk (w.setCells g o cs) g z' t /\ z'.toList = z.toList.take o ++ cs ++ z.toList.drop (o + cs.length)
 | [], o, z, w, h, _ => ⟨z, by rw [World.setCells]; exact h, by simp⟩
 | v :: cs, o, z, w, h, hl => by
  rw [List.length_cons] at hl
  obtain ⟨z', h1, h2⟩ := c3f (g := g) (t := t) cs (o + 1) (z.setIfInBounds o v) (w.setCell ⟨g, o, none⟩ v) (h.set' o v) (by rw [Array.size_setIfInBounds]; omega)
  refine ⟨z', by rw [World.setCells]; exact h1, h2.trans ?_⟩
  have ho : o < z.toList.length := by simp; omega
  rw [Array.toList_setIfInBounds, List.take_add_one, List.take_set_of_le (Nat.le_refl _), List.getElem?_set_self ho, List.drop_set_of_lt (by omega), List.length_cons]
  simp [Nat.add_comm 1, Nat.add_assoc]
theorem c9k {ops : Array Oper} {op : Oper} {a : Act} {base : Nat} (hgd : op.guard = none) (ty : TypeId) (x y : Operand) (ho : op.op = .store ty x y) (hd : op.dst = none)
  {g : Nat} {z : Array Value} {T : TypeId} (hB : Blk w g z T) (hlg : base <= g) (cs : List Value) (hz : z.size = cs.length) (hx : a.eval x = .pointer (some ⟨g, 0, none⟩)) (hy : a.eval y = .agg cs.toArray)
  (hi : (P.info? ty).map (·.size) = some cs.length) (h1 : cs.all (·.oneCell') = true) : wpList P ops (StepQB a op.dst base w (fun w2 => Blk w2 g cs.toArray T)) [op] a w := by
 refine wpList_store_mid hgd ty x y ho g 0 cs.toArray hx hy (fun j hj => ?_) (by simpa using hi) (by simpa using h1) ?_
 ·rw [Nat.zero_add]
  have hj' : j < z.size := by simpa [hz] using hj
  exact ⟨by rw [hB.cell j _ (Array.getElem?_eq_getElem hj')]; rfl, hB.frozen j⟩
 obtain ⟨z', h2, h3⟩ := c3f cs 0 z w hB (by omega)
 have : z' = cs.toArray := by
  apply Array.ext'
  rw [h3, Nat.zero_add, <- hz]
  simp
 rw [this] at h2
 unfold wpList
 rw [hd]
 exact StepQB.mk (b6z hlg cs 0 w (Below.refl _ _)) h2
theorem a8s {ops : Array Oper} {rest : List Oper} {op : Oper} {a : Act} {Q : Exit -> Act -> World -> Prop} (hgd : op.guard = none) (ty : TypeId) (x y : Operand) (ho : op.op = .store ty x y)
  (hS : St w0 R w) (k : Nat) {g o : Nat} {pre z post : List Value} {T : TypeId} (hk : R[k]? = some ⟨g, offA pre z post, T⟩) (hp : pre.length = o) (cs : List Value) (hz : z.length = cs.length)
  (hx : a.eval x = .pointer (some ⟨g, o, none⟩)) (hy : a.eval y = .agg cs.toArray) (hi : (P.info? ty).map (·.size) = some cs.length) (h1 : cs.all (·.oneCell') = true)
  (h : ∀ w', St w0 (R.set k ⟨g, offA pre cs post, T⟩) w' -> wpList P ops Q rest (a.put op.dst undef) w') : wpList P ops Q (op :: rest) a w := by
 have hsz : (offA pre z post).size = pre.length + z.length + post.length := by unfold offA; simp [Nat.add_assoc]
 refine wpList_store_mid hgd ty x y ho g o cs.toArray hx hy (fun j hj => ?_) (by simpa using hi) (by simpa using h1) (h _ ?_)
 ·have hj' : o + j < (offA pre z post).size := by
   have : j < cs.length := by simpa using hj
   omega
  exact ⟨by rw [hS.cell k hk (o + j) (Array.getElem?_eq_getElem hj')]; rfl, hS.frozen k hk (o + j)⟩
 obtain ⟨z', h2, h3⟩ := St.cells cs o (offA pre z post) R w hS hk (by omega)
 have : z' = offA pre cs post := by
  apply Array.ext'
  rw [h3]
  unfold offA
  subst hp
  rw [<- hz]
  simp
 rw [this] at h2
 exact h2
theorem St.grownApart {w' : World} {g : Nat} {cs : Array Value} {e : TypeId} (h : St w0 (⟨g, cs, e⟩ :: R) w) (hg : w.grownBy w' (some g)) : St w0 R w' := by
 have hge := h.ge 0 rfl
 refine ⟨h.below.grown hg h.below.size (fun q hq => by obtain rfl : g = q := Option.some.inj hq; exact hge), fun r hr => ?_, (List.pairwise_cons.1 h.apart).2⟩
 obtain ⟨h1, h2⟩ := h.ok r (List.mem_cons_of_mem _ hr)
 refine ⟨(hg.block r.g h1.lt (fun e1 => ?_)).trans h1, h2⟩
 exact (List.pairwise_cons.1 h.apart).1 r hr (Option.some.inj e1).symm
end
def a8m (Φ : List (World -> Value -> Prop)) (i : Nat) : World -> Value -> Prop := Φ.getD i (fun _ _ => True)
def StepM (a1 : Act) (d : Option Tmp) (I1 : World -> Prop) (K : List Nat) (Φ : List (World -> Value -> Prop)) (w1 : World) (e : Exit) (a' : Act) (w2 : World) : Prop :=
 e = .normal /\ ∃ v, a' = a1.put d v /\ I1 w2 /\ ∀ j ∈ K, ∀ u, a8m Φ j w1 u -> a8m Φ j w2 u
theorem StepM.mk {a1 : Act} {I1 : World -> Prop} {K : List Nat} {Φ : List (World -> Value -> Prop)} {w1 w2 : World} (h : I1 w2) (hk : ∀ j ∈ K, ∀ u, a8m Φ j w1 u -> a8m Φ j w2 u) : StepM a1 none I1 K Φ w1 .normal a1 w2 := ⟨rfl, undef, rfl, h, hk⟩
def StepX (P : Program) (l : List Oper) (n B : Nat) (K : List Nat) (Φ : List (World -> Value -> Prop)) (I0 I1 : World -> Prop) (a : Act) (i : Nat) (o : Oper) : Prop :=
 ∀ (x : Nat -> Value) (a1 : Act) (w1 : World), (depB l B i = true -> I0 w1) -> (∀ j o' t, (l.take n)[j]? = some o' -> o'.dst = some t -> a1.tmps[t]?.getD undef = x j) -> (∀ t, (l.take n).all (fun o => o.dst != some t) = true -> a1.tmps[t]?.getD undef = a.tmps[t]?.getD undef) ->
  (∀ e ∈ o.after, Region.binds .any e = true -> e.on ≠ B -> (i = B \/ depB l B i = true \/ e.on ∈ K) -> a8m Φ e.on w1 (x e.on)) ->
  if i = B then I0 w1 -> wpList P l.toArray (StepM a1 o.dst I1 K Φ w1) [o] a1 w1
  else wpList P l.toArray (StepQ a1 o.dst w1 (a8m Φ i)) [o] a1 w1
theorem a8b {P : Program} {id : Nat} {Q : Exit -> Act -> World -> Prop} {a : Act} {w : World} {l : List Oper} (n B : Nat) (K : List Nat) (Φ : List (World -> Value -> Prop)) (I0 I1 : World -> Prop) (hm : P.follows .mixedOrders = true) (hB : invB l.toArray n = true) (hD : a5y (l.take n) = true)
  (hS : (l.take n).all (fun o => match o.dst with | some d => decide (d < a.tmps.size) | none => true) = true) (hBn : B < n) (hK : ∀ j ∈ K, j < n /\ j ≠ B)
  (hst : ∀ i w1 w2 v, a8m Φ i w1 v -> Below w1.heap.size w1 w2 -> a8m Φ i w2 v) (h00 : ∀ w1 w2, I0 w1 -> Below w1.heap.size w1 w2 -> I0 w2) (h11 : ∀ w1 w2, I1 w1 -> Below w1.heap.size w1 w2 -> I1 w2)
  (h0 : I0 w.drew)
  (hstep : a8c (StepX P l n B K Φ I0 I1 a) (l.take n) 0)
  (hend : ∀ x w1, I1 w1 -> (∀ j ∈ K, a8m Φ j w1 (x j)) -> wpList P l.toArray Q (l.drop n) (a0r (l.take n) 0 x a) w1) : (Code.region id l.toArray true).wp P Q a w := by
 refine wp_region_any hm ?_
 obtain ⟨x0, hx0⟩ := a6q a (l.take n) 0
 have inv0 : HeadInv .any l.toArray n (Array.replicate l.toArray.size false) :=
  ⟨by simp, fun j oj _ hl => (by rw [getD_replicate_false] at hl; cases hl), fun t _ ht => getD_in (by simpa using ht) (getD_replicate_false _ _)⟩
 have hBs := hB
 simp only [invB, Bool.and_eq_true, decide_eq_true_eq] at hBs
 have hlen : n < l.toArray.size := hBs.1.1.1.1
 have hedge := hBs.2
 have hunl : (unl (Array.replicate l.toArray.size false) n).length = n := by
  unfold unl
  rw [List.filter_eq_self.2]
  ·simp
  intro j hj
  have hjn := List.mem_range.1 hj
  have : (Array.replicate l.toArray.size false).getD j true = false := getD_in (by simpa using Nat.lt_trans hjn (by simpa using hlen)) (getD_replicate_false _ _)
  rw [this]; rfl
 have hfalse : ∀ i, i < n -> (Array.replicate l.toArray.size false).getD i true = true -> False := fun i hi h => by
  rw [getD_in (by simpa using Nat.lt_trans hi (by simpa using hlen)) (getD_replicate_false _ _)] at h; cases h
 have hdepE : ∀ (o : Oper) i, l[B]? = some o -> depB l B i = true -> ∃ e ∈ o.after, Region.binds .any e = true /\ e.on = i := by
  intro o i ho h
  unfold depB at h
  rw [ho] at h
  obtain ⟨e, he, hbe⟩ := Array.any_eq_true'.1 h
  rw [Bool.and_eq_true, decide_eq_true_eq] at hbe
  exact ⟨e, he, hbe.1, hbe.2⟩
 have := inv_J (P := P) (Q := Q) (a0 := a) rfl hB hD
  (fun listed x w1 => (if listed.getD B true = true then I1 w1 else I0 w1) /\ (∀ i, i < n -> i ≠ B -> listed.getD i true = true -> (listed.getD B true = true -> i ∈ K) -> a8m Φ i w1 (x i)) /\ (listed.getD B true = true -> ∀ i, depB l B i = true -> i < n -> listed.getD i true = true))
  (fun listed x w1 i o ho hi hsz hun hdeps ⟨hI, hv, hBd⟩ => by
   have hot : (l.take n)[i]? = some o := by rw [List.getElem?_take, if_pos hi]; exact ho
   have hq0 := a4y _ _ hstep i o hot
   rw [Nat.zero_add] at hq0
   have hnB : depB l B i = true -> listed.getD B true = false := fun hd => by
    cases hh : listed.getD B true with
    | false => rfl
    | true => rw [hBd hh i hd hi] at hun; cases hun
   have h := hq0 x (a0r (l.take n) 0 x a) w1 (fun hd => by rw [hnB hd] at hI; simpa using hI) (fun j o' t hj hd' => by
    have hs := List.all_eq_true.1 hS o' (List.mem_of_getElem? hj)
    rw [hd'] at hs
    have := b0h (l.take n) 0 x a j o' t hD hj hd' (by simpa using hs)
    rwa [Nat.zero_add, a1p] at this) (fun t ht => by
    have := a4w (l.take n) 0 x a t ht
    rwa [a1p, a1p] at this) (fun e he hbe hnB' hor => by
    have h2 := List.all_eq_true.1 hedge i (List.mem_range.2 hi)
    rw [show l.toArray[i]? = some o by simpa using ho] at h2
    have h3 := Array.all_eq_true'.1 h2 e he
    rw [hbe] at h3
    have h4 : e.on < i := by simpa using h3
    refine hv e.on (by omega) hnB' (hdeps e he hbe) (fun hlB => ?_)
    rcases hor with rfl | hd | hk
    ·rw [hun] at hlB; cases hlB
    ·rw [hnB hd] at hlB; cases hlB
    exact hk)
   clear hq0
   by_cases hiB : i = B
   ·rw [if_pos hiB] at h
    subst hiB
    rw [hun] at hI
    have h := h (by simpa using hI)
    unfold StepM at h
    refine a6f (fun v w2 hY => ?_) h
    obtain ⟨hI1, hkeep⟩ := hY
    refine ⟨by rw [a9b, if_pos rfl]; exact hI1, fun j hj hji hlj hk => ?_, fun _ j hd hj => ?_⟩
    ·have hjK := hk a9b
     rw [a3j (fun e => hji e.symm)] at hlj
     rw [upd, if_neg hji]
     exact hkeep j hjK _ (hv j hj hji hlj (fun hl => by rw [hun] at hl; cases hl))
    obtain ⟨e, he, hb1, hb2⟩ := hdepE o j (by simpa using ho) hd
    have := hdeps e he hb1
    rw [hb2] at this
    by_cases hji : j = i
    ·subst hji; exact a9b
    rw [a3j (fun e => hji e.symm)]; exact this
   rw [if_neg hiB] at h
   unfold StepQ at h
   refine a6f (fun v w2 hY => ?_) h
   obtain ⟨hb2, hvv⟩ := hY
   refine ⟨?_, fun j hj hjB hlj hk => ?_, fun hl j hd hj => ?_⟩
   ·rw [a3j hiB]
    split at hI
    ·rename_i hl; rw [if_pos hl]; exact h11 _ _ hI hb2
    rename_i hl; rw [if_neg hl]; exact h00 _ _ hI hb2
   ·rw [a3j hiB] at hk
    by_cases hji : j = i
    ·subst hji; rw [upd, if_pos rfl]; exact hvv
    rw [a3j (fun e => hji e.symm)] at hlj
    rw [upd, if_neg hji]
    exact hst j _ _ _ (hv j hj hjB hlj hk) hb2
   rw [a3j hiB] at hl
   by_cases hji : j = i
   ·subst hji; exact a9b
   rw [a3j (fun e => hji e.symm)]; exact hBd hl j hd hj)
  (fun x w1 ⟨hI, hv, hBd⟩ => by
   have hc : ∀ i, i < n -> (b0s l.toArray.size n).getD i true = true := by
    intro i hi
    unfold b0s
    rw [Array.getD_eq_getD_getElem?, Array.getElem?_map, Array.getElem?_range, if_pos (by omega)]
    simp [hi]
   rw [if_pos (hc B hBn)] at hI
   exact hend x w1 hI (fun j hj => hv j (hK j hj).1 (hK j hj).2 (hc j (hK j hj).1) (fun _ => hj)))
  n (Array.replicate l.toArray.size false) x0 { w with drawn := w.drawn + 1 } inv0 hunl ⟨by
   rw [if_neg (fun h => hfalse B hBn h)]; exact h0, fun i hi _ h _ => (hfalse i hi h).elim, fun h => (hfalse B hBn h).elim⟩
 rw [hx0 x0 (fun _ _ => rfl)] at this
 rw [show n + (l.toArray.size - n) = l.toArray.size by omega] at this
 exact this
theorem a5k : ∀ {Φ : List (World -> Value -> Prop)}, (∀ φ ∈ Φ, ∀ w1 w2 v, φ w1 v -> Below w1.heap.size w1 w2 -> φ w2 v) -> ∀ i w1 w2 v, a8m Φ i w1 v -> Below w1.heap.size w1 w2 -> a8m Φ i w2 v := by
 intro Φ h i w1 w2 v hp hb
 unfold a8m at *
 rw [List.getD_eq_getElem?_getD] at *
 cases hi : Φ[i]? with
 | none => simp
 | some φ =>
  rw [hi] at hp
  exact h φ (List.mem_of_getElem? hi) w1 w2 v hp hb
def StepY (P : Program) (l : List Oper) (n B C : Nat) (K : List Nat) (Φ : List (World -> Value -> Prop)) (I0 : World -> Prop) (I1 : Value -> World -> Prop) (a : Act) (i : Nat) (o : Oper) : Prop :=
 ∀ (x : Nat -> Value) (a1 : Act) (w1 : World), (depB l B i = true -> I0 w1) -> (∀ j o' t, (l.take n)[j]? = some o' -> o'.dst = some t -> a1.tmps[t]?.getD undef = x j) -> (∀ t, (l.take n).all (fun o => o.dst != some t) = true -> a1.tmps[t]?.getD undef = a.tmps[t]?.getD undef) ->
  (∀ e ∈ o.after, Region.binds .any e = true -> e.on ≠ B -> (i = B \/ depB l B i = true \/ e.on ∈ K) -> a8m Φ e.on w1 (x e.on)) ->
  if i = B then I0 w1 -> wpList P l.toArray (StepM a1 o.dst (I1 (x C)) K Φ w1) [o] a1 w1
  else wpList P l.toArray (StepQ a1 o.dst w1 (a8m Φ i)) [o] a1 w1
theorem a5r {P : Program} {id : Nat} {Q : Exit -> Act -> World -> Prop} {a : Act} {w : World} {l : List Oper} (n B C : Nat) (K : List Nat) (Φ : List (World -> Value -> Prop)) (I0 : World -> Prop) (I1 : Value -> World -> Prop) (hC : depB l B C = true) (hCB : C ≠ B) (hCn : C < n) (hm : P.follows .mixedOrders = true) (hB : invB l.toArray n = true) (hD : a5y (l.take n) = true)
  (hS : (l.take n).all (fun o => match o.dst with | some d => decide (d < a.tmps.size) | none => true) = true) (hBn : B < n) (hK : ∀ j ∈ K, j < n /\ j ≠ B)
  (hst : ∀ i w1 w2 v, a8m Φ i w1 v -> Below w1.heap.size w1 w2 -> a8m Φ i w2 v) (h00 : ∀ w1 w2, I0 w1 -> Below w1.heap.size w1 w2 -> I0 w2) (h11 : ∀ v w1 w2, I1 v w1 -> Below w1.heap.size w1 w2 -> I1 v w2)
  (h0 : I0 w.drew)
  (hstep : a8c (StepY P l n B C K Φ I0 I1 a) (l.take n) 0)
  (hend : ∀ x w1, I1 (x C) w1 -> (∀ j ∈ K, a8m Φ j w1 (x j)) -> wpList P l.toArray Q (l.drop n) (a0r (l.take n) 0 x a) w1) : (Code.region id l.toArray true).wp P Q a w := by
 refine wp_region_any hm ?_
 obtain ⟨x0, hx0⟩ := a6q a (l.take n) 0
 have inv0 : HeadInv .any l.toArray n (Array.replicate l.toArray.size false) :=
  ⟨by simp, fun j oj _ hl => (by rw [getD_replicate_false] at hl; cases hl), fun t _ ht => getD_in (by simpa using ht) (getD_replicate_false _ _)⟩
 have hBs := hB
 simp only [invB, Bool.and_eq_true, decide_eq_true_eq] at hBs
 have hlen : n < l.toArray.size := hBs.1.1.1.1
 have hedge := hBs.2
 have hunl : (unl (Array.replicate l.toArray.size false) n).length = n := by
  unfold unl
  rw [List.filter_eq_self.2]
  ·simp
  intro j hj
  have hjn := List.mem_range.1 hj
  have : (Array.replicate l.toArray.size false).getD j true = false := getD_in (by simpa using Nat.lt_trans hjn (by simpa using hlen)) (getD_replicate_false _ _)
  rw [this]; rfl
 have hfalse : ∀ i, i < n -> (Array.replicate l.toArray.size false).getD i true = true -> False := fun i hi h => by
  rw [getD_in (by simpa using Nat.lt_trans hi (by simpa using hlen)) (getD_replicate_false _ _)] at h; cases h
 have hdepE : ∀ (o : Oper) i, l[B]? = some o -> depB l B i = true -> ∃ e ∈ o.after, Region.binds .any e = true /\ e.on = i := by
  intro o i ho h
  unfold depB at h
  rw [ho] at h
  obtain ⟨e, he, hbe⟩ := Array.any_eq_true'.1 h
  rw [Bool.and_eq_true, decide_eq_true_eq] at hbe
  exact ⟨e, he, hbe.1, hbe.2⟩
 have := inv_J (P := P) (Q := Q) (a0 := a) rfl hB hD
  (fun listed x w1 => (if listed.getD B true = true then I1 (x C) w1 else I0 w1) /\ (∀ i, i < n -> i ≠ B -> listed.getD i true = true -> (listed.getD B true = true -> i ∈ K) -> a8m Φ i w1 (x i)) /\ (listed.getD B true = true -> ∀ i, depB l B i = true -> i < n -> listed.getD i true = true))
  (fun listed x w1 i o ho hi hsz hun hdeps ⟨hI, hv, hBd⟩ => by
   have hot : (l.take n)[i]? = some o := by rw [List.getElem?_take, if_pos hi]; exact ho
   have hq0 := a4y _ _ hstep i o hot
   rw [Nat.zero_add] at hq0
   have hnB : depB l B i = true -> listed.getD B true = false := fun hd => by
    cases hh : listed.getD B true with
    | false => rfl
    | true => rw [hBd hh i hd hi] at hun; cases hun
   have h := hq0 x (a0r (l.take n) 0 x a) w1 (fun hd => by rw [hnB hd] at hI; simpa using hI) (fun j o' t hj hd' => by
    have hs := List.all_eq_true.1 hS o' (List.mem_of_getElem? hj)
    rw [hd'] at hs
    have := b0h (l.take n) 0 x a j o' t hD hj hd' (by simpa using hs)
    rwa [Nat.zero_add, a1p] at this) (fun t ht => by
    have := a4w (l.take n) 0 x a t ht
    rwa [a1p, a1p] at this) (fun e he hbe hnB' hor => by
    have h2 := List.all_eq_true.1 hedge i (List.mem_range.2 hi)
    rw [show l.toArray[i]? = some o by simpa using ho] at h2
    have h3 := Array.all_eq_true'.1 h2 e he
    rw [hbe] at h3
    have h4 : e.on < i := by simpa using h3
    refine hv e.on (by omega) hnB' (hdeps e he hbe) (fun hlB => ?_)
    rcases hor with rfl | hd | hk
    ·rw [hun] at hlB; cases hlB
    ·rw [hnB hd] at hlB; cases hlB
    exact hk)
   clear hq0
   by_cases hiB : i = B
   ·rw [if_pos hiB] at h
    subst hiB
    rw [hun] at hI
    have h := h (by simpa using hI)
    unfold StepM at h
    refine a6f (fun v w2 hY => ?_) h
    obtain ⟨hI1, hkeep⟩ := hY
    refine ⟨by rw [a9b, if_pos rfl, upd, if_neg hCB]; exact hI1, fun j hj hji hlj hk => ?_, fun _ j hd hj => ?_⟩
    ·have hjK := hk a9b
     rw [a3j (fun e => hji e.symm)] at hlj
     rw [upd, if_neg hji]
     exact hkeep j hjK _ (hv j hj hji hlj (fun hl => by rw [hun] at hl; cases hl))
    obtain ⟨e, he, hb1, hb2⟩ := hdepE o j (by simpa using ho) hd
    have := hdeps e he hb1
    rw [hb2] at this
    by_cases hji : j = i
    ·subst hji; exact a9b
    rw [a3j (fun e => hji e.symm)]; exact this
   rw [if_neg hiB] at h
   unfold StepQ at h
   refine a6f (fun v w2 hY => ?_) h
   obtain ⟨hb2, hvv⟩ := hY
   refine ⟨?_, fun j hj hjB hlj hk => ?_, fun hl j hd hj => ?_⟩
   ·rw [a3j hiB]
    split at hI
    ·rename_i hl
     have hiC : ¬ C = i := fun e => by
      subst e
      rw [hBd hl C hC hCn] at hun
      cases hun
     rw [if_pos hl, upd, if_neg hiC]
     exact h11 _ _ _ hI hb2
    rename_i hl; rw [if_neg hl]; exact h00 _ _ hI hb2
   ·rw [a3j hiB] at hk
    by_cases hji : j = i
    ·subst hji; rw [upd, if_pos rfl]; exact hvv
    rw [a3j (fun e => hji e.symm)] at hlj
    rw [upd, if_neg hji]
    exact hst j _ _ _ (hv j hj hjB hlj hk) hb2
   rw [a3j hiB] at hl
   by_cases hji : j = i
   ·subst hji; exact a9b
   rw [a3j (fun e => hji e.symm)]; exact hBd hl j hd hj)
  (fun x w1 ⟨hI, hv, hBd⟩ => by
   have hc : ∀ i, i < n -> (b0s l.toArray.size n).getD i true = true := by
    intro i hi
    unfold b0s
    rw [Array.getD_eq_getD_getElem?, Array.getElem?_map, Array.getElem?_range, if_pos (by omega)]
    simp [hi]
   rw [if_pos (hc B hBn)] at hI
   exact hend x w1 hI (fun j hj => hv j (hK j hj).1 (hK j hj).2 (hc j (hK j hj).1) (fun _ => hj)))
  n (Array.replicate l.toArray.size false) x0 { w with drawn := w.drawn + 1 } inv0 hunl ⟨by
   rw [if_neg (fun h => hfalse B hBn h)]; exact h0, fun i hi _ h _ => (hfalse i hi h).elim, fun h => (hfalse B hBn h).elim⟩
 rw [hx0 x0 (fun _ _ => rfl)] at this
 rw [show n + (l.toArray.size - n) = l.toArray.size by omega] at this
 exact this
section
variable {w0 w : World} {R : List Own}
theorem St.addNew (h : St w0 R w) {g b : Nat} {cs : Array Value} {t : TypeId} (hB : Blk w g cs t) (hb : ∀ r ∈ R, r.g < b) (hg : b <= g) (h0 : w0.heap.size <= b) : St w0 (⟨g, cs, t⟩ :: R) w := by
 refine ⟨h.below, fun r hr => ?_, List.pairwise_cons.2 ⟨fun r hr => ?_, h.apart⟩⟩
 ·rcases List.mem_cons.1 hr with rfl | hr
  ·exact ⟨hB, Nat.le_trans h0 hg⟩
  exact h.ok r hr
 have := hb r hr
 show g ≠ r.g
 omega
end
end Go.Proofs.YtoighiepglclkaaGreatDoor
