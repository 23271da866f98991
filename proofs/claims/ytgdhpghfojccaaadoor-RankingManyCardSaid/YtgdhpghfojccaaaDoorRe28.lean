/-
Part 28 of the base.
-/
import Derived.Test.YtgdhpghfojccaaaDoorRe18
import Derived.Test.YtgdhpghfojccaaaDoorRe20
import Derived.Deep.Upon
namespace Go.Proofs.YtgdhpghfojccaaaDoor
open Go.RowKit
section
variable {α : Type} {enc : α -> List Value} {k : Nat}
def Que (enc : α -> List Value) (k base g : Nat) (w : World) (v : Value) (xs : List α) : Prop :=
 ∃ p cap, v = .slice (some ⟨g, p, none⟩) xs.length cap /\ base <= g /\ g < w.heap.size /\ xs.length <= cap /\ cap <= maxLen /\ (∀ j u, (flat enc xs)[j]? = some u -> w.cell? ⟨g, p + j, none⟩ = some u) /\
  ∀ j, j < cap * k -> (w.cell? ⟨g, p + j, none⟩).isSome = true /\ w.frozen? ⟨g, p + j, none⟩ = false
theorem Que.kept {base g : Nat} {w w' : World} {v : Value} {xs : List α} (h : Que enc k base g w v xs) (hg : w'.heap[g]? = w.heap[g]?) (hs : w.heap.size <= w'.heap.size) : Que enc k base g w' v xs := by
 obtain ⟨p, cap, rfl, h1, h2, h3, h4, h5, h6⟩ := h
 have hc : ∀ j, w'.cell? ⟨g, p + j, none⟩ = w.cell? ⟨g, p + j, none⟩ := fun j => World.cell?_of_block (a := ⟨g, p + j, none⟩) hg
 have hf : ∀ j, w'.frozen? ⟨g, p + j, none⟩ = w.frozen? ⟨g, p + j, none⟩ := fun j => World.frozen?_of_block (a := ⟨g, p + j, none⟩) hg
 exact ⟨p, cap, rfl, h1, by omega, h3, h4, fun j u hu => by rw [hc]; exact h5 j u hu, fun j hj => by rw [hc, hf]; exact h6 j hj⟩
theorem Que.lt {base g : Nat} {w : World} {v : Value} {xs : List α} (h : Que enc k base g w v xs) : base <= g /\ g < w.heap.size := by
 obtain ⟨p, cap, rfl, h1, h2, _⟩ := h
 exact ⟨h1, h2⟩
theorem Que.below {base g : Nat} {w w' : World} {v : Value} {xs : List α} (h : Que enc k base g w v xs) (hb : Below w.heap.size w w') : Que enc k base g w' v xs := h.kept (hb.block g h.lt.2) hb.size
theorem Que.far {base g : Nat} {w : World} {v : Value} {xs : List α} (h : Que enc k base g w v xs) {a : Addr} (ha : g ≠ a.block) (u : Value) : Que enc k base g (w.setCell a u) v xs :=
 h.kept (Below.heap_setCell w a u g ha) (by rw [a6b]; exact Nat.le_refl _)
theorem Que.of_blk (hk : ∀ x, (enc x).length = k) {base : Nat} {w : World} {g : Nat} {cs : Array Value} {t : TypeId} {xs : List α} (h : Blk w g cs t) (hb : base <= g) (hcs : cs.toList = flat enc xs) {n c : Nat} (hn : xs.length = n) (hc : n = c) (hm : n <= maxLen) :
  Que enc k base g w (.slice (some ⟨g, 0, none⟩) n c) xs := by
 subst hn
 subst hc
 refine ⟨0, _, rfl, hb, h.lt, Nat.le_refl _, hm, fun j u hu => ?_, fun j hj => ?_⟩
 ·rw [Nat.zero_add]
  refine h.cell _ _ ?_
  rw [<- Array.getElem?_toList, hcs]
  exact hu
 rw [Nat.zero_add]
 refine ⟨?_, h.frozen j⟩
 have hl : j < cs.size := by rw [<- Array.length_toList, hcs, a4c hk]; exact hj
 rw [h.cell j cs[j] (Array.getElem?_eq_getElem hl)]; rfl
theorem Que.slc (hk : ∀ x, (enc x).length = k) {base g : Nat} {w : World} {v : Value} {xs : List α} (h : Que enc k base g w v xs) : Slc enc k w v xs := by
 obtain ⟨p, cap, rfl, h1, h2, h3, h4, h5, h6⟩ := h
 refine ⟨_, cap, rfl, h3, by unfold maxLen at h4; omega, fun _ => ⟨g, p, rfl, h2, fun j x hj i u hu => ?_⟩⟩
 rw [Nat.add_assoc]
 exact h5 _ u (a3d hk xs j x hj i u hu)
theorem Que.len {base g : Nat} {w : World} {v : Value} {xs : List α} (h : Que enc k base g w v xs) : ∃ p cap, v = .slice (some ⟨g, p, none⟩) xs.length cap /\ xs.length <= cap /\ cap <= 9223372036854775807 := by
 obtain ⟨p, cap, rfl, h1, h2, h3, h4, _⟩ := h
 exact ⟨p, cap, rfl, h3, by unfold maxLen at h4; omega⟩
theorem Que.pop (hk : ∀ x, (enc x).length = k) {base g : Nat} {w : World} {v : Value} {x : α} {t : List α} (h : Que enc k base g w v (x :: t)) :
  ∃ p cap, v = .slice (some ⟨g, p, none⟩) (t.length + 1) cap /\ t.length + 1 <= cap /\ cap <= 9223372036854775807 /\ (∀ i u, (enc x)[i]? = some u -> w.cell? ⟨g, p + i, none⟩ = some u) /\ Que enc k base g w (Go.sliced (some ⟨g, p, none⟩) 1 (t.length + 1) cap k) t := by
 obtain ⟨p, cap, rfl, h1, h2, h3, h4, h5, h6⟩ := h
 rw [List.length_cons] at h3
 have hx : ∀ i u, (enc x)[i]? = some u -> w.cell? ⟨g, p + i, none⟩ = some u := fun i u hu => h5 i u (by
  rw [flat, List.getElem?_append_left (List.getElem?_eq_some_iff.1 hu).1]; exact hu)
 refine ⟨p, cap, rfl, h3, by unfold maxLen at h4; omega, hx, ?_⟩
 unfold Go.sliced
 rw [Nat.add_sub_cancel]
 by_cases hc : cap = 1
 ·subst hc
  obtain rfl : t = [] := List.length_eq_zero_iff.1 (by omega)
  rw [if_pos rfl]
  exact ⟨p, 0, rfl, h1, h2, Nat.le_refl _, Nat.zero_le _, fun j u hu => by simp [flat] at hu, fun j hj => by omega⟩
 rw [if_neg hc]
 refine ⟨p + k, cap - 1, by simp [Addr.add_lit], h1, h2, by omega, by omega, fun j u hu => ?_, fun j hj => ?_⟩
 ·rw [Nat.add_assoc]
  refine h5 (k + j) u ?_
  rw [flat, List.getElem?_append_right (by rw [hk]; omega), hk, Nat.add_sub_cancel_left]
  exact hu
 rw [Nat.add_assoc]
 refine h6 (k + j) ?_
 rw [Nat.sub_mul] at hj
 have : 1 * k <= cap * k := Nat.mul_le_mul_right _ (by omega)
 omega
end
theorem b0r {P : Program} {c : Code} {Q : Exit -> Act -> World -> Prop} {a : Act} {w0 w : World} {R : List Own} {X : World -> Prop} (h : St w0 R w) (hx : X w) (k : ∀ w', St w0 R w' -> X w' -> c.wp P Q a w') : c.wp P Q a w := k w h hx
theorem b0t (b : Nat) : ∀ (vs : List Value) (o : Nat) (w : World), (w.setCells b o vs).heap.size = w.heap.size
 | [], _, _ => rfl
 | v :: r, o, w => by rw [World.setCells, b0t b r (o + 1) (w.setCell ⟨b, o, none⟩ v), a6b]
theorem b0s (b : Nat) : ∀ (vs : List Value) (o : Nat) (w : World), (w.setCells b o vs).tape = w.tape
 | [], _, _ => rfl
 | v :: r, o, w => by rw [World.setCells, b0s b r (o + 1) (w.setCell ⟨b, o, none⟩ v)]; rfl
section
variable {α : Type} {enc : α -> List Value} {P : Program}
theorem a9t (base : Nat) (t ty e : TypeId) (i : TypeInfo) (z : Value) (size bytes : Nat) (ht : P.underlying t = some (.slice e)) (hi : P.info? e = some i) (hz : i.zero = some z)
  (hsize : i.size = size) (hby : i.bytes = bytes) (hzs : z.cells.size = size) (hk : ∀ x, (enc x).length = size)
  {w : World} {g : Nat} {v : Value} {xs : List α} (hq : Que enc size base g w v xs) (x : Value) (ys : List α) (hs : Src P size t x ys.length (flat enc ys) w) (h63 : xs.length + ys.length <= maxLen) (hbytes : (xs.length + ys.length) * bytes <= 140737488355328) (hbase : base <= w.heap.size) :
  ∃ v' w' g', (Builtin.append_ #[t, t] ty #[v, x]).run P w = .ok v' w' /\ Que enc size base g' w' v' (xs ++ ys) /\ w.grownBy w' (some g) /\ (g' = g \/ w.heap.size <= g') := by
 subst hsize
 subst hby
 obtain ⟨p, cap, rfl, h1, h2, h3, h4, h5, h6⟩ := hq
 have hfl := a4c hk xs
 have hfy := a4c hk ys
 by_cases hroom : xs.length + ys.length <= cap
 ·have hfit : (xs.length + ys.length) * i.size <= cap * i.size := Nat.mul_le_mul_right _ hroom
  rw [Nat.add_mul] at hfit
  have hthere : ∀ j, j < (flat enc ys).length -> (w.cell? ⟨g, p + xs.length * i.size + j, none⟩).isSome = true := fun j hj => by rw [Nat.add_assoc]; exact (h6 _ (by omega)).1
  have hr := run_append_room_src (P := P) w t t ty e i ht hi g p xs.length cap x ys.length (flat enc ys) hs hroom hthere (fun j hj => by rw [Nat.add_assoc]; exact (h6 _ (by omega)).2)
  have hsz : (w.setCells g (p + xs.length * i.size) (flat enc ys)).heap.size = w.heap.size := b0t _ _ _ _
  refine ⟨_, _, g, hr, ⟨p, cap, by rw [List.length_append], h1, by rw [hsz]; exact h2, by rw [List.length_append]; exact hroom, h4, fun j u hu => ?_, fun j hj => ?_⟩, ?_, .inl rfl⟩
  ·rw [a1m] at hu
   by_cases hj : j < xs.length * i.size
   ·rw [List.getElem?_append_left (by omega)] at hu
    rw [World.cell?_setCells_out g _ _ _ _ (fun _ _ => .inl (by show p + j < _; omega))]
    exact h5 j u hu
   rw [List.getElem?_append_right (by omega), hfl] at hu
   obtain ⟨hl, he⟩ := List.getElem?_eq_some_iff.1 hu
   have := World.cell?_setCells_in g (flat enc ys) (p + xs.length * i.size) w hthere (j - xs.length * i.size) hl
   rw [show p + xs.length * i.size + (j - xs.length * i.size) = p + j by omega, he] at this
   exact this
  ·exact ⟨World.isSome_setCells g _ _ _ _ (h6 j hj).1, by rw [World.frozen?_setCells]; exact (h6 j hj).2⟩
  have hK := World.keptBut_setCells g (may := fun _ => True) (flat enc ys) (p + xs.length * i.size) w (fun _ _ => trivial)
  exact ⟨World.os_setCells _ _ _ _, b0s _ _ _ _, World.output_setCells _ _ _ _, by rw [hsz]; exact Nat.le_refl _, fun q hq hne => World.heap_setCells_other _ _ _ _ hq (fun e => hne (by rw [e]))⟩
 have hbig : (xs.length + ys.length : Nat) <= 9223372036854775807 := by unfold maxLen at h63; omega
 have hold := run_firstCells_some (P := P) w.drew i.size xs.length ⟨g, p, none⟩ xs.length cap (flat enc xs) hfl (by intro j u hu; rw [Addr.add_lit]; simpa using h5 j u hu)
 have hr := run_append_grow_src (P := P) w t t ty e i z ht hi hz (some ⟨g, p, none⟩) xs.length cap (flat enc xs) hold x ys.length (flat enc ys) hs (by omega) (by omega) (growslice_fits (by omega) hbytes)
 have hge := grownCap_ge w (xs.length + ys.length) cap e
 have hB : Blk (w.drew.alloc (.cells ((flat enc xs ++ flat enc ys).toArray ++ Builtin.zeroCells z.cells (grownCap w (xs.length + ys.length) cap e - (xs.length + ys.length))) e)) w.heap.size ((flat enc xs ++ flat enc ys).toArray ++ Builtin.zeroCells z.cells (grownCap w (xs.length + ys.length) cap e - (xs.length + ys.length))) e := Blk.new w.drew _ e
 have hcs : ((flat enc xs ++ flat enc ys).toArray ++ Builtin.zeroCells z.cells (grownCap w (xs.length + ys.length) cap e - (xs.length + ys.length))).size = grownCap w (xs.length + ys.length) cap e * i.size := by
  simp only [Array.size_append, List.size_toArray, List.length_append, size_zeroCells, hzs, hfl, hfy, <- Nat.add_mul]
  congr 1
  omega
 refine ⟨_, _, w.heap.size, hr, ⟨0, grownCap w (xs.length + ys.length) cap e, by rw [List.length_append], hbase, hB.lt, by rw [List.length_append]; exact hge, grownCap_le_maxLen _ _ _ _ h63, fun j u hu => ?_, fun j hj => ?_⟩, ⟨rfl, rfl, rfl, by simp, fun q hq _ => Below.heap_alloc w.drew _ q hq⟩, .inr (Nat.le_refl _)⟩
 ·rw [Nat.zero_add]
  refine hB.cell j u ?_
  rw [a1m] at hu
  have hl := (List.getElem?_eq_some_iff.1 hu).1
  rw [Array.getElem?_append_left (by simpa using hl)]
  simpa using hu
 rw [Nat.zero_add]
 refine ⟨?_, hB.frozen j⟩
 rw [hB.cell j _ (Array.getElem?_eq_getElem (by rw [hcs]; exact hj))]; rfl
theorem a6u (w : World) {ops : Array Oper} {rest : List Oper} {o : Oper} {a : Act} {Q : Exit -> Act -> World -> Prop} (hgd : o.guard = none) (s x : Operand) (t : TypeId)
  (ho : o.op = .call { callee := .builtin .append, args := #[s, x], argTypes := #[t, t] })
  (base : Nat) (e : TypeId) (i : TypeInfo) (z : Value) (size bytes : Nat) (ht : P.underlying t = some (.slice e)) (hi : P.info? e = some i) (hz : i.zero = some z)
  (hsize : i.size = size) (hby : i.bytes = bytes) (hzs : z.cells.size = size) (hk : ∀ y, (enc y).length = size)
  {g : Nat} {v : Value} {xs : List α} (hs : a.eval s = v) (hq : Que enc size base g w v xs) (u : Value) (ys : List α) (hx : a.eval x = u) (hsrc : Src P size t u ys.length (flat enc ys) w)
  (h63 : xs.length + ys.length <= maxLen) (hbytes : (xs.length + ys.length) * bytes <= 140737488355328) (hbase : base <= w.heap.size)
  (h : ∀ v' w' g', Que enc size base g' w' v' (xs ++ ys) -> w.grownBy w' (some g) -> (g' = g \/ w.heap.size <= g') -> wpList P ops Q rest (a.put o.dst v') w') : wpList P ops Q (o :: rest) a w := by
 refine wpList_plain hgd fun K hK => ?_
 obtain ⟨v', w', g', hrun, r1, r2, r3⟩ := a9t (P := P) base t o.type e i z size bytes ht hi hz hsize hby hzs hk hq u ys hsrc h63 hbytes hbase
 unfold Oper.wp
 simp [execOp, ho, resolve, invoke, builtin, hs, hx, hrun, Result.andThen]
 exact hK _ _ (h v' w' g' r1 r2 r3)
theorem b6p (w : World) {ops : Array Oper} {rest : List Oper} {o : Oper} {a : Act} {Q : Exit -> Act -> World -> Prop} (hgd : o.guard = none) (s lo : Operand) (t : TypeId) (ho : o.op = .slice t s (some lo) none none)
  (base : Nat) (e : TypeId) (i : TypeInfo) (size : Nat) (ht : P.underlying t = some (.slice e)) (hi : P.info? e = some i) (hsize : i.size = size) (hk : ∀ y, (enc y).length = size)
  {g : Nat} {v : Value} {x : α} {xs : List α} (hs : a.eval s = v) (hlo : a.eval lo = .int .i64 1) (hq : Que enc size base g w v (x :: xs))
  (h : ∀ v', Que enc size base g w v' xs -> wpList P ops Q rest (a.put o.dst v') w) : wpList P ops Q (o :: rest) a w := by
 subst hsize
 obtain ⟨p, cap, rfl, hc, hm, _, hq'⟩ := hq.pop hk
 have he : P.elem t = e := by unfold Program.elem; rw [ht]
 have hr := run_slice_l (P := P) w t (some ⟨g, p, none⟩) (xs.length + 1) cap (by rw [he]; exact ht) .i64 1 (by decide) (by omega)
 rw [he, show (1 : Int).toNat = 1 from rfl] at hr
 have hz : (sizeOf e).run P w = .ok i.size w := by simp [sizeOf, typeInfo, hi]
 rw [hz] at hr
 refine wpList_plain hgd fun K hK => ?_
 unfold Oper.wp
 simp only [execOp, ho, Option.map, hs, hlo, Sem.run_bind, run_sliceAt_slice w t _ _ _ _ (show P.underlying t = some (.slice (P.elem t)) by rw [he]; exact ht), hr, Result.andThen_ok, Sem.run_pure]
 exact hK _ _ (h _ hq')
theorem Src.of_slc {size : Nat} {t e : TypeId} (ht : P.underlying t = some (.slice e)) (hk : ∀ y, (enc y).length = size) {w w0 : World} {u : Value} {ys : List α} (h : Slc enc size w0 u ys) (hb : Below w0.heap.size w0 w) (h1 : ∀ y ∈ ys, ∀ c ∈ enc y, c.oneCell' = true) : Src P size t u ys.length (flat enc ys) w := by
 obtain ⟨A, c, rfl, _, _⟩ := h.slice
 cases A with
 | some ad =>
  refine Src.ofSlice w ht ad ys.length c (flat enc ys) (a4c hk ys) (h.flat_cells hk hb) fun c' hc' => ?_
  obtain ⟨j, hj⟩ := List.mem_iff_getElem?.1 hc'
  obtain ⟨q, i', y, _, hq, hi'⟩ := b1z hk ys j c' hj
  exact h1 y (List.mem_of_getElem? hq) c' (List.mem_of_getElem? hi')
 | none =>
  obtain rfl := h.none_nil
  exact Src.ofNil w ht c
end
end Go.Proofs.YtgdhpghfojccaaaDoor
