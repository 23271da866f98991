/-
A whole list appended to a row of the call's own; a part of a slice reads as the part of its list.
-/
import Derived.Test.YtakoagjpmdcddaaDoorVG
import Derived.Deep.AppendSrc
import Derived.Laws.Slices
namespace Go.Proofs.YtakoagjpmdcddaaDoor
open Go.RowKit

section
variable {α : Type} {enc : α → List Value} {k : Nat}
theorem flat_inv (hk : ∀ x, (enc x).length = k) : ∀ (xs : List α) (j : Nat) (u : Value), (flat enc xs)[j]? = some u → ∃ q i x, j = q * k + i ∧ xs[q]? = some x ∧ (enc x)[i]? = some u
  | [], j, u, h => by simp [flat] at h
  | x :: xs, j, u, h => by
    have h' : (enc x ++ flat enc xs)[j]? = some u := h
    by_cases hj : j < k
    · rw [List.getElem?_append_left (by rw [hk]; exact hj)] at h'
      exact ⟨0, j, x, by omega, rfl, h'⟩
    · rw [List.getElem?_append_right (by rw [hk]; omega), hk] at h'
      obtain ⟨q, i, y, h1, h2, h3⟩ := flat_inv hk xs (j - k) u h'
      exact ⟨q + 1, i, y, by rw [Nat.add_mul]; omega, by simpa using h2, h3⟩
theorem Slc.none_nil {w : World} {n c : Nat} {xs : List α} (h : Slc enc k w (.slice none n c) xs) : xs = [] := by
  obtain ⟨A, c', e, _, _, hr⟩ := h
  injection e with e1 e2 e3
  subst e1
  rcases Nat.eq_zero_or_pos xs.length with h0 | h0
  · exact List.length_eq_zero_iff.1 h0
  · obtain ⟨b, o, e, _⟩ := hr h0
    cases e
theorem Slc.flat_cells (hk : ∀ x, (enc x).length = k) {w w' : World} {ad : Addr} {n c : Nat} {xs : List α} (h : Slc enc k w (.slice (some ad) n c) xs) (hb : Below w.heap.size w w') : ∀ j u, (flat enc xs)[j]? = some u → w'.cell? (ad.add j) = some u := by
  intro j u hj
  obtain ⟨q, i, x, rfl, hq, hi⟩ := flat_inv hk xs j u hj
  have hql : q < xs.length := (List.getElem?_eq_some_iff.1 hq).1
  obtain ⟨b, o, y, e, hbb, hy, hx⟩ := h.at_ hql
  injection e with e
  subst e
  rw [hq] at hy
  injection hy with hy
  subst hy
  have := hx w' hb i u hi
  rw [Addr.add_lit, ← Nat.add_assoc]
  exact this
/-- The first of a slice. -/
theorem Slc.first {w : World} {A : Option Addr} {n c h : Nat} {xs : List α} (hs : Slc enc k w (.slice A n c) xs) (hhn : h ≤ xs.length) : Slc enc k w (.slice A h c) (xs.take h) := by
  obtain ⟨A', c', e, h1, h2, hr⟩ := hs
  injection e with e1 e2 e3
  subst e1; subst e2; subst e3
  have hlen : (xs.take h).length = h := by rw [List.length_take]; omega
  refine ⟨A, c, by rw [hlen], by rw [hlen]; omega, h2, fun hpos => ?_⟩
  rw [hlen] at hpos
  obtain ⟨b, o, e, hb, hx⟩ := hr (by omega)
  refine ⟨b, o, e, hb, fun j x hj i u hu => hx j x ?_ i u hu⟩
  have hlt : j < h := by
    rcases Nat.lt_or_ge j h with h3 | h3
    · exact h3
    · rw [List.getElem?_eq_none (by rw [hlen]; omega)] at hj; cases hj
  rwa [List.getElem?_take, if_pos hlt] at hj
/-- A part of a slice. -/
theorem Slc.sliced {w : World} {A : Option Addr} {n c l h : Nat} {xs : List α} (hs : Slc enc k w (.slice A n c) xs) (hlh : l ≤ h) (hhn : h ≤ xs.length) : Slc enc k w (Go.sliced A l h c k) ((xs.take h).drop l) := by
  obtain ⟨A', c', e, h1, h2, hr⟩ := hs
  injection e with e1 e2 e3
  subst e1; subst e2; subst e3
  have hlen : ((xs.take h).drop l).length = h - l := by rw [List.length_drop, List.length_take]; omega
  unfold Go.sliced
  refine ⟨if c = l then A else A.map (·.add (l * k)), c - l, by rw [hlen], by rw [hlen]; omega, by omega, fun hpos => ?_⟩
  rw [hlen] at hpos
  obtain ⟨b, o, e, hb, hx⟩ := hr (by omega)
  subst e
  rw [if_neg (by omega)]
  refine ⟨b, o + l * k, by simp [Addr.add_lit], hb, fun j x hj i u hu => ?_⟩
  have hj' : xs[l + j]? = some x := by
    rw [List.getElem?_drop] at hj
    have hlt : l + j < h := by
      rcases Nat.lt_or_ge (l + j) h with h3 | h3
      · exact h3
      · rw [List.getElem?_eq_none (by rw [List.length_take]; omega)] at hj; cases hj
    rwa [List.getElem?_take, if_pos hlt] at hj
  have := hx (l + j) x hj' i u hu
  rw [show o + l * k + j * k + i = o + (l + j) * k + i by rw [Nat.add_mul]; omega]
  exact this
end

section
variable {α : Type} {enc : α → List Value} {P : Program}
theorem wpList_append_list (w : World) {ops : Array Oper} {rest : List Oper} {o : Oper} {a : Act} {Q : Exit → Act → World → Prop} (hgd : o.guard = none) (s x : Operand) (t : TypeId)
    (ho : o.op = .call { callee := .builtin .append, args := #[s, x], argTypes := #[t, t] })
    (base : Nat) (e : TypeId) (i : TypeInfo) (z : Value) (size bytes : Nat) (ht : P.underlying t = some (.slice e)) (hi : P.info? e = some i) (hz : i.zero = some z)
    (hsize : i.size = size) (hby : i.bytes = bytes) (hzs : z.cells.size = size) (hsz : 0 < size) (hk : ∀ y, (enc y).length = size)
    (g cap n : Nat) (xs : List α) (hs : a.eval s = .slice (some ⟨g, 0, none⟩) n cap) (hown : w.ownsRow base e size (.slice (some ⟨g, 0, none⟩) n cap) n (flat enc xs)) (u : Value) (ys : List α) (w0 : World) (hsrc : Slc enc size w0 u ys) (hb : Below w0.heap.size w0 w) (hx : a.eval x = u)
    (h1 : ∀ y ∈ ys, ∀ c ∈ enc y, c.oneCell' = true) (h63 : n + ys.length ≤ maxLen) (hbytes : (n + ys.length) * bytes ≤ 140737488355328) (hbase : base ≤ w.heap.size)
    (h : ∀ g' cap' w', w'.ownsRow base e size (.slice (some ⟨g', 0, none⟩) (n + ys.length) cap') (n + ys.length) (flat enc (xs ++ ys)) → Below base w w' → wpList P ops Q rest (a.put o.dst (.slice (some ⟨g', 0, none⟩) (n + ys.length) cap')) w') : wpList P ops Q (o :: rest) a w := by
  obtain ⟨A, c, rfl, hl, hc⟩ := hsrc.slice
  have hgb : base ≤ g := by
    rcases hown.2 with ⟨h2, _⟩ | ⟨g2, cap2, cur, h2, h3, _⟩
    · cases h2
    · injection h2 with h2
      injection h2 with h2
      injection h2 with h2
      omega
  cases A with
  | some ad =>
    refine wpList_append_own w hgd s x t ho base e i z size bytes ht hi hz hsize hby hzs hsz _ n (flat enc xs) hs hown ad ys.length c (flat enc ys) hx (flat_length hk ys) (hsrc.flat_cells hk hb) ?_ h63 hbytes hbase ?_
    · intro c' hc'
      obtain ⟨j, hj⟩ := List.mem_iff_getElem?.1 hc'
      obtain ⟨q, i', y, _, hq, hi'⟩ := flat_inv hk ys j c' hj
      exact h1 y (List.mem_of_getElem? hq) c' (List.mem_of_getElem? hi')
    · intro v' w' hown' hg hnil
      rw [← flat_append] at hown'
      have hbel : Below base w w' := (Below.refl base w).grown hg hbase (fun k' hk' => by
        have : g = k' := by simpa [Value.ownBlock] using hk'
        omega)
      rcases hown'.2 with ⟨h2, _⟩ | ⟨g2, cap2, cur, h2, _⟩
      · exact absurd (hnil.1 h2).1 (by intro h3; cases h3)
      · subst h2
        exact h g2 cap2 w' hown' hbel
  | none =>
    have hy : ys = [] := hsrc.none_nil
    subst hy
    refine wpList_plain hgd fun K hK => ?_
    have hroom : n + 0 ≤ cap := by
      rcases hown.2 with ⟨h2, _⟩ | ⟨g2, cap2, cur, h2, _, _, h3, _⟩
      · cases h2
      · injection h2 with _ _ h4
        omega
    have hr := run_append_room_src (P := P) w t t o.type e i ht hi g 0 n cap (.slice none 0 c) 0 [] (Src.ofNil w ht c) hroom (by simp) (by simp)
    have hset : w.setCells g (0 + n * i.size) [] = w := rfl
    rw [hset] at hr
    unfold Oper.wp execOp
    simp only [ho, resolve, invoke, builtin, Sem.run_bind, Sem.run_pure, Result.andThen_ok, List.map_toArray, List.map_cons, List.map_nil, hs, hx]
    have hx' : (([] : List α).length) = 0 := rfl
    rw [hx'] at hx ⊢
    simp only [hr, Result.andThen_ok]
    exact hK _ _ (h g cap w (by simpa using hown) (Below.refl _ _))
end
end Go.Proofs.YtakoagjpmdcddaaDoor
