/-
Part 18 of the base.
-/
import Derived.Test.YtgdhpghfojccaaaDoorRe15
import Derived.Deep.AppendSrc
import Derived.Laws.Slices
namespace Go.Proofs.YtgdhpghfojccaaaDoor
open Go.RowKit
section
variable {α : Type} {enc : α -> List Value} {k : Nat}
theorem b1z (hk : ∀ x, (enc x).length = k) : ∀ (xs : List α) (j : Nat) (u : Value), (flat enc xs)[j]? = some u -> ∃ q i x, j = q * k + i /\ xs[q]? = some x /\ (enc x)[i]? = some u
 | [], j, u, h => by simp [flat] at h
 | x :: xs, j, u, h => by
  have h' : (enc x ++ flat enc xs)[j]? = some u := h
  by_cases hj : j < k
  ·rw [List.getElem?_append_left (by rw [hk]; exact hj)] at h'
   exact ⟨0, j, x, by omega, rfl, h'⟩
  rw [List.getElem?_append_right (by rw [hk]; omega), hk] at h'
  obtain ⟨q, i, y, h1, h2, h3⟩ := b1z hk xs (j - k) u h'
  exact ⟨q + 1, i, y, by rw [Nat.add_mul]; omega, by simpa using h2, h3⟩
theorem Slc.none_nil {w : World} {n c : Nat} {xs : List α} (h : Slc enc k w (.slice none n c) xs) : xs = [] := by
 obtain ⟨A, c', e, _, _, hr⟩ := h
 injection e with e1 e2 e3
 subst e1
 rcases Nat.eq_zero_or_pos xs.length with h0 | h0
 ·exact List.length_eq_zero_iff.1 h0
 obtain ⟨b, o, e, _⟩ := hr h0
 cases e
theorem Slc.flat_cells (hk : ∀ x, (enc x).length = k) {w w' : World} {ad : Addr} {n c : Nat} {xs : List α} (h : Slc enc k w (.slice (some ad) n c) xs) (hb : Below w.heap.size w w') : ∀ j u, (flat enc xs)[j]? = some u -> w'.cell? (ad.add j) = some u := by
 intro j u hj
 obtain ⟨q, i, x, rfl, hq, hi⟩ := b1z hk xs j u hj
 have hql : q < xs.length := (List.getElem?_eq_some_iff.1 hq).1
 obtain ⟨b, o, y, e, hbb, hy, hx⟩ := h.at_ hql
 injection e with e
 subst e
 rw [hq] at hy
 injection hy with hy
 subst hy
 have := hx w' hb i u hi
 rw [Addr.add_lit, <- Nat.add_assoc]
 exact this
theorem Slc.first {w : World} {A : Option Addr} {n c h : Nat} {xs : List α} (hs : Slc enc k w (.slice A n c) xs) (hhn : h <= xs.length) : Slc enc k w (.slice A h c) (xs.take h) := by
 obtain ⟨A', c', e, h1, h2, hr⟩ := hs
 injection e with e1 e2 e3
 subst e1; subst e2; subst e3
 have hlen : (xs.take h).length = h := by rw [List.length_take]; omega
 refine ⟨A, c, by rw [hlen], by rw [hlen]; omega, h2, fun hpos => ?_⟩
 rw [hlen] at hpos
 obtain ⟨b, o, e, hb, hx⟩ := hr (by omega)
 refine ⟨b, o, e, hb, fun j x hj i u hu => hx j x ?_ i u hu⟩
 have hlt : j < h := by
  rcases Nat.lt_or_ge j h with h3 | h3
  ·exact h3
  rw [List.getElem?_eq_none (by rw [hlen]; omega)] at hj; cases hj
 rwa [List.getElem?_take, if_pos hlt] at hj
theorem Slc.sliced {w : World} {A : Option Addr} {n c l h : Nat} {xs : List α} (hs : Slc enc k w (.slice A n c) xs) (hlh : l <= h) (hhn : h <= xs.length) : Slc enc k w (Go.sliced A l h c k) ((xs.take h).drop l) := by
 obtain ⟨A', c', e, h1, h2, hr⟩ := hs
 injection e with e1 e2 e3
 subst e1; subst e2; subst e3
 have hlen : ((xs.take h).drop l).length = h - l := by rw [List.length_drop, List.length_take]; omega
 unfold Go.sliced
 refine ⟨if c = l then A else A.map (·.add (l * k)), c - l, by rw [hlen], by rw [hlen]; omega, by omega, fun hpos => ?_⟩
 rw [hlen] at hpos
 obtain ⟨b, o, e, hb, hx⟩ := hr (by omega)
 subst e
 rw [if_neg (by omega)]
 refine ⟨b, o + l * k, by simp [Addr.add_lit], hb, fun j x hj i u hu => ?_⟩
 have hj' : xs[l + j]? = some x := by
  rw [List.getElem?_drop] at hj
  have hlt : l + j < h := by
   rcases Nat.lt_or_ge (l + j) h with h3 | h3
   ·exact h3
   rw [List.getElem?_eq_none (by rw [List.length_take]; omega)] at hj; cases hj
  rwa [List.getElem?_take, if_pos hlt] at hj
 have := hx (l + j) x hj' i u hu
 rw [show o + l * k + j * k + i = o + (l + j) * k + i by rw [Nat.add_mul]; omega]
 exact this
end
end Go.Proofs.YtgdhpghfojccaaaDoor
