/-
Part 38 of the base.
-/
import Derived.Test.YtoighiepglclkaaGreatDoorKf37
namespace Go.Proofs.YtoighiepglclkaaGreatDoor
open Go.RowKit
theorem d1e {x : Ent} {e : Evt} (h : (a0f x e).2 = 0) : (a0f x e).1.cl = x.cl := by
 obtain ⟨_, hw⟩ := a8r h
 rcases hw with ⟨_, hq⟩ | ⟨_, _, hq⟩ | ⟨_, _, hq⟩ | ⟨_, hq⟩ | ⟨_, _, hq⟩ | ⟨_, hq⟩ | ⟨_, hq⟩ | ⟨_, hq⟩ <;> rw [hq]
theorem apply_cl {r : Rgs} {e : Evt} {qs : List Quo} (hr : ∀ x ∈ r.es, x.cl.le 10000) (he : e.mid) (hq : ∀ q ∈ qs, q.low) : ∀ x ∈ (a0q r e qs).1.es, x.cl.le 10000 := by
 by_cases h : (a0q r e qs).2 = 0
 ·obtain ⟨_, hw⟩ := a7m h
  rcases hw with ⟨_, _, hf, _, hq'⟩ | ⟨i, x, _, hf, hx, hc, hq'⟩
  ·rw [hq']
   intro y hy
   rcases List.mem_append.1 hy with hy | hy
   ·exact hr y hy
   obtain rfl : y = _ := by simpa using hy
   exact b3e (b0t he.2.2 hq)
  rw [hq']
  intro y hy
  rcases List.mem_or_eq_of_mem_set hy with hy | rfl
  ·exact hr y hy
  show (a0f x e).1.cl.le 10000
  rw [d1e hc]
  exact hr x (List.mem_of_getElem? hx)
 rw [b3j h]
 intro x hx
 exact absurd hx (by simp [rgs0])
theorem c6p {qs : List Quo} (hq : ∀ q ∈ qs, q.low) : ∀ (acts : List ActN), (∀ a ∈ acts, a.ok) -> ∀ (s : Rgs × Int), (∀ x ∈ s.1.es, x.cl.le 10000) -> ∀ x ∈ (acts.foldl (b0p qs) s).1.es, x.cl.le 10000
 | [], _, _, hs => hs
 | a :: t, ha, s, hs => by
  rw [List.foldl_cons]
  refine c6p hq t (fun b hb => ha b (List.mem_cons_of_mem _ hb)) _ ?_
  unfold b0p
  split
  ·exact hs
  exact apply_cl hs (b4w (ha a (List.mem_cons_self ..)) _) hq
theorem runA_cl {cut bar : Nat} {acts : List ActN} {qs : List Quo} (ha : ∀ a ∈ acts, a.ok) (hq : ∀ q ∈ qs, q.low) : ∀ x ∈ (runA cut bar acts qs).es, x.cl.le 10000 := by
 unfold runA
 refine c6p hq _ (fun a h => ha a (List.mem_of_mem_take h)) _ ?_
 intro x hx
 have h0 : (newR (cut % 60 : Nat) (bar % 90 : Nat)).1.es = [] := by unfold newR; split <;> rfl
 rw [h0] at hx
 cases hx
end Go.Proofs.YtoighiepglclkaaGreatDoor
