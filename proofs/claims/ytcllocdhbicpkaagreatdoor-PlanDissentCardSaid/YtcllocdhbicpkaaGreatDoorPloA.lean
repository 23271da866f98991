/-
What the laws of plans share (printed by gen_pln14.py).
-/
import Derived.Test.YtcllocdhbicpkaaGreatDoorPlsC
import Derived.Test.YtcllocdhbicpkaaGreatDoorPlsD
namespace Go.Proofs.YtcllocdhbicpkaaGreatDoor
open Go.RowKit

theorem law32_spoiltS (x : Nat) (v : Value) (ts : List Qua) (m b : Int) (w : World) (hx : x ≤ 65535) (h : Quas w v ts) (hok : ∀ t ∈ ts, t.ok) (hm : 0 ≤ m ∧ m ≤ 255) (hb : 0 ≤ b ∧ b ≤ 255) :
  Calls Tryz.prog 12 #[.int .u16 (x : Nat), v, .int .u8 m, .int .u8 b] w fun e w' => ∃ vn va vb A c l, e = .returned (.agg #[.bool vn, .string (bs va), .string (bs vb), .slice A l.length c]) ∧ BlocsL w' (.slice A l.length c) l ∧ SmallBl 24 l ∧ l.length ≤ 17 ∧ va.length ≤ 24 ∧ vb.length ≤ 24 ∧ Below w.heap.size w w' :=
 (law32_spoilt x v ts m b w hx h hok hm hb).mono fun e w' ⟨vn, va, vb, s, l, he, hl, h1, h2, h3, h4, h5⟩ => by
  obtain ⟨A, c, hv, _, _⟩ := hl.slice
  subst hv
  exact ⟨vn, va, vb, A, c, l, he, hl, h1, h2, h3, h4, h5⟩
theorem residR_sized {value : Rat} {l : List Blc} {rs : List Rtr} (hv : Sized 1000000 value) (hok : SmallBl 1000000 l) (hrs : SmallT 1000000 rs) : Sized 17179869184 (residR value l (rs.map Rtr.val)).1 := by
 by_cases h : (residR value l (rs.map Rtr.val)).2 = 0
 ·exact (resid_fits hv hok hrs h).2.2
 ·have h0 : (residR value l (rs.map Rtr.val)).1 = 0 := by
   rw [resid_def] at h ⊢
   split
   ·rfl
   ·rename_i h1
    rw [if_neg h1] at h
    split
    ·rfl
    ·rename_i h2
     rw [if_neg h2] at h
     split
     ·rfl
     ·rename_i h3
      rw [if_neg h3] at h
      exact absurd rfl h
  rw [h0]; exact sized_zero.mono (by decide)
theorem ratesW_small (ws : List Nat) (n : Nat) : SmallT 8 ((ratesW ws n).map rtrOf) := rtrs_small fun r hr => by
 unfold ratesW at hr
 obtain ⟨i, _, rfl⟩ := List.mem_map.1 hr
 exact rateW_sized ws i
theorem searchR_small {value : Rat} {l : List Blc} (hv : Sized 1000 value) (hok : SmallBl 1000 l) (hl : l.length ≤ 20) : SmallT 1099511627776 ((searchR value l).1.map rtrOf) := by
 have h0 : SmallT 1099511627776 (([] : List Rat).map rtrOf) := fun t ht => by simp at ht
 unfold searchR
 split
 ·exact h0
 ·split
  ·exact h0
  ·exact (rtrs_small (rates_sized l value hv hok (by decide))).mono (by omega)
theorem law0_RatesS (v : Value) (ws : List Nat) (n : Nat) (w : World) (h : U16L w v ws) (hok : ∀ x ∈ ws, W16ok x) (hn : n ≤ 1000) :
  Calls Tryz.prog 16 #[v, .int .i64 (n : Nat)] w fun e w' => ∃ A c, e = .returned (.slice A n c) ∧ RatsL w' (.slice A n c) ((ratesW ws n).map rtrOf) ∧ Below w.heap.size w w' :=
 (law0_Rates v ws n w h hok hn).mono fun e w' ⟨v', he, hr, hb⟩ => by
  obtain ⟨A, c, hv, _, _⟩ := hr.slice
  rw [List.length_map, ratesW_len] at hv
  subst hv
  exact ⟨A, c, he, hr, hb⟩
end Go.Proofs.YtcllocdhbicpkaaGreatDoor
