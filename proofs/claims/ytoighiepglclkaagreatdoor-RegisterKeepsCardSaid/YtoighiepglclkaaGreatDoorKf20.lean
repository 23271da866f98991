/-
Part 20 of the base.
-/
import Derived.Test.YtoighiepglclkaaGreatDoorKf15
import Derived.Deep.Slices
import Derived.Deep.Fields
import Derived.ChangeSame
import Derived.Carry
set_option maxRecDepth 100000
namespace Go.Proofs.YtoighiepglclkaaGreatDoor
open Go.RowKit
theorem c1p (q : Rat) (w : World) :
  Calls Tryz.prog 132 #[rat q] w fun e w' => e = .returned (rat (-q)) /\ Below w.heap.size w w' := by
 by_cases h0 : q = 0
 have f1 := a2r (numB_nil.2 h0)
 have e : -q = q := by rw [h0]; rfl
 rw [e]
 unfold rat raw
 clear h0 e
 rotate_left
 have f1 := a0z (mt numB_nil.1 h0)
 have e1 := d0b h0
 have e2 := d0a q
 have e3 := c4e q
 unfold rat raw
 rw [e1, e2, e3]
 clear h0 e1 e2 e3
 rotate_left
 all_goals
  go_enter Tryz.func132, Tryz.ntmps132
  go_wp2
 ·exact bodyPost_ret (a0j rfl _ _ _ _ _ _ rfl (Blk.new1 w _ _ _)) rfl ⟨rfl, Ext.alloc (Ext.alloc (Below.refl _ _) _) _⟩
 exact bodyPost_ret (a0j rfl _ _ _ _ _ _ rfl (Blk.new1 w _ _ _)) rfl ⟨rfl, Ext.alloc (Ext.alloc (Below.refl _ _) _) _⟩
def a2c (x : Nat) : Rat := if x % 5 = 0 then mkRat ((x : Int) / 5 % 23) (1 + x / 115 % 6) else if x % 5 = 1 then ((10 * ((x : Int) / 5 % 4) : Int) : Rat) else (((x : Int) / 5 % 13 : Int) : Rat)
theorem c0z {x : Nat} (_ : x <= 65535) : Sized 8 (a2c x) := by
 have hp : (256 : Nat) ^ 8 = 18446744073709551616 := by decide
 have hi : ∀ n : Int, n.natAbs < 256 ^ 8 -> Sized 8 (n : Rat) := by
  intro n hn
  refine ⟨?_, ?_⟩
  ·rw [Rat.num_intCast]; exact a0s _ _ hn
  rw [Rat.den_intCast]; exact a0s _ _ (by decide)
 unfold a2c
 split
 ·exact a6s (by omega) (a0s _ _ (by omega)) (a0s _ _ (by omega))
 split
 ·exact hi _ (by omega)
 exact hi _ (by omega)
theorem b6k (x : Nat) (w : World) (hx : x <= 65535) :
  Calls Tryz.prog 21 #[.int .u16 (x : Nat)] w fun e w' => e = .returned (rat (a2c x)) /\ Below w.heap.size w w' := by
 have k0 : Raw (w.alloc (Obj.cells #[.bool false, .string (bs []), .string (bs [])] 40)) w.heap.size false [] [] := Blk.new w _ _
 have hbw : Hid (Below w.heap.size w (w.alloc (Obj.cells #[.bool false, .string (bs []), .string (bs [])] 40))) := Ext.alloc (Below.refl _ _) _
 have e1 : Int.tmod (x : Int) 5 = (x : Int) % 5 := Int.tmod_eq_emod_of_nonneg (by omega)
 have e2 : Int.tdiv (x : Int) 5 = (x : Int) / 5 := Int.tdiv_eq_ediv_of_nonneg (by omega)
 have e3 : Int.tdiv (x : Int) 115 = (x : Int) / 115 := Int.tdiv_eq_ediv_of_nonneg (by omega)
 have e4 : Int.tmod ((x : Int) / 5) 23 = (x : Int) / 5 % 23 := Int.tmod_eq_emod_of_nonneg (by omega)
 have e5 : Int.tmod ((x : Int) / 115) 6 = (x : Int) / 115 % 6 := Int.tmod_eq_emod_of_nonneg (by omega)
 have e6 : Int.tmod ((x : Int) / 5) 4 = (x : Int) / 5 % 4 := Int.tmod_eq_emod_of_nonneg (by omega)
 have e7 : Int.tmod ((x : Int) / 5) 13 = (x : Int) / 5 % 13 := Int.tmod_eq_emod_of_nonneg (by omega)
 have v1 : IntKind.u16.wrap ((x : Int) / 5) = (x : Int) / 5 := by rw [IntKind.wrap_u16]; omega
 have v2 : IntKind.u16.wrap ((x : Int) / 115) = (x : Int) / 115 := by rw [IntKind.wrap_u16]; omega
 have v3 : IntKind.i64.wrap ((x : Int) / 5 % 23) = (x : Int) / 5 % 23 := IntWalk.i64_in _ (by omega)
 have v4 : IntKind.i64.wrap ((x : Int) / 115 % 6) = (x : Int) / 115 % 6 := IntWalk.i64_in _ (by omega)
 have v5 : IntKind.i64.wrap (1 + (x : Int) / 115 % 6) = 1 + (x : Int) / 115 % 6 := IntWalk.i64_in _ (by omega)
 have v6 : IntKind.i64.wrap ((x : Int) / 5 % 4) = (x : Int) / 5 % 4 := IntWalk.i64_in _ (by omega)
 have v7 : IntKind.i64.wrap (10 * ((x : Int) / 5 % 4)) = 10 * ((x : Int) / 5 % 4) := IntWalk.i64_in _ (by omega)
 have v8 : IntKind.i64.wrap ((x : Int) / 5 % 13) = (x : Int) / 5 % 13 := IntWalk.i64_in _ (by omega)
 have hR := fun W => b0g ((x : Int) / 5 % 23) (1 + (x : Int) / 115 % 6) W (by omega) (by omega) (by omega) (by omega)
 rw [show (1 + (x : Int) / 115 % 6).toNat = 1 + x / 115 % 6 by omega] at hR
 have hA := fun W => b9b (10 * ((x : Int) / 5 % 4)) W (by omega) (by omega)
 have hB := fun W => b9b ((x : Int) / 5 % 13) W (by omega) (by omega)
 by_cases h0 : x % 5 = 0
 have c1 : (x : Int) % 5 = 0 := by omega
 have hq : a2c x = mkRat ((x : Int) / 5 % 23) (1 + x / 115 % 6) := by unfold a2c; rw [if_pos h0]
 rw [hq]
 generalize mkRat ((x : Int) / 5 % 23) (1 + x / 115 % 6) = q at *
 have HF := zh hR
 clear hA hB hR hq h0
 have K0 := zh k0
 clear k0
 unfold rat raw at *
 rotate_left
 by_cases h1 : x % 5 = 1
 have c1 : (x : Int) % 5 = 1 := by omega
 have hq : a2c x = ((10 * ((x : Int) / 5 % 4) : Int) : Rat) := by unfold a2c; rw [if_neg h0, if_pos h1]
 rw [hq]
 generalize ((10 * ((x : Int) / 5 % 4) : Int) : Rat) = q at *
 have HF := zh hA
 clear hA hB hR hq h0 h1
 have K0 := zh k0
 clear k0
 unfold rat raw at *
 rotate_left
 have c0 : ((x : Int) % 5 == 0) = false := by rw [beq_eq_false_iff_ne]; omega
 have c1 : ((x : Int) % 5 == 1) = false := by rw [beq_eq_false_iff_ne]; omega
 have c2 : ¬ (x : Int) % 5 = 0 := by omega
 have c3 : ¬ (x : Int) % 5 = 1 := by omega
 have hq : a2c x = (((x : Int) / 5 % 13 : Int) : Rat) := by unfold a2c; rw [if_neg h0, if_neg h1]
 rw [hq]
 generalize (((x : Int) / 5 % 13 : Int) : Rat) = q at *
 have HF := zh hB
 clear hA hB hR hq h0 h1
 have K0 := zh k0
 clear k0
 unfold rat raw at *
 rotate_left
 all_goals
  go_enter Tryz.func21, Tryz.ntmps21
  go_wp2_with fail
  refine (HF.out _).mono ?_
  rintro e w2 ⟨rfl, hb2⟩
  have k1 := K0.out.below hb2 (Raw.lt K0.out)
  have z0 := k1.frozen 0
  have z1 := k1.frozen 1
  have z2 := k1.frozen 2
  have d0 := k1.c0
  have d1 := k1.c1
  have d2 := k1.c2
  have K1 := zh k1
  have HB := zh (Ext.trans hbw.out hb2)
  clear k1 hb2
  go_wp2
 ·exact bodyPost_ret (a0j rfl _ _ _ _ _ _ rfl (K1.out.put _ _ _)) rfl ⟨rfl, a0p HB.out (Nat.le_refl _) _ _ _⟩
 ·exact bodyPost_ret (a0j rfl _ _ _ _ _ _ rfl (K1.out.put _ _ _)) rfl ⟨rfl, a0p HB.out (Nat.le_refl _) _ _ _⟩
 exact bodyPost_ret (a0j rfl _ _ _ _ _ _ rfl (K1.out.put _ _ _)) rfl ⟨rfl, a0p HB.out (Nat.le_refl _) _ _ _⟩
open Go.ChangeShapes Go.WideShapes Go.Deep Go.RowKit
section
variable {H : Type} {enc : TypeId × Value -> H} {P : Program} {W : World} {held : Bool}
theorem c8u {w : World} {a : Addr} {v : Value} (h : w.cell? a = some v) : a = ⟨a.block, a.off, none⟩ /\ a.block < w.heap.size := by
 unfold World.cell? at h
 split at h
 ·rename_i c _ _ hb
  split at h
  ·cases h
  rename_i hs
  refine ⟨?_, (Array.getElem?_eq_some_iff.1 hb).1⟩
  cases a with
  | mk b o s => cases s with
   | none => rfl
   | some _ => simp at hs
 cases h
theorem c6d {α : Type} (d : α) {f : α -> List Value} {k : Nat} (Good : α -> Prop) {t e : TypeId} {fuel : Nat} {cs : List Value} {x : DataW H × List MemPlace} (ht : P.underlying t = some (.slice e)) (hk0 : 0 < k) (hk : P.cellsOf e = k)
  (hf : ∀ z, (f z).length = k) (hdec : ∀ n cs' y, DataW.trod enc P W 0 (fun _ => true) held n e cs' = some y -> ∃ z : α, cs' = f z /\ Good z) (h : DataW.trod enc P W 0 (fun _ => true) held fuel t cs = some x) :
  ∃ v xs, cs = [v] /\ Slc f k W v xs /\ ∀ z ∈ xs, Good z := by
 rcases open_slice ht h with ⟨rfl, _⟩ | ⟨a, len, cap, m, n, D, Pl, rfl, hb, hl, hm, hmm, hx, hi⟩
 ·exact ⟨_, [], rfl, Slc.nil_ _ _ _ _ _ (by decide), by simp⟩
 have hm' : m = cap := by simpa using hmm
 subst hm'
 rw [hk] at hi
 have hch : ∀ i, ∃ z : α, i < m -> Good z /\ ∀ j u, (f z)[j]? = some u -> W.cell? ((a.add (i * k)).add j) = some u := by
  intro i
  by_cases him : i < m
  ·obtain ⟨cs', hc, ht'⟩ := hi i him
   obtain ⟨z, rfl, hg⟩ := hdec _ _ _ ht'
   obtain ⟨_, hcl, hat⟩ := World.cells?_some hc
   refine ⟨z, fun _ => ⟨hg, fun j u hu => ?_⟩⟩
   have hj : j < k := by rw [<- hcl]; exact (List.getElem?_eq_some_iff.1 hu).1
   rw [hat j hj, hu]
  exact ⟨d, fun h => absurd h him⟩
 obtain ⟨z, hz⟩ := Classical.axiomOfChoice hch
 refine ⟨_, (List.range len).map z, rfl, ⟨some a, m, by simp, by simpa using hl, by unfold maxLen at hm; omega, fun h0 => ?_⟩, ?_⟩
 ·have h0' : 0 < len := by simpa using h0
  have hfz : ∃ u, (f (z 0))[0]? = some u := ⟨(f (z 0))[0]'(by rw [hf]; exact hk0), List.getElem?_eq_getElem _⟩
  obtain ⟨u, hu⟩ := hfz
  have hc := (hz 0 (by omega)).2 0 u hu
  rw [Nat.zero_mul] at hc
  have hs := c8u (a := a) (by simpa [Addr.add] using hc)
  refine ⟨a.block, a.off, by rw [<- hs.1], hs.2, fun j y hj i u hu => ?_⟩
  rw [List.getElem?_map] at hj
  have hjl : j < len := by
   rcases Nat.lt_or_ge j len with h | h
   ·exact h
   rw [List.getElem?_eq_none (by simpa using h)] at hj; cases hj
  rw [List.getElem?_range hjl] at hj
  have e : z j = y := by simpa using hj
  subst e
  have hc := (hz j (by omega)).2 i u hu
  rw [hs.1, Addr.add_lit, Addr.add_lit] at hc
  exact hc
 intro y hy
 rw [List.mem_map] at hy
 obtain ⟨j, hj, rfl⟩ := hy
 have : j < len := by simpa using hj
 exact (hz j (by omega)).1
end
section
variable {H : Type} {enc : TypeId × Value -> H} {W : World} {base : Nat} {sp : Nat -> Bool} {held : Bool}
theorem d0q {a : Int} (h : (Lit.int .i64 a).wf = true) : -9223372036854775808 <= a /\ a <= 9223372036854775807 := by
 simpa [Lit.wf, IntKind.min, IntKind.max, IntKind.signed, IntKind.bits] using h
end
end Go.Proofs.YtoighiepglclkaaGreatDoor
