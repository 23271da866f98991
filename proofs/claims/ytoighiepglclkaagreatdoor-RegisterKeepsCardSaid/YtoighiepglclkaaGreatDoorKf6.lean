/-
Part 6 of the base.
-/
import Derived.Test.YtoighiepglclkaaGreatDoorKf5
import Derived.Deep.OwnRows
import Derived.Deep.RegionHeld3
import Derived.Deep.RegionWith
namespace Go.Proofs.YtoighiepglclkaaGreatDoor
open Go.RowKit
structure Own where
 g : Nat
 cs : Array Value
 t : TypeId
structure St (w0 : World) (R : List Own) (w : World) : Prop where
 below : Below w0.heap.size w0 w
 ok : ∀ r ∈ R, Blk w r.g r.cs r.t /\ w0.heap.size <= r.g
 apart : R.Pairwise fun r s => r.g ≠ s.g
section
variable {w0 w w' : World} {R : List Own}
theorem St.start (w0 : World) : St w0 [] w0 := ⟨Below.refl _ _, by simp, List.Pairwise.nil⟩
theorem St.of (h : Below w0.heap.size w0 w) : St w0 [] w := ⟨h, by simp, List.Pairwise.nil⟩
theorem St.call (h : St w0 R w) (hb : Below w.heap.size w w') : St w0 R w' :=
 ⟨Ext.trans h.below hb, fun r hr => ⟨(h.ok r hr).1.below hb (h.ok r hr).1.lt, (h.ok r hr).2⟩, h.apart⟩
theorem St.drew (h : St w0 R w) : St w0 R w.drew := ⟨h.below.drew, fun r hr => h.ok r hr, h.apart⟩
theorem St.drewN (h : St w0 R w) (n : Nat) : St w0 R (w.drewN n) := ⟨a0h h.below n, fun r hr => h.ok r hr, h.apart⟩
theorem size_set (w : World) (p : Addr) (v : Value) : (w.setCell p v).heap.size = w.heap.size := by simp [World.setCell]
theorem St.alloc (h : St w0 R w) (cs : Array Value) (t : TypeId) (g : Nat) (hg : w.heap.size = g) : St w0 (⟨g, cs, t⟩ :: R) (w.alloc (.cells cs t)) := by
 subst hg
 refine ⟨Ext.alloc h.below _, fun r hr => ?_, List.pairwise_cons.2 ⟨fun r hr => ?_, h.apart⟩⟩
 ·rcases List.mem_cons.1 hr with rfl | hr
  ·exact ⟨Blk.new _ _ _, h.below.size⟩
  exact ⟨(h.ok r hr).1.alloc _, (h.ok r hr).2⟩
 have := (h.ok r hr).1.lt
 show w.heap.size ≠ r.g
 omega
theorem St.alloc' (h : St w0 R w) (o : Obj) : St w0 R (w.alloc o) := ⟨Ext.alloc h.below _, fun r hr => ⟨(h.ok r hr).1.alloc _, (h.ok r hr).2⟩, h.apart⟩
theorem St.sub {R' : List Own} (h : St w0 R w) (hs : List.Sublist R' R) : St w0 R' w := ⟨h.below, fun r hr => h.ok r (hs.subset hr), h.apart.sublist hs⟩
theorem St.blk (h : St w0 R w) (k : Nat) {g : Nat} {cs : Array Value} {t : TypeId} (hk : R[k]? = some ⟨g, cs, t⟩) : Blk w g cs t := (h.ok _ (List.mem_of_getElem? hk)).1
theorem St.ge (h : St w0 R w) (k : Nat) {g : Nat} {cs : Array Value} {t : TypeId} (hk : R[k]? = some ⟨g, cs, t⟩) : w0.heap.size <= g := (h.ok _ (List.mem_of_getElem? hk)).2
theorem St.lt (h : St w0 R w) (k : Nat) {g : Nat} {cs : Array Value} {t : TypeId} (hk : R[k]? = some ⟨g, cs, t⟩) : g < w.heap.size := (h.blk k hk).lt
theorem St.cell (h : St w0 R w) (k : Nat) {g : Nat} {cs : Array Value} {t : TypeId} (hk : R[k]? = some ⟨g, cs, t⟩) (i : Nat) {v : Value} (hv : cs[i]? = some v) : w.cell? ⟨g, i, none⟩ = some v := (h.blk k hk).cell i v hv
theorem St.frozen (h : St w0 R w) (k : Nat) {g : Nat} {cs : Array Value} {t : TypeId} (hk : R[k]? = some ⟨g, cs, t⟩) (i : Nat) : w.frozen? ⟨g, i, none⟩ = false := (h.blk k hk).frozen i
theorem St.ne' (h : St w0 R w) (j k : Nat) {r s : Own} (hj : R[j]? = some r) (hk : R[k]? = some s) (hjk : j < k) : r.g ≠ s.g := by
 obtain ⟨h1, e1⟩ := List.getElem?_eq_some_iff.1 hj
 obtain ⟨h2, e2⟩ := List.getElem?_eq_some_iff.1 hk
 have := List.pairwise_iff_getElem.1 h.apart j k h1 h2 hjk
 rw [e1, e2] at this; exact this
theorem St.ne (h : St w0 R w) (j k : Nat) {g g' : Nat} {cs cs' : Array Value} {t t' : TypeId} (hj : R[j]? = some ⟨g, cs, t⟩) (hk : R[k]? = some ⟨g', cs', t'⟩) (hjk : j ≠ k) : ¬ g = g' := by
 rcases Nat.lt_or_ge j k with hlt | hge
 ·exact h.ne' j k hj hk hlt
 exact fun e => h.ne' k j hk hj (by omega) e.symm
theorem St.c3 (h : St w0 R w) (k : Nat) {g : Nat} {a b c : Value} {t : TypeId} (hk : R[k]? = some ⟨g, #[a, b, c], t⟩) : w.cell? ⟨g, 0, none⟩ = some a /\ w.cell? ⟨g, 1, none⟩ = some b /\ w.cell? ⟨g, 2, none⟩ = some c :=
 ⟨h.cell k hk 0 rfl, h.cell k hk 1 rfl, h.cell k hk 2 rfl⟩
theorem St.f3 (h : St w0 R w) (k : Nat) {g : Nat} {a b c : Value} {t : TypeId} (hk : R[k]? = some ⟨g, #[a, b, c], t⟩) : w.frozen? ⟨g, 0, none⟩ = false /\ w.frozen? ⟨g, 1, none⟩ = false /\ w.frozen? ⟨g, 2, none⟩ = false :=
 ⟨h.frozen k hk 0, h.frozen k hk 1, h.frozen k hk 2⟩
theorem St.c4 (h : St w0 R w) (k : Nat) {g : Nat} {a b c d : Value} {t : TypeId} (hk : R[k]? = some ⟨g, #[a, b, c, d], t⟩) : w.cell? ⟨g, 0, none⟩ = some a /\ w.cell? ⟨g, 1, none⟩ = some b /\ w.cell? ⟨g, 2, none⟩ = some c /\ w.cell? ⟨g, 3, none⟩ = some d :=
 ⟨h.cell k hk 0 rfl, h.cell k hk 1 rfl, h.cell k hk 2 rfl, h.cell k hk 3 rfl⟩
theorem St.old (h : St w0 R w) {b : Nat} (hb : b < w0.heap.size) (o : Nat) : w.cell? ⟨b, o, none⟩ = w0.cell? ⟨b, o, none⟩ := h.below.cell (p := ⟨b, o, none⟩) hb
theorem Blk.set' {w : World} {g : Nat} {cs : Array Value} {t : TypeId} (h : Blk w g cs t) (i : Nat) (v : Value) : Blk (w.setCell ⟨g, i, none⟩ v) g (cs.setIfInBounds i v) t := by
 unfold Blk at *
 simp [World.setCell, Array.getElem?_modify, h]
theorem Blk.far {w : World} {g : Nat} {cs : Array Value} {t : TypeId} (h : Blk w g cs t) {p : Addr} (hp : g ≠ p.block) (u : Value) : Blk (w.setCell p u) g cs t :=
 (Below.heap_setCell w p u g hp).trans h
theorem St.set (h : St w0 R w) (k : Nat) {g : Nat} {cs : Array Value} {t : TypeId} (hk : R[k]? = some ⟨g, cs, t⟩) (i : Nat) (v : Value) :
  St w0 (R.set k ⟨g, cs.setIfInBounds i v, t⟩) (w.setCell ⟨g, i, none⟩ v) := by
 have hg : w0.heap.size <= g := h.ge k hk
 refine ⟨h.below.setCell hg v, fun r hr => ?_, ?_⟩
 ·rcases List.mem_or_eq_of_mem_set hr with h1 | h1
  ·by_cases he : r.g = g
   ·-- the block itself, in another place of the list: there is none
    obtain ⟨j, hj, e⟩ := List.mem_iff_getElem.1 hr
    by_cases hjk : k = j
    ·subst hjk
     rw [List.getElem_set_self] at e
     subst e
     exact ⟨(h.blk k hk).set' i v, hg⟩
    rw [List.getElem_set_ne hjk] at e
    have hj' : R[j]? = some r := by rw [List.getElem?_eq_getElem (by simpa using hj), e]
    rcases Nat.lt_or_ge j k with hlt | hge
    ·exact absurd he (h.ne' j k hj' hk hlt)
    exact absurd he.symm (h.ne' k j hk hj' (by omega))
   exact ⟨(h.ok r h1).1.far he v, (h.ok r h1).2⟩
  subst h1
  exact ⟨(h.blk k hk).set' i v, hg⟩
 rw [List.pairwise_iff_getElem]
 intro a b ha hb hab
 rw [List.length_set] at ha hb
 have ea : ∀ c (hc : c < (R.set k ⟨g, cs.setIfInBounds i v, t⟩).length), ((R.set k ⟨g, cs.setIfInBounds i v, t⟩)[c]).g = (R[c]'(by simpa using hc)).g := by
  intro c hc
  rw [List.getElem_set]
  split
  ·rename_i hck
   subst hck
   obtain ⟨h1, e1⟩ := List.getElem?_eq_some_iff.1 hk
   rw [e1]
  rfl
 rw [ea a (by simpa using ha), ea b (by simpa using hb)]
 exact List.pairwise_iff_getElem.1 h.apart a b ha hb hab
theorem St.fill {g : Nat} {cs : Array Value} {t : TypeId} (h : St w0 R w) (hb : Below w.heap.size w w') (hg : w.heap.size <= g) (hB : Blk w' g cs t) : St w0 (⟨g, cs, t⟩ :: R) w' := by
 have h2 := h.call hb
 refine ⟨h2.below, fun r hr => ?_, List.pairwise_cons.2 ⟨fun r hr => ?_, h.apart⟩⟩
 ·rcases List.mem_cons.1 hr with rfl | hr
  ·exact ⟨hB, Nat.le_trans h.below.size hg⟩
  exact h2.ok r hr
 have := (h.ok r hr).1.lt
 show g ≠ r.g
 omega
def Grows (w : World) (base : Nat) (e : TypeId) (size : Nat) (v : Value) (n : Nat) (xs : List Value) : Prop := w.ownsRow base e size v n xs
theorem Grows.below {base size n : Nat} {e : TypeId} {v : Value} {xs : List Value} (h : Grows w base e size v n xs) (hb : Below w.heap.size w w') : Grows w' base e size v n xs := by
 refine ⟨h.1, ?_⟩
 rcases h.2 with ⟨rfl, h0⟩ | ⟨g, cap, cur, rfl, hbl, hg, hrest⟩
 ·exact .inl ⟨rfl, h0⟩
 exact .inr ⟨g, cap, cur, rfl, hbl, (hb.block g (World.ownsRow.lt h g rfl).2).trans hg, hrest⟩
theorem a0b {a : Array Value} {t : Nat} {b : Bool} (h : a[t]?.getD undef = .bool b) : a[t]? = some (.bool b) := by
 cases hx : a[t]? with
 | none => rw [hx] at h; exact Value.noConfusion h
 | some v => rw [hx] at h; exact congrArg some h
theorem a3u {P : Program} {c : Code} {Q : Exit -> Act -> World -> Prop} {a : Act} (h : St w0 R w) (k : ∀ w', St w0 R w' -> c.wp P Q a w') : c.wp P Q a w := k w h
end
theorem b3n (b : Bool) (x y : Nat) : signed b (x * y) = signed b x * y := by
 unfold signed
 split
 ·rw [Int.natCast_mul, Int.neg_mul]
 rw [Int.natCast_mul]
theorem b2q (b : Bool) (x y : Nat) : signed b (x + y) = signed b x + signed b y := by
 unfold signed
 split <;> omega
theorem a8d {b c : Bool} {x y : Nat} (h : b ≠ c) (hxy : y <= x) : signed b (x - y) = signed b x + signed c y := by
 cases b <;> cases c
 ·exact absurd rfl h
 ·unfold signed; simp; omega
 ·unfold signed; simp; omega
 exact absurd rfl h
theorem b0y {b c : Bool} {x y : Nat} (h : b ≠ c) (hxy : x <= y) : signed c (y - x) = signed b x + signed c y := by
 rw [a8d (Ne.symm h) hxy, Int.add_comm]
theorem c1a {p q : Rat} (h : p.den = q.den) : mkRat (signed (negB p) p.num.natAbs + signed (negB q) q.num.natAbs) p.den = p + q := by
 rw [a4c, a4c, Rat.add_def', <- h]
 rw [show p.num * (p.den : Int) + q.num * (p.den : Int) = (p.num + q.num) * (p.den : Int) by rw [Int.add_mul]]
 rw [Rat.mkRat_mul_right p.den_nz]
theorem b0m (p q : Rat) : mkRat (signed (negB p) (p.num.natAbs * q.den) + signed (negB q) (q.num.natAbs * p.den)) (p.den * q.den) = p + q := by
 rw [b3n, b3n, a4c, a4c, Rat.add_def']
theorem denom_same {p q : Rat} : a0a p = a0a q ↔ p.den = q.den := by
 unfold a0a denB
 constructor
 ·intro h
  split at h <;> split at h
  ·rename_i h1 h2; rw [h1, h2]
  ·rename_i h1 h2; exact absurd (bytesOf_eq_nil.1 h.symm) q.den_nz
  ·rename_i h1 h2; exact absurd (bytesOf_eq_nil.1 h) p.den_nz
  have := congrArg bv h
  rwa [a0c, a0c] at this
 intro h; rw [h]
theorem numB_nil' {q : Rat} : numB q = [] ↔ q = 0 := by
 unfold numB
 rw [bytesOf_eq_nil]
 constructor
 ·intro h; exact Rat.num_eq_zero.1 (Int.natAbs_eq_zero.1 h)
 intro h; rw [h]; rfl
theorem d0b {q : Rat} (h : q ≠ 0) : negB (-q) = !negB q := by
 unfold negB
 have h1 : (-q < 0) ↔ ¬ (q < 0) := by
  rw [a4t, a4t, Rat.neg_num]
  have : q.num ≠ 0 := mt Rat.num_eq_zero.1 h
  omega
 by_cases h2 : q < 0
 ·rw [decide_eq_true h2, decide_eq_false (fun h3 => h1.1 h3 h2)]; rfl
 rw [decide_eq_false h2, decide_eq_true (h1.2 h2)]; rfl
theorem d0a (q : Rat) : numB (-q) = numB q := by unfold numB; rw [Rat.neg_num, Int.natAbs_neg]
theorem c4e (q : Rat) : a0a (-q) = a0a q := by unfold a0a; rw [Rat.neg_den]
theorem c0a (p q : Rat) : sgn (p - q).num = sgn ((p.num * q.den : Int) - q.num * p.den) := by
 have h : p - q = mkRat (p.num * q.den - q.num * p.den) (p.den * q.den) := Rat.sub_def' p q
 have hd : p.den * q.den ≠ 0 := Nat.mul_ne_zero p.den_nz q.den_nz
 generalize p.num * (q.den : Int) - q.num * (p.den : Int) = n at *
 rw [h, <- Rat.normalize_eq_mkRat hd, Rat.num_normalize]
 have hg : 0 < Nat.gcd n.natAbs (p.den * q.den) := Nat.gcd_pos_of_pos_right _ (Nat.pos_of_ne_zero hd)
 obtain ⟨k, hk⟩ : ((Nat.gcd n.natAbs (p.den * q.den) : Nat) : Int) ∣ n := Int.ofNat_dvd_left.2 (Nat.gcd_dvd_left _ _)
 generalize Nat.gcd n.natAbs (p.den * q.den) = g at *
 rw [hk, Int.mul_ediv_cancel_left _ (by omega)]
 have hgi : (0 : Int) < g := by omega
 rcases Int.lt_trichotomy k 0 with h1 | h1 | h1
 ·rw [a2p h1, a2p (Int.mul_neg_of_pos_of_neg hgi h1)]
 ·rw [h1, Int.mul_zero]
 rw [a3b h1, a3b (Int.mul_pos hgi h1)]
theorem c7b (n : Int) : -1 <= sgn n /\ sgn n <= 1 := by unfold sgn; split <;> (try split) <;> omega
theorem c5s (q : Rat) : sgnR (negB q) (numB q) = sgn q.num := by
 unfold sgnR
 by_cases h : q = 0
 ·rw [if_pos (numB_nil'.2 h), h]; rfl
 rw [if_neg (mt numB_nil'.1 h)]
 have hn : q.num ≠ 0 := mt Rat.num_eq_zero.1 h
 unfold negB
 by_cases h2 : q < 0
 ·rw [decide_eq_true h2, if_pos rfl, a2p ((a4t q).1 h2)]
 rw [decide_eq_false h2, if_neg (by decide)]
 have := mt (a4t q).2 h2
 rw [a3b (by omega)]
theorem a4k (n : Int) : (n < 0 /\ sgn n = -1) \/ (n = 0 /\ sgn n = 0) \/ (0 < n /\ sgn n = 1) := by
 rcases Int.lt_trichotomy n 0 with h | h | h
 ·exact .inl ⟨h, a2p h⟩
 ·exact .inr (.inl ⟨h, by rw [h]; rfl⟩)
 exact .inr (.inr ⟨h, a3b h⟩)
theorem cmp_less {p q : Rat} (h : sgn p.num < sgn q.num) : sgn (p - q).num = -1 := by
 rw [c0a]
 have hp : (0 : Int) < p.den := by have := p.den_nz; omega
 have hq : (0 : Int) < q.den := by have := q.den_nz; omega
 refine a2p ?_
 rcases a4k p.num with ⟨h1, e1⟩ | ⟨h1, e1⟩ | ⟨h1, e1⟩ <;> rcases a4k q.num with ⟨h2, e2⟩ | ⟨h2, e2⟩ | ⟨h2, e2⟩ <;> (rw [e1, e2] at h) <;> first | (exfalso; omega) | skip
 ·have := Int.mul_neg_of_neg_of_pos h1 hq; rw [h2, Int.zero_mul]; omega
 ·have := Int.mul_neg_of_neg_of_pos h1 hq; have := Int.mul_pos h2 hp; omega
 have := Int.mul_pos h2 hp; rw [h1, Int.zero_mul]; omega
theorem cmp_more {p q : Rat} (h : sgn q.num < sgn p.num) : sgn (p - q).num = 1 := by
 rw [c0a]
 have hp : (0 : Int) < p.den := by have := p.den_nz; omega
 have hq : (0 : Int) < q.den := by have := q.den_nz; omega
 refine a3b ?_
 rcases a4k p.num with ⟨h1, e1⟩ | ⟨h1, e1⟩ | ⟨h1, e1⟩ <;> rcases a4k q.num with ⟨h2, e2⟩ | ⟨h2, e2⟩ | ⟨h2, e2⟩ <;> (rw [e1, e2] at h) <;> first | (exfalso; omega) | skip
 ·have := Int.mul_neg_of_neg_of_pos h2 hp; rw [h1, Int.zero_mul]; omega
 ·have := Int.mul_neg_of_neg_of_pos h2 hp; have := Int.mul_pos h1 hq; omega
 have := Int.mul_pos h1 hq; rw [h2, Int.zero_mul]; omega
theorem cmp_neg {p q : Rat} (h : sgn p.num = sgn q.num) (hn : negB p = true) : sgn (p - q).num = -sgn (((p.num.natAbs * q.den : Nat) : Int) - (q.num.natAbs * p.den : Nat)) := by
 rw [c0a]
 have hpn : p.num < 0 := (a4t p).1 (of_decide_eq_true hn)
 have hqn : q.num < 0 := by
  rcases a4k q.num with ⟨h2, e2⟩ | ⟨h2, e2⟩ | ⟨h2, e2⟩
  ·exact h2
  ·rw [a2p hpn, e2] at h; omega
  rw [a2p hpn, e2] at h; omega
 have e1 : (p.num.natAbs : Int) = -p.num := by omega
 have e2 : (q.num.natAbs : Int) = -q.num := by omega
 rw [Int.natCast_mul, Int.natCast_mul, e1, e2, Int.neg_mul, Int.neg_mul]
 generalize p.num * (q.den : Int) = x
 generalize q.num * (p.den : Int) = y
 rcases a4k (x - y) with ⟨h2, e2⟩ | ⟨h2, e2⟩ | ⟨h2, e2⟩
 ·rw [e2, a3b (by omega)]
 ·rw [e2, show -x - -y = 0 by omega]; rfl
 rw [e2, a2p (by omega)]; rfl
theorem cmp_pos {p q : Rat} (h : sgn p.num = sgn q.num) (hn : negB p = false) : sgn (p - q).num = sgn (((p.num.natAbs * q.den : Nat) : Int) - (q.num.natAbs * p.den : Nat)) := by
 rw [c0a]
 have hpn : 0 <= p.num := by
  have := mt (a4t p).2 (of_decide_eq_false hn)
  omega
 have hqn : 0 <= q.num := by
  rcases a4k q.num with ⟨h2, e2⟩ | ⟨h2, e2⟩ | ⟨h2, e2⟩
  ·rw [e2] at h
   rcases a4k p.num with ⟨h3, e3⟩ | ⟨h3, e3⟩ | ⟨h3, e3⟩ <;> rw [e3] at h <;> omega
  ·omega
  omega
 have e1 : (p.num.natAbs : Int) = p.num := by omega
 have e2 : (q.num.natAbs : Int) = q.num := by omega
 rw [Int.natCast_mul, Int.natCast_mul, e1, e2]
set_option maxRecDepth 100000
set_option maxHeartbeats 4000000
theorem Raw.put_far {w : World} {g g' : Nat} {neg : Bool} {num den : List UInt8} (h : Raw w g neg num den) (hne : g ≠ g') (x y z : Value) :
  Raw (((w.setCell ⟨g', 0, none⟩ x).setCell ⟨g', 1, none⟩ y).setCell ⟨g', 2, none⟩ z) g neg num den :=
 (Below.heap_setCell _ _ z g hne).trans ((Below.heap_setCell _ _ y g hne).trans ((Below.heap_setCell _ _ x g hne).trans h))
theorem Raw.drew' {w : World} {g : Nat} {neg : Bool} {num den : List UInt8} (h : Raw w g neg num den) : Raw w.drew g neg num den := h
theorem a6p (q : Rat) : bv (numB q) = q.num.natAbs := by unfold numB; rw [a0c]
theorem c4z (q : Rat) : denL (a0a q) = bytesOf q.den := by
 unfold denL a0a denB
 by_cases h : q.den = 1
 ·rw [if_pos h, if_pos rfl, h, a1t]
 rw [if_neg h, if_neg (fun e => q.den_nz (bytesOf_eq_nil.1 e))]
theorem a1d (q : Rat) (w : World) : Calls Tryz.prog 80 #[rat q] w fun e w' => e = .returned (.string (bs (bytesOf q.den))) /\ Below w.heap.size w w' := by
 rw [<- c4z]
 exact c1r (negB q) (numB q) (a0a q) w
theorem a7v (n1 : Bool) (a1 b1 : List UInt8) (n2 : Bool) (a2 b2 : List UInt8) (w : World) (la1 : a1.length <= 17179869184) (lb1 : b1.length <= 17179869184) (la2 : a2.length <= 17179869184) (lb2 : b2.length <= 17179869184) :
  Calls Tryz.prog 72 #[raw n1 a1 b1, raw n2 a2 b2] w fun e w' => e = .returned (rat (decR n1 a1 b1 * decR n2 a2 b2)) /\ Below w.heap.size w w' := by
 have c1 := fun W => a2j n1 a1 b1 W (by omega) (by omega)
 have c2 := fun W => a2j n2 a2 b2 W (by omega) (by omega)
 have sp := a1f (neg := n1) la1 lb1 (by decide)
 have sq := a1f (neg := n2) la2 lb2 (by decide)
 generalize decR n1 a1 b1 = p at *
 generalize decR n2 a2 b2 = q at *
 clear la1 lb1 la2 lb2
 have hm := c4j p q
 rw [<- hm]
 have lp := sp.num
 have lq := sq.num
 have lpd := sp.2
 have lqd := sq.2
 have m1 := fun W => a4u (numB p) (numB q) W (by omega) (by omega)
 have d1 := fun W => a1d p W
 have d2 := fun W => a1d q W
 have m2 := fun W => a4u (bytesOf p.den) (bytesOf q.den) W (by omega) (by omega)
 simp only [a6p, a0c] at m1 m2
 have hd0 : p.den * q.den ≠ 0 := Nat.mul_ne_zero p.den_nz q.den_nz
 have lm := a1c sp.1 sq.1
 have lk := a1c sp.2 sq.2
 have rd := fun W => a1w (!(negB p == negB q)) (bytesOf (p.num.natAbs * q.num.natAbs)) (bytesOf (p.den * q.den)) W (by omega) (by omega) (by rw [a0c]; exact hd0)
 rw [a0c, a0c] at rd
 unfold rat raw at d1 d2
 have M1 := zh m1
 have M2 := zh m2
 have D1 := zh d1
 have D2 := zh d2
 have RD := zh rd
 clear hm lp lq lpd lqd m1 m2 d1 d2 hd0 lm lk rd sp sq
 generalize mkRat (signed (!(negB p == negB q)) (p.num.natAbs * q.num.natAbs)) (p.den * q.den) = r at *
 generalize bytesOf (p.num.natAbs * q.num.natAbs) = en at *
 generalize bytesOf (p.den * q.den) = ek at *
 generalize bytesOf p.den = ed at *
 generalize bytesOf q.den = eq at *
 unfold rat raw at *
 generalize negB p = np at *
 generalize negB q = nq at *
 generalize numB p = bp at *
 generalize numB q = bq at *
 generalize a0a p = dp at *
 generalize a0a q = dq at *
 have HC1 := zh c1
 have HC2 := zh c2
 have KA : Hid (Raw (((w.alloc (Obj.cells #[.bool n1, .string (bs a1), .string (bs b1)] 40)).alloc (Obj.cells #[.bool n2, .string (bs a2), .string (bs b2)] 40)).alloc (Obj.cells #[.bool false, .string (bs []), .string (bs [])] 40)).drew w.heap.size n1 a1 b1) := Raw.drew' (((Blk.new w _ 40).alloc _).alloc _)
 have KB : Hid (Raw (((w.alloc (Obj.cells #[.bool n1, .string (bs a1), .string (bs b1)] 40)).alloc (Obj.cells #[.bool n2, .string (bs a2), .string (bs b2)] 40)).alloc (Obj.cells #[.bool false, .string (bs []), .string (bs [])] 40)).drew (w.heap.size + 1) n2 a2 b2) := Raw.drew' ((Blk.new1 w _ _ 40).alloc _)
 have KC : Hid (Raw (((w.alloc (Obj.cells #[.bool n1, .string (bs a1), .string (bs b1)] 40)).alloc (Obj.cells #[.bool n2, .string (bs a2), .string (bs b2)] 40)).alloc (Obj.cells #[.bool false, .string (bs []), .string (bs [])] 40)).drew (w.heap.size + 1 + 1) false [] []) := Raw.drew' (Blk.new2 w _ _ _ 40)
 have hbw : Hid (Below w.heap.size w (((w.alloc (Obj.cells #[.bool n1, .string (bs a1), .string (bs b1)] 40)).alloc (Obj.cells #[.bool n2, .string (bs a2), .string (bs b2)] 40)).alloc (Obj.cells #[.bool false, .string (bs []), .string (bs [])] 40)).drew) := (Ext.alloc (Ext.alloc (Ext.alloc (Below.refl _ _) _) _) _).drew
 have hne1 : ¬ (w.heap.size = w.heap.size + 1 + 1) := by omega
 have hne2 : ¬ (w.heap.size + 1 + 1 = w.heap.size) := by omega
 clear c1 c2
 go_enter Tryz.func72, Tryz.ntmps72
 go_wp2
 go_cut [] (fun wx => Hid (Raw wx w.heap.size np bp dp) /\ Hid (Raw wx (w.heap.size + 1) nq bq dq) /\ Hid (Raw wx (w.heap.size + 1 + 1) false [] []) /\ Hid (Below w.heap.size w wx))
 case first =>
  go_region_with (first
   | (go_at_call_of 74 (Value.agg #[Value.bool n1, Value.string (bs a1), Value.string (bs b1)]); with_reducible refine (HC1.out _).mono ?_; rintro e w1 ⟨rfl, hb1⟩; have HB1 := zh hb1; clear hb1; have y0 := (KB.out.below HB1.out (Raw.lt KB.out)).c0; have y1 := (KB.out.below HB1.out (Raw.lt KB.out)).c1; have y2 := (KB.out.below HB1.out (Raw.lt KB.out)).c2)
   | (go_at_call_of 74 (Value.agg #[Value.bool n2, Value.string (bs a2), Value.string (bs b2)]); with_reducible refine (HC2.out _).mono ?_; rintro e w2 ⟨rfl, hb2⟩; have HB2 := zh (Ext.trans HB1.out hb2); clear hb2 y0 y1 y2; have k1 := KA.out.below HB2.out (Raw.lt KA.out); have k2 := KB.out.below HB2.out (Raw.lt KB.out); have x0 := k1.c0; have x1 := k1.c1; have x2 := k1.c2; have y0 := k2.c0; have y1 := k2.c1; have y2 := k2.c2; have f0 := k1.frozen 0; have f1 := k1.frozen 1; have f2 := k1.frozen 2; have g0 := k2.frozen 0; have g1 := k2.frozen 1; have g2 := k2.frozen 2; have K1 := zh k1; have K2 := zh k2; clear k1 k2))
  all_goals
   go_wp2
   go_meet
   case rel =>
    have hw2 := Ext.trans hbw.out HB2.out
    exact ⟨(K1.out.put np bp dp).put_far (by omega) _ _ _, (K2.out.put_far (by omega) _ _ _).put nq bq dq, ((KC.out.below HB2.out (Raw.lt KC.out)).put_far (by omega) _ _ _).put_far (by omega) _ _ _, a0p (a0p hw2 (by omega) _ _ _) (by omega) _ _ _⟩
 case rest =>
  obtain ⟨K1, K2, K3, HBW⟩ := hcut
  have x0 := K1.out.c0
  have x1 := K1.out.c1
  have x2 := K1.out.c2
  have y0 := K2.out.c0
  have y1 := K2.out.c1
  have y2 := K2.out.c2
  have hlt1 := Raw.lt K1.out
  have hlt2 := Raw.lt K2.out
  clear KA KB KC
  have KA := zh (Raw.drew' K1.out)
  have KB := zh (Raw.drew' K2.out)
  have KC := zh (Raw.drew' K3.out)
  go_wp2
  go_region_held3 (fun w' => w'.cell? ⟨w.heap.size, 0, none⟩ = some (.bool np) /\ w'.cell? ⟨w.heap.size, 1, none⟩ = some (.string (bs bp)) /\ w'.cell? ⟨w.heap.size, 2, none⟩ = some (.string (bs dp)) /\ w'.cell? ⟨w.heap.size + 1, 0, none⟩ = some (.bool nq) /\ w'.cell? ⟨w.heap.size + 1, 1, none⟩ = some (.string (bs bq)) /\ w'.cell? ⟨w.heap.size + 1, 2, none⟩ = some (.string (bs dq))) (go_keep) (first
   | (go_at_call_of 79 (Value.string (bs bp)); with_reducible refine (M1.out _).mono ?_; rintro e w1 ⟨rfl, hb1⟩; have HC1 := zh hb1; clear x0 x1 x2 y0 y1 y2 hb1; have x0 := (KA.out.below HC1.out (Raw.lt KA.out)).c0; have x1 := (KA.out.below HC1.out (Raw.lt KA.out)).c1; have x2 := (KA.out.below HC1.out (Raw.lt KA.out)).c2; have y0 := (KB.out.below HC1.out (Raw.lt KB.out)).c0; have y1 := (KB.out.below HC1.out (Raw.lt KB.out)).c1; have y2 := (KB.out.below HC1.out (Raw.lt KB.out)).c2)
   | (go_at_call_of 80 (Value.agg #[Value.bool np, Value.string (bs bp), Value.string (bs dp)]); with_reducible refine (D1.out _).mono ?_; rintro e w2 ⟨rfl, hb2⟩; have HC2 := zh (Ext.trans HC1.out hb2); clear x0 x1 x2 y0 y1 y2 hb2; have x0 := (KA.out.below HC2.out (Raw.lt KA.out)).c0; have x1 := (KA.out.below HC2.out (Raw.lt KA.out)).c1; have x2 := (KA.out.below HC2.out (Raw.lt KA.out)).c2; have y0 := (KB.out.below HC2.out (Raw.lt KB.out)).c0; have y1 := (KB.out.below HC2.out (Raw.lt KB.out)).c1; have y2 := (KB.out.below HC2.out (Raw.lt KB.out)).c2)
   | (go_at_call_of 80 (Value.agg #[Value.bool nq, Value.string (bs bq), Value.string (bs dq)]); with_reducible refine (D2.out _).mono ?_; rintro e w3 ⟨rfl, hb3⟩; have HC3 := zh (Ext.trans HC2.out hb3); clear x0 x1 x2 y0 y1 y2 hb3; have x0 := (KA.out.below HC3.out (Raw.lt KA.out)).c0; have x1 := (KA.out.below HC3.out (Raw.lt KA.out)).c1; have x2 := (KA.out.below HC3.out (Raw.lt KA.out)).c2; have y0 := (KB.out.below HC3.out (Raw.lt KB.out)).c0; have y1 := (KB.out.below HC3.out (Raw.lt KB.out)).c1; have y2 := (KB.out.below HC3.out (Raw.lt KB.out)).c2)
   | (go_at_call_of 79 (Value.string (bs ed)); with_reducible refine (M2.out _).mono ?_; rintro e w4 ⟨rfl, hb4⟩; have HC4 := zh (Ext.trans HC3.out hb4); clear x0 x1 x2 y0 y1 y2 hb4; have x0 := (KA.out.below HC4.out (Raw.lt KA.out)).c0; have x1 := (KA.out.below HC4.out (Raw.lt KA.out)).c1; have x2 := (KA.out.below HC4.out (Raw.lt KA.out)).c2; have y0 := (KB.out.below HC4.out (Raw.lt KB.out)).c0; have y1 := (KB.out.below HC4.out (Raw.lt KB.out)).c1; have y2 := (KB.out.below HC4.out (Raw.lt KB.out)).c2)
   | (go_at_call 29; with_reducible refine (RD.out _).mono ?_; rintro e w5 ⟨rfl, hb5⟩; have HC5 := zh (Ext.trans HC4.out hb5); have k1 := KC.out.below HC5.out (Raw.lt KC.out); have z0 := k1.frozen 0; have z1 := k1.frozen 1; have z2 := k1.frozen 2; have d0 := k1.c0; have d1 := k1.c1; have d2 := k1.c2; have KK := zh k1; have HBB := zh (Ext.trans HBW.out.drew HC5.out); clear k1; clear x0 x1 x2 y0 y1 y2 hb5; have x0 := (KA.out.below HC5.out (Raw.lt KA.out)).c0; have x1 := (KA.out.below HC5.out (Raw.lt KA.out)).c1; have x2 := (KA.out.below HC5.out (Raw.lt KA.out)).c2; have y0 := (KB.out.below HC5.out (Raw.lt KB.out)).c0; have y1 := (KB.out.below HC5.out (Raw.lt KB.out)).c1; have y2 := (KB.out.below HC5.out (Raw.lt KB.out)).c2))
  go_wp2
  exact bodyPost_ret (a0j rfl _ _ _ _ _ _ rfl (KK.out.put _ _ _)) rfl ⟨rfl, a0p HBB.out (by omega) _ _ _⟩
theorem a9h (n1 : Bool) (a1 b1 : List UInt8) (n2 : Bool) (a2 b2 : List UInt8) (w : World) (la1 : a1.length <= 17179869184) (lb1 : b1.length <= 17179869184) (la2 : a2.length <= 17179869184) (lb2 : b2.length <= 17179869184) (hq0 : decR n2 a2 b2 ≠ 0) :
  Calls Tryz.prog 71 #[raw n1 a1 b1, raw n2 a2 b2] w fun e w' => e = .returned (.tuple #[rat (decR n1 a1 b1 / decR n2 a2 b2), .bool true]) /\ Below w.heap.size w w' := by
 have c1 := fun W => a2j n1 a1 b1 W (by omega) (by omega)
 have c2 := fun W => a2j n2 a2 b2 W (by omega) (by omega)
 have sp := a1f (neg := n1) la1 lb1 (by decide)
 have sq := a1f (neg := n2) la2 lb2 (by decide)
 generalize decR n1 a1 b1 = p at *
 generalize decR n2 a2 b2 = q at *
 clear la1 lb1 la2 lb2
 have hm := c4y p q hq0
 rw [<- hm]
 have hqa : q.num.natAbs ≠ 0 := fun h => hq0 (Rat.num_eq_zero.1 (Int.natAbs_eq_zero.1 h))
 have lp := sp.num
 have lq := sq.num
 have lpd := sp.2
 have lqd := sq.2
 have m1 := fun W => a4u (numB p) (bytesOf q.den) W (by omega) (by omega)
 have d1 := fun W => a1d p W
 have d2 := fun W => a1d q W
 have m2 := fun W => a4u (bytesOf p.den) (numB q) W (by omega) (by omega)
 simp only [a6p, a0c] at m1 m2
 have hd0 : p.den * q.num.natAbs ≠ 0 := Nat.mul_ne_zero p.den_nz hqa
 have lm := a1c sp.1 sq.2
 have lk := a1c sp.2 sq.1
 have rd := fun W => c0g (!(negB p == negB q)) (bytesOf (p.num.natAbs * q.den)) (bytesOf (p.den * q.num.natAbs)) W (by omega) (by omega) (by rw [a0c]; exact hd0)
 rw [a0c, a0c] at rd
 unfold rat raw at d1 d2
 have M1 := zh m1
 have M2 := zh m2
 have D1 := zh d1
 have D2 := zh d2
 have RD := zh rd
 clear hm lp lq lpd lqd m1 m2 d1 d2 hd0 lm lk rd sp sq hqa hq0
 generalize mkRat (signed (!(negB p == negB q)) (p.num.natAbs * q.den)) (p.den * q.num.natAbs) = r at *
 generalize bytesOf (p.num.natAbs * q.den) = en at *
 generalize bytesOf (p.den * q.num.natAbs) = ek at *
 generalize bytesOf p.den = ed at *
 generalize bytesOf q.den = eq at *
 unfold rat raw at *
 generalize negB p = np at *
 generalize negB q = nq at *
 generalize numB p = bp at *
 generalize numB q = bq at *
 generalize a0a p = dp at *
 generalize a0a q = dq at *
 have HC1 := zh c1
 have HC2 := zh c2
 have KA : Hid (Raw (((w.alloc (Obj.cells #[.bool n1, .string (bs a1), .string (bs b1)] 40)).alloc (Obj.cells #[.bool n2, .string (bs a2), .string (bs b2)] 40)).alloc (Obj.cells #[.bool false, .string (bs []), .string (bs [])] 40)).drew w.heap.size n1 a1 b1) := Raw.drew' (((Blk.new w _ 40).alloc _).alloc _)
 have KB : Hid (Raw (((w.alloc (Obj.cells #[.bool n1, .string (bs a1), .string (bs b1)] 40)).alloc (Obj.cells #[.bool n2, .string (bs a2), .string (bs b2)] 40)).alloc (Obj.cells #[.bool false, .string (bs []), .string (bs [])] 40)).drew (w.heap.size + 1) n2 a2 b2) := Raw.drew' ((Blk.new1 w _ _ 40).alloc _)
 have KC : Hid (Raw (((w.alloc (Obj.cells #[.bool n1, .string (bs a1), .string (bs b1)] 40)).alloc (Obj.cells #[.bool n2, .string (bs a2), .string (bs b2)] 40)).alloc (Obj.cells #[.bool false, .string (bs []), .string (bs [])] 40)).drew (w.heap.size + 1 + 1) false [] []) := Raw.drew' (Blk.new2 w _ _ _ 40)
 have hbw : Hid (Below w.heap.size w (((w.alloc (Obj.cells #[.bool n1, .string (bs a1), .string (bs b1)] 40)).alloc (Obj.cells #[.bool n2, .string (bs a2), .string (bs b2)] 40)).alloc (Obj.cells #[.bool false, .string (bs []), .string (bs [])] 40)).drew) := (Ext.alloc (Ext.alloc (Ext.alloc (Below.refl _ _) _) _) _).drew
 have hne1 : ¬ (w.heap.size = w.heap.size + 1 + 1) := by omega
 have hne2 : ¬ (w.heap.size + 1 + 1 = w.heap.size) := by omega
 clear c1 c2
 go_enter Tryz.func71, Tryz.ntmps71
 go_wp2
 go_cut [] (fun wx => Hid (Raw wx w.heap.size np bp dp) /\ Hid (Raw wx (w.heap.size + 1) nq bq dq) /\ Hid (Raw wx (w.heap.size + 1 + 1) false [] []) /\ Hid (Below w.heap.size w wx))
 case first =>
  go_region_with (first
   | (go_at_call_of 74 (Value.agg #[Value.bool n1, Value.string (bs a1), Value.string (bs b1)]); with_reducible refine (HC1.out _).mono ?_; rintro e w1 ⟨rfl, hb1⟩; have HB1 := zh hb1; clear hb1; have y0 := (KB.out.below HB1.out (Raw.lt KB.out)).c0; have y1 := (KB.out.below HB1.out (Raw.lt KB.out)).c1; have y2 := (KB.out.below HB1.out (Raw.lt KB.out)).c2)
   | (go_at_call_of 74 (Value.agg #[Value.bool n2, Value.string (bs a2), Value.string (bs b2)]); with_reducible refine (HC2.out _).mono ?_; rintro e w2 ⟨rfl, hb2⟩; have HB2 := zh (Ext.trans HB1.out hb2); clear hb2 y0 y1 y2; have k1 := KA.out.below HB2.out (Raw.lt KA.out); have k2 := KB.out.below HB2.out (Raw.lt KB.out); have x0 := k1.c0; have x1 := k1.c1; have x2 := k1.c2; have y0 := k2.c0; have y1 := k2.c1; have y2 := k2.c2; have f0 := k1.frozen 0; have f1 := k1.frozen 1; have f2 := k1.frozen 2; have g0 := k2.frozen 0; have g1 := k2.frozen 1; have g2 := k2.frozen 2; have K1 := zh k1; have K2 := zh k2; clear k1 k2))
  all_goals
   go_wp2
   go_meet
   case rel =>
    have hw2 := Ext.trans hbw.out HB2.out
    exact ⟨(K1.out.put np bp dp).put_far (by omega) _ _ _, (K2.out.put_far (by omega) _ _ _).put nq bq dq, ((KC.out.below HB2.out (Raw.lt KC.out)).put_far (by omega) _ _ _).put_far (by omega) _ _ _, a0p (a0p hw2 (by omega) _ _ _) (by omega) _ _ _⟩
 case rest =>
  obtain ⟨K1, K2, K3, HBW⟩ := hcut
  have x0 := K1.out.c0
  have x1 := K1.out.c1
  have x2 := K1.out.c2
  have y0 := K2.out.c0
  have y1 := K2.out.c1
  have y2 := K2.out.c2
  have hlt1 := Raw.lt K1.out
  have hlt2 := Raw.lt K2.out
  clear KA KB KC
  have KA := zh (Raw.drew' K1.out)
  have KB := zh (Raw.drew' K2.out)
  have KC := zh (Raw.drew' K3.out)
  go_wp2
  go_region_held3 (fun w' => w'.cell? ⟨w.heap.size, 0, none⟩ = some (.bool np) /\ w'.cell? ⟨w.heap.size, 1, none⟩ = some (.string (bs bp)) /\ w'.cell? ⟨w.heap.size, 2, none⟩ = some (.string (bs dp)) /\ w'.cell? ⟨w.heap.size + 1, 0, none⟩ = some (.bool nq) /\ w'.cell? ⟨w.heap.size + 1, 1, none⟩ = some (.string (bs bq)) /\ w'.cell? ⟨w.heap.size + 1, 2, none⟩ = some (.string (bs dq))) (go_keep) (first
   | (go_at_call_of 80 (Value.agg #[Value.bool nq, Value.string (bs bq), Value.string (bs dq)]); with_reducible refine (D2.out _).mono ?_; rintro e w1 ⟨rfl, hb1⟩; have HC1 := zh hb1; clear x0 x1 x2 y0 y1 y2 hb1; have x0 := (KA.out.below HC1.out (Raw.lt KA.out)).c0; have x1 := (KA.out.below HC1.out (Raw.lt KA.out)).c1; have x2 := (KA.out.below HC1.out (Raw.lt KA.out)).c2; have y0 := (KB.out.below HC1.out (Raw.lt KB.out)).c0; have y1 := (KB.out.below HC1.out (Raw.lt KB.out)).c1; have y2 := (KB.out.below HC1.out (Raw.lt KB.out)).c2)
   | (go_at_call_of 79 (Value.string (bs bp)); with_reducible refine (M1.out _).mono ?_; rintro e w2 ⟨rfl, hb2⟩; have HC2 := zh (Ext.trans HC1.out hb2); clear x0 x1 x2 y0 y1 y2 hb2; have x0 := (KA.out.below HC2.out (Raw.lt KA.out)).c0; have x1 := (KA.out.below HC2.out (Raw.lt KA.out)).c1; have x2 := (KA.out.below HC2.out (Raw.lt KA.out)).c2; have y0 := (KB.out.below HC2.out (Raw.lt KB.out)).c0; have y1 := (KB.out.below HC2.out (Raw.lt KB.out)).c1; have y2 := (KB.out.below HC2.out (Raw.lt KB.out)).c2)
   | (go_at_call_of 80 (Value.agg #[Value.bool np, Value.string (bs bp), Value.string (bs dp)]); with_reducible refine (D1.out _).mono ?_; rintro e w3 ⟨rfl, hb3⟩; have HC3 := zh (Ext.trans HC2.out hb3); clear x0 x1 x2 y0 y1 y2 hb3; have x0 := (KA.out.below HC3.out (Raw.lt KA.out)).c0; have x1 := (KA.out.below HC3.out (Raw.lt KA.out)).c1; have x2 := (KA.out.below HC3.out (Raw.lt KA.out)).c2; have y0 := (KB.out.below HC3.out (Raw.lt KB.out)).c0; have y1 := (KB.out.below HC3.out (Raw.lt KB.out)).c1; have y2 := (KB.out.below HC3.out (Raw.lt KB.out)).c2)
   | (go_at_call_of 79 (Value.string (bs ed)); with_reducible refine (M2.out _).mono ?_; rintro e w4 ⟨rfl, hb4⟩; have HC4 := zh (Ext.trans HC3.out hb4); clear x0 x1 x2 y0 y1 y2 hb4; have x0 := (KA.out.below HC4.out (Raw.lt KA.out)).c0; have x1 := (KA.out.below HC4.out (Raw.lt KA.out)).c1; have x2 := (KA.out.below HC4.out (Raw.lt KA.out)).c2; have y0 := (KB.out.below HC4.out (Raw.lt KB.out)).c0; have y1 := (KB.out.below HC4.out (Raw.lt KB.out)).c1; have y2 := (KB.out.below HC4.out (Raw.lt KB.out)).c2)
   | (go_at_call 115; with_reducible refine (RD.out _).mono ?_; rintro e w5 ⟨rfl, hb5⟩; have HC5 := zh (Ext.trans HC4.out hb5); have k1 := KC.out.below HC5.out (Raw.lt KC.out); have z0 := k1.frozen 0; have z1 := k1.frozen 1; have z2 := k1.frozen 2; have d0 := k1.c0; have d1 := k1.c1; have d2 := k1.c2; have KK := zh k1; have HBB := zh (Ext.trans HBW.out.drew HC5.out); clear k1; clear x0 x1 x2 y0 y1 y2 hb5; have x0 := (KA.out.below HC5.out (Raw.lt KA.out)).c0; have x1 := (KA.out.below HC5.out (Raw.lt KA.out)).c1; have x2 := (KA.out.below HC5.out (Raw.lt KA.out)).c2; have y0 := (KB.out.below HC5.out (Raw.lt KB.out)).c0; have y1 := (KB.out.below HC5.out (Raw.lt KB.out)).c1; have y2 := (KB.out.below HC5.out (Raw.lt KB.out)).c2))
  go_wp2
  exact bodyPost_ret (a0k rfl _ _ _ _ _ _ rfl (KK.out.put _ _ _)) rfl ⟨rfl, a0p HBB.out (by omega) _ _ _⟩

section
variable {w0 w : World} {R : List Own}
theorem cC (h : Hid (St w0 R w)) (k i : Nat) {g : Nat} {cs : Array Value} {t : TypeId} {v : Value} (hk : R[k]? = some ⟨g, cs, t⟩ := by exact rfl) (hv : cs[i]? = some v := by exact rfl) : w.cell? ⟨g, i, none⟩ = some v := h.out.cell k hk i hv
theorem cF (h : Hid (St w0 R w)) (k i : Nat) {g : Nat} {cs : Array Value} {t : TypeId} (hk : R[k]? = some ⟨g, cs, t⟩ := by exact rfl) : w.frozen? ⟨g, i, none⟩ = false := h.out.frozen k hk i
theorem cN (h : Hid (St w0 R w)) (j k : Nat) {g g' : Nat} {cs cs' : Array Value} {t t' : TypeId} (hj : R[j]? = some ⟨g, cs, t⟩ := by exact rfl) (hk : R[k]? = some ⟨g', cs', t'⟩ := by exact rfl) (hjk : j ≠ k := by decide) : ¬ g = g' := h.out.ne j k hj hk hjk
theorem aL (h : Hid (St w0 R w)) (cs : Array Value) (t : TypeId) (g : Nat) (hg : w.heap.size = g := by simp) : Hid (St w0 (⟨g, cs, t⟩ :: R) (w.alloc (.cells cs t))) := zh (h.out.alloc cs t g hg)
theorem sE (h : Hid (St w0 R w)) (k i : Nat) {g : Nat} {cs : Array Value} {t : TypeId} (v : Value) (hk : R[k]? = some ⟨g, cs, t⟩ := by exact rfl) : Hid (St w0 (R.set k ⟨g, cs.setIfInBounds i v, t⟩) (w.setCell ⟨g, i, none⟩ v)) := zh (h.out.set k hk i v)
theorem cL {P : Program} {f : FuncId} {args : Array Value} {Q : Ending -> World -> Prop} {X : Ending} (h : Calls P f args w (fun e w' => e = X /\ Below w.heap.size w w')) (HS : Hid (St w0 R w)) (k : ∀ w', Hid (St w0 R w') -> Q X w') : Calls P f args w Q :=
  h.mono (fun _ w' ⟨he, hb⟩ => he ▸ k w' (zh (HS.out.call hb)))
end
end Go.Proofs.YtoighiepglclkaaGreatDoor
