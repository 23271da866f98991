/-
Part 6 of the base.
-/
import Derived.Test.YtgdhpghfojccaaaDoorRe5
import Derived.Laws.Strings
import Derived.Laws.Rows
import Derived.Laws.ResultCell
set_option maxRecDepth 100000
set_option maxHeartbeats 1000000
namespace Go.Proofs.YtgdhpghfojccaaaDoor
open Go.RowKit
def raw (neg : Bool) (num den : List UInt8) : Value := .agg #[.bool neg, .string (bs num), .string (bs den)]
def rat (q : Rat) : Value := raw (negB q) (numB q) (a0j q)
theorem a1p (l : List UInt8) : (bs l).toList = l := by rw [ByteArray.toList_eq, b2h]
theorem a4f {l : List UInt8} (h : l = []) : (bs l).toList.isEmpty = true := by rw [a1p, h]; rfl
theorem a2d {l : List UInt8} (h : l ≠ []) : (bs l).toList.isEmpty = false := by rw [a1p]; cases l with | nil => exact absurd rfl h | cons _ _ => rfl
theorem a9p {l m : List UInt8} (h : l = m) : ((bs l).toList == (bs m).toList) = true := by rw [a1p, a1p, h]; simp
theorem a4u {l m : List UInt8} (h : l ≠ m) : ((bs l).toList == (bs m).toList) = false := by rw [a1p, a1p]; simp [h]
theorem c0a {l m : List UInt8} (h : l = m) : ((bs l).toList == m) = true := by rw [a1p, h]; simp
theorem a9q {l m : List UInt8} (h : l ≠ m) : ((bs l).toList == m) = false := by rw [a1p]; simp [h]
def Blk (w : World) (g : Nat) (cs : Array Value) (t : TypeId) : Prop := w.heap[g]? = some (.cells cs t (0, 0))
theorem Blk.lt {w : World} {g : Nat} {cs : Array Value} {t : TypeId} (h : Blk w g cs t) : g < w.heap.size := by
 rcases Nat.lt_or_ge g w.heap.size with hlt | hge
 ·exact hlt
 unfold Blk at h; rw [Array.getElem?_eq_none hge] at h; cases h
theorem Blk.cell {w : World} {g : Nat} {cs : Array Value} {t : TypeId} (h : Blk w g cs t) (i : Nat) (v : Value) (hv : cs[i]? = some v) : w.cell? ⟨g, i, none⟩ = some v := by
 rw [cell_of_row w g i _ _ _ h, hv]
theorem Blk.frozen {w : World} {g : Nat} {cs : Array Value} {t : TypeId} (h : Blk w g cs t) (i : Nat) : w.frozen? ⟨g, i, none⟩ = false := by
 unfold Blk at h; simp [World.frozen?, h]
theorem Blk.below {B : Nat} {w w' : World} {g : Nat} {cs : Array Value} {t : TypeId} (h : Blk w g cs t) (hb : Below B w w') (hg : g < B) : Blk w' g cs t := (hb.block g hg).trans h
theorem Blk.new (w : World) (cs : Array Value) (t : TypeId) : Blk (w.alloc (.cells cs t)) w.heap.size cs t := heap_alloc_new w _
theorem Blk.alloc {w : World} {g : Nat} {cs : Array Value} {t : TypeId} (h : Blk w g cs t) (o : Obj) : Blk (w.alloc o) g cs t := (Below.heap_alloc w o g h.lt).trans h
theorem size_alloc (w : World) (o : Obj) : (w.alloc o).heap.size = w.heap.size + 1 := World.size_alloc _ _
theorem Ext.alloc {a w : World} (h : Below a.heap.size a w) (o : Obj) : Below a.heap.size a (w.alloc o) := h.alloc h.size o
theorem Blk.new1 (w : World) (o : Obj) (cs : Array Value) (t : TypeId) : Blk ((w.alloc o).alloc (.cells cs t)) (w.heap.size + 1) cs t := by
 have := Blk.new (w.alloc o) cs t
 rwa [size_alloc] at this
theorem Calls.quiet_same {P : Program} {f : FuncId} {args : Array Value} {w : World} {n : Nat} {v : Value}
  (h : Calls P f args (w.drewN n) fun e w' => e = .returned v /\ w.drewN n = w') : Calls P f args (w.drewN n) fun e w'' => e = .returned v /\ ∃ m, w'' = w.drewN m :=
 h.mono fun _ _ ⟨he, hm⟩ => ⟨he, n, hm.symm⟩
section
variable (a b : List UInt8) (w : World) (ha : a.length <= 68719476736) (hb : b.length <= 68719476736)
include ha
theorem a0d : Calls Tryd.prog 44 #[.string (bs a)] w fun e w' => e = .returned (.string (bs (norm a))) /\ w = w' := a3w (bs a) w (by have : (bs a).size = a.length := rfl; omega)
include hb
theorem a4b : Calls Tryd.prog 39 #[.string (bs a), .string (bs b)] w fun e w' => e = .returned (.string (bs (bytesOf (bv a * bv b)))) /\ Below w.heap.size w w' := a7r (bs a) (bs b) w ha hb
theorem b8y : Calls Tryd.prog 42 #[.string (bs a), .string (bs b)] w fun e w' => e = .returned (.string (bs (bytesOf (bv a + bv b)))) /\ Below w.heap.size w w' := b4j (bs a) (bs b) w ha hb
theorem b8w : Calls Tryd.prog 45 #[.string (bs a), .string (bs b)] w fun e w' => e = .returned (.string (bs (bytesOf (Nat.gcd (bv a) (bv b))))) /\ Below w.heap.size w w' := b4h (bs a) (bs b) w ha hb
theorem b8x (h0 : 0 < bv b) : Calls Tryd.prog 59 #[.string (bs a), .string (bs b)] w fun e w' => e = .returned (.tuple #[.string (bs (bytesOf (bv a / bv b))), .string (bs (bytesOf (bv a % bv b))), .bool true]) /\ Below w.heap.size w w' := b0k (bs a) (bs b) w ha hb h0
theorem b1s (hab : bv b <= bv a) : Calls Tryd.prog 43 #[.string (bs a), .string (bs b)] w fun e w' => e = .returned (.tuple #[.string (bs (bytesOf (bv a - bv b))), .bool true]) /\ Below w.heap.size w w' := a7q (bs a) (bs b) w ha hb hab
theorem a7f (hab : bv a < bv b) : Calls Tryd.prog 43 #[.string (bs a), .string (bs b)] w fun e w' => e = .returned (.tuple #[.string (bs []), .bool false]) /\ Below w.heap.size w w' := a4m (bs a) (bs b) w ha hb hab
end
def denL (den : List UInt8) : List UInt8 := if den = [] then [1] else den
theorem b3a (neg : Bool) (num den : List UInt8) (w : World) :
   Calls Tryd.prog 40 #[raw neg num den] w fun e w' => e = .returned (.string (bs (denL den))) /\ Below w.heap.size w w' := by
 unfold raw
 by_cases h : den = []
 have h1 := a4f h
 have H := zh h
 clear h
 rotate_left
 have h1 := a2d h
 rotate_left
 all_goals
   go_enter Tryd.func40, Tryd.ntmps40
   go_wp2
   go_ret
   unfold denL
 ·rw [if_pos H.out]
  exact ⟨rfl, (Below.refl _ _).alloc (Nat.le_refl _) _⟩
 rw [if_neg h]
 exact ⟨rfl, (Below.refl _ _).alloc (Nat.le_refl _) _⟩
def sgnR (neg : Bool) (num : List UInt8) : Int := if num = [] then 0 else if neg then -1 else 1
theorem a8m (neg : Bool) (num den : List UInt8) (w : World) :
  Calls Tryd.prog 27 #[raw neg num den] w fun e w' => e = .returned (.int .i64 (sgnR neg num)) /\ Below w.heap.size w w' := by
 unfold raw sgnR
 by_cases h : num = []
 ·have h1 := a4f h
  rw [if_pos h]
  have H := zh h
  clear h
  go_enter Tryd.func27, Tryd.ntmps27
  go_wp2
  go_ret
  exact ⟨rfl, (Below.refl _ _).alloc (Nat.le_refl _) _⟩
 have h1 := a2d h
 rw [if_neg h]
 cases neg
 all_goals go_enter Tryd.func27, Tryd.ntmps27
 all_goals go_wp2
 all_goals go_ret
 all_goals exact ⟨rfl, (Below.refl _ _).alloc (Nat.le_refl _) _⟩
theorem b0b (neg : Bool) (num den : List UInt8) (w : World) (hn : num.length <= 68719476736) (hd : den.length <= 68719476736) :
  Calls Tryd.prog 35 #[raw neg num den] w fun e w' => e = .returned (.bool (a2y neg num den)) /\ Below w.heap.size w w' := by
 unfold raw
 have hN := a0d num w hn
 by_cases h1 : norm num = num
 ·have f1 : ((bs (norm num)).toList == (bs num).toList) = true := a9p h1
  by_cases h2 : norm den = den
  ·have f2 : ((bs (norm den)).toList == (bs den).toList) = true := a9p h2
   have hv : a2y neg num den = (if num = [] then !neg && den == [] else den == [] || (!(den == [1]) && Nat.gcd (bv num) (bv den) == 1)) := by
    unfold a2y; simp [h1, h2]
   rw [hv]
   have H1 := zh h1
   have H2 := zh h2
   clear h1 h2 hv
   by_cases h3 : num = []
   ·have f3 := a4f h3
    rw [if_pos h3]
    have H3 := zh h3
    clear h3
    by_cases h4 : den = []
    ·have f4 := a4f h4
     have H4 := zh h4
     clear h4
     cases neg
     all_goals go_enter Tryd.func35, Tryd.ntmps35
     all_goals go_wp2
     all_goals go_quiet (first
      | (go_at_call 44; refine Calls.quiet_same (a0d num _ hn))
      | (go_at_call 44; refine Calls.quiet_same (a0d den _ hd)))
     all_goals go_wp2
     all_goals go_ret
     all_goals (rw [H4.out]; exact ⟨rfl, a0n ((Below.refl _ _).alloc (Nat.le_refl _) _) _⟩)
    have f4 := a2d h4
    have H4 := zh h4
    clear h4
    cases neg
    all_goals go_enter Tryd.func35, Tryd.ntmps35
    all_goals go_wp2
    all_goals go_quiet (first
     | (go_at_call 44; refine Calls.quiet_same (a0d num _ hn))
     | (go_at_call 44; refine Calls.quiet_same (a0d den _ hd)))
    all_goals go_wp2
    all_goals go_ret
    all_goals (have := H4.out; simp only [Bool.not_false, Bool.not_true, Bool.true_and, Bool.false_and]; exact ⟨by first | rfl | (have e : (den == []) = false := (by simp [this]); rw [e]; rfl), a0n ((Below.refl _ _).alloc (Nat.le_refl _) _) _⟩)
   have f3 := a2d h3
   rw [if_neg h3]
   have H3 := zh h3
   clear h3
   by_cases h4 : den = []
   ·have f4 := a4f h4
    have H4 := zh h4
    clear h4
    go_enter Tryd.func35, Tryd.ntmps35
    go_wp2
    go_quiet (first
     | (go_at_call 44; refine Calls.quiet_same (a0d num _ hn))
     | (go_at_call 44; refine Calls.quiet_same (a0d den _ hd)))
    go_wp2
    go_ret
    rw [H4.out]
    exact ⟨rfl, a0n ((Below.refl _ _).alloc (Nat.le_refl _) _) _⟩
   have f4 := a2d h4
   by_cases h5 : den = [1]
   ·have f5 : ((bs den).toList == [1]) = true := c0a h5
    have H4 := zh h4
    have H5 := zh h5
    clear h4 h5
    go_enter Tryd.func35, Tryd.ntmps35
    go_wp2
    go_quiet (first
     | (go_at_call 44; refine Calls.quiet_same (a0d num _ hn))
     | (go_at_call 44; refine Calls.quiet_same (a0d den _ hd)))
    go_wp2
    go_ret
    have e1 : (den == []) = false := by simp [H4.out]
    have e2 : (den == [1]) = true := by simp [H5.out]
    rw [e1, e2]
    exact ⟨rfl, a0n ((Below.refl _ _).alloc (Nat.le_refl _) _) _⟩
   have f5 : ((bs den).toList == [1]) = false := a9q h5
   have H4 := zh h4
   have H5 := zh h5
   clear h4 h5
   obtain ⟨g, hg⟩ : ∃ g, g = Nat.gcd (bv num) (bv den) := ⟨_, rfl⟩
   have hG := fun W => b8w num den W hn hd
   rw [<- hg] at hG ⊢
   have HG := zh hG
   clear hG hg
   have hbool : (den == [] || !(den == [1]) && g == 1) = (g == 1) := by
    have e1 : (den == []) = false := by simp [H4.out]
    have e2 : (den == [1]) = false := by simp [H5.out]
    rw [e1, e2]; rfl
   rw [hbool]
   clear hbool
   by_cases h6 : g = 1
   ·have f6 : ((bs (bytesOf g)).toList == [1]) = true := c0a (by rw [h6, a0v])
    have e3 : (g == 1) = true := by simp [h6]
    rw [e3]
    clear h6 e3
    go_enter Tryd.func35, Tryd.ntmps35
    go_wp2
    go_quiet (first
     | (go_at_call 44; refine Calls.quiet_same (a0d num _ hn))
     | (go_at_call 44; refine Calls.quiet_same (a0d den _ hd)))
    go_wp2_with (go_at_call 45; refine (HG.out _).mono ?_; rintro e w' ⟨rfl, hb⟩)
    go_ret
    exact ⟨rfl, Ext.trans (a0n ((Below.refl _ _).alloc (Nat.le_refl _) _) _) hb⟩
   have f6 : ((bs (bytesOf g)).toList == [1]) = false := a9q (by rw [<- a0v]; exact fun e => h6 (a4e e))
   have e3 : (g == 1) = false := by simp [h6]
   rw [e3]
   clear h6 e3
   go_enter Tryd.func35, Tryd.ntmps35
   go_wp2
   go_quiet (first
    | (go_at_call 44; refine Calls.quiet_same (a0d num _ hn))
    | (go_at_call 44; refine Calls.quiet_same (a0d den _ hd)))
   go_wp2_with (go_at_call 45; refine (HG.out _).mono ?_; rintro e w' ⟨rfl, hb⟩)
   go_ret
   exact ⟨rfl, Ext.trans (a0n ((Below.refl _ _).alloc (Nat.le_refl _) _) _) hb⟩
  have f2 : ((bs (norm den)).toList == (bs den).toList) = false := a4u h2
  have hv : a2y neg num den = false := by unfold a2y; simp [h2]
  rw [hv]
  clear h1 h2 hv
  go_enter Tryd.func35, Tryd.ntmps35
  go_wp2
  go_quiet (first
   | (go_at_call 44; refine Calls.quiet_same (a0d num _ hn))
   | (go_at_call 44; refine Calls.quiet_same (a0d den _ hd)))
  go_wp2
  go_ret
  exact ⟨rfl, a0n ((Below.refl _ _).alloc (Nat.le_refl _) _) _⟩
 have f1 : ((bs (norm num)).toList == (bs num).toList) = false := a4u h1
 have hv : a2y neg num den = false := by unfold a2y; simp [h1]
 rw [hv]
 clear h1 hv
 go_enter Tryd.func35, Tryd.ntmps35
 go_wp2
 go_quiet (first
  | (go_at_call 44; refine Calls.quiet_same (a0d num _ hn))
  | (go_at_call 44; refine Calls.quiet_same (a0d den _ hd)))
 go_wp2
 go_ret
 exact ⟨rfl, a0n ((Below.refl _ _).alloc (Nat.le_refl _) _) _⟩
def Raw (w : World) (g : Nat) (neg : Bool) (num den : List UInt8) : Prop := Blk w g #[.bool neg, .string (bs num), .string (bs den)] 25
section
variable {w w' : World} {g B : Nat} {neg : Bool} {num den : List UInt8}
theorem Raw.c0 (h : Raw w g neg num den) : w.cell? ⟨g, 0, none⟩ = some (.bool neg) := Blk.cell h 0 _ rfl
theorem Raw.c1 (h : Raw w g neg num den) : w.cell? ⟨g, 1, none⟩ = some (.string (bs num)) := Blk.cell h 1 _ rfl
theorem Raw.c2 (h : Raw w g neg num den) : w.cell? ⟨g, 2, none⟩ = some (.string (bs den)) := Blk.cell h 2 _ rfl
theorem Raw.frozen (h : Raw w g neg num den) (i : Nat) : w.frozen? ⟨g, i, none⟩ = false := Blk.frozen h i
theorem Raw.below (h : Raw w g neg num den) (hb : Below B w w') (hg : g < B) : Raw w' g neg num den := Blk.below h hb hg
theorem Raw.lt (h : Raw w g neg num den) : g < w.heap.size := Blk.lt h
theorem Raw.alloc (h : Raw w g neg num den) (o : Obj) : Raw (w.alloc o) g neg num den := Blk.alloc h o
theorem Raw.put (h : Raw w g neg num den) (n' : Bool) (num' den' : List UInt8) :
  Raw (((w.setCell ⟨g, 0, none⟩ (.bool n')).setCell ⟨g, 1, none⟩ (.string (bs num'))).setCell ⟨g, 2, none⟩ (.string (bs den'))) g n' num' den' := by
 unfold Raw Blk at h ⊢
 simp [World.setCell, Array.getElem?_modify, h]
end
theorem a4v {B : Nat} {a w : World} (h : Below B a w) {g : Nat} (hg : B <= g) (x y z : Value) : Below B a (((w.setCell ⟨g, 0, none⟩ x).setCell ⟨g, 1, none⟩ y).setCell ⟨g, 2, none⟩ z) :=
 ((h.setCell (by exact hg) _).setCell (by exact hg) _).setCell (by exact hg) _
theorem raw_info : (Tryd.prog.info? 25).map (·.size) = some 3 := by kernel_rfl
theorem a0u {fn : Func} {p : Tmp} (h : fn.results = #[.cell p 25]) (tmps : Array Value) (w : World) (g : Nat) (neg : Bool) (num den : List UInt8)
  (hp : tmps.getD p undef = .pointer (some ⟨g, 0, none⟩)) (hg : Raw w g neg num den) : (results fn tmps).run Tryd.prog w = .ok (raw neg num den) w :=
 results_cell_row h tmps w g _ _ _ _ hp hg Tryd.underlying25 rfl raw_info
theorem a3t (neg : Bool) (num den : List UInt8) (w : World) (hn : num.length <= 68719476736) (hd : den.length <= 68719476736) :
   Calls Tryd.prog 28 #[raw neg num den] w fun e w' => e = .returned (rat (decR neg num den)) /\ Below w.heap.size w w' := by
 have hV := fun W => b0b neg num den W hn hd
 unfold raw at hV ⊢
 have K1 : Hid (Raw ((w.alloc (Obj.cells #[.bool neg, .string (bs num), .string (bs den)] 25)).alloc (Obj.cells #[.bool false, .string (bs []), .string (bs [])] 25)) w.heap.size neg num den) := (Blk.new w _ 25).alloc _
 have K2 : Hid (Raw ((w.alloc (Obj.cells #[.bool neg, .string (bs num), .string (bs den)] 25)).alloc (Obj.cells #[.bool false, .string (bs []), .string (bs [])] 25)) (w.heap.size + 1) false [] []) := Blk.new1 w _ _ _
 have hbw : Hid (Below w.heap.size w ((w.alloc (Obj.cells #[.bool neg, .string (bs num), .string (bs den)] 25)).alloc (Obj.cells #[.bool false, .string (bs []), .string (bs [])] 25))) := Ext.alloc (Ext.alloc (Below.refl _ _) _) _
 by_cases h : a2y neg num den = true
 have hr : rat (decR neg num den) = .agg #[.bool neg, .string (bs num), .string (bs den)] := by
   obtain ⟨a, b, c⟩ := enc_dec h
   unfold rat raw; rw [a, b, c]
 rw [hr]
 rw [h] at hV
 have HV := zh hV
 clear hV h hr
 rotate_left
 have hf : a2y neg num den = false := by simpa using h
 have hr : rat (decR neg num den) = .agg #[.bool false, .string (bs []), .string (bs [])] := by
   obtain ⟨a, b, c⟩ := b6g
   rw [b4x hf]
   unfold rat raw; rw [a, b, c]
 rw [hr]
 rw [hf] at hV
 have HV := zh hV
 clear hV h hf hr
 rotate_left
 all_goals
   go_enter Tryd.func28, Tryd.ntmps28
   go_wp2_with fail
   refine (HV.out _).mono ?_
   rintro e w' ⟨rfl, hb⟩
 ·have k1 := K1.out.below hb (by rw [size_alloc, size_alloc]; omega)
  have k2 := K2.out.below hb (by rw [size_alloc, size_alloc]; omega)
  have c0 := k1.c0
  have c1 := k1.c1
  have c2 := k1.c2
  have d0 := k2.c0
  have d1 := k2.c1
  have d2 := k2.c2
  have z0 := k2.frozen 0
  have z1 := k2.frozen 1
  have z2 := k2.frozen 2
  have hb2 := zh (hbw.out.trans (hb.mono (by rw [size_alloc, size_alloc]; omega)))
  have hk2 := zh k2
  clear k1 k2 hb
  go_wp2
  refine bodyPost_ret (a0u rfl _ _ _ _ _ _ rfl (hk2.out.put neg num den)) rfl ?_
  exact ⟨rfl, a4v hb2.out (Nat.le_succ _) _ _ _⟩
 have k2 := K2.out.below hb (by rw [size_alloc, size_alloc]; omega)
 have d0 := k2.c0
 have d1 := k2.c1
 have d2 := k2.c2
 have z0 := k2.frozen 0
 have z1 := k2.frozen 1
 have z2 := k2.frozen 2
 have hb2 := zh (hbw.out.trans (hb.mono (by rw [size_alloc, size_alloc]; omega)))
 have hk2 := zh k2
 clear k2 hb
 go_wp2
 refine bodyPost_ret (a0u rfl _ _ _ _ _ _ rfl (hk2.out.put false [] [])) rfl ?_
 exact ⟨rfl, a4v hb2.out (Nat.le_succ _) _ _ _⟩
theorem a6e (neg : Bool) (num den : List UInt8) (w : World) (hn : num.length <= 68719476736) (hd : den.length <= 68719476736) :
  Calls Tryd.prog 15 #[raw neg num den] w fun e w' => e = .returned (.int .i64 (sgn (decR neg num den).num)) /\ Below w.heap.size w w' := by
 have hV := fun W => a3t neg num den W hn hd
 generalize decR neg num den = q at *
 have hs : sgnR (negB q) (numB q) = sgn q.num := by
  unfold sgnR numB
  have := a8s q
  by_cases h0 : q.num = 0
  ·rw [h0]; simp [a0s, b1m]
  rw [if_neg (fun e => h0 (by have := bytesOf_eq_nil.1 e; omega))]
  rcases Int.lt_or_lt_of_ne h0 with h | h
  ·rw [a5v h]; unfold negB; simp [this.2 h]
  rw [a5u h]; unfold negB
  have h1 : ¬ q < 0 := fun h2 => by have := this.1 h2; omega
  simp [h1]
 unfold raw at hV ⊢
 have HV := zh hV
 have HS := zh hs
 clear hV hs
 go_enter Tryd.func15, Tryd.ntmps15
 go_wp2_with fail
 refine (HV.out _).mono ?_
 rintro e w1 ⟨rfl, hb1⟩
 go_wp2_with fail
 refine (a8m (negB q) (numB q) (a0j q) _).mono ?_
 rintro e w2 ⟨rfl, hb2⟩
 rw [HS.out]
 go_wp2
 go_ret
 exact ⟨rfl, (Ext.trans (Ext.alloc (Below.refl _ _) _) (Ext.trans hb1 hb2))⟩
theorem b6a (a : List UInt8) (w : World) (ha : a.length <= 68719476736) : Calls Tryd.prog 44 #[.string (bs a)] w fun e w' => e = .returned (.string (bs (bytesOf (bv a)))) /\ w = w' := by
 have := a0d a w ha
 rwa [a5w] at this
theorem rat_mk {neg : Bool} {n d : Nat} (hn : n ≠ 0) (hd : d ≠ 0) : rat (mkRat (signed neg n) d) = raw neg (bytesOf (n / Nat.gcd n d)) (denB (d / Nat.gcd n d)) := by
 obtain ⟨a, b, c⟩ := (b3x (neg := neg) (n := n) hd).2 hn
 unfold rat; rw [a, b, c]
theorem rat_zero : rat 0 = raw false [] [] := by
 obtain ⟨a, b, c⟩ := b6g
 unfold rat; rw [a, b, c]
theorem a1c (neg : Bool) (num den : List UInt8) (w : World) (hn : num.length <= 68719476736) (hd : den.length <= 68719476736) (hd0 : bv den ≠ 0) :
   Calls Tryd.prog 41 #[.bool neg, .string (bs num), .string (bs den)] w fun e w' => e = .returned (rat (mkRat (signed neg (bv num)) (bv den))) /\ Below w.heap.size w w' := by
 have k0 : Raw (w.alloc (Obj.cells #[.bool false, .string (bs []), .string (bs [])] 25)) w.heap.size false [] [] := Blk.new w _ _
 have hN := fun W => b6a num W hn
 have hD := fun W => b6a den W hd
 have ln := a0y (bv num) num.length (b4z num)
 have ld := a0y (bv den) den.length (b4z den)
 generalize bv num = n at *
 generalize bv den = d at *
 have HN := zh hN
 have HD := zh hD
 have K0 := zh k0
 have hbw : Hid (Below w.heap.size w (w.alloc (Obj.cells #[.bool false, .string (bs []), .string (bs [])] 25))) := Ext.alloc (Below.refl _ _) _
 clear hN hD k0
 by_cases h0 : n = 0
 subst h0
 rw [(b3x (neg := neg) (n := 0) hd0).1 rfl, rat_zero]
 rw [a0s] at HN
 have f1 := a4f (l := []) rfl
 rotate_left
 rw [rat_mk h0 hd0]
 have f1 := a2d (mt bytesOf_eq_nil.1 h0)
 have z0 := K0.out.frozen 0
 have z1 := K0.out.frozen 1
 have z2 := K0.out.frozen 2
 by_cases h1 : d = 1
 have f2 : ((bs (bytesOf d)).toList == [1]) = true := c0a (by rw [h1, a0v])
 have e1 : n / Nat.gcd n d = n := by rw [h1]; simp
 have e2 : denB (d / Nat.gcd n d) = [] := by rw [h1]; simp [denB]
 rw [e1, e2]
 clear h0 h1 e1 e2
 rotate_left
 have f2 : ((bs (bytesOf d)).toList == [1]) = false := a9q (by rw [<- a0v]; exact fun e => h1 (a4e e))
 obtain ⟨g, hg⟩ : ∃ g, g = Nat.gcd n d := ⟨_, rfl⟩
 have hg0 : 0 < g := by rw [hg]; exact Nat.gcd_pos_of_pos_left d (by omega)
 have hG := fun W => b8w (bytesOf n) (bytesOf d) W (by omega) (by omega)
 have hlg : (bytesOf g).length <= 68719476736 := by
   refine Nat.le_trans (a0y g (bytesOf n).length ?_) (by omega)
   refine Nat.lt_of_le_of_lt ?_ (a1q n)
   rw [hg]; exact Nat.le_of_dvd (by omega) (Nat.gcd_dvd_left n d)
 have hP := fun W => b8x (bytesOf n) (bytesOf g) W (by omega) hlg (by rw [a0a]; exact hg0)
 have hQ := fun W => b8x (bytesOf d) (bytesOf g) W (by omega) hlg (by rw [a0a]; exact hg0)
 rw [<- hg]
 simp only [a0a] at hG hP hQ
 rw [<- hg] at hG
 have HG := zh hG
 have HP := zh hP
 have HQ := zh hQ
 have HN0 := zh h0
 have HD1 := zh h1
 have HGG := zh hg
 clear hG hP hQ h0 h1 hg z0 z1 z2
 by_cases h2 : g = 1
 have f3 : ((bs (bytesOf g)).toList == [1]) = true := c0a (by rw [h2, a0v])
 have hr : raw neg (bytesOf (n / g)) (denB (d / g)) = raw neg (bytesOf n) (bytesOf d) := by
   rw [h2, Nat.div_one, Nat.div_one, denB, if_neg HD1.out]
 rw [hr]
 clear h2 hr
 rotate_left
 have f3 : ((bs (bytesOf g)).toList == [1]) = false := a9q (by rw [<- a0v]; exact fun e => h2 (a4e e))
 by_cases h3 : d / g = 1
 have f4 : ((bs (bytesOf (d / g))).toList == [1]) = true := c0a (by rw [h3, a0v])
 have hr : raw neg (bytesOf (n / g)) (denB (d / g)) = raw neg (bytesOf (n / g)) [] := by
   rw [h3]; rfl
 rw [hr]
 clear h2 hr h3
 rotate_left
 have f4 : ((bs (bytesOf (d / g))).toList == [1]) = false := a9q (by rw [<- a0v]; exact fun e => h3 (a4e e))
 have hr : raw neg (bytesOf (n / g)) (denB (d / g)) = raw neg (bytesOf (n / g)) (bytesOf (d / g)) := by
   rw [denB, if_neg h3]
 rw [hr]
 clear h2 hr h3
 rotate_left
 all_goals
   go_enter Tryd.func41, Tryd.ntmps41
   go_wp2_with (first
    | (go_at_call 44; refine (HN.out _).mono ?_; rintro e w' ⟨rfl, rfl⟩)
    | (go_at_call 44; refine (HD.out _).mono ?_; rintro e w' ⟨rfl, rfl⟩))
 ·exact bodyPost_ret (a0u rfl _ _ _ _ _ _ rfl (Blk.new w _ _)) rfl ⟨rfl, Ext.alloc (Below.refl _ _) _⟩
 ·exact bodyPost_ret (a0u rfl _ _ _ _ _ _ rfl (Blk.new w _ _)) rfl ⟨rfl, Ext.alloc (Below.refl _ _) _⟩
 all_goals
   refine (HG.out _).mono ?_
   rintro e w1 ⟨rfl, hb1⟩
 ·have k1 := K0.out.below hb1 (by rw [size_alloc]; omega)
  have z0 := k1.frozen 0
  have z1 := k1.frozen 1
  have z2 := k1.frozen 2
  have d0 := k1.c0
  have d1 := k1.c1
  have d2 := k1.c2
  have K1 := zh k1
  have HB := zh (Ext.trans hbw.out hb1)
  clear k1 hb1
  go_wp2
  exact bodyPost_ret (a0u rfl _ _ _ _ _ _ rfl (K1.out.put _ _ _)) rfl ⟨rfl, a4v HB.out (Nat.le_refl _) _ _ _⟩
 all_goals
   go_wp2_with fail
   refine (HP.out _).mono ?_
   rintro e w2 ⟨rfl, hb2⟩
   go_wp2_with fail
   refine (HQ.out _).mono ?_
   rintro e w3 ⟨rfl, hb3⟩
   have hb13 := Ext.trans hb1 (Ext.trans hb2 hb3)
   have k1 := K0.out.below hb13 (by rw [size_alloc]; omega)
   have z0 := k1.frozen 0
   have z1 := k1.frozen 1
   have z2 := k1.frozen 2
   have d0 := k1.c0
   have d1 := k1.c1
   have d2 := k1.c2
   have K1 := zh k1
   have HB := zh (Ext.trans hbw.out hb13)
   clear k1 hb1 hb2 hb3 hb13
   go_wp2
 ·exact bodyPost_ret (a0u rfl _ _ _ _ _ _ rfl (K1.out.put _ _ _)) rfl ⟨rfl, a4v HB.out (Nat.le_refl _) _ _ _⟩
 exact bodyPost_ret (a0u rfl _ _ _ _ _ _ rfl (K1.out.put _ _ _)) rfl ⟨rfl, a4v HB.out (Nat.le_refl _) _ _ _⟩
end Go.Proofs.YtgdhpghfojccaaaDoor
