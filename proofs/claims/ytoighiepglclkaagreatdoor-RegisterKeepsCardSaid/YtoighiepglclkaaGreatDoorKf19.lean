/-
Part 19 of the base.
-/
import Derived.Test.YtoighiepglclkaaGreatDoorKf18
import Derived.Deep.RegionHeld3
set_option maxRecDepth 100000
set_option maxHeartbeats 4000000
namespace Go.Proofs.YtoighiepglclkaaGreatDoor
def a2m (qs : List Quo) (p : Rat) (src dst : List UInt8) (day : Int) : Rat × Int :=
 if (a2z qs src day).2 ≠ 0 then (0, (a2z qs src day).2) else if (a2z qs dst day).2 ≠ 0 then (0, (a2z qs dst day).2) else
  (p * (a2z qs src day).1.rat / (a2z qs dst day).1.rat, 0)
theorem c6s {qs : List Quo} {p : Rat} {src dst : List UInt8} {day n : Int} (h : (a2z qs src day).2 = n) (hn : n ≠ 0) : a2m qs p src dst day = (0, n) := by
 unfold a2m; rw [h, if_pos hn]
theorem c6t {qs : List Quo} {p : Rat} {src dst : List UInt8} {day n : Int} (h : (a2z qs src day).2 = 0) (h2 : (a2z qs dst day).2 = n) (hn : n ≠ 0) : a2m qs p src dst day = (0, n) := by
 unfold a2m; rw [h, if_neg (by decide), h2, if_pos hn]
theorem c2w {qs : List Quo} {p : Rat} {src dst : List UInt8} {day : Int} (h : (a2z qs src day).2 = 0) (h2 : (a2z qs dst day).2 = 0) : a2m qs p src dst day = (p * (a2z qs src day).1.rat / (a2z qs dst day).1.rat, 0) := by
 unfold a2m; rw [h, if_neg (by decide), h2, if_neg (by decide)]
theorem c2x : ∀ (rest pre : List Quo), a1j pre rest = 0 -> ∀ q ∈ rest, posQ q = true
 | [], _, _, q, hq => by cases hq
 | p :: rest, pre, h, q, hq => by
  rw [a1j] at h
  by_cases he : qErr pre p = 0
  ·rw [if_pos he] at h
   rcases List.mem_cons.1 hq with rfl | hq
   ·unfold qErr at he
    split at he
    ·cases he
    split at he
    ·cases he
    rename_i hn
    simp only [Bool.or_eq_true, Bool.not_eq_true', not_or] at hn
    simpa using hn.2
   exact c2x rest _ h q hq
  rw [if_neg he] at h; exact absurd h he
theorem c8c {qs : List Quo} (h : a3t qs = 0) : ∀ q ∈ qs, posQ q = true := by
 unfold a3t at h
 split at h
 ·cases h
 exact c2x qs [] h
theorem c0h {qs : List Quo} {code : List UInt8} {day : Int} (h : (a2z qs code day).2 = 0) : 0 < (a2z qs code day).1.rat.num := by
 unfold a2z at h ⊢
 split at h
 ·rename_i hc; exact absurd h hc
 rename_i hc
 rw [if_neg hc]
 have hc' : a3t qs = 0 := Classical.not_not.1 hc
 split at h
 ·cases h
 rename_i hd
 rw [if_neg hd]
 split at h
 ·rename_i he
  rw [if_pos he]
  show 0 < (decR false [1] []).num
  decide +kernel
 rename_i he
 rw [if_neg he]
 split at h
 ·cases h
 ·cases h
 rename_i b hb
 dsimp only
 have hbl := (a9v qs code day qs.length b (by rw [hb])).2
 have hq : qs[b]? = some qs[b] := List.getElem?_eq_getElem hbl
 rw [hq]
 have := c8c hc' qs[b] (List.getElem_mem hbl)
 unfold posQ at this
 exact of_decide_eq_true this
theorem b4u {t : Trip} (h : t.rat ≠ 0) : t.val = rat t.rat := by
 have hv : a2v t.neg t.num t.den = true := by
  cases hb : a2v t.neg t.num t.den with
  | true => rfl
  | false => exact absurd (b1c hb) h
 obtain ⟨a, b, c⟩ := c4x hv
 unfold Trip.val Go.Proofs.YtoighiepglclkaaGreatDoor.rat Trip.rat
 rw [a, b, c]
theorem b2x {qs : List Quo} {code : List UInt8} {day : Int} (h : (a2z qs code day).2 = 0) : (a2z qs code day).1.rat ≠ 0 := by
 intro e
 have := c0h h
 rw [e] at this
 exact absurd this (by decide)
theorem a5h {qs : List Quo} {N : Nat} (hN : 1 <= N) (h : ∀ q ∈ qs, q.num.length <= N /\ q.den.length <= N) (code : List UInt8) (day : Int) : (a2z qs code day).1.num.length <= N /\ (a2z qs code day).1.den.length <= N := by
 unfold a2z
 split
 ·exact ⟨Nat.zero_le _, Nat.zero_le _⟩
 split
 ·exact ⟨Nat.zero_le _, Nat.zero_le _⟩
 split
 ·exact ⟨hN, Nat.zero_le _⟩
 split
 ·exact ⟨Nat.zero_le _, Nat.zero_le _⟩
 ·exact ⟨Nat.zero_le _, Nat.zero_le _⟩
 rename_i b _
 cases hq : qs[b]? with
 | none => exact ⟨Nat.zero_le _, Nat.zero_le _⟩
 | some q => exact h q (List.mem_of_getElem? hq)
open Go.RowKit
theorem below_d {W w' : World} (h : Below W.drew.heap.size W.drew w') : Below W.heap.size W w' := Ext.trans (Below.refl W.heap.size W).drew h
theorem below_ad {W w' : World} {o : Obj} (h : Below (W.alloc o).drew.heap.size (W.alloc o).drew w') : Below W.heap.size W w' := Ext.trans (Ext.alloc (Below.refl W.heap.size W) o).drew h
theorem raw_past {W w' : World} (h : Below (W.alloc (Obj.cells #[.bool false, .string ⟨#[]⟩, .string ⟨#[]⟩] 40)).drew.heap.size (W.alloc (Obj.cells #[.bool false, .string ⟨#[]⟩, .string ⟨#[]⟩] 40)).drew w') : Raw w' W.heap.size false [] [] := by
 have k : Raw (W.alloc (Obj.cells #[.bool false, .string ⟨#[]⟩, .string ⟨#[]⟩] 40)).drew W.heap.size false [] [] := Blk.new W _ _
 exact k.below h (Raw.lt k)
theorem c9f {W w' : World} (h : Below (W.alloc (Obj.cells #[.bool false, .string ⟨#[]⟩, .string ⟨#[]⟩] 40)).heap.size (W.alloc (Obj.cells #[.bool false, .string ⟨#[]⟩, .string ⟨#[]⟩] 40)) w') : Raw w' W.heap.size false [] [] := by
 have k : Raw (W.alloc (Obj.cells #[.bool false, .string ⟨#[]⟩, .string ⟨#[]⟩] 40)) W.heap.size false [] [] := Blk.new W _ _
 exact k.below h (Raw.lt k)
theorem below_da {W w' : World} {o : Obj} (h : Below (W.drew.alloc o).heap.size (W.drew.alloc o) w') : Below W.heap.size W w' := Ext.trans (Ext.alloc (Below.refl W.heap.size W).drew o) h
theorem c3r (v : Value) (qs : List Quo) (n : Bool) (a b : List UInt8) (src dst : List UInt8) (day : Int) (w : World) (h : a3f w v qs) (hok : ∀ q ∈ qs, q.ok) (hs : ∀ q ∈ qs, q.num.length <= 1073741824 /\ q.den.length <= 1073741824)
   (la : a.length <= 1073741824) (lb : b.length <= 1073741824) :
   Calls Tryz.prog 54 #[v, raw n a b, .string (bs src), .string (bs dst), .int .i64 day] w fun e w' => e = .returned (.tuple #[rat (a2m qs (decR n a b) src dst day).1, .int .i64 (a2m qs (decR n a b) src dst day).2]) /\ Below w.heap.size w w' := by
 have hA := fun W (hb : Below w.heap.size w W) => a8u v qs src day W (h.below hb) hok
 have hB := fun W (hb : Below w.heap.size w W) => a8u v qs dst day W (h.below hb) hok
 obtain ⟨A, c, rfl, hl, hc⟩ := h.slice
 have wa := a5h (by decide) hs src day
 have wb := a5h (by decide) hs dst day
 have cs := @c6s qs (decR n a b) src dst day
 have cd := @c6t qs (decR n a b) src dst day
 have cb := @c2w qs (decR n a b) src dst day
 have na := @b2x qs src day
 have nb := @b2x qs dst day
 obtain ⟨⟨an, aa, ad⟩, n1, h1⟩ : ∃ t n, a2z qs src day = (t, n) := ⟨_, _, rfl⟩
 obtain ⟨⟨bn, ba, bd⟩, n2, h2⟩ : ∃ t n, a2z qs dst day = (t, n) := ⟨_, _, rfl⟩
 rw [h1] at hA wa cs cd cb na
 rw [h2] at hB wb cd cb nb
 dsimp only at hA hB wa wb cs cd cb na nb
 unfold Trip.val raw at hA hB
 dsimp only at hA hB
 have HA := zh hA
 have HA2 := zh hB
 have KA : Hid (Raw ((w.alloc (Obj.cells #[.bool n, .string (bs a), .string (bs b)] 40)).alloc (Obj.cells #[.bool false, .string (bs []), .string (bs [])] 40)) w.heap.size n a b) := (Blk.new w _ 40).alloc _
 have KZ : Hid (Raw ((w.alloc (Obj.cells #[.bool n, .string (bs a), .string (bs b)] 40)).alloc (Obj.cells #[.bool false, .string (bs []), .string (bs [])] 40)) (w.heap.size + 1) false [] []) := Blk.new1 w _ _ 40
 have hbw : Hid (Below w.heap.size w ((w.alloc (Obj.cells #[.bool n, .string (bs a), .string (bs b)] 40)).alloc (Obj.cells #[.bool false, .string (bs []), .string (bs [])] 40))) := Ext.alloc (Ext.alloc (Below.refl _ _) _) _
 clear h hok hs hA hB h1 h2
 unfold raw
 by_cases z1 : n1 = 0
 subst z1
 by_cases z2 : n2 = 0
 subst z2
 have HR := zh (cb rfl rfl)
 have hra := na rfl
 have hrb := nb rfl
 have va := b4u (t := ⟨an, aa, ad⟩) hra
 have vb := b4u (t := ⟨bn, ba, bd⟩) hrb
 have ea : decR an aa ad = Trip.rat ⟨an, aa, ad⟩ := rfl
 have eb : decR bn ba bd = Trip.rat ⟨bn, ba, bd⟩ := rfl
 have sp := a1f (neg := n) la lb (by decide)
 have sa := a1f (neg := an) wa.1 wa.2 (by decide)
 have sb := a1f (neg := bn) wb.1 wb.2 (by decide)
 rw [ea] at sa
 rw [eb] at sb
 obtain ⟨wa1, wa2⟩ := wa
 obtain ⟨wb1, wb2⟩ := wb
 generalize Trip.rat ⟨an, aa, ad⟩ = ra at *
 generalize Trip.rat ⟨bn, ba, bd⟩ = rb at *
 unfold Trip.val at va vb
 dsimp only at va vb
 clear cs cd cb na nb hra
 have f1 := fun W => a8f n a b W (by omega) (by omega)
 have t1 := fun W => b5s (decR n a b) ra W (sp.mono (by decide)) (sa.mono (by decide))
 have o1 := fun W => c5v (decR n a b * ra) rb W ((sp.mul sa).mono (by decide)) (sb.mono (by decide)) hrb
 generalize decR n a b = p at *
 rw [<- va] at t1
 rw [<- vb] at o1
 generalize p * ra / rb = r at *
 generalize p * ra = m at *
 unfold rat raw at f1 t1 o1
 have F1 := zh f1
 have T1 := zh t1
 have O1 := zh o1
 clear f1 t1 o1 sp sa sb hrb va vb
 generalize negB p = pn at *
 generalize numB p = pa at *
 generalize a0a p = pd at *
 generalize negB m = mn at *
 generalize numB m = ma at *
 generalize a0a m = md at *
 rotate_left
 have HR := zh (cd rfl rfl z2)
 have hn0 : (n2 == 0) = false := by rw [beq_eq_false_iff_ne]; exact z2
 have hn1 : (n2 != 0) = true := by rw [bne, hn0]; rfl
 clear cs cd cb na nb z2 wa wb la lb
 rotate_left
 have HR := zh (cs rfl z1)
 have hn0 : (n1 == 0) = false := by rw [beq_eq_false_iff_ne]; exact z1
 have hn1 : (n1 != 0) = true := by rw [bne, hn0]; rfl
 clear cs cd cb na nb z1 wa wb la lb
 rotate_left
 all_goals
   go_enter Tryz.func54, Tryz.ntmps54
   go_wp2_with fail
   refine (HA.out _ hbw.out).mono ?_
   rintro e w1 ⟨rfl, hb1⟩
   have KA1 := zh ((KA.out.below hb1 (Raw.lt KA.out)).alloc (Obj.cells #[.bool an, .string (bs aa), .string (bs ad)] 40))
   have KZw1 := zh (KZ.out.below hb1 (Raw.lt KZ.out))
   have KZ1 := zh (KZw1.out.alloc (Obj.cells #[.bool an, .string (bs aa), .string (bs ad)] 40))
   have KT1 : Hid (Raw (w1.alloc (Obj.cells #[.bool an, .string (bs aa), .string (bs ad)] 40)) w1.heap.size an aa ad) := Blk.new w1 _ _
   have HBw1 := zh (Ext.trans hbw.out hb1)
   have HB1 := zh (Ext.alloc HBw1.out (Obj.cells #[.bool an, .string (bs aa), .string (bs ad)] 40))
   have hlt1 : w.heap.size + 1 < w1.heap.size := by have := hb1.size; have := Raw.lt KZ.out; omega
   clear hb1
 ·go_wp2_with fail
  refine (HA2.out _ HB1.out).mono ?_
  rintro e w2 ⟨rfl, hb2⟩
  have KA2 := zh ((KA1.out.below hb2 (Raw.lt KA1.out)).alloc (Obj.cells #[.bool bn, .string (bs ba), .string (bs bd)] 40))
  have KZw2 := zh (KZ1.out.below hb2 (Raw.lt KZ1.out))
  have KZ2 := zh (KZw2.out.alloc (Obj.cells #[.bool bn, .string (bs ba), .string (bs bd)] 40))
  have KT2 := zh ((KT1.out.below hb2 (Raw.lt KT1.out)).alloc (Obj.cells #[.bool bn, .string (bs ba), .string (bs bd)] 40))
  have KU2 : Hid (Raw (w2.alloc (Obj.cells #[.bool bn, .string (bs ba), .string (bs bd)] 40)) w2.heap.size bn ba bd) := Blk.new w2 _ _
  have HB2 := zh (Ext.alloc (Ext.trans HB1.out hb2) (Obj.cells #[.bool bn, .string (bs ba), .string (bs bd)] 40))
  have hlt2 : w1.heap.size < w2.heap.size := by have := hb2.size; have := Raw.lt KT1.out; omega
  clear hb2
  go_wp2
  have x0 := KA2.out.c0
  have x1 := KA2.out.c1
  have x2 := KA2.out.c2
  have y0 := KT2.out.c0
  have y1 := KT2.out.c1
  have y2 := KT2.out.c2
  have v0 := KU2.out.c0
  have v1 := KU2.out.c1
  have v2 := KU2.out.c2
  have KA2d := zh (Raw.drew' KA2.out)
  have KT2d := zh (Raw.drew' KT2.out)
  have KU2d := zh (Raw.drew' KU2.out)
  have KZ2d := zh (Raw.drew' KZ2.out)
  have hn1 : ¬ (w.heap.size + 1 = w1.heap.size) := by omega
  have hn2 : ¬ (w1.heap.size = w.heap.size + 1) := by omega
  have hn3 : ¬ (w.heap.size + 1 = w2.heap.size) := by omega
  have hn4 : ¬ (w2.heap.size = w.heap.size + 1) := by omega
  go_region_held3 (fun w' => w'.cell? ⟨w.heap.size, 0, none⟩ = some (.bool n) /\ w'.cell? ⟨w.heap.size, 1, none⟩ = some (.string (bs a)) /\ w'.cell? ⟨w.heap.size, 2, none⟩ = some (.string (bs b)) /\ w'.cell? ⟨w1.heap.size, 0, none⟩ = some (.bool an) /\ w'.cell? ⟨w1.heap.size, 1, none⟩ = some (.string (bs aa)) /\ w'.cell? ⟨w1.heap.size, 2, none⟩ = some (.string (bs ad)) /\ w'.cell? ⟨w2.heap.size, 0, none⟩ = some (.bool bn) /\ w'.cell? ⟨w2.heap.size, 1, none⟩ = some (.string (bs ba)) /\ w'.cell? ⟨w2.heap.size, 2, none⟩ = some (.string (bs bd))) (go_keep) (first
    | (go_at_call 39; with_reducible refine (F1.out _).mono ?_; rintro e w3 ⟨rfl, hb1⟩; have HC1 := zh hb1; clear x0 x1 x2 y0 y1 y2 v0 v1 v2 hb1; have x0 := (KA2d.out.below HC1.out (Raw.lt KA2d.out)).c0; have x1 := (KA2d.out.below HC1.out (Raw.lt KA2d.out)).c1; have x2 := (KA2d.out.below HC1.out (Raw.lt KA2d.out)).c2; have y0 := (KT2d.out.below HC1.out (Raw.lt KT2d.out)).c0; have y1 := (KT2d.out.below HC1.out (Raw.lt KT2d.out)).c1; have y2 := (KT2d.out.below HC1.out (Raw.lt KT2d.out)).c2; have v0 := (KU2d.out.below HC1.out (Raw.lt KU2d.out)).c0; have v1 := (KU2d.out.below HC1.out (Raw.lt KU2d.out)).c1; have v2 := (KU2d.out.below HC1.out (Raw.lt KU2d.out)).c2)
    | (go_at_call 85; with_reducible refine (T1.out _).mono ?_; rintro e w4 ⟨rfl, hb2⟩; have HC2 := zh (Ext.trans HC1.out hb2); clear x0 x1 x2 y0 y1 y2 v0 v1 v2 hb2; have x0 := (KA2d.out.below HC2.out (Raw.lt KA2d.out)).c0; have x1 := (KA2d.out.below HC2.out (Raw.lt KA2d.out)).c1; have x2 := (KA2d.out.below HC2.out (Raw.lt KA2d.out)).c2; have y0 := (KT2d.out.below HC2.out (Raw.lt KT2d.out)).c0; have y1 := (KT2d.out.below HC2.out (Raw.lt KT2d.out)).c1; have y2 := (KT2d.out.below HC2.out (Raw.lt KT2d.out)).c2; have v0 := (KU2d.out.below HC2.out (Raw.lt KU2d.out)).c0; have v1 := (KU2d.out.below HC2.out (Raw.lt KU2d.out)).c1; have v2 := (KU2d.out.below HC2.out (Raw.lt KU2d.out)).c2)
    | (go_at_call 84; with_reducible refine (O1.out _).mono ?_; rintro e w5 ⟨rfl, hb3⟩; have HC3 := zh (Ext.trans HC2.out hb3); clear x0 x1 x2 y0 y1 y2 v0 v1 v2 hb3; have k1 := KZ2d.out.below HC3.out (Raw.lt KZ2d.out); have z0 := k1.frozen 0; have z1 := k1.frozen 1; have z2 := k1.frozen 2; have q0 := k1.c0; have q1 := k1.c1; have q2 := k1.c2; have KK := zh k1; have HBB := zh (Ext.trans HB2.out.drew HC3.out); clear k1; have x0 := (KA2d.out.below HC3.out (Raw.lt KA2d.out)).c0; have x1 := (KA2d.out.below HC3.out (Raw.lt KA2d.out)).c1; have x2 := (KA2d.out.below HC3.out (Raw.lt KA2d.out)).c2; have y0 := (KT2d.out.below HC3.out (Raw.lt KT2d.out)).c0; have y1 := (KT2d.out.below HC3.out (Raw.lt KT2d.out)).c1; have y2 := (KT2d.out.below HC3.out (Raw.lt KT2d.out)).c2; have v0 := (KU2d.out.below HC3.out (Raw.lt KU2d.out)).c0; have v1 := (KU2d.out.below HC3.out (Raw.lt KU2d.out)).c1; have v2 := (KU2d.out.below HC3.out (Raw.lt KU2d.out)).c2))
  go_wp2
  refine bodyPost_ret (a0k rfl _ _ _ _ _ _ rfl (KK.out.put _ _ _)) rfl ?_
  rw [HR.out]
  exact ⟨rfl, a0p HBB.out (by omega) _ _ _⟩
 ·go_wp2_with fail
  refine (HA2.out _ HB1.out).mono ?_
  rintro e w2 ⟨rfl, hb2⟩
  have KA2 := zh ((KA1.out.below hb2 (Raw.lt KA1.out)).alloc (Obj.cells #[.bool bn, .string (bs ba), .string (bs bd)] 40))
  have KZw2 := zh (KZ1.out.below hb2 (Raw.lt KZ1.out))
  have KZ2 := zh (KZw2.out.alloc (Obj.cells #[.bool bn, .string (bs ba), .string (bs bd)] 40))
  have KT2 := zh ((KT1.out.below hb2 (Raw.lt KT1.out)).alloc (Obj.cells #[.bool bn, .string (bs ba), .string (bs bd)] 40))
  have KU2 : Hid (Raw (w2.alloc (Obj.cells #[.bool bn, .string (bs ba), .string (bs bd)] 40)) w2.heap.size bn ba bd) := Blk.new w2 _ _
  have HB2 := zh (Ext.alloc (Ext.trans HB1.out hb2) (Obj.cells #[.bool bn, .string (bs ba), .string (bs bd)] 40))
  have hlt2 : w1.heap.size < w2.heap.size := by have := hb2.size; have := Raw.lt KT1.out; omega
  clear hb2
  have z0 := KZ2.out.frozen 0
  have z1 := KZ2.out.frozen 1
  have z2 := KZ2.out.frozen 2
  have q0 := KZ2.out.c0
  have q1 := KZ2.out.c1
  have q2 := KZ2.out.c2
  have hn5 : ¬ (w.heap.size + 1 = w1.heap.size) := by omega
  have hn6 : ¬ (w1.heap.size = w.heap.size + 1) := by omega
  have hn7 : ¬ (w.heap.size + 1 = w2.heap.size) := by omega
  have hn8 : ¬ (w2.heap.size = w.heap.size + 1) := by omega
  go_wp2
  refine bodyPost_ret (a0k rfl _ _ _ _ _ _ rfl (KZ2.out.put _ _ _)) rfl ?_
  rw [HR.out]
  exact ⟨by rw [a5u]; rfl, a0p HB2.out (by omega) _ _ _⟩
 have z0 := KZw1.out.frozen 0
 have z1 := KZw1.out.frozen 1
 have z2 := KZw1.out.frozen 2
 have q0 := KZw1.out.c0
 have q1 := KZw1.out.c1
 have q2 := KZw1.out.c2
 have hn5 : ¬ (w.heap.size + 1 = w1.heap.size) := by omega
 have hn6 : ¬ (w1.heap.size = w.heap.size + 1) := by omega
 go_wp2
 refine bodyPost_ret (a0k rfl _ _ _ _ _ _ rfl ((KZw1.out.put _ _ _).alloc _)) rfl ?_
 rw [HR.out]
 exact ⟨by rw [a5u]; rfl, (Ext.alloc (a0p HBw1.out (by omega) _ _ _) _)⟩
theorem b4r (v : Value) (qs : List Quo) (n : Bool) (a b : List UInt8) (src dst : List UInt8) (day : Int) (w : World) (h : a3f w v qs) (hok : ∀ q ∈ qs, q.ok) (hs : ∀ q ∈ qs, q.num.length <= 1073741824 /\ q.den.length <= 1073741824)
   (la : a.length <= 1073741824) (lb : b.length <= 1073741824) :
   Calls Tryz.prog 47 #[v, raw n a b, .string (bs src), .string (bs dst), .int .i64 day] w fun e w' => e = .returned (.tuple #[rat (a2m qs (decR n a b) src dst day).1, .int .i64 (a2m qs (decR n a b) src dst day).2]) /\ Below w.heap.size w w' := by
 have hA := fun W (hb : Below w.heap.size w W) => b2e v qs src day W (h.below hb) hok
 have hB := fun W (hb : Below w.heap.size w W) => b2e v qs dst day W (h.below hb) hok
 obtain ⟨A, c, rfl, hl, hc⟩ := h.slice
 have wa := a5h (by decide) hs src day
 have wb := a5h (by decide) hs dst day
 have cs := @c6s qs (decR n a b) src dst day
 have cd := @c6t qs (decR n a b) src dst day
 have cb := @c2w qs (decR n a b) src dst day
 have na := @b2x qs src day
 have nb := @b2x qs dst day
 obtain ⟨⟨an, aa, ad⟩, n1, h1⟩ : ∃ t n, a2z qs src day = (t, n) := ⟨_, _, rfl⟩
 obtain ⟨⟨bn, ba, bd⟩, n2, h2⟩ : ∃ t n, a2z qs dst day = (t, n) := ⟨_, _, rfl⟩
 rw [h1] at hA wa cs cd cb na
 rw [h2] at hB wb cd cb nb
 dsimp only at hA hB wa wb cs cd cb na nb
 unfold Trip.val raw at hA hB
 dsimp only at hA hB
 have HA := zh hA
 have HA2 := zh hB
 have KA : Hid (Raw ((w.alloc (Obj.cells #[.bool n, .string (bs a), .string (bs b)] 40)).alloc (Obj.cells #[.bool false, .string (bs []), .string (bs [])] 40)) w.heap.size n a b) := (Blk.new w _ 40).alloc _
 have KZ : Hid (Raw ((w.alloc (Obj.cells #[.bool n, .string (bs a), .string (bs b)] 40)).alloc (Obj.cells #[.bool false, .string (bs []), .string (bs [])] 40)) (w.heap.size + 1) false [] []) := Blk.new1 w _ _ 40
 have hbw : Hid (Below w.heap.size w ((w.alloc (Obj.cells #[.bool n, .string (bs a), .string (bs b)] 40)).alloc (Obj.cells #[.bool false, .string (bs []), .string (bs [])] 40))) := Ext.alloc (Ext.alloc (Below.refl _ _) _) _
 clear h hok hs hA hB h1 h2
 unfold raw
 by_cases z1 : n1 = 0
 subst z1
 by_cases z2 : n2 = 0
 subst z2
 have HR := zh (cb rfl rfl)
 have hra := na rfl
 have hrb := nb rfl
 have va := b4u (t := ⟨an, aa, ad⟩) hra
 have vb := b4u (t := ⟨bn, ba, bd⟩) hrb
 have ea : decR an aa ad = Trip.rat ⟨an, aa, ad⟩ := rfl
 have eb : decR bn ba bd = Trip.rat ⟨bn, ba, bd⟩ := rfl
 have sp := a1f (neg := n) la lb (by decide)
 have sa := a1f (neg := an) wa.1 wa.2 (by decide)
 have sb := a1f (neg := bn) wb.1 wb.2 (by decide)
 rw [ea] at sa
 rw [eb] at sb
 obtain ⟨wa1, wa2⟩ := wa
 obtain ⟨wb1, wb2⟩ := wb
 generalize Trip.rat ⟨an, aa, ad⟩ = ra at *
 generalize Trip.rat ⟨bn, ba, bd⟩ = rb at *
 unfold Trip.val at va vb
 dsimp only at va vb
 clear cs cd cb na nb hra
 have t1 := fun W => a7v n a b an aa ad W (by omega) (by omega) (by omega) (by omega)
 have hm := (sp.mul sa).mono (N := 17179869184) (by decide)
 have o1 := fun W => a9h (negB (decR n a b * ra)) (numB (decR n a b * ra)) (a0a (decR n a b * ra)) bn ba bd W hm.num hm.denom (by omega) (by omega) (by rw [eb]; exact hrb)
 rw [ea] at t1
 rw [a6y, eb] at o1
 generalize decR n a b = p at *
 generalize p * ra / rb = r at *
 generalize p * ra = m at *
 unfold rat raw at t1 o1
 have T1 := zh t1
 have O1 := zh o1
 clear t1 o1 sp sa sb hrb va vb hm
 generalize negB m = mn at *
 generalize numB m = ma at *
 generalize a0a m = md at *
 rotate_left
 have HR := zh (cd rfl rfl z2)
 have hn0 : (n2 == 0) = false := by rw [beq_eq_false_iff_ne]; exact z2
 have hn1 : (n2 != 0) = true := by rw [bne, hn0]; rfl
 clear cs cd cb na nb z2 wa wb la lb
 rotate_left
 have HR := zh (cs rfl z1)
 have hn0 : (n1 == 0) = false := by rw [beq_eq_false_iff_ne]; exact z1
 have hn1 : (n1 != 0) = true := by rw [bne, hn0]; rfl
 clear cs cd cb na nb z1 wa wb la lb
 rotate_left
 all_goals
   go_enter Tryz.func47, Tryz.ntmps47
   go_wp2_with fail
   refine (HA.out _ hbw.out).mono ?_
   rintro e w1 ⟨rfl, hb1⟩
   have KA1 := zh ((KA.out.below hb1 (Raw.lt KA.out)).alloc (Obj.cells #[.bool an, .string (bs aa), .string (bs ad)] 40))
   have KZw1 := zh (KZ.out.below hb1 (Raw.lt KZ.out))
   have KZ1 := zh (KZw1.out.alloc (Obj.cells #[.bool an, .string (bs aa), .string (bs ad)] 40))
   have KT1 : Hid (Raw (w1.alloc (Obj.cells #[.bool an, .string (bs aa), .string (bs ad)] 40)) w1.heap.size an aa ad) := Blk.new w1 _ _
   have HBw1 := zh (Ext.trans hbw.out hb1)
   have HB1 := zh (Ext.alloc HBw1.out (Obj.cells #[.bool an, .string (bs aa), .string (bs ad)] 40))
   have hlt1 : w.heap.size + 1 < w1.heap.size := by have := hb1.size; have := Raw.lt KZ.out; omega
   clear hb1
 ·go_wp2_with fail
  refine (HA2.out _ HB1.out).mono ?_
  rintro e w2 ⟨rfl, hb2⟩
  have KA2 := zh ((KA1.out.below hb2 (Raw.lt KA1.out)).alloc (Obj.cells #[.bool bn, .string (bs ba), .string (bs bd)] 40))
  have KZw2 := zh (KZ1.out.below hb2 (Raw.lt KZ1.out))
  have KZ2 := zh (KZw2.out.alloc (Obj.cells #[.bool bn, .string (bs ba), .string (bs bd)] 40))
  have KT2 := zh ((KT1.out.below hb2 (Raw.lt KT1.out)).alloc (Obj.cells #[.bool bn, .string (bs ba), .string (bs bd)] 40))
  have KU2 : Hid (Raw (w2.alloc (Obj.cells #[.bool bn, .string (bs ba), .string (bs bd)] 40)) w2.heap.size bn ba bd) := Blk.new w2 _ _
  have HB2 := zh (Ext.alloc (Ext.trans HB1.out hb2) (Obj.cells #[.bool bn, .string (bs ba), .string (bs bd)] 40))
  have hlt2 : w1.heap.size < w2.heap.size := by have := hb2.size; have := Raw.lt KT1.out; omega
  clear hb2
  go_wp2
  go_cut [15] (fun s15 wx => ∃ g : Nat, s15 = .pointer (some ⟨g, 0, none⟩) /\ w2.heap.size < g /\ Hid (Raw wx g (negB r) (numB r) (a0a r)) /\ Hid (Raw wx (w.heap.size + 1) false [] []) /\ Hid (Below w.heap.size w wx))
  case first =>
    have x0 := KA2.out.c0
    have x1 := KA2.out.c1
    have x2 := KA2.out.c2
    have y0 := KT2.out.c0
    have y1 := KT2.out.c1
    have y2 := KT2.out.c2
    have v0 := KU2.out.c0
    have v1 := KU2.out.c1
    have v2 := KU2.out.c2
    have KA2d := zh (Raw.drew' KA2.out)
    have KT2d := zh (Raw.drew' KT2.out)
    have KU2d := zh (Raw.drew' KU2.out)
    have KZ2d := zh (Raw.drew' KZ2.out)
    have HL : Hid (w.heap.size + 1 < w1.heap.size /\ w1.heap.size < w2.heap.size) := ⟨hlt1, hlt2⟩
    have er0 : ¬ (w2.heap.size + 1 = w.heap.size) := (by have hl := HL.out; omega)
    have er0' : ¬ (w.heap.size = w2.heap.size + 1) := (by have hl := HL.out; omega)
    have er1 : ¬ (w2.heap.size + 1 = w1.heap.size) := (by have hl := HL.out; omega)
    have er1' : ¬ (w1.heap.size = w2.heap.size + 1) := (by have hl := HL.out; omega)
    have er2 : ¬ (w2.heap.size + 1 = w2.heap.size) := (by have hl := HL.out; omega)
    have er2' : ¬ (w2.heap.size = w2.heap.size + 1) := (by have hl := HL.out; omega)
    go_region_held3 (fun w' => w'.cell? ⟨w.heap.size, 0, none⟩ = some (.bool n) /\ w'.cell? ⟨w.heap.size, 1, none⟩ = some (.string (bs a)) /\ w'.cell? ⟨w.heap.size, 2, none⟩ = some (.string (bs b)) /\ w'.cell? ⟨w1.heap.size, 0, none⟩ = some (.bool an) /\ w'.cell? ⟨w1.heap.size, 1, none⟩ = some (.string (bs aa)) /\ w'.cell? ⟨w1.heap.size, 2, none⟩ = some (.string (bs ad)) /\ w'.cell? ⟨w2.heap.size, 0, none⟩ = some (.bool bn) /\ w'.cell? ⟨w2.heap.size, 1, none⟩ = some (.string (bs ba)) /\ w'.cell? ⟨w2.heap.size, 2, none⟩ = some (.string (bs bd))) (go_keep) (first
    | (go_at_call 72; with_reducible refine (T1.out _).mono ?_; rintro e w3 ⟨rfl, hb1⟩; (first | have HC1 := zh (below_d (W := (w2.alloc (Obj.cells #[.bool bn, .string (bs ba), .string (bs bd)] 40))) hb1) | have HC1 := zh (below_ad (W := (w2.alloc (Obj.cells #[.bool bn, .string (bs ba), .string (bs bd)] 40))) hb1) | have HC1 := zh (below_da (W := (w2.alloc (Obj.cells #[.bool bn, .string (bs ba), .string (bs bd)] 40))) hb1)); have hz3 : w2.heap.size + 1 <= w3.heap.size := (by have := HC1.out.size; (try simp at this); omega); have eu0 : ¬ (w3.heap.size = w.heap.size) := (by have hl := HL.out; omega); have eu0' : ¬ (w.heap.size = w3.heap.size) := (by have hl := HL.out; omega); have eu1 : ¬ (w3.heap.size = w1.heap.size) := (by have hl := HL.out; omega); have eu1' : ¬ (w1.heap.size = w3.heap.size) := (by have hl := HL.out; omega); have eu2 : ¬ (w3.heap.size = w2.heap.size) := (by have hl := HL.out; omega); have eu2' : ¬ (w2.heap.size = w3.heap.size) := (by have hl := HL.out; omega); (first | have ka := zh (raw_past (W := (w2.alloc (Obj.cells #[.bool bn, .string (bs ba), .string (bs bd)] 40))) hb1) | skip); have hcl1 := bcell hb1; have hcA := hcl1.1; have hfA := hcl1.2; have hszA := hb1.size; clear hcl1 x0 x1 x2 y0 y1 y2 v0 v1 v2 hb1; have x0 := (KA2.out.below HC1.out (Raw.lt KA2.out)).c0; have x1 := (KA2.out.below HC1.out (Raw.lt KA2.out)).c1; have x2 := (KA2.out.below HC1.out (Raw.lt KA2.out)).c2; have y0 := (KT2.out.below HC1.out (Raw.lt KT2.out)).c0; have y1 := (KT2.out.below HC1.out (Raw.lt KT2.out)).c1; have y2 := (KT2.out.below HC1.out (Raw.lt KT2.out)).c2; have v0 := (KU2.out.below HC1.out (Raw.lt KU2.out)).c0; have v1 := (KU2.out.below HC1.out (Raw.lt KU2.out)).c1; have v2 := (KU2.out.below HC1.out (Raw.lt KU2.out)).c2)
    | (go_at_call 71; with_reducible refine (O1.out _).mono ?_; rintro e w4 ⟨rfl, hb2⟩; (first | have HC2 := zh (Ext.trans HC1.out hb2) | have HC2 := zh (Ext.trans (Ext.alloc HC1.out _) hb2)); have hz4 : w3.heap.size <= w4.heap.size := (by have := hb2.size; (try simp at this); omega); have es0 : ¬ (w4.heap.size = w.heap.size) := (by have hl := HL.out; omega); have es0' : ¬ (w.heap.size = w4.heap.size) := (by have hl := HL.out; omega); have es1 : ¬ (w4.heap.size = w1.heap.size) := (by have hl := HL.out; omega); have es1' : ¬ (w1.heap.size = w4.heap.size) := (by have hl := HL.out; omega); have es2 : ¬ (w4.heap.size = w2.heap.size) := (by have hl := HL.out; omega); have es2' : ¬ (w2.heap.size = w4.heap.size) := (by have hl := HL.out; omega); (first | (have kb1 := ka.out.below hb2 (Nat.lt_of_lt_of_le (Raw.lt ka.out) (Nat.le_refl _)); rw [size_alloc] at kb1; have kb := kb1; clear kb1; have g0 := kb.frozen 0; have g1 := kb.frozen 1; have g2 := kb.frozen 2; have c0 := kb.c0; have c1 := kb.c1; have c2 := kb.c2; have KBH := zh kb; clear kb) | (have kb := c9f hb2; have g0 := kb.frozen 0; have g1 := kb.frozen 1; have g2 := kb.frozen 2; have c0 := kb.c0; have c1 := kb.c1; have c2 := kb.c2; have KBH := zh kb; clear kb) | skip); have hcl2 := bcell hb2; have hcB := hcl2.1; have hfB := hcl2.2; have hszB := hb2.size; clear hcl2 x0 x1 x2 y0 y1 y2 v0 v1 v2 hb2; have x0 := (KA2.out.below HC2.out (Raw.lt KA2.out)).c0; have x1 := (KA2.out.below HC2.out (Raw.lt KA2.out)).c1; have x2 := (KA2.out.below HC2.out (Raw.lt KA2.out)).c2; have y0 := (KT2.out.below HC2.out (Raw.lt KT2.out)).c0; have y1 := (KT2.out.below HC2.out (Raw.lt KT2.out)).c1; have y2 := (KT2.out.below HC2.out (Raw.lt KT2.out)).c2; have v0 := (KU2.out.below HC2.out (Raw.lt KU2.out)).c0; have v1 := (KU2.out.below HC2.out (Raw.lt KU2.out)).c1; have v2 := (KU2.out.below HC2.out (Raw.lt KU2.out)).c2))
    all_goals
     have KZ4 := zh (KZ2.out.below HC2.out (Raw.lt KZ2.out))
     have HB4 := zh (Ext.trans HB2.out HC2.out)
     have hl := HL.out
     go_wp2_with fail
     go_meet
     case rel =>
      first
      | exact ⟨w4.heap.size, rfl, by omega, Blk.new w4 _ _, KZ4.out.alloc _, Ext.alloc HB4.out _⟩
      | exact ⟨w3.heap.size, rfl, by omega, KBH.out.put _ _ _, KZ4.out.put_far (by omega) _ _ _, a0p HB4.out (by omega) _ _ _⟩
      | exact ⟨w2.heap.size + 1, rfl, by omega, KBH.out.put _ _ _, KZ4.out.put_far (by omega) _ _ _, a0p HB4.out (by omega) _ _ _⟩
  case rest =>
    obtain ⟨g, rfl, hg, KR, KZ3, HB3⟩ := hcut
    have z0 := KZ3.out.frozen 0
    have z1 := KZ3.out.frozen 1
    have z2 := KZ3.out.frozen 2
    have q0 := KZ3.out.c0
    have q1 := KZ3.out.c1
    have q2 := KZ3.out.c2
    have r0 := KR.out.c0
    have r1 := KR.out.c1
    have r2 := KR.out.c2
    go_wp2
    refine bodyPost_ret (a0k rfl _ _ _ _ _ _ rfl (KZ3.out.put _ _ _)) rfl ?_
    rw [HR.out]
    exact ⟨rfl, a0p HB3.out (by omega) _ _ _⟩
 ·go_wp2_with fail
  refine (HA2.out _ HB1.out).mono ?_
  rintro e w2 ⟨rfl, hb2⟩
  have KA2 := zh ((KA1.out.below hb2 (Raw.lt KA1.out)).alloc (Obj.cells #[.bool bn, .string (bs ba), .string (bs bd)] 40))
  have KZw2 := zh (KZ1.out.below hb2 (Raw.lt KZ1.out))
  have KZ2 := zh (KZw2.out.alloc (Obj.cells #[.bool bn, .string (bs ba), .string (bs bd)] 40))
  have KT2 := zh ((KT1.out.below hb2 (Raw.lt KT1.out)).alloc (Obj.cells #[.bool bn, .string (bs ba), .string (bs bd)] 40))
  have KU2 : Hid (Raw (w2.alloc (Obj.cells #[.bool bn, .string (bs ba), .string (bs bd)] 40)) w2.heap.size bn ba bd) := Blk.new w2 _ _
  have HB2 := zh (Ext.alloc (Ext.trans HB1.out hb2) (Obj.cells #[.bool bn, .string (bs ba), .string (bs bd)] 40))
  have hlt2 : w1.heap.size < w2.heap.size := by have := hb2.size; have := Raw.lt KT1.out; omega
  clear hb2
  have z0 := KZ2.out.frozen 0
  have z1 := KZ2.out.frozen 1
  have z2 := KZ2.out.frozen 2
  have q0 := KZ2.out.c0
  have q1 := KZ2.out.c1
  have q2 := KZ2.out.c2
  have hn5 : ¬ (w.heap.size + 1 = w1.heap.size) := by omega
  have hn6 : ¬ (w1.heap.size = w.heap.size + 1) := by omega
  have hn7 : ¬ (w.heap.size + 1 = w2.heap.size) := by omega
  have hn8 : ¬ (w2.heap.size = w.heap.size + 1) := by omega
  go_wp2
  refine bodyPost_ret (a0k rfl _ _ _ _ _ _ rfl (KZ2.out.put _ _ _)) rfl ?_
  rw [HR.out]
  exact ⟨by rw [a5u]; rfl, a0p HB2.out (by omega) _ _ _⟩
 have z0 := KZw1.out.frozen 0
 have z1 := KZw1.out.frozen 1
 have z2 := KZw1.out.frozen 2
 have q0 := KZw1.out.c0
 have q1 := KZw1.out.c1
 have q2 := KZw1.out.c2
 have hn5 : ¬ (w.heap.size + 1 = w1.heap.size) := by omega
 have hn6 : ¬ (w1.heap.size = w.heap.size + 1) := by omega
 go_wp2
 refine bodyPost_ret (a0k rfl _ _ _ _ _ _ rfl ((KZw1.out.put _ _ _).alloc _)) rfl ?_
 rw [HR.out]
 exact ⟨by rw [a5u]; rfl, (Ext.alloc (a0p HBw1.out (by omega) _ _ _) _)⟩
end Go.Proofs.YtoighiepglclkaaGreatDoor
