/-
Part 30 of the base.
-/
import Derived.Test.YtoighiepglclkaaGreatDoorKf29
import Derived.Test.YtoighiepglclkaaGreatDoorKf31
import Derived.Shelf.Abstract
import Derived.Deep.MidRow
set_option maxRecDepth 100000
set_option maxHeartbeats 1000000
namespace Go.Proofs.YtoighiepglclkaaGreatDoor
open Go.RowKit
theorem b5p (k st : Int) (w : World) : Calls Tryz.prog 34 #[.int .i64 k, .int .i64 st] w fun e w' => e = .returned (.bool (a1b k st)) /\ w = w' := by
 have a1 : a1b 2 st = (st == 1) := by unfold a1b; rw [if_pos (by decide), Bool.eq_iff_iff]; simp
 have a2 : a1b 3 st = (st == 1) := by unfold a1b; rw [if_pos (by decide), Bool.eq_iff_iff]; simp
 have a3 : a1b 4 st = (st == 3) := by unfold a1b; rw [if_neg (by decide), if_pos rfl, Bool.eq_iff_iff]; simp
 have a4 : a1b 5 st = (st == 4) := by unfold a1b; rw [if_neg (by decide), if_neg (by decide), if_pos (by decide), Bool.eq_iff_iff]; simp
 have a5 : a1b 9 st = (st == 4) := by unfold a1b; rw [if_neg (by decide), if_neg (by decide), if_pos (by decide), Bool.eq_iff_iff]; simp
 have a6 : a1b 6 st = (st == 5) := by unfold a1b; rw [if_neg (by decide), if_neg (by decide), if_neg (by decide), if_pos rfl, Bool.eq_iff_iff]; simp
 have a7 : a1b 7 st = (decide (1 <= st) && decide (st < 6)) := by unfold a1b; rw [if_neg (by decide), if_neg (by decide), if_neg (by decide), if_neg (by decide), if_pos rfl]
 have a8 : (k ≠ 2 /\ k ≠ 3 /\ k ≠ 4 /\ k ≠ 5 /\ k ≠ 9 /\ k ≠ 6 /\ k ≠ 7) -> a1b k st = (decide (1 <= st) && decide (st < 7)) := fun h => by unfold a1b; rw [if_neg (by omega), if_neg (by omega), if_neg (by omega), if_neg (by omega), if_neg (by omega)]
 have A1 := zh a1
 have A2 := zh a2
 have A3 := zh a3
 have A4 := zh a4
 have A5 := zh a5
 have A6 := zh a6
 have A7 := zh a7
 have A8 := zh a8
 clear a1 a2 a3 a4 a5 a6 a7 a8
 by_cases h2 : k = 2
 ·subst h2
  rw [A1.out]
  obtain ⟨q, hq⟩ : ∃ q, q = (st == 1) := ⟨_, rfl⟩
  rw [<- hq]
  have hq2 := hq.symm
  clear hq
  go_enter Tryz.func34, Tryz.ntmps34
  go_wp2
  go_ret
  exact ⟨rfl, rfl⟩
 by_cases h3 : k = 3
 ·subst h3
  rw [A2.out]
  obtain ⟨q, hq⟩ : ∃ q, q = (st == 1) := ⟨_, rfl⟩
  rw [<- hq]
  have hq2 := hq.symm
  clear hq
  go_enter Tryz.func34, Tryz.ntmps34
  go_wp2
  go_ret
  exact ⟨rfl, rfl⟩
 by_cases h4 : k = 4
 ·subst h4
  rw [A3.out]
  obtain ⟨q, hq⟩ : ∃ q, q = (st == 3) := ⟨_, rfl⟩
  rw [<- hq]
  have hq2 := hq.symm
  clear hq
  go_enter Tryz.func34, Tryz.ntmps34
  go_wp2
  go_ret
  exact ⟨rfl, rfl⟩
 by_cases h5 : k = 5
 ·subst h5
  rw [A4.out]
  obtain ⟨q, hq⟩ : ∃ q, q = (st == 4) := ⟨_, rfl⟩
  rw [<- hq]
  have hq2 := hq.symm
  clear hq
  go_enter Tryz.func34, Tryz.ntmps34
  go_wp2
  go_ret
  exact ⟨rfl, rfl⟩
 by_cases h9 : k = 9
 ·subst h9
  rw [A5.out]
  obtain ⟨q, hq⟩ : ∃ q, q = (st == 4) := ⟨_, rfl⟩
  rw [<- hq]
  have hq2 := hq.symm
  clear hq
  go_enter Tryz.func34, Tryz.ntmps34
  go_wp2
  go_ret
  exact ⟨rfl, rfl⟩
 by_cases h6 : k = 6
 ·subst h6
  rw [A6.out]
  obtain ⟨q, hq⟩ : ∃ q, q = (st == 5) := ⟨_, rfl⟩
  rw [<- hq]
  have hq2 := hq.symm
  clear hq
  go_enter Tryz.func34, Tryz.ntmps34
  go_wp2
  go_ret
  exact ⟨rfl, rfl⟩
 by_cases h7 : k = 7
 ·subst h7
  rw [A7.out]
  obtain ⟨x, hx⟩ : ∃ x, x = decide (1 <= st) := ⟨_, rfl⟩
  obtain ⟨y, hy⟩ : ∃ y, y = decide (st < 6) := ⟨_, rfl⟩
  rw [<- hx, <- hy]
  have hx2 := hx.symm
  have hy2 := hy.symm
  clear hx hy
  cases x <;> cases y
  all_goals
   go_enter Tryz.func34, Tryz.ntmps34
   go_wp2
   go_ret
   exact ⟨rfl, rfl⟩
 rw [A8.out ⟨h2, h3, h4, h5, h9, h6, h7⟩]
 obtain ⟨x, hx⟩ : ∃ x, x = decide (1 <= st) := ⟨_, rfl⟩
 obtain ⟨y, hy⟩ : ∃ y, y = decide (st < 7) := ⟨_, rfl⟩
 rw [<- hx, <- hy]
 have hx2 := hx.symm
 have hy2 := hy.symm
 have n2 : (k == 2) = false := by rw [beq_eq_false_iff_ne]; exact h2
 have n3 : (k == 3) = false := by rw [beq_eq_false_iff_ne]; exact h3
 have n4 : (k == 4) = false := by rw [beq_eq_false_iff_ne]; exact h4
 have n5 : (k == 5) = false := by rw [beq_eq_false_iff_ne]; exact h5
 have n9 : (k == 9) = false := by rw [beq_eq_false_iff_ne]; exact h9
 have n6 : (k == 6) = false := by rw [beq_eq_false_iff_ne]; exact h6
 have n7 : (k == 7) = false := by rw [beq_eq_false_iff_ne]; exact h7
 clear hx hy h2 h3 h4 h5 h9 h6 h7
 cases x <;> cases y
 all_goals
  go_enter Tryz.func34, Tryz.ntmps34
  go_wp2
  go_ret
  exact ⟨rfl, rfl⟩
theorem a7p (t : Raw3) (w : World) (h : t.a.length <= 1000000 /\ t.b.length <= 1000000) :
  Calls Tryz.prog 35 #[raw t.n t.a t.b] w fun e w' => e = .returned (rat t.val) /\ Below w.heap.size w w' := by
 have hA := fun W => b3r t.n t.a t.b false [] [] W (by omega) (by omega) (by decide) (by decide)
 rw [b2c, Rat.add_zero] at hA
 change ∀ W, Calls Tryz.prog _ _ W (fun e w' => e = .returned (rat t.val) /\ _) at hA
 generalize t.val = q at *
 unfold rat raw at *
 have HA := zh hA
 clear hA h
 go_enter Tryz.func35, Tryz.ntmps35
 have HS := zh (St.start w)
 go_wp2_with fail
 have HS2 := aL (aL HS #[.bool t.n, .string (bs t.a), .string (bs t.b)] 40 w.heap.size) #[.bool false, .string (bs []), .string (bs [])] 40 (w.heap.size + 1)
 refine cL (HA.out _) HS2 fun w3 HS3 => ?_
 clear HS HS2
 obtain ⟨x1, x2, x3⟩ := HS3.out.k0 0 rfl rfl rfl rfl
 obtain ⟨x4, x5, x6⟩ := HS3.out.f0 0 rfl
 have x7 := cN HS3 0 1
 have x8 := cN HS3 1 0
 go_wp2
 have HS4 : Hid (St w [⟨w.heap.size + 1, #[.bool (negB (q)), .string (bs (numB (q))), .string (bs (a0a (q)))], 40⟩, _] _) := zh (St.set (St.set (St.set (HS3.out) 0 rfl 0 _) 0 rfl 1 _) 0 rfl 2 _)
 refine bodyPost_ret (a0j rfl _ _ _ _ _ _ rfl (HS4.out.blk 0 rfl)) rfl ?_
 exact ⟨rfl, HS4.out.below⟩
theorem a8t (r lo hi : Raw3) (w : World) (h1 : r.a.length <= 1000000 /\ r.b.length <= 1000000) (h2 : lo.a.length <= 1000000 /\ lo.b.length <= 1000000) (h3 : hi.a.length <= 1000000 /\ hi.b.length <= 1000000) :
  Calls Tryz.prog 36 #[raw r.n r.a r.b, raw lo.n lo.a lo.b, raw hi.n hi.a hi.b] w fun e w' => e = .returned (.bool (inB r.val lo.val hi.val)) /\ Below w.heap.size w w' := by
 have hA := fun W => a8v r.n r.a r.b lo.n lo.a lo.b W (by omega) (by omega) (by omega) (by omega)
 have hB := fun W => a8v r.n r.a r.b hi.n hi.a hi.b W (by omega) (by omega) (by omega) (by omega)
 change ∀ W, Calls Tryz.prog _ _ W (fun e w' => e = .returned (.int .i64 (sgn (r.val - lo.val).num)) /\ _) at hA
 change ∀ W, Calls Tryz.prog _ _ W (fun e w' => e = .returned (.int .i64 (sgn (r.val - hi.val).num)) /\ _) at hB
 have hd : inB r.val lo.val hi.val = (decide (0 <= sgn (r.val - lo.val).num) && decide (sgn (r.val - hi.val).num <= 0)) := rfl
 generalize inB r.val lo.val hi.val = ans at *
 generalize sgn (r.val - lo.val).num = s1 at *
 generalize sgn (r.val - hi.val).num = s2 at *
 unfold raw at *
 have HA := zh hA
 have HB := zh hB
 clear hA hB h1 h2 h3
 by_cases c1 : 0 <= s1
 have d1 : decide (0 <= s1) = true := decide_eq_true c1
 obtain ⟨q, hq⟩ : ∃ q, q = decide (s2 <= 0) := ⟨_, rfl⟩
 rw [d1, <- hq] at hd
 have R : Hid (ans = q) := hd
 have d2 := hq.symm
 clear hd hq c1
 rotate_left
 have d1 : decide (0 <= s1) = false := decide_eq_false c1
 rw [d1] at hd
 have R : Hid (ans = false) := hd
 clear hd c1
 rotate_left
 all_goals
   go_enter Tryz.func36, Tryz.ntmps36
   have HS := zh (St.start w)
   go_wp2_with fail
   have HS2 := aL (aL (aL HS #[.bool r.n, .string (bs r.a), .string (bs r.b)] 40 w.heap.size) #[.bool lo.n, .string (bs lo.a), .string (bs lo.b)] 40 (w.heap.size + 1)) #[.bool hi.n, .string (bs hi.a), .string (bs hi.b)] 40 (w.heap.size + 1 + 1)
   refine cL (HA.out _) HS2 fun w3 HS3 => ?_
   clear HS HS2
 ·obtain ⟨x1, x2, x3⟩ := HS3.out.k0 2 rfl rfl rfl rfl
  obtain ⟨x4, x5, x6⟩ := HS3.out.k0 0 rfl rfl rfl rfl
  go_wp2_with fail
  refine cL (HB.out _) HS3 fun w4 HS4 => ?_
  clear HS3 x1 x2 x3 x4 x5 x6
  go_wp2
  go_ret
  have HS5 := zh HS4.out
  rw [R.out]
  exact ⟨rfl, HS5.out.below⟩
 go_wp2
 go_ret
 have HS4 := zh HS3.out
 rw [R.out]
 exact ⟨rfl, HS4.out.below⟩
set_option maxHeartbeats 2000000
theorem b5q (x : Ent) (id : List UInt8) (bp : Nat) (w : World) (hbp : bp < w.heap.size) (hc : ∀ w', Below w.heap.size w w' -> ∀ i u, ([.string (bs id)] : List Value)[i]? = some u -> w'.cell? ⟨bp, i, none⟩ = some u) :
  Calls Tryz.prog 33 #[.agg (entC x), .pointer (some ⟨bp, 0, none⟩)] w fun e w' => e = .returned (.bool (x.p.id == id)) /\ Below w.heap.size w w' := by
 unfold entC
 obtain ⟨eB, heB⟩ : ∃ y, y = (x.p.id == id) := ⟨_, rfl⟩
 have fe : ((bs x.p.id).toList == (bs id).toList) = eB := by rw [a1q, a1q]; exact heB.symm
 rw [<- heB]
 have HC := zh hc
 clear hc heB
 go_enter Tryz.func33, Tryz.ntmps33
 have HS := zh (St.start w)
 have x1 : bp < w.heap.size := Nat.lt_of_lt_of_le hbp HS.out.below.size
 have x2 : ¬ bp = w.heap.size := by omega
 have x3 := HC.out _ HS.out.below 0 _ rfl
 go_wp2
 go_ret
 have HS2 := aL HS (entC x) 57 w.heap.size
 exact ⟨rfl, HS2.out.below⟩
theorem eg_Find : ∀ args w, (callFunc 33 args).run Tryz.prog w = .ok (.enter 33 args) w := enters_of Tryz.func33 (by kernel_rfl) rfl
theorem c6r {l : List Ent} {id : List UInt8} {k : Nat} {x : Ent} (hn : ∀ (j : Nat) t, j < k -> l[j]? = some t -> (t.p.id == id) = false) (hk : l[k]? = some x) (hx : (x.p.id == id) = true) : a3k l id = some k := by
 unfold a3k
 rw [List.findIdx?_eq_some_iff_getElem]
 obtain ⟨hl, e⟩ := List.getElem?_eq_some_iff.1 hk
 refine ⟨hl, by rw [e]; exact hx, fun j hj => ?_⟩
 have := hn j l[j] hj (List.getElem?_eq_getElem (by omega))
 simp [this]
theorem b9g {l : List Ent} {id : List UInt8} (hn : ∀ (j : Nat) t, j < l.length -> l[j]? = some t -> (t.p.id == id) = false) : a3k l id = none := by
 unfold a3k
 rw [List.findIdx?_eq_none_iff]
 intro t ht
 obtain ⟨j, hj, e⟩ := List.getElem_of_mem ht
 exact hn j t hj (by rw [List.getElem?_eq_getElem hj, e])
theorem a0n : (Tryz.prog.info? 57).map (·.size) = some 30 := by kernel_rfl
def optZ : Option Nat -> Int
 | some i => (i : Nat)
 | none => -1
theorem b8b (id : List UInt8) (bp : Nat) (v : Value) (l : List Ent) (w : World) (h : a5d w v l) (hbp : bp < w.heap.size) (hc : ∀ w', Below w.heap.size w w' -> ∀ i u, ([.string (bs id)] : List Value)[i]? = some u -> w'.cell? ⟨bp, i, none⟩ = some u) :
  Calls Tryz.prog 32 #[v, .func (.func 33) #[] #[.pointer (some ⟨bp, 0, none⟩)]] w fun e w' => e = .returned (.int .i64 (optZ (a3k l id))) /\ Below w.heap.size w w' := by
 have H := zh h
 have HC := zh hc
 have hcl := fun x W (hb : Below w.heap.size w W) => b5q x id bp W (Nat.lt_of_lt_of_le hbp hb.size) (fun w' hw => hc w' (hb.trans (hw.mono hb.size)))
 have HCL := zh hcl
 have eg := eg_Find
 obtain ⟨A, c, rfl, hl, hcc⟩ := h.slice
 clear h hc hcl
 go_enter Tryz.func32, Tryz.ntmps32
 go_wp2
 go_loopw [8] (fun i wr => ∃ k : Nat, k <= l.length /\ i = .int .i64 k /\ Hid (∀ (j : Nat) t, j < k -> l[j]? = some t -> (t.p.id == id) = false) /\ Hid (St w [] wr)) (fun i _ => l.length - (intOf i).toNat)
 case atStart => exact ⟨0, Nat.zero_le _, rfl, fun j t hj => absurd hj (Nat.not_lt_zero _), St.start w⟩
 case round =>
  obtain ⟨k, hk, rfl, HN, HS⟩ := hrel
  by_cases hlt : k < l.length
  ·obtain ⟨b, o, x, rfl, hbb, hq, hx⟩ := H.out.at_ hlt
   have hcall := HCL.out x wr HS.out.below
   have HQ := zh hq
   obtain ⟨q, hpq⟩ : ∃ q, q = (x.p.id == id) := ⟨_, rfl⟩
   rw [<- hpq] at hcall
   have HPQ : Hid ((x.p.id == id) = q) := hpq.symm
   have HX := zh hx
   have e0 : (0 : Int) <= ((k : Nat) : Int) := by omega
   have e1 : ((k : Nat) : Int) < (l.length : Int) := by omega
   have HCALL := zh hcall
   clear hq hx hpq hcall
   cases q with
   | true =>
    go_wp2_with (refine wpList_load_mid rfl _ _ rfl b (o + k * 30) rfl x.enc _ (fun j v hv => HX.out _ HS.out.below j v hv) Tryz.underlying57 rfl a0n ?_)
    refine HCALL.out.mono ?_
    rintro e w2 ⟨rfl, hb2⟩
    go_wp2
    go_ret
    have HB := HS.out.call hb2
    rw [c6r HN.out HQ.out HPQ.out]
    exact ⟨rfl, HB.below⟩
   | false =>
    go_wp2_with (refine wpList_load_mid rfl _ _ rfl b (o + k * 30) rfl x.enc _ (fun j v hv => HX.out _ HS.out.below j v hv) Tryz.underlying57 rfl a0n ?_)
    refine HCALL.out.mono ?_
    rintro e w2 ⟨rfl, hb2⟩
    go_wp2
    have HB := HS.out.call hb2
    go_roundw
    case rel =>
     refine ⟨k + 1, by omega, by go_num, fun j u hj hu => ?_, HB⟩
     rcases Nat.lt_or_ge j k with h1 | h1
     ·exact HN.out j u h1 hu
     obtain rfl : j = k := by omega
     have := HQ.out
     rw [hu] at this
     obtain rfl : u = x := Option.some.inj this
     exact HPQ.out
    case measure => simp [intOf]; omega
  obtain rfl : k = l.length := by omega
  go_wp2
  go_ret
  rw [b9g HN.out]
  exact ⟨rfl, HS.out.below⟩
theorem b1q (cut bar day : Int) (v : Value) (l : List Ent) (id : List UInt8) (w : World) (h : a5d w v l) :
  Calls Tryz.prog 18 #[.agg #[.int .i64 cut, .int .i64 bar, .int .i64 day, v], .string (bs id)] w fun e w' => e = .returned (.tuple #[.int .i64 (((a3k l id).getD 0 : Nat) : Int), .bool (a3k l id).isSome]) /\ Below w.heap.size w w' := by
 have hI := fun bp W (hb : Below w.heap.size w W) (hbp : bp < W.heap.size) hc => b8b id bp v l W (h.below hb) hbp hc
 obtain ⟨A, c, rfl, hl, hcc⟩ := h.slice
 generalize a3k l id = r at *
 clear h
 cases r with
 | some i =>
  dsimp only [optZ] at hI
  have HI := zh hI
  clear hI
  have d1 : decide ((0 : Int) <= ((i : Nat) : Int)) = true := decide_eq_true (by omega)
  have d2 : ¬ ((i : Nat) : Int) < 0 := by omega
  have d3 : max ((i : Nat) : Int) 0 = (i : Nat) := by omega
  go_enter Tryz.func18, Tryz.ntmps18
  have HS := zh (St.start w)
  go_wp2_with fail
  have HS2 := aL (aL HS #[.int .i64 cut, .int .i64 bar, .int .i64 day, .slice A l.length c] 32 w.heap.size) #[.string (bs id)] 9 (w.heap.size + 1)
  refine cL (HI.out (w.heap.size + 1) _ HS2.out.below (HS2.out.lt 0 rfl) (fun w' hb i u hu => ((HS2.out.blk 0 rfl).below hb (HS2.out.lt 0 rfl)).cell i u (by rw [<- Array.getElem?_toList]; exact hu))) HS2 fun w3 HS3 => ?_
  clear HS HS2
  go_wp2
  have HS4 := zh HS3.out
  go_ret2
  exact ⟨rfl, HS4.out.below⟩
 | none =>
  dsimp only [optZ] at hI
  have HI := zh hI
  clear hI
  go_enter Tryz.func18, Tryz.ntmps18
  have HS := zh (St.start w)
  go_wp2_with fail
  have HS2 := aL (aL HS #[.int .i64 cut, .int .i64 bar, .int .i64 day, .slice A l.length c] 32 w.heap.size) #[.string (bs id)] 9 (w.heap.size + 1)
  refine cL (HI.out (w.heap.size + 1) _ HS2.out.below (HS2.out.lt 0 rfl) (fun w' hb i u hu => ((HS2.out.blk 0 rfl).below hb (HS2.out.lt 0 rfl)).cell i u (by rw [<- Array.getElem?_toList]; exact hu))) HS2 fun w3 HS3 => ?_
  clear HS HS2
  go_wp2
  have HS4 := zh HS3.out
  go_ret2
  exact ⟨rfl, HS4.out.below⟩
theorem a4g : (Tryz.prog.info? 57).map (fun i => (i.zero, i.size, i.bytes)) = some (some (.agg #[.string ⟨#[]⟩, .int .i64 0, .int .i64 0, .string ⟨#[]⟩, .bool false, .string ⟨#[]⟩, .string ⟨#[]⟩, .int .i64 0, .int .i64 0, .bool false, .string ⟨#[]⟩, .string ⟨#[]⟩, .int .i64 0, .int .i64 0, .int .i64 0, .bool false, .bool false, .string ⟨#[]⟩, .string ⟨#[]⟩, .bool false, .string ⟨#[]⟩, .string ⟨#[]⟩, .bool false, .string ⟨#[]⟩, .string ⟨#[]⟩, .bool false, .string ⟨#[]⟩, .string ⟨#[]⟩, .int .i64 0, .int .i64 0]), 30, 352) := by kernel_rfl
theorem a9p (v : Ent) : ∀ u ∈ v.enc, u.oneCell' = true := by
 intro u hu
 unfold Ent.enc Prf.enc at hu
 simp only [List.cons_append, List.nil_append, List.mem_cons, List.mem_nil_iff, or_false] at hu
 rcases hu with rfl | rfl | rfl | rfl | rfl | rfl | rfl | rfl | rfl | rfl | rfl | rfl | rfl | rfl | rfl | rfl | rfl | rfl | rfl | rfl | rfl | rfl | rfl | rfl | rfl | rfl | rfl | rfl | rfl | rfl <;> rfl
section
variable {P : Program}
theorem b7d (w : World) {ops : Array Oper} {rest : List Oper} {o : Oper} {a : Act} {Q : Exit -> Act -> World -> Prop} (hgd : o.guard = none) (s x : Operand) (t : TypeId)
  (ho : o.op = .call { callee := .builtin .append, args := #[s, x], argTypes := #[t, t] }) (e : TypeId) (i : TypeInfo) (ht : P.underlying t = some (.slice e)) (hi : P.info? e = some i)
  (g : Nat) (hs : a.eval s = .slice (some ⟨g, 0, none⟩) 0 0) (ad : Option Addr) (c : Nat) (hx : a.eval x = .slice ad 0 c)
  (h : wpList P ops Q rest (a.put o.dst (.slice (some ⟨g, 0, none⟩) 0 0)) w) : wpList P ops Q (o :: rest) a w := by
 refine wpList_plain hgd fun K hK => ?_
 have hsr : Src P i.size t (.slice ad 0 c) 0 [] w := by
  cases ad with
  | none => exact Src.ofNil w ht c
  | some b => exact Src.ofSlice w ht b 0 c [] (by simp) (by simp) (by simp)
 have hr := run_append_room_src (P := P) w t t o.type e i ht hi g 0 0 0 (.slice ad 0 c) 0 [] hsr (by omega) (by simp) (by simp)
 have hset : w.setCells g (0 + 0 * i.size) [] = w := rfl
 rw [hset] at hr
 unfold Oper.wp execOp
 simp only [ho, resolve, invoke, builtin, Sem.run_bind, Sem.run_pure, Result.andThen_ok, List.map_toArray, List.map_cons, List.map_nil, hs, hx, hr]
 exact hK _ _ h
end
theorem c4d (A : Option Addr) (n c : Nat) (w : World) : (binOp .eql 30 (.slice A n c) (.slice none 0 0)).run Tryz.prog w = .ok (.bool A.isNone) w := Lib.run_eql_slice_nil w _ _ A n c 0 0 Tryz.underlying30
theorem c7z (v : Value) (l : List Ent) (w : World) (h : a5d w v l) (h0 : 0 < l.length) (hn : l.length <= 1000) :
  Calls Tryz.prog 16 #[v] w fun e w' => ∃ g cap rest, e = .returned (.slice (some ⟨g, 0, none⟩) l.length cap) /\ w.heap.size <= g /\ l.length <= cap /\ cap <= maxLen /\ rest.length + l.length * 30 = cap * 30 /\ Blk w' g (rowG Ent.enc l rest) 57 /\ Below w.heap.size w w' := by
 obtain ⟨i0, hi0, hz0, hz1, hz2⟩ := info_parts a4g
 have HI := zh hi0
 have H := zh h
 obtain ⟨A, c, rfl, hl, hcc⟩ := h.slice
 clear hi0
 cases A with
 | none => rw [h.none_nil] at h0; exact absurd h0 (by simp)
 | some ad =>
  have hcm := c4d (some ad) l.length c
  clear h
  go_enter Tryz.func16, Tryz.ntmps16
  go_wp2_with (at_builtin; refine b2n _ rfl _ _ 30 rfl 57 i0 _ 30 352 Tryz.underlying30 HI.out hz0 hz1 hz2 a1g rfl (some ⟨w.heap.size, 0, none⟩) (by simp [Act.eval]) _ l (H.out.below (Ext.alloc (Below.refl _ _) _)) (by simp [Act.eval]) h0 (fun y _ => a9p y) (by unfold maxLen; omega) (by omega) ?_)
  intro cap rs w2 hc1 hc2 hc3 hB hb2
  have HB := zh hB
  have HB2 := zh hb2
  clear hB hb2
  go_wp2
  go_ret
  exact ⟨_, cap, rs, rfl, Nat.le_succ _, hc1, hc2, hc3, HB.out, (Ext.alloc (Below.refl w.heap.size w) _).trans (HB2.out.mono (Nat.le_succ _))⟩
theorem b2w (cut bar day : Int) (v1 v2 : Value) (l : List Ent) (w : World) (h1 : a5d w v1 l) (h2 : a5d w v2 l) (hok : ∀ e ∈ l, e.fit) :
  Calls Tryz.prog 11 #[.agg #[.int .i64 cut, .int .i64 bar, .int .i64 day, v1], .agg #[.int .i64 cut, .int .i64 bar, .int .i64 day, v2]] w fun e w' => e = .returned (.bool true) /\ Below w.heap.size w w' := by
 have H1 := zh h1
 have H2 := zh h2
 have HOK := zh hok
 obtain ⟨A, c, rfl, hl, hc⟩ := h1.slice
 obtain ⟨A2, c2, rfl, hl2, hc2⟩ := h2.slice
 have q1 : (cut != cut) = false := by simp
 have q2 : (bar != bar) = false := by simp
 have q3 : (day != day) = false := by simp
 have q4 : ((l.length : Int) != (l.length : Int)) = false := by simp
 clear h1 h2 hok
 go_enter Tryz.func11, Tryz.ntmps11
 have HS := zh (St.start w)
 go_wp2
 go_loopw [5] (fun i wr => ∃ k : Nat, k <= l.length /\ i = .int .i64 k /\ Hid (St w [⟨w.heap.size + 1, #[.int .i64 cut, .int .i64 bar, .int .i64 day, .slice A2 l.length c2], 32⟩, ⟨w.heap.size, #[.int .i64 cut, .int .i64 bar, .int .i64 day, .slice A l.length c], 32⟩] wr)) (fun i _ => l.length - (intOf i).toNat)
 case atStart => exact ⟨0, Nat.zero_le _, rfl, (St.alloc ((St.alloc (HS.out) #[.int .i64 cut, .int .i64 bar, .int .i64 day, .slice A l.length c] 32 (w.heap.size) (by simp))) #[.int .i64 cut, .int .i64 bar, .int .i64 day, .slice A2 l.length c2] 32 (w.heap.size + 1) (by simp))⟩
 case round =>
  obtain ⟨k, hk, rfl, HS⟩ := hrel
  by_cases hlt : k < l.length
  ·obtain ⟨b, o, x, rfl, hbb, hq, hx⟩ := H1.out.at_ hlt
   obtain ⟨b2, o2, x2, rfl, hbb2, hq2, hx2⟩ := H2.out.at_ hlt
   obtain rfl : x = x2 := by rw [hq] at hq2; exact Option.some.inj hq2
   have hne := ent_neq x (HOK.out x (List.mem_of_getElem? hq))
   unfold entV at hne
   have HQ := zh hne
   have HX := zh hx
   have HY := zh hx2
   have e0 : (0 : Int) <= ((k : Nat) : Int) := by omega
   have e1 : ((k : Nat) : Int) < (l.length : Int) := by omega
   have e2 : decide (((k : Nat) : Int) < (l.length : Int)) = true := decide_eq_true e1
   clear hx hx2 hq hq2 hne
   have x1 := cC HS 1 3
   go_wp2
   clear x1
   refine a1z 10 [.pointer (some ⟨w.heap.size, 3, none⟩), .slice (some ⟨b, o, none⟩) l.length c, .int .i64 (k : Nat), .pointer (some ⟨b, o + k * 30, none⟩), .agg #[.string (bs x.p.id), .int .i64 x.p.est, .int .i64 x.p.cre, .string (bs x.p.code), .bool x.p.an, .string (bs x.p.aa), .string (bs x.p.ab), .int .i64 x.p.inc, .int .i64 x.p.rank, .bool x.p.rn, .string (bs x.p.ra), .string (bs x.p.rb), .int .i64 x.p.rf, .int .i64 x.p.sec, .int .i64 x.st, .bool x.late, .bool x.cl.n, .string (bs x.cl.a), .string (bs x.cl.b), .bool x.fl.n, .string (bs x.fl.a), .string (bs x.fl.b), .bool x.ad.n, .string (bs x.ad.a), .string (bs x.ad.b), .bool x.ce.n, .string (bs x.ce.a), .string (bs x.ce.b), .int .i64 x.acq, .int .i64 x.chg], .pointer (some ⟨w.heap.size + 1, 3, none⟩), .slice (some ⟨b2, o2, none⟩) l.length c2, .int .i64 (k : Nat), .pointer (some ⟨b2, o2 + k * 30, none⟩), .agg #[.string (bs x.p.id), .int .i64 x.p.est, .int .i64 x.p.cre, .string (bs x.p.code), .bool x.p.an, .string (bs x.p.aa), .string (bs x.p.ab), .int .i64 x.p.inc, .int .i64 x.p.rank, .bool x.p.rn, .string (bs x.p.ra), .string (bs x.p.rb), .int .i64 x.p.rf, .int .i64 x.p.sec, .int .i64 x.st, .bool x.late, .bool x.cl.n, .string (bs x.cl.a), .string (bs x.cl.b), .bool x.fl.n, .string (bs x.fl.a), .string (bs x.fl.b), .bool x.ad.n, .string (bs x.ad.a), .string (bs x.ad.b), .bool x.ce.n, .string (bs x.ce.a), .string (bs x.ce.b), .int .i64 x.acq, .int .i64 x.chg]] rfl (by kernel_rfl) (by kernel_rfl) (by kernel_rfl) ?_ ?_
   refine ⟨?_, ?_, ?_, ?_, ?_, ?_, ?_, ?_, ?_, ?_, trivial⟩ <;> (intro xx af wv hbx hev hev0 hd; have H := SH.mk hev hev0 hd; clear hev hev0 hd)
   ·have e2 := H.i 2; clear H; go_wp2; exact sQ rfl
   ·have e41 := H.r 0 41; clear H; have hs1 := zh (HS.out.call hbx); have y0 := cC hs1 1 3; go_wp2; exact sQ rfl
   ·have e5 := H.i 5; clear H; go_wp2; exact sQ rfl
   ·have e42 := H.r 1 42; have e43 := H.r 2 43; clear H; go_wp2; exact sQ rfl
   ·have e44 := H.r 3 44; clear H; have hs1 := zh (HS.out.call hbx)
    refine wpList_load_mid rfl _ _ rfl (b) (o + k * 30) ((a1p _ _).trans e44) (entM x.p x.st x.late x.cl x.fl x.ad x.ce x.acq x.chg) _ (fun j v hv => HX.out _ (hs1.out).below j v hv) Tryz.underlying57 rfl a0n ?_
    go_wp2; exact sQ rfl
   ·have e3 := H.i 3; clear H; go_wp2; exact sQ rfl
   ·have e46 := H.r 5 46; clear H; have hs1 := zh (HS.out.call hbx); have y0 := cC hs1 0 3; go_wp2; exact sQ rfl
   ·have e5 := H.i 5; clear H; go_wp2; exact sQ rfl
   ·have e47 := H.r 6 47; have e48 := H.r 7 48; clear H; go_wp2; exact sQ rfl
   ·have e49 := H.r 8 49; clear H; have hs1 := zh (HS.out.call hbx)
    refine wpList_load_mid rfl _ _ rfl (b2) (o2 + k * 30) ((a1p _ _).trans e49) (entM x.p x.st x.late x.cl x.fl x.ad x.ce x.acq x.chg) _ (fun j v hv => HY.out _ (hs1.out).below j v hv) Tryz.underlying57 rfl a0n ?_
    go_wp2; exact sQ rfl
   intro xx w2 hb9 hv
   simp only [List.take, List.drop, a0r, Act.put]
   simp only [vQ hv 0, vQ hv 1, vQ hv 2, vQ hv 3, vQ hv 4, vQ hv 5, vQ hv 6, vQ hv 7, vQ hv 8, vQ hv 9]
   clear hv
   have HS2 := zh (HS.out.call hb9)
   clear hb9 HS
   go_wp2
   have HS3 := zh HS2.out
   go_roundw
   case rel => exact ⟨k + 1, by omega, by go_num, HS3.out.sub (by simp)⟩
   case measure => simp [intOf]; omega
  obtain rfl : k = l.length := by omega
  have x1 := cC HS 1 3
  go_wp2
  go_ret
  have HS2 := zh HS.out
  exact ⟨rfl, HS2.out.below⟩
end Go.Proofs.YtoighiepglclkaaGreatDoor
