/-
Part 23 of the base.
-/
import Derived.Test.YtgdhpghfojccaaaGreatDoorRd20
import Derived.Test.YtgdhpghfojccaaaGreatDoorRd24
import Derived.Test.YtgdhpghfojccaaaGreatDoorRd25
namespace Go.Proofs.YtgdhpghfojccaaaGreatDoor
open Go.RowKit
theorem c1g (l : List Nat) : ∀ y ∈ l, ∀ u ∈ intE y, u.oneCell' = true := by
 intro y _ u hu
 obtain rfl : u = .int .i64 (y : Nat) := by simpa [intE] using hu
 rfl
theorem a6m {F : Nat -> Bool} {m : Nat} : putA F m true = putI F m := by
 funext x
 unfold putA putI
 by_cases h : x = m
 ·rw [if_pos h, beq_iff_eq.2 h, Bool.or_true]
 rw [if_neg h, beq_eq_false_iff_ne.2 h, Bool.or_false]
theorem Ldr0.lt {l : List Cls} {i x : Nat} {s0 : List UInt8} {seen : Nat -> Bool} {todo : List Nat} (h : Ldr0 l i s0 seen (x :: todo)) : x < l.length := by
 obtain ⟨m, hm, _⟩ := h.1 x (List.mem_cons_self ..)
 exact b1k hm
set_option maxRecDepth 100000
set_option maxHeartbeats 4000000
def sumN (wt : Nat -> Nat) (sn : Nat -> Bool) : Nat -> Nat
 | 0 => 0
 | n + 1 => sumN wt sn n + if sn n = true then 0 else wt n
theorem c0f {wt : Nat -> Nat} {sn : Nat -> Bool} {c : Nat} : ∀ {n : Nat}, n <= c -> sumN wt (putA sn c true) n = sumN wt sn n
 | 0, _ => rfl
 | n + 1, h => by rw [sumN, sumN, c0f (by omega), a4d (show n ≠ c by omega)]
theorem b0z {wt : Nat -> Nat} {sn : Nat -> Bool} {c : Nat} (h : sn c = false) : ∀ {n : Nat}, c < n -> sumN wt (putA sn c true) n + wt c = sumN wt sn n
 | 0, hc => by omega
 | n + 1, hc => by
  rw [sumN, sumN]
  by_cases hcn : c < n
  ·have := b0z (wt := wt) h hcn
   rw [a4d (show n ≠ c by omega)]
   omega
  obtain rfl : c = n := by omega
  rw [c0f (Nat.le_refl _), b2d, h, if_pos rfl, if_neg (by simp)]
  omega
theorem c3e {wt : Nat -> Nat} {sn : Nat -> Bool} {m : Nat} (h : ∀ j, wt j <= m) : ∀ n, sumN wt sn n <= n * m
 | 0 => Nat.zero_le _
 | n + 1 => by
  have := c3e (sn := sn) h n
  have h2 := h n
  rw [sumN, Nat.add_mul]
  split <;> omega
def clW (l : List Cls) (j : Nat) : Nat := match l[j]? with
 | some c => if c.kind = 1 then c.list.length else 0
 | none => 0
theorem clW_le {l : List Cls} {m : Nat} (h : ∀ c ∈ l, c.kind = 1 -> c.list.length <= m) (j : Nat) : clW l j <= m := by
 unfold clW
 split
 ·rename_i c hc
  split
  ·rename_i hk
   exact h c (List.mem_of_getElem? hc) hk
  omega
 omega
theorem c5n {l : List Cls} {m : List UInt8} {j : Nat} {y : Cls} (h : a0k l m = some j) (hy : l[j]? = some y) : clW l j = y.list.length := by
 obtain ⟨c, hc, hk, _⟩ := a2s h
 rw [hy] at hc
 obtain rfl : y = c := Option.some.inj hc
 unfold clW
 rw [hy]
 dsimp only
 rw [if_pos hk]
theorem c0m (l : List (List UInt8)) : ∀ y ∈ l, ∀ u ∈ strE y, u.oneCell' = true := by
 intro y _ u hu
 obtain rfl : u = .string (bs y) := by simpa [strE] using hu
 rfl
theorem b7h (v v2 : Value) (cl : List Nmd) (l : List Cls) (s : List UInt8) (w : World) (h : NmdL w v cl) (h2 : ClsL w v2 l) (hC : a8j cl l) (hl : cl.length <= 1000) (hl2 : l.length <= 1000) (hbig : ∀ c ∈ l, c.kind = 1 -> c.list.length <= 1000) :
  Calls Tryz.prog 38 #[v, v2, .string (bs s)] w fun e w' => ∃ g D, e = .returned (.slice (some ⟨g, 0, none⟩) cl.length cl.length) /\ Blk w' g (rowE .bool cl.length D) 4 /\ (∀ k, D k = true ↔ Den cl l s k) /\ w.heap.size <= g /\ Below w.heap.size w w' := by
 have d1 := fun s W (hb : Below w.heap.size w W) => b7k v cl s W (h.below hb) (by omega)
 have d2 := fun s W (hb : Below w.heap.size w W) => b7j v2 l s W (h2.below hb) (by omega)
 have hmk := a5n cl.length (by omega)
 have hmk2 := a5n l.length (by omega)
 obtain ⟨ii, hii, hiz, hi1, hi8⟩ := b5j
 obtain ⟨A1, c1, rfl, _, _⟩ := Slc.slice h
 obtain ⟨A2, c2, rfl, _, _⟩ := h2.slice
 have HH := zh h2
 have D1 := zh d1
 have D2 := zh d2
 have CC := zh hC
 have LL := zh hl2
 have LB := zh (fun j => clW_le hbig j)
 have HIZ := zh hiz
 clear h h2 d1 d2 hC hl hl2 hbig hiz
 go_enter Tryz.func38, Tryz.ntmps38
 have HS := zh (St.start w)
 go_wp2
 have HS2 := aL (aL (aL HS (rowE (.bool) cl.length (fun _ => false)) 4 w.heap.size) (rowE (.bool) l.length (fun _ => false)) 4 (w.heap.size + 1)) #[.string (bs s)] 9 (w.heap.size + 1 + 1)
 have HQ0 : Hid (Que strE 1 w.heap.size (w.heap.size + 2) _ _ [s]) := zh (Que.of_blk (n := 1) (c := 1) a2k (HS2.out.blk 0 rfl) (by omega) rfl rfl rfl (by decide))
 have HS9 := zh (HS2.out.sub (List.sublist_cons_self ..))
 go_loopg [9] (l.length * 1000 + 1) (fun gk v9 wr => ∃ (todo : List (List UInt8)) (gq : Nat) (sn O : Nat -> Bool), Hid (DenQ cl l s O sn todo) /\ todo.length + sumN (clW l) sn l.length <= gk /\ gk <= l.length * 1000 + 1 /\ Hid (Que strE 1 w.heap.size gq wr v9 todo) /\ Hid (gq ≠ w.heap.size) /\ Hid (gq ≠ w.heap.size + 1) /\ Hid (St w [⟨w.heap.size + 1, rowE .bool l.length sn, 4⟩, ⟨w.heap.size, rowE .bool cl.length O, 4⟩] wr))
 case atStart => exact ⟨[s], w.heap.size + 2, fun _ => false, fun _ => false, DenQ.start cl l s, by have := c3e (sn := fun _ => false) LB.out l.length; simp only [List.length_singleton]; omega, Nat.le_refl _, HQ0.out, (show w.heap.size + 2 ≠ w.heap.size by omega), (show w.heap.size + 2 ≠ w.heap.size + 1 by omega), HS9.out⟩
 case round =>
  obtain ⟨todo, gq, sn, O, HL, hm, hgk, HQ, HN, HN2, HS⟩ := hrel
  clear HQ0 HS2 HS9
  cases todo with
 | nil =>
  obtain ⟨p, cap, rfl, _, _⟩ := HQ.out.len
  dsimp only [List.length_nil]
  clear HQ
  go_wp2
  go_ret
  exact ⟨_, O, rfl, HS.out.blk 1 rfl, HL.out.all CC.out, Nat.le_refl _, HS.out.below⟩
 | cons m t =>
  obtain ⟨p, cap, rfl, hpc, hcm, hp, _⟩ := HQ.out.pop a2k
  have hgq := HQ.out.lt.2
  have HP := zh (fun (w' : World) (hb : Below wr.heap.size wr w') (q : Nat) (z : Value) hz => (hb.cell (p := ⟨gq, p + q, none⟩) hgq).trans (hp q z hz))
  unfold strE at HP
  have HM := zh hm
  have e2 : decide ((0 : Int) < ((t.length + 1 : Nat) : Int)) = true := decide_eq_true (by omega)
  have e3 : (0 : Int) < ((t.length + 1 : Nat) : Int) := by omega
  have LM := zh hgk
  have hd1 := D1.out m
  have hd2 := D2.out m
  clear hp hm hgk
  cases hk : a0d cl m with
  | some k =>
   rw [hk] at hd1
   dsimp only [optZ] at hd1
   have E1 := zh hd1
   have LK := zh hk
   have hk9 := a5z hk
   have e7 : (0 : Int) <= ((k : Nat) : Int) := by omega
   have e8 : ((k : Nat) : Int) < (cl.length : Int) := by omega
   clear hk hd1 hd2
   have x1 := HP.out _ (Below.refl _ _) 0 _ rfl
   rw [Nat.add_zero] at x1
   go_wp2_with (refine a5f _ rfl _ _ _ rfl w.heap.size 9 ii 1 Tryz.underlying59 hii hi1 a2k (by simp [Act.eval]) (by simp [Act.eval]) HQ.out ?_)
   intro v7 hq7
   have HQ7 := zh hq7
   clear hq7 HQ HP x1
   go_wp2_with fail
   refine (E1.out _ HS.out.below).mono ?_
   rintro e w3 ⟨rfl, hb3⟩
   have HS3 := zh (HS.out.call hb3)
   have HQ7_3 := zh (HQ7.out.below hb3)
   clear HQ7 hb3 HS
   have x2 := HS3.out.cellE 1 rfl hk9
   have x3 := HS3.out.frozen 1 rfl k
   have x4 := cN HS3 1 0
   have x5 := cN HS3 0 1
   go_wp2
   have HS4 : Hid (St w [⟨w.heap.size + 1, (rowE (.bool) l.length sn), 4⟩, ⟨w.heap.size, (rowE (.bool) cl.length (putA O k true)), 4⟩] _) := zh (St.setE (HS3.out) 1 rfl k (true))
   go_roundg (gk - 1)
   case measure => have := HM.out; rw [List.length_cons] at this; omega
   case rel => exact ⟨t, gq, sn, putA O k true, (by rw [a6m]; exact HL.out.claim LK.out), (by have := HM.out; rw [List.length_cons] at this; omega), (by have := LM.out; omega), (Que.far HQ7_3.out (a := ⟨w.heap.size, k, none⟩) HN.out (.bool (true))), HN.out, HN2.out, HS4.out⟩
  | none =>
   rw [hk] at hd1
   dsimp only [optZ] at hd1
   have E1 := zh hd1
   have LK := zh hk
   clear hk hd1
   cases hc : a0k l m with
   | none =>
    rw [hc] at hd2
    dsimp only [optZ] at hd2
    have E2 := zh hd2
    have LC := zh hc
    clear hc hd2
    have x1 := HP.out _ (Below.refl _ _) 0 _ rfl
    rw [Nat.add_zero] at x1
    go_wp2_with (refine a5f _ rfl _ _ _ rfl w.heap.size 9 ii 1 Tryz.underlying59 hii hi1 a2k (by simp [Act.eval]) (by simp [Act.eval]) HQ.out ?_)
    intro v7 hq7
    have HQ7 := zh hq7
    clear hq7 HQ HP x1
    go_wp2_with fail
    refine (E1.out _ HS.out.below).mono ?_
    rintro e w3 ⟨rfl, hb3⟩
    have HS3 := zh (HS.out.call hb3)
    have HQ7_3 := zh (HQ7.out.below hb3)
    clear HQ7 hb3 HS
    go_wp2_with fail
    refine (E2.out _ HS3.out.below).mono ?_
    rintro e w4 ⟨rfl, hb4⟩
    have HS4 := zh (HS3.out.call hb4)
    have HQ7_4 := zh (HQ7_3.out.below hb4)
    clear HQ7_3 hb4 HS3
    go_wp2
    go_roundg (gk - 1)
    case measure => have := HM.out; rw [List.length_cons] at this; omega
    case rel => exact ⟨t, gq, sn, O, HL.out.skip LK.out (fun c' hc' => by rw [LC.out] at hc'; cases hc'), (by have := HM.out; rw [List.length_cons] at this; omega), (by have := LM.out; omega), HQ7_4.out, HN.out, HN2.out, HS4.out⟩
   | some k =>
    rw [hc] at hd2
    dsimp only [optZ] at hd2
    have E2 := zh hd2
    have LC := zh hc
    have hc9 := b1k hc
    have e7 : (0 : Int) <= ((k : Nat) : Int) := by omega
    have e8 : ((k : Nat) : Int) < (l.length : Int) := by omega
    clear hc hd2
    cases hsn : sn k
    ·obtain ⟨b, o, y, u, rfl, hbb, hq, hu, hx⟩ := HH.out.at_ hc9
     obtain ⟨A5, c5, rfl, hl5, hl6⟩ := hu.slice
     unfold CRow.enc at hx
     dsimp only at hx
     have HX := zh hx
     have LY := zh hq
     have HU := zh hu
     clear hq hu hx
     have x1 := HP.out _ (Below.refl _ _) 0 _ rfl
     rw [Nat.add_zero] at x1
     go_wp2_with (refine a5f _ rfl _ _ _ rfl w.heap.size 9 ii 1 Tryz.underlying59 hii hi1 a2k (by simp [Act.eval]) (by simp [Act.eval]) HQ.out ?_)
     intro v7 hq7
     have HQ7 := zh hq7
     clear hq7 HQ HP x1
     go_wp2_with fail
     refine (E1.out _ HS.out.below).mono ?_
     rintro e w3 ⟨rfl, hb3⟩
     have HS3 := zh (HS.out.call hb3)
     have HQ7_3 := zh (HQ7.out.below hb3)
     clear HQ7 hb3 HS
     go_wp2_with fail
     refine (E2.out _ HS3.out.below).mono ?_
     rintro e w4 ⟨rfl, hb4⟩
     have HS4 := zh (HS3.out.call hb4)
     have HQ7_4 := zh (HQ7_3.out.below hb4)
     clear HQ7_3 hb4 HS3
     have x2 := HS4.out.cellE 0 rfl hc9
     rw [hsn] at x2
     have x3 := HS4.out.frozen 0 rfl k
     have x4 := cN HS4 0 1
     have x5 := cN HS4 1 0
     have x6 := HX.out _ HS4.out.below 3 _ rfl
     have HS5 : Hid (St w [⟨w.heap.size + 1, (rowE (.bool) l.length (putA sn k true)), 4⟩, ⟨w.heap.size, (rowE (.bool) cl.length O), 4⟩] _) := zh (St.setE (HS4.out) 0 rfl k (true))
     have HQ5 : Hid (Que strE 1 w.heap.size gq (w4.setCell ⟨w.heap.size + 1, k, none⟩ (.bool true)) _ t) := zh (Que.far HQ7_4.out (a := ⟨w.heap.size + 1, k, none⟩) HN2.out (.bool (true)))
     go_wp2_with (refine a7d _ rfl _ _ _ rfl w.heap.size 9 ii _ 1 16 Tryz.underlying59 hii HIZ.out hi1 hi8 rfl a2k (by simp [Act.eval]) HQ5.out _ y.list (by simp [Act.eval]) (Src.of_slc Tryz.underlying59 a2k HU.out HS5.out.below (c0m _)) (by have h1 := HM.out; have h2 := LM.out; have h3 := LL.out; have h4 := c5n LC.out LY.out; have h5 := b0z (wt := clW l) hsn hc9; rw [List.length_cons] at h1; unfold maxLen; omega) (by have h1 := HM.out; have h2 := LM.out; have h3 := LL.out; have h4 := c5n LC.out LY.out; have h5 := b0z (wt := clW l) hsn hc9; rw [List.length_cons] at h1; omega) HS5.out.below.size ?_)
     intro v8 w8 g8 hq8 hgr8 hg8
     have hge8 := HQ5.out.lt.1
     have HQ8 := zh hq8
     have hw8 : ((w4.setCell ⟨w.heap.size + 1, k, none⟩ (.bool true))).heap.size = w4.heap.size := by rw [a7e]
     have h8a := HS5.out.lt 0 rfl
     have h8b := HS5.out.lt 1 rfl
     have HN8 := zh (show g8 ≠ w.heap.size from fun e => by rcases hg8 with h9 | h9; exact HN.out (h9.symm.trans e); omega)
     have HN9 := zh (show g8 ≠ w.heap.size + 1 from fun e => by rcases hg8 with h9 | h9; exact HN2.out (h9.symm.trans e); omega)
     have HS8 := zh (HS5.out.turnedR hgr8 hge8 (by intro z hz; rcases List.mem_cons.1 hz with rfl | hz; exact HN2.out; rcases List.mem_cons.1 hz with rfl | hz; exact HN.out; cases hz))
     have HC8 := zh (show t.length + y.list.length + sumN (clW l) (putA sn k true) l.length <= gk - 1 by have h1 := HM.out; have h2 := LM.out; have h3 := LL.out; have h4 := c5n LC.out LY.out; have h5 := b0z (wt := clW l) hsn hc9; rw [List.length_cons] at h1; omega)
     clear hq8 hgr8 hg8 hge8 hw8 h8a h8b HQ5 HS5 HS4 HQ7_4 hsn x2 x3 x4 x5 x6
     go_wp2
     go_roundg (gk - 1)
     case measure => have := HM.out; rw [List.length_cons] at this; omega
     case rel => exact ⟨t ++ y.list, g8, putA sn k true, O, (by rw [a6m]; exact HL.out.open_ LK.out LC.out LY.out), (by have := HC8.out; rw [List.length_append]; exact this), (by have := LM.out; omega), HQ8.out, HN8.out, HN9.out, HS8.out⟩
    have x1 := HP.out _ (Below.refl _ _) 0 _ rfl
    rw [Nat.add_zero] at x1
    go_wp2_with (refine a5f _ rfl _ _ _ rfl w.heap.size 9 ii 1 Tryz.underlying59 hii hi1 a2k (by simp [Act.eval]) (by simp [Act.eval]) HQ.out ?_)
    intro v7 hq7
    have HQ7 := zh hq7
    clear hq7 HQ HP x1
    go_wp2_with fail
    refine (E1.out _ HS.out.below).mono ?_
    rintro e w3 ⟨rfl, hb3⟩
    have HS3 := zh (HS.out.call hb3)
    have HQ7_3 := zh (HQ7.out.below hb3)
    clear HQ7 hb3 HS
    go_wp2_with fail
    refine (E2.out _ HS3.out.below).mono ?_
    rintro e w4 ⟨rfl, hb4⟩
    have HS4 := zh (HS3.out.call hb4)
    have HQ7_4 := zh (HQ7_3.out.below hb4)
    clear HQ7_3 hb4 HS3
    have x2 := HS4.out.cellE 0 rfl hc9
    rw [hsn] at x2
    go_wp2
    go_roundg (gk - 1)
    case measure => have := HM.out; rw [List.length_cons] at this; omega
    case rel => exact ⟨t, gq, sn, O, HL.out.skip LK.out (fun c' hc' => by rw [LC.out] at hc'; rw [<- Option.some.inj hc']; exact hsn), (by have := HM.out; rw [List.length_cons] at this; omega), (by have := LM.out; omega), HQ7_4.out, HN.out, HN2.out, HS4.out⟩
end Go.Proofs.YtgdhpghfojccaaaGreatDoor
