/-
Does a list of numbers hold one of a kind: slices.IndexFunc, slices.ContainsFunc; what a plan leaves, checked: the program's Residue (printed by gen_pln6.py).
-/
import Derived.Test.YtcllocdhbicpkaaGreatDoorPlnL
import Derived.Test.YtcllocdhbicpkaaGreatDoorPlnO
import Derived.Test.YtcllocdhbicpkaaGreatDoorW0
import Derived.Shelf.Abstract
namespace Go.Proofs.YtcllocdhbicpkaaGreatDoor
open Go.RowKit

set_option maxRecDepth 100000 in
set_option maxHeartbeats 1000000 in
theorem rats_IndexFunc (g : Nat) (p : Rat → Bool) (eg : ∀ args w, (callFunc g args).run Tryz.prog w = .ok (.enter g args) w) (v : Value) (rs : List Rtr) (w : World) (h : RatsL w v rs) (hok : SmallT 17179869184 rs) (hp : ∀ n a b W, a.length ≤ 17179869184 → b.length ≤ 17179869184 → Calls Tryz.prog g #[.agg #[.bool n, .string (bs a), .string (bs b)]] W fun e w' => e = .returned (.bool (p (decR n a b))) ∧ Below W.heap.size W w') :
  Calls Tryz.prog 64 #[v, .func (.func g) #[] #[]] w fun e w' => (∃ z : Int, e = .returned (.int .i64 z) ∧ decide (0 ≤ z) = rs.any fun t => p t.val) ∧ Below w.heap.size w w' := by
 have H := Lib.hid h
 have HOK := Lib.hid hok
 have HP := Lib.hid hp
 obtain ⟨A, c, rfl, hl, hc⟩ := h.slice
 clear h hok hp
 go_enter Tryz.func64, Tryz.ntmps64
 go_wp2
 go_loopw [8] (fun i wr => ∃ k : Nat, k ≤ rs.length ∧ i = .int .i64 k ∧ Hid (∀ (j : Nat) t, j < k → rs[j]? = some t → p t.val = false) ∧ Hid (St w [] wr)) (fun i _ => rs.length - (intOf i).toNat)
 case atStart => exact ⟨0, Nat.zero_le _, rfl, fun j t hj => absurd hj (Nat.not_lt_zero _), St.start w⟩
 case round =>
  obtain ⟨k, hk, rfl, HN, HS⟩ := hrel
  by_cases hlt : k < rs.length
  ·obtain ⟨b, o, t, rfl, hbb, hq, hx⟩ := H.out.at_ hlt
   have ho := HOK.out t (List.mem_of_getElem? hq)
   have hcall := HP.out t.n t.a t.b wr ho.1 ho.2
   have HQ := Lib.hid hq
   obtain ⟨q, hpq⟩ : ∃ q, q = p (decR t.n t.a t.b) := ⟨_, rfl⟩
   rw [← hpq] at hcall
   have HPQ : Hid (p t.val = q) := hpq.symm
   obtain ⟨x1, x2, x3⟩ := kE0 (hx _ HS.out.below) rfl rfl rfl
   have e0 : (0 : Int) ≤ ((k : Nat) : Int) := by omega
   have e1 : ((k : Nat) : Int) < (rs.length : Int) := by omega
   have HCALL := Lib.hid hcall
   clear hq hx ho hpq hcall
   cases q with
   | true =>
    go_wp2_with fail
    refine HCALL.out.mono ?_
    rintro e w2 ⟨rfl, hb2⟩
    go_wp2
    go_ret
    have HB := HS.out.call hb2
    refine ⟨⟨_, rfl, ?_⟩, HB.below⟩
    rw [decide_eq_true (by omega : (0 : Int) ≤ ((k : Nat) : Int))]
    exact (List.any_eq_true.2 ⟨t, List.mem_of_getElem? HQ.out, HPQ.out⟩).symm
   | false =>
    go_wp2_with fail
    refine HCALL.out.mono ?_
    rintro e w2 ⟨rfl, hb2⟩
    go_wp2
    have HB := HS.out.call hb2
    go_roundw
    case rel =>
     refine ⟨k + 1, by omega, by go_num, fun j u hj hu => ?_, HB⟩
     rcases Nat.lt_or_ge j k with h1 | h1
     ·exact HN.out j u h1 hu
     ·obtain rfl : j = k := by omega
      have := HQ.out
      rw [hu] at this
      obtain rfl : u = t := Option.some.inj this
      exact HPQ.out
    case measure => simp [intOf]; omega
  ·obtain rfl : k = rs.length := by omega
   go_wp2
   go_ret
   refine ⟨⟨_, rfl, ?_⟩, HS.out.below⟩
   symm
   show rs.any _ = false
   rw [List.any_eq_false]
   intro t ht
   obtain ⟨j, hj, e⟩ := List.getElem_of_mem ht
   have := HN.out j t hj (by rw [List.getElem?_eq_getElem hj, e])
   rw [this]; decide

set_option maxRecDepth 100000 in
set_option maxHeartbeats 1000000 in
theorem rats_ContainsFunc (g : Nat) (p : Rat → Bool) (eg : ∀ args w, (callFunc g args).run Tryz.prog w = .ok (.enter g args) w) (v : Value) (rs : List Rtr) (w : World) (h : RatsL w v rs) (hok : SmallT 17179869184 rs) (hp : ∀ n a b W, a.length ≤ 17179869184 → b.length ≤ 17179869184 → Calls Tryz.prog g #[.agg #[.bool n, .string (bs a), .string (bs b)]] W fun e w' => e = .returned (.bool (p (decR n a b))) ∧ Below W.heap.size W w') :
  Calls Tryz.prog 36 #[v, .func (.func g) #[] #[]] w fun e w' => e = .returned (.bool (rs.any fun t => p t.val)) ∧ Below w.heap.size w w' := by
 have hI := Lib.hid (rats_IndexFunc g p eg v rs w h hok hp)
 generalize (rs.any fun t => p t.val) = a at *
 clear h hok hp eg
 go_enter Tryz.func36, Tryz.ntmps36
 go_wp2_with fail
 refine hI.out.mono ?_
 rintro e w2 ⟨⟨z, rfl, hz⟩, hb2⟩
 subst hz
 go_wp2
 go_ret
 exact ⟨rfl, hb2⟩

theorem eg_Residue : ∀ args w, (callFunc 37 args).run Tryz.prog w = .ok (.enter 37 args) w := enters_of Tryz.func37 (by kernel_rfl) rfl
theorem eg_statute : ∀ args w, (callFunc 70 args).run Tryz.prog w = .ok (.enter 70 args) w := enters_of Tryz.func70 (by kernel_rfl) rfl
theorem any_Residue (v : Value) (rs : List Rtr) (w : World) (h : RatsL w v rs) (hok : SmallT 17179869184 rs) :
  Calls Tryz.prog 36 #[v, .func (.func 37) #[] #[]] w fun e w' => e = .returned (.bool (rs.any fun t => !rateB t.val)) ∧ Below w.heap.size w w' :=
 rats_ContainsFunc _ (fun q => !rateB q) eg_Residue v rs w h hok (fun n a b W la lb => plan_Residue_1 n a b W la lb)
theorem any_statute (v : Value) (rs : List Rtr) (w : World) (h : RatsL w v rs) (hok : SmallT 17179869184 rs) :
  Calls Tryz.prog 36 #[v, .func (.func 70) #[] #[]] w fun e w' => e = .returned (.bool (rs.any fun t => decide (0 < sgn t.val.num))) ∧ Below w.heap.size w w' :=
 rats_ContainsFunc _ (fun q => decide (0 < sgn q.num)) eg_statute v rs w h hok (fun n a b W la lb => plan_statute_1 n a b W la lb)

theorem enc00 : negB (0 : Rat) = false ∧ numB (0 : Rat) = [] ∧ denomB (0 : Rat) = [] := by decide +kernel
theorem any_not_all (rs : List Rtr) : (rs.any fun t => !rateB t.val) = !((rs.map Rtr.val).all rateB) := by
 rw [List.all_map, List.any_eq_not_all_not]; simp [Function.comp_def]
theorem resid_def (value : Rat) (l : List Blc) (rs : List Rtr) : residR value l (rs.map Rtr.val) = if checkVn value l ≠ 0 then (0, checkVn value l) else if rs.length ≠ l.length then (0, 4) else if (rs.map Rtr.val).all rateB = false then (0, 1) else (resid value (l.zip (rs.map Rtr.val)), 0) := by
 unfold residR; rw [List.length_map]

set_option maxRecDepth 100000 in
set_option maxHeartbeats 1000000 in
theorem plan_Residue (vn : Bool) (va vb : List UInt8) (v : Value) (l : List Blc) (rv : Value) (rs : List Rtr) (w : World) (h : BlocsL w v l) (hr : RatsL w rv rs) (hok : SmallBl 1000000 l) (hrs : SmallT 1000000 rs) (lva : va.length ≤ 1000000) (lvb : vb.length ≤ 1000000) :
  Calls Tryz.prog 17 #[.agg #[.bool vn, .string (bs va), .string (bs vb), v], rv] w fun e w' => e = .returned (.tuple #[rat (residR (decR vn va vb) l (rs.map Rtr.val)).1, .int .i64 (residR (decR vn va vb) l (rs.map Rtr.val)).2]) ∧ Below w.heap.size w w' := by
 have hC := fun W (hb : Below w.heap.size w W) => plan_Check vn va vb v l W (h.below hb) (hok.mono (by decide)) (by omega) (by omega)
 have hD := fun W (hb : Below w.heap.size w W) (hlen : rs.length = l.length) (h16 : l.length ≤ 16) => plan_residue vn va vb v l rv rs W (h.below hb) (hr.below hb) hok hrs lva lvb hlen h16
 have hA := fun W (hb : Below w.heap.size w W) => any_Residue rv rs W (hr.below hb) (hrs.mono (by decide))
 rw [any_not_all rs] at hA
 have hdef := resid_def (decR vn va vb) l rs
 have h16 := fun h : checkVn (decR vn va vb) l = 0 => (checkVn_zero h).2.1
 have hnb : ∀ n : Int, n ≠ 0 → (n == 0) = false ∧ (n != 0) = true := fun n h => ⟨beq_eq_false_iff_ne.2 h, by rw [bne, beq_eq_false_iff_ne.2 h]; rfl⟩
 generalize checkVn (decR vn va vb) l = n at *
 generalize residR (decR vn va vb) l (rs.map Rtr.val) = ans at *
 generalize resid (decR vn va vb) (l.zip (rs.map Rtr.val)) = q at *
 generalize (rs.map Rtr.val).all rateB = aB at *
 obtain ⟨A, c, rfl, hl, hc⟩ := h.slice
 obtain ⟨RA, rc, rfl, hrl, hrc⟩ := hr.slice
 unfold rat raw at hD ⊢
 have HC := Lib.hid hC
 clear h hr hok hrs lva lvb hC
 by_cases h0 : n = 0
 ·subst h0
  have h16 := h16 rfl
  rw [if_neg (by decide)] at hdef
  by_cases hlen : rs.length = l.length
  ·rw [if_neg (by omega)] at hdef
   have HD := Lib.hid (fun W (hb : Below w.heap.size w W) => hD W hb hlen h16)
   clear hD hnb
   have HLEN := Lib.hid hlen
   have HA := Lib.hid hA
   clear hA
   generalize rs.length = m at hlen hrl HA HD ⊢
   subst hlen
   clear HLEN
   cases aB
   ·have R := Lib.hid (show ans = ((0 : Rat), (1 : Int)) by rw [hdef]; rfl)
    clear hdef HD
    go_enter Tryz.func17, Tryz.ntmps17
    have HS := Lib.hid (St.start w)
    go_wp2_with fail
    have HS2 := Lib.hid (St.alloc ((St.alloc (HS.out) #[.bool vn, .string (bs va), .string (bs vb), .slice A l.length c] 28 (w.heap.size) (by simp))) #[.bool false, .string (bs []), .string (bs [])] 25 (w.heap.size + 1) (by simp))
    refine (HC.out _ HS2.out.below).mono ?_
    rintro e w3 ⟨rfl, hb3⟩
    have HS3 := Lib.hid (HS2.out.call hb3)
    clear hb3 HS HS2
    have x1 := HS3.out.cell 1 rfl 3 rfl
    go_wp2_with fail
    refine (HA.out _ HS3.out.below).mono ?_
    rintro e w4 ⟨rfl, hb4⟩
    have HS4 := Lib.hid (HS3.out.call hb4)
    clear hb4 HS3
    clear x1
    obtain ⟨x2, x3, x4⟩ := HS4.out.k0 0 rfl rfl rfl rfl
    obtain ⟨x5, x6, x7⟩ := HS4.out.f0 0 rfl
    have x8 := HS4.out.ne 0 1 rfl rfl (by decide)
    have x9 := HS4.out.ne 1 0 rfl rfl (by decide)
    go_wp2
    have HS5 : Hid (St w [⟨w.heap.size + 1, #[.bool false, .string (bs []), .string (bs [])], 25⟩, ⟨w.heap.size, #[.bool vn, .string (bs va), .string (bs vb), .slice A l.length c], 28⟩] _) := Lib.hid (St.set ((St.set ((St.set (HS4.out) 0 rfl 0 _)) 0 rfl 1 _)) 0 rfl 2 _)
    refine bodyPost_ret (raw_result2 rfl _ _ _ _ _ _ rfl (HS5.out.blk 0 rfl)) rfl ?_
    rw [R.out, show negB ((0 : Rat), (1 : Int)).1 = false from enc00.1, show numB ((0 : Rat), (1 : Int)).1 = [] from enc00.2.1, show denomB ((0 : Rat), (1 : Int)).1 = [] from enc00.2.2]
    exact ⟨rfl, HS5.out.below⟩
   ·have R := Lib.hid (show ans = (q, 0) by rw [hdef]; rfl)
    clear hdef
    go_enter Tryz.func17, Tryz.ntmps17
    have HS := Lib.hid (St.start w)
    go_wp2_with fail
    have HS2 := Lib.hid (St.alloc ((St.alloc (HS.out) #[.bool vn, .string (bs va), .string (bs vb), .slice A l.length c] 28 (w.heap.size) (by simp))) #[.bool false, .string (bs []), .string (bs [])] 25 (w.heap.size + 1) (by simp))
    refine (HC.out _ HS2.out.below).mono ?_
    rintro e w3 ⟨rfl, hb3⟩
    have HS3 := Lib.hid (HS2.out.call hb3)
    clear hb3 HS HS2
    have x1 := HS3.out.cell 1 rfl 3 rfl
    go_wp2_with fail
    refine (HA.out _ HS3.out.below).mono ?_
    rintro e w4 ⟨rfl, hb4⟩
    have HS4 := Lib.hid (HS3.out.call hb4)
    clear hb4 HS3
    clear x1
    obtain ⟨x2, x3, x4⟩ := HS4.out.k0 1 rfl rfl rfl rfl
    have x5 := HS4.out.cell 1 rfl 3 rfl
    go_wp2_with fail
    refine (HD.out _ HS4.out.below).mono ?_
    rintro e w5 ⟨rfl, hb5⟩
    have HS5 := Lib.hid (HS4.out.call hb5)
    clear hb5 HS4
    clear x2 x3 x4 x5
    obtain ⟨x6, x7, x8⟩ := HS5.out.k0 0 rfl rfl rfl rfl
    obtain ⟨x9, x10, x11⟩ := HS5.out.f0 0 rfl
    have x12 := HS5.out.ne 0 1 rfl rfl (by decide)
    have x13 := HS5.out.ne 1 0 rfl rfl (by decide)
    go_wp2
    have HS6 : Hid (St w [⟨w.heap.size + 1, #[.bool (negB (q)), .string (bs (numB (q))), .string (bs (denomB (q)))], 25⟩, ⟨w.heap.size, #[.bool vn, .string (bs va), .string (bs vb), .slice A l.length c], 28⟩] _) := Lib.hid (St.set ((St.set ((St.set (HS5.out) 0 rfl 0 _)) 0 rfl 1 _)) 0 rfl 2 _)
    refine bodyPost_ret (raw_result2 rfl _ _ _ _ _ _ rfl (HS6.out.blk 0 rfl)) rfl ?_
    rw [R.out]
    exact ⟨rfl, HS6.out.below⟩
  ·rw [if_pos hlen] at hdef
   have R := Lib.hid hdef
   have d1 : ((rs.length : Int) != (l.length : Int)) = true := by rw [bne, beq_eq_false_iff_ne.2 (by omega)]; rfl
   have d2 : (rs.length != l.length) = true := by rw [bne, beq_eq_false_iff_ne.2 hlen]; rfl
   have d3 : (rs.length == l.length) = false := beq_eq_false_iff_ne.2 hlen
   clear hD hnb hdef hA
   go_enter Tryz.func17, Tryz.ntmps17
   have HS := Lib.hid (St.start w)
   go_wp2_with fail
   have HS2 := Lib.hid (St.alloc ((St.alloc (HS.out) #[.bool vn, .string (bs va), .string (bs vb), .slice A l.length c] 28 (w.heap.size) (by simp))) #[.bool false, .string (bs []), .string (bs [])] 25 (w.heap.size + 1) (by simp))
   refine (HC.out _ HS2.out.below).mono ?_
   rintro e w3 ⟨rfl, hb3⟩
   have HS3 := Lib.hid (HS2.out.call hb3)
   clear hb3 HS HS2
   have x1 := HS3.out.cell 1 rfl 3 rfl
   obtain ⟨x2, x3, x4⟩ := HS3.out.k0 0 rfl rfl rfl rfl
   obtain ⟨x5, x6, x7⟩ := HS3.out.f0 0 rfl
   have x8 := HS3.out.ne 0 1 rfl rfl (by decide)
   have x9 := HS3.out.ne 1 0 rfl rfl (by decide)
   go_wp2
   have HS4 : Hid (St w [⟨w.heap.size + 1, #[.bool false, .string (bs []), .string (bs [])], 25⟩, ⟨w.heap.size, #[.bool vn, .string (bs va), .string (bs vb), .slice A l.length c], 28⟩] _) := Lib.hid (St.set ((St.set ((St.set (HS3.out) 0 rfl 0 _)) 0 rfl 1 _)) 0 rfl 2 _)
   refine bodyPost_ret (raw_result2 rfl _ _ _ _ _ _ rfl (HS4.out.blk 0 rfl)) rfl ?_
   rw [R.out, show negB ((0 : Rat), (4 : Int)).1 = false from enc00.1, show numB ((0 : Rat), (4 : Int)).1 = [] from enc00.2.1, show denomB ((0 : Rat), (4 : Int)).1 = [] from enc00.2.2]
   exact ⟨rfl, HS4.out.below⟩
 ·rw [if_pos h0] at hdef
  have R := Lib.hid hdef
  have d1 := (hnb n h0).1
  have d2 := (hnb n h0).2
  clear hD hnb hdef hA
  go_enter Tryz.func17, Tryz.ntmps17
  have HS := Lib.hid (St.start w)
  go_wp2_with fail
  have HS2 := Lib.hid (St.alloc ((St.alloc (HS.out) #[.bool vn, .string (bs va), .string (bs vb), .slice A l.length c] 28 (w.heap.size) (by simp))) #[.bool false, .string (bs []), .string (bs [])] 25 (w.heap.size + 1) (by simp))
  refine (HC.out _ HS2.out.below).mono ?_
  rintro e w3 ⟨rfl, hb3⟩
  have HS3 := Lib.hid (HS2.out.call hb3)
  clear hb3 HS HS2
  obtain ⟨x1, x2, x3⟩ := HS3.out.k0 0 rfl rfl rfl rfl
  obtain ⟨x4, x5, x6⟩ := HS3.out.f0 0 rfl
  have x7 := HS3.out.ne 0 1 rfl rfl (by decide)
  have x8 := HS3.out.ne 1 0 rfl rfl (by decide)
  go_wp2
  have HS4 : Hid (St w [⟨w.heap.size + 1, #[.bool false, .string (bs []), .string (bs [])], 25⟩, ⟨w.heap.size, #[.bool vn, .string (bs va), .string (bs vb), .slice A l.length c], 28⟩] _) := Lib.hid (St.set ((St.set ((St.set (HS3.out) 0 rfl 0 _)) 0 rfl 1 _)) 0 rfl 2 _)
  refine bodyPost_ret (raw_result2 rfl _ _ _ _ _ _ rfl (HS4.out.blk 0 rfl)) rfl ?_
  rw [R.out, show negB ((0 : Rat), (n : Int)).1 = false from enc00.1, show numB ((0 : Rat), (n : Int)).1 = [] from enc00.2.1, show denomB ((0 : Rat), (n : Int)).1 = [] from enc00.2.2]
  exact ⟨rfl, HS4.out.below⟩
end Go.Proofs.YtcllocdhbicpkaaGreatDoor
