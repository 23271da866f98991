/-
Simple interest: the program's and the document's (printed by gen_int6.py).
-/
import Derived.Test.YtakoagjpmdcddaaGreatDoorW3
namespace Go.Proofs.YtakoagjpmdcddaaGreatDoor
open Go.RowKit

/-- Simple interest, or an error. -/
def simpR (p : Rat) (l : List Stp) (src dst base : Int) : Rat × Int := if argsErr p l src dst base 1 ≠ 0 then (0, argsErr p l src dst base 1) else (p * simpS l src dst base, 0)
theorem simpR_err {p : Rat} {l : List Stp} {src dst base n : Int} (h : argsErr p l src dst base 1 = n) (hn : n ≠ 0) : simpR p l src dst base = (0, n) := by unfold simpR; rw [h, if_pos hn]
theorem simpR_ok {p : Rat} {l : List Stp} {src dst base : Int} (h : argsErr p l src dst base 1 = 0) : simpR p l src dst base = (p * simpS l src dst base, 0) := by unfold simpR; rw [h, if_neg (by decide)]
theorem simp_over {p : Rat} {l : List Stp} {src dst base : Int} : p * daySum l src (dst - src).toNat / (base : Rat) = p * simpS l src dst base := by
  unfold simpS
  rw [Rat.div_def, Rat.div_def, Rat.mul_assoc]

set_option maxRecDepth 100000 in
set_option maxHeartbeats 1000000 in
theorem interest_Simple (n : Bool) (a b : List UInt8) (v : Value) (l : List Stp) (src dst base : Int) (w : World) (h : StepsL w v l) (hok : ∀ s ∈ l, s.num.length ≤ 1000 ∧ s.den.length ≤ 1000) (la : a.length ≤ 1000) (lb : b.length ≤ 1000) :
    Calls Tryz.prog 27 #[raw n a b, v, .int .i64 src, .int .i64 dst, .int .i64 base] w fun e w' => e = .returned (.tuple #[rat (simpR (decR n a b) l src dst base).1, .int .i64 (simpR (decR n a b) l src dst base).2]) ∧ Below w.heap.size w w' := by
  have hC := fun W (hb : Below w.heap.size w W) => interest_check n a b v l src dst base 1 W (h.below hb) (fun s hs => by have := hok s hs; omega) (by omega) (by omega)
  have K1 := @simpR_err (decR n a b) l src dst base
  have K2 := @simpR_ok (decR n a b) l src dst base
  have K0 := @args_zero (decR n a b) l src dst base 1
  have sp := sized_dec (neg := n) la lb (by decide)
  have hS := fun W (hb : Below w.heap.size w W) h1 h2 h3 h4 h5 => interest_simple v l src dst base W (h.below hb) hok h1 h2 h3 h4 h5
  have hM := fun W (hq : Sized 17179869184 (simpS l src dst base)) => rational_MultiplyR n a b (simpS l src dst base) W (by omega) (by omega) hq
  have hok' := hok
  generalize hp : decR n a b = p at *
  clear hp
  obtain ⟨m, hm⟩ : ∃ m, m = argsErr p l src dst base 1 := ⟨_, rfl⟩
  rw [← hm] at hC K1 K2 K0
  unfold raw at *
  by_cases h0 : m = 0
  · subst h0
    obtain ⟨z1, z2, z3, z4, _, z6, z7⟩ := K0 rfl
    have hri := checkS_rising z1
    have hlen := (checkS_zero z1).1
    have q1 := dayB_in z2
    have q2 := dayB_in z3
    have hx := simp_sized (src := src) (dst := dst) (base := base) hri hlen (rates_in (by decide) hok') (by omega) (by omega) (by omega) (by omega)
    have R := Lib.hid (K2 rfl)
    have hS := fun W hb => hS W hb hri hlen (by omega) (by omega) (by omega)
    have hM := fun W => hM W (hx.mono (by decide))
    generalize hy : p * simpS l src dst base = y at *
    generalize simpS l src dst base = x at *
    unfold rat raw at hS hM
    have HC := Lib.hid hC
    have HSS := Lib.hid hS
    have HM := Lib.hid hM
    clear hC hS hM hm K0 K1 K2 z1 z2 z3 z4 z6 z7 hri hlen q1 q2 hx sp h hok hok' hy
    go_enter Tryz.func27, Tryz.ntmps27
    have HS := Lib.hid (St.start w)
    go_wp2_with fail
    have HS2 : Hid (St w [⟨w.heap.size + 1, #[.bool false, .string (bs []), .string (bs [])], 23⟩, ⟨w.heap.size, #[.bool n, .string (bs a), .string (bs b)], 23⟩] _) := Lib.hid (St.alloc ((St.alloc (HS.out) #[.bool n, .string (bs a), .string (bs b)] 23 _ (by simp))) #[.bool false, .string (bs []), .string (bs [])] 23 _ (by simp))
    refine (HC.out _ HS2.out.below).mono ?_
    rintro e w3 ⟨rfl, hb3⟩
    have HS3 := Lib.hid (HS2.out.call hb3)
    clear hb3 HS HS2
    go_wp2
    refine wp_region_facts 7 [fun _ vv => vv = .agg #[.bool n, .string (bs a), .string (bs b)], fun _ vv => vv = v, fun _ vv => vv = .int .i64 src, fun _ vv => vv = .int .i64 dst, fun _ vv => vv = .int .i64 base, fun _ vv => vv = .agg #[.bool (negB (x)), .string (bs (numB (x))), .string (bs (denomB (x)))], fun _ vv => vv = .agg #[.bool (negB (y)), .string (bs (numB (y))), .string (bs (denomB (y)))]] rfl (by kernel_rfl) (by kernel_rfl) (by kernel_rfl) ⟨fun _ _ _ h _ => h, fun _ _ _ h _ => h, fun _ _ _ h _ => h, fun _ _ _ h _ => h, fun _ _ _ h _ => h, fun _ _ _ h _ => h, fun _ _ _ h _ => h, trivial⟩ ?_ ?_
    refine ⟨?_, ?_, ?_, ?_, ?_, ?_, ?_, trivial⟩
    · intro xx af wv hbx hev hev0 hd
      have e5 : af.tmps[5]?.getD undef = .pointer (some ⟨w.heap.size, 0, none⟩) := hev0 5 rfl
      clear hev hev0 hd
      have hs1 := Lib.hid (HS3.out.call hbx)
      have y0 := hs1.out.cell 1 rfl 0 rfl
      have y1 := hs1.out.cell 1 rfl 1 rfl
      have y2 := hs1.out.cell 1 rfl 2 rfl
      go_wp2
      exact StepQ.mk _ (Below.refl _ _) rfl
    · intro xx af wv hbx hev hev0 hd
      have e1 : af.tmps[1]?.getD undef = v := hev0 1 rfl
      clear hev hev0 hd
      go_wp2
      exact StepQ.mk _ (Below.refl _ _) rfl
    · intro xx af wv hbx hev hev0 hd
      have e2 : af.tmps[2]?.getD undef = .int .i64 src := hev0 2 rfl
      clear hev hev0 hd
      go_wp2
      exact StepQ.mk _ (Below.refl _ _) rfl
    · intro xx af wv hbx hev hev0 hd
      have e3 : af.tmps[3]?.getD undef = .int .i64 dst := hev0 3 rfl
      clear hev hev0 hd
      go_wp2
      exact StepQ.mk _ (Below.refl _ _) rfl
    · intro xx af wv hbx hev hev0 hd
      have e4 : af.tmps[4]?.getD undef = .int .i64 base := hev0 4 rfl
      clear hev hev0 hd
      go_wp2
      exact StepQ.mk _ (Below.refl _ _) rfl
    · intro xx af wv hbx hev hev0 hd
      have e24 := hev 1 _ 24 rfl rfl
      have d1 : xx 1 = v := hd ⟨1, .data⟩ (by simp) rfl
      rw [d1] at e24
      clear d1
      have e25 := hev 2 _ 25 rfl rfl
      have d2 : xx 2 = .int .i64 src := hd ⟨2, .data⟩ (by simp) rfl
      rw [d2] at e25
      clear d2
      have e26 := hev 3 _ 26 rfl rfl
      have d3 : xx 3 = .int .i64 dst := hd ⟨3, .data⟩ (by simp) rfl
      rw [d3] at e26
      clear d3
      have e27 := hev 4 _ 27 rfl rfl
      have d4 : xx 4 = .int .i64 base := hd ⟨4, .data⟩ (by simp) rfl
      rw [d4] at e27
      clear d4
      clear hev hev0 hd
      have hs1 := Lib.hid (HS3.out.call hbx)
      go_wp2_with fail
      refine (HSS.out _ hs1.out.below).mono ?_
      rintro e w8 ⟨rfl, hb8⟩
      go_wp2
      exact StepQ.mk _ hb8 rfl
    · intro xx af wv hbx hev hev0 hd
      have e23 := hev 0 _ 23 rfl rfl
      have d0 : xx 0 = .agg #[.bool n, .string (bs a), .string (bs b)] := hd ⟨0, .data⟩ (by simp) rfl
      rw [d0] at e23
      clear d0
      have e28 := hev 5 _ 28 rfl rfl
      have d5 : xx 5 = .agg #[.bool (negB (x)), .string (bs (numB (x))), .string (bs (denomB (x)))] := hd ⟨5, .data⟩ (by simp) rfl
      rw [d5] at e28
      clear d5
      clear hev hev0 hd
      go_wp2_with fail
      refine (HM.out _).mono ?_
      rintro e w8 ⟨rfl, hb8⟩
      go_wp2
      exact StepQ.mk _ hb8 rfl
    intro xx w4 hb9 hv
    have hv0 : xx 0 = .agg #[.bool n, .string (bs a), .string (bs b)] := hv 0 (by decide)
    have hv1 : xx 1 = v := hv 1 (by decide)
    have hv2 : xx 2 = .int .i64 src := hv 2 (by decide)
    have hv3 : xx 3 = .int .i64 dst := hv 3 (by decide)
    have hv4 : xx 4 = .int .i64 base := hv 4 (by decide)
    have hv5 : xx 5 = .agg #[.bool (negB (x)), .string (bs (numB (x))), .string (bs (denomB (x)))] := hv 5 (by decide)
    have hv6 : xx 6 = .agg #[.bool (negB (y)), .string (bs (numB (y))), .string (bs (denomB (y)))] := hv 6 (by decide)
    clear hv
    simp only [List.take, List.drop, fillA, Act.put]
    simp only [hv0, hv1, hv2, hv3, hv4, hv5, hv6]
    clear hv0 hv1 hv2 hv3 hv4 hv5 hv6
    have HS4 := Lib.hid (HS3.out.call hb9)
    clear hb9 HS3
    have x1 := HS4.out.cell 0 rfl 0 rfl
    have x2 := HS4.out.cell 0 rfl 1 rfl
    have x3 := HS4.out.cell 0 rfl 2 rfl
    have x4 := HS4.out.frozen 0 rfl 0
    have x5 := HS4.out.frozen 0 rfl 1
    have x6 := HS4.out.frozen 0 rfl 2
    have x7 := HS4.out.ne 0 1 rfl rfl (by decide)
    have x8 := HS4.out.ne 1 0 rfl rfl (by decide)
    go_wp2
    have HS5 : Hid (St w [⟨w.heap.size + 1, #[.bool (negB (y)), .string (bs (numB (y))), .string (bs (denomB (y)))], 23⟩, ⟨w.heap.size, #[.bool n, .string (bs a), .string (bs b)], 23⟩] _) := Lib.hid (St.set ((St.set ((St.set (HS4.out) 0 rfl 0 _)) 0 rfl 1 _)) 0 rfl 2 _)
    refine bodyPost_ret (raw_result2 rfl _ _ _ _ _ _ rfl (HS5.out.blk 0 rfl)) rfl ?_
    rw [R.out]
    exact ⟨rfl, HS5.out.below⟩
  · have R := Lib.hid (K1 rfl h0)
    have hn0 : (m == 0) = false := by rw [beq_eq_false_iff_ne]; exact h0
    have hn1 : (m != 0) = true := by rw [bne, hn0]; rfl
    have HC := Lib.hid hC
    clear hC hS hm K0 K1 K2 sp h hok hok' hM
    go_enter Tryz.func27, Tryz.ntmps27
    have HS := Lib.hid (St.start w)
    go_wp2_with fail
    have HS2 : Hid (St w [⟨w.heap.size + 1, #[.bool false, .string (bs []), .string (bs [])], 23⟩, ⟨w.heap.size, #[.bool n, .string (bs a), .string (bs b)], 23⟩] _) := Lib.hid (St.alloc ((St.alloc (HS.out) #[.bool n, .string (bs a), .string (bs b)] 23 _ (by simp))) #[.bool false, .string (bs []), .string (bs [])] 23 _ (by simp))
    refine (HC.out _ HS2.out.below).mono ?_
    rintro e w3 ⟨rfl, hb3⟩
    have HS3 := Lib.hid (HS2.out.call hb3)
    clear hb3 HS HS2
    have x1 := HS3.out.cell 0 rfl 0 rfl
    have x2 := HS3.out.cell 0 rfl 1 rfl
    have x3 := HS3.out.cell 0 rfl 2 rfl
    have x4 := HS3.out.frozen 0 rfl 0
    have x5 := HS3.out.frozen 0 rfl 1
    have x6 := HS3.out.frozen 0 rfl 2
    have x7 := HS3.out.ne 0 1 rfl rfl (by decide)
    have x8 := HS3.out.ne 1 0 rfl rfl (by decide)
    go_wp2
    have HS4 : Hid (St w [⟨w.heap.size + 1, #[.bool false, .string (bs []), .string (bs [])], 23⟩, ⟨w.heap.size, #[.bool n, .string (bs a), .string (bs b)], 23⟩] _) := Lib.hid (St.set ((St.set ((St.set (HS3.out) 0 rfl 0 _)) 0 rfl 1 _)) 0 rfl 2 _)
    refine bodyPost_ret (raw_result2 rfl _ _ _ _ _ _ rfl (HS4.out.blk 0 rfl)) rfl ?_
    rw [R.out, rat_zero]
    exact ⟨rfl, HS4.out.below⟩

end Go.Proofs.YtakoagjpmdcddaaGreatDoor

/-
Compound interest: the program's (printed by gen_int7.py).
-/
namespace Go.Proofs.YtakoagjpmdcddaaGreatDoor
open Go.RowKit

/-- Compound interest, or an error. -/
def compR (p : Rat) (l : List Stp) (src dst base every : Int) : Rat × Int :=
  if argsErr p l src dst base every ≠ 0 then (0, argsErr p l src dst base every) else if 64 * every < dst - src then (0, 2) else (compS l base every src dst p - p, 0)
section
variable {p : Rat} {l : List Stp} {src dst base every : Int}
theorem compR_err {n : Int} (h : argsErr p l src dst base every = n) (hn : n ≠ 0) : compR p l src dst base every = (0, n) := by unfold compR; rw [h, if_pos hn]
theorem compR_long (h : argsErr p l src dst base every = 0) (h1 : 64 * every < dst - src) : compR p l src dst base every = (0, 2) := by unfold compR; rw [h, if_neg (by decide), if_pos h1]
theorem compR_ok (h : argsErr p l src dst base every = 0) (h1 : ¬ 64 * every < dst - src) : compR p l src dst base every = (compS l base every src dst p - p, 0) := by unfold compR; rw [h, if_neg (by decide), if_neg h1]
theorem comp_min (h1 : 1 ≤ every) (h2 : src ≤ dst) (h3 : dst - src ≤ 1048576) : compS l base (min every 1048577) src dst p = compS l base every src dst p := by
  by_cases h : every ≤ 1048577
  · rw [show min every 1048577 = every by omega]
  · rw [comp_one (by omega) (by omega) h2, comp_one (by omega) (by omega) h2]
theorem long_iff {d e : Int} (h : 1 ≤ e) (_ : 0 ≤ d) : (64 < (d + e - 1) / e) ↔ 64 * e < d := by
  rw [show (64 : Int) < (d + e - 1) / e ↔ 65 ≤ (d + e - 1) / e by omega, Int.le_ediv_iff_mul_le (by omega)]
  omega
theorem per_lt {k : Nat} {e d : Int} (h1 : (k : Int) * e < d) (h2 : d ≤ 64 * e) (h0 : 0 < e) : k < 64 := by
  have h3 : (k : Int) * e < 64 * e := by omega
  have := Int.lt_of_mul_lt_mul_right h3 (by omega)
  omega
end

set_option maxRecDepth 100000 in
set_option maxHeartbeats 1000000 in
theorem interest_Compound (n : Bool) (a b : List UInt8) (v : Value) (l : List Stp) (src dst base every : Int) (w : World) (h : StepsL w v l) (hok : ∀ s ∈ l, s.num.length ≤ 1000 ∧ s.den.length ≤ 1000) (la : a.length ≤ 100000) (lb : b.length ≤ 100000) (hev : every ≤ 9223372036854775807) :
    Calls Tryz.prog 12 #[raw n a b, v, .int .i64 src, .int .i64 dst, .int .i64 base, .int .i64 every] w fun e w' => e = .returned (.tuple #[rat (compR (decR n a b) l src dst base every).1, .int .i64 (compR (decR n a b) l src dst base every).2]) ∧ Below w.heap.size w w' := by
  have hC := fun W (hb : Below w.heap.size w W) => interest_check n a b v l src dst base every W (h.below hb) (fun s hs => by have := hok s hs; omega) (by omega) (by omega)
  have K1 := @compR_err (decR n a b) l src dst base every
  have K2 := @compR_long (decR n a b) l src dst base every
  have K3 := @compR_ok (decR n a b) l src dst base every
  have K0 := @args_zero (decR n a b) l src dst base every
  have sp := sized_dec (neg := n) la lb (by decide)
  have hA0 := fun W => rational_Add n a b false [] [] W (by omega) (by omega) (by decide) (by decide)
  rw [dec_zero3, Rat.add_zero] at hA0
  have hS := fun W (hb : Below w.heap.size w W) (d1 d2 : Int) h1 h2 h3 h4 h5 => interest_simple v l d1 d2 base W (h.below hb) hok h1 h2 h3 h4 h5
  have hB := fun (q : Rat) W (hq : Sized 17179869184 q) => rational_Subtract (negB q) (numB q) (denomB q) n a b W hq.num hq.denom (by omega) (by omega)
  simp only [show ∀ q : Rat, decR (negB q) (numB q) (denomB q) = q from dec_enc] at hB
  have hok' := hok
  generalize hp : decR n a b = p at *
  clear hp
  obtain ⟨m, hm⟩ : ∃ m, m = argsErr p l src dst base every := ⟨_, rfl⟩
  rw [← hm] at hC K1 K2 K3 K0
  unfold raw at hC hA0 hB
  unfold raw
  by_cases h0 : m = 0
  · subst h0
    obtain ⟨z1, z2, z3, z4, z5, z6, z7⟩ := K0 rfl
    have hri := checkS_rising z1
    have hlen := (checkS_zero z1).1
    obtain ⟨q1, q1'⟩ := dayB_in z2
    obtain ⟨q2, q2'⟩ := dayB_in z3
    obtain ⟨ev, hevd⟩ : ∃ x, x = min every 1048577 := ⟨_, rfl⟩
    have e1 : 1 ≤ ev := by omega
    have e2 : ev ≤ 1048577 := by omega
    have e3 : min every 1048577 = ev := hevd.symm
    have hlong := long_iff (d := dst - src) e1 (by omega)
    have hlong2 : 64 * every < dst - src ↔ 64 * ev < dst - src := by omega
    have hcm := @comp_min p l src dst base every z5 z6 (by omega)
    rw [e3] at hcm
    have HC := Lib.hid hC
    have HEVD := Lib.hid hevd
    clear hC K0 K1 hm z1 z2 z3 hevd
    by_cases hlg : 64 < (dst - src + ev - 1) / ev
    · have R := Lib.hid (K2 rfl (hlong2.2 (hlong.1 hlg)))
      have hlg2 : decide (64 < (dst - src + ev - 1) / ev) = true := decide_eq_true hlg
      clear hlong hlong2 K2 K3 hcm hB hS hA0 sp hri hok hok' h hlg
      go_enter Tryz.func12, Tryz.ntmps12
      have HS := Lib.hid (St.start w)
      go_wp2_with fail
      have HS2 : Hid (St w [⟨w.heap.size + 1, #[.bool false, .string (bs []), .string (bs [])], 23⟩, ⟨w.heap.size, #[.bool n, .string (bs a), .string (bs b)], 23⟩] _) := Lib.hid (St.alloc ((St.alloc (HS.out) #[.bool n, .string (bs a), .string (bs b)] 23 _ (by simp))) #[.bool false, .string (bs []), .string (bs [])] 23 _ (by simp))
      refine (HC.out _ HS2.out.below).mono ?_
      rintro e w3 ⟨rfl, hb3⟩
      have HS3 := Lib.hid (HS2.out.call hb3)
      clear hb3 HS HS2
      have x1 := HS3.out.cell 0 rfl 0 rfl
      have x2 := HS3.out.cell 0 rfl 1 rfl
      have x3 := HS3.out.cell 0 rfl 2 rfl
      have x4 := HS3.out.frozen 0 rfl 0
      have x5 := HS3.out.frozen 0 rfl 1
      have x6 := HS3.out.frozen 0 rfl 2
      have x7 := HS3.out.ne 0 1 rfl rfl (by decide)
      have x8 := HS3.out.ne 1 0 rfl rfl (by decide)
      go_wp2
      have HS4 : Hid (St w [⟨w.heap.size + 1, #[.bool false, .string (bs []), .string (bs [])], 23⟩, ⟨w.heap.size, #[.bool n, .string (bs a), .string (bs b)], 23⟩] _) := Lib.hid (St.set ((St.set ((St.set (HS3.out) 0 rfl 0 _)) 0 rfl 1 _)) 0 rfl 2 _)
      refine bodyPost_ret (raw_result2 rfl _ _ _ _ _ _ rfl (HS4.out.blk 0 rfl)) rfl ?_
      rw [R.out, rat_zero]
      exact ⟨rfl, HS4.out.below⟩
    · have R := Lib.hid (K3 rfl (fun hh => hlg (hlong.2 (hlong2.1 hh))))
      have hlg2 : decide (64 < (dst - src + ev - 1) / ev) = false := decide_eq_false hlg
      have hd64 : dst - src ≤ 64 * ev := by have := mt hlong.2 hlg; omega
      have HCM := Lib.hid hcm
      unfold rat raw at hA0
      have HA0 := Lib.hid hA0
      have HCS := Lib.hid (fun k => comp_sized (base := base) (every := ev) (src := src) (dst := dst) hri hlen (rates_in (by decide) hok') sp q1 (by omega) (by omega) (by omega) (by omega) k)
      have HSZ := Lib.hid (fun d1 d2 (h1 : 0 ≤ d1) (h2 : d2 ≤ 1048576) (h3 : d1 ≤ 1048576) => simp_sized (base := base) (src := d1) (dst := d2) hri hlen (rates_in (by decide) hok') h1 (by omega) (by omega) (by omega))
      have HSS := Lib.hid (fun W hb d1 d2 h1 h2 => hS W hb d1 d2 hri hlen h1 h2 (by omega))
      have HSB := Lib.hid hB
      clear hlong hlong2 K2 K3 hcm hB hS hA0 sp hri hok hok' h hlg
      go_enter Tryz.func12, Tryz.ntmps12
      have HS := Lib.hid (St.start w)
      go_wp2_with fail
      have HS2 : Hid (St w [⟨w.heap.size + 1, #[.bool false, .string (bs []), .string (bs [])], 23⟩, ⟨w.heap.size, #[.bool n, .string (bs a), .string (bs b)], 23⟩] _) := Lib.hid (St.alloc ((St.alloc (HS.out) #[.bool n, .string (bs a), .string (bs b)] 23 _ (by simp))) #[.bool false, .string (bs []), .string (bs [])] 23 _ (by simp))
      refine (HC.out _ HS2.out.below).mono ?_
      rintro e w3 ⟨rfl, hb3⟩
      have HS3 := Lib.hid (HS2.out.call hb3)
      clear hb3 HS HS2
      have x1 := HS3.out.cell 1 rfl 0 rfl
      have x2 := HS3.out.cell 1 rfl 1 rfl
      have x3 := HS3.out.cell 1 rfl 2 rfl
      go_wp2_with fail
      refine (HA0.out _).mono ?_
      rintro e w4 ⟨rfl, hb4⟩
      have HS4 := Lib.hid (HS3.out.call hb4)
      clear hb4 HS3
      clear x1 x2 x3
      go_wp2
      have HS5 : Hid (St w [⟨w4.heap.size, #[.bool (negB (p)), .string (bs (numB (p))), .string (bs (denomB (p)))], 23⟩, ⟨w.heap.size + 1, #[.bool false, .string (bs []), .string (bs [])], 23⟩, ⟨w.heap.size, #[.bool n, .string (bs a), .string (bs b)], 23⟩] _) := Lib.hid (St.alloc (HS4.out) #[.bool (negB (p)), .string (bs (numB (p))), .string (bs (denomB (p)))] 23 _ (by simp))
      go_loopw [16] (fun i wr => ∃ (k : Nat) (dy : Int), k ≤ 64 ∧ i = .int .i64 dy ∧ Hid (dy = src + k * ev) ∧ src ≤ dy ∧ dy ≤ dst + ev ∧ Hid (k = 0 ∨ src + ((k : Int) - 1) * ev < dst) ∧ Hid (St w [⟨w4.heap.size, #[.bool (negB (compTo l base ev src dst p k)), .string (bs (numB (compTo l base ev src dst p k))), .string (bs (denomB (compTo l base ev src dst p k)))], 23⟩, ⟨w.heap.size + 1, #[.bool false, .string (bs []), .string (bs [])], 23⟩, ⟨w.heap.size, #[.bool n, .string (bs a), .string (bs b)], 23⟩] wr)) (fun i _ => (dst - intOf i).toNat)
      case atStart => exact ⟨0, src, by decide, rfl, by show _ = _; omega, by omega, by omega, .inl rfl, HS5.out⟩
      case round =>
        obtain ⟨k, dy, hk, rfl, hdy, hy1, hy2, hkk, HS⟩ := hrel
        by_cases hlt : dy < dst
        · have hl2 : decide (dy < dst) = true := decide_eq_true hlt
          have hk64 : k < 64 := per_lt (d := dst - src) (by have := hdy.out; omega) hd64 (by omega)
          obtain ⟨en, hen⟩ : ∃ x, x = min (dy + ev) dst := ⟨_, rfl⟩
          have n1 : 0 ≤ en := by omega
          have n2 : en ≤ dst := by omega
          have ew : IntKind.i64.wrap (dy + ev) = dy + ev := IntWalk.i64_in _ (by omega)
          have hst := compTo_step (l := l) (base := base) (every := ev) (src := src) (dst := dst) (p := p) k
          have hd' := hdy.out
          rw [← hd', show min dst dy = dy by omega, show min dst (src + ((k : Int) + 1) * ev) = en by rw [Int.add_mul, Int.one_mul]; omega] at hst
          have hy0 := HCS.out k
          have hz0 := HCS.out (k + 1)
          have hx0 := HSZ.out dy en (by omega) (by omega) (by omega)
          have hbig : 100000 + k * (64 * (1000 + 9) + 11) ≤ 4300000 := by omega
          have hS := fun W hb => HSS.out W hb dy en (by omega) (by omega)
          have hM := fun W => rational_MultiplyR (negB (compTo l base ev src dst p k)) (numB (compTo l base ev src dst p k)) (denomB (compTo l base ev src dst p k)) (simpS l dy en base) W (Nat.le_trans hy0.num (by omega)) (Nat.le_trans hy0.denom (by omega)) (hx0.mono (by decide))
          rw [show decR (negB (compTo l base ev src dst p k)) (numB (compTo l base ev src dst p k)) (denomB (compTo l base ev src dst p k)) = compTo l base ev src dst p k from dec_enc _] at hM
          have hA := fun W => rational_AddR (compTo l base ev src dst p k) (compTo l base ev src dst p k * simpS l dy en base) W (hy0.mono (by omega)) ((hy0.mul hx0).mono (by omega))
          rw [← hst] at hA
          obtain ⟨z, hzz⟩ : ∃ z, z = compTo l base ev src dst p (k + 1) := ⟨_, rfl⟩
          rw [← hzz] at hA
          have HZZ := Lib.hid hzz
          have HEN := Lib.hid hen
          have en2 : min (dy + ev) dst = en := hen.symm
          clear hst hzz hy0 hz0 hx0 hen hd'
          generalize compTo l base ev src dst p k * simpS l dy en base = mm at *
          generalize compTo l base ev src dst p k = y at *
          generalize simpS l dy en base = x at *
          unfold rat raw at hS hM hA
          have HS1 := Lib.hid hS
          have HM1 := Lib.hid hM
          have HA1 := Lib.hid hA
          clear hS hM hA
          go_wp2
          refine wp_region_facts 13 [fun _ vv => vv = .agg #[.bool (negB (y)), .string (bs (numB (y))), .string (bs (denomB (y)))], fun _ vv => vv = .agg #[.bool (negB (y)), .string (bs (numB (y))), .string (bs (denomB (y)))], fun _ vv => vv = v, fun _ vv => vv = .int .i64 dy, fun _ vv => vv = .int .i64 dy, fun _ vv => vv = .int .i64 ev, fun _ vv => vv = .int .i64 (dy + ev), fun _ vv => vv = .int .i64 dst, fun _ vv => vv = .int .i64 en, fun _ vv => vv = .int .i64 base, fun _ vv => vv = .agg #[.bool (negB (x)), .string (bs (numB (x))), .string (bs (denomB (x)))], fun _ vv => vv = .agg #[.bool (negB (mm)), .string (bs (numB (mm))), .string (bs (denomB (mm)))], fun _ vv => vv = .agg #[.bool (negB (z)), .string (bs (numB (z))), .string (bs (denomB (z)))]] rfl (by kernel_rfl) (by kernel_rfl) (by kernel_rfl) ⟨fun _ _ _ h _ => h, fun _ _ _ h _ => h, fun _ _ _ h _ => h, fun _ _ _ h _ => h, fun _ _ _ h _ => h, fun _ _ _ h _ => h, fun _ _ _ h _ => h, fun _ _ _ h _ => h, fun _ _ _ h _ => h, fun _ _ _ h _ => h, fun _ _ _ h _ => h, fun _ _ _ h _ => h, fun _ _ _ h _ => h, trivial⟩ ?_ ?_
          refine ⟨?_, ?_, ?_, ?_, ?_, ?_, ?_, ?_, ?_, ?_, ?_, ?_, ?_, trivial⟩
          · intro xx af wv hbx hev hev0 hd
            have e15 : af.tmps[15]?.getD undef = .pointer (some ⟨w4.heap.size, 0, none⟩) := hev0 15 rfl
            clear hev hev0 hd
            have hs1 := Lib.hid (HS.out.call hbx)
            have y0 := hs1.out.cell 0 rfl 0 rfl
            have y1 := hs1.out.cell 0 rfl 1 rfl
            have y2 := hs1.out.cell 0 rfl 2 rfl
            go_wp2
            exact StepQ.mk _ (Below.refl _ _) rfl
          · intro xx af wv hbx hev hev0 hd
            have e15 : af.tmps[15]?.getD undef = .pointer (some ⟨w4.heap.size, 0, none⟩) := hev0 15 rfl
            clear hev hev0 hd
            have hs1 := Lib.hid (HS.out.call hbx)
            have y0 := hs1.out.cell 0 rfl 0 rfl
            have y1 := hs1.out.cell 0 rfl 1 rfl
            have y2 := hs1.out.cell 0 rfl 2 rfl
            go_wp2
            exact StepQ.mk _ (Below.refl _ _) rfl
          · intro xx af wv hbx hev hev0 hd
            have e1 : af.tmps[1]?.getD undef = v := hev0 1 rfl
            clear hev hev0 hd
            go_wp2
            exact StepQ.mk _ (Below.refl _ _) rfl
          · intro xx af wv hbx hev hev0 hd
            have e16 : af.tmps[16]?.getD undef = .int .i64 dy := hev0 16 rfl
            clear hev hev0 hd
            go_wp2
            exact StepQ.mk _ (Below.refl _ _) rfl
          · intro xx af wv hbx hev hev0 hd
            have e16 : af.tmps[16]?.getD undef = .int .i64 dy := hev0 16 rfl
            clear hev hev0 hd
            go_wp2
            exact StepQ.mk _ (Below.refl _ _) rfl
          · intro xx af wv hbx hev hev0 hd
            have e5 : af.tmps[5]?.getD undef = .int .i64 ev := hev0 5 rfl
            clear hev hev0 hd
            go_wp2
            exact StepQ.mk _ (Below.refl _ _) rfl
          · intro xx af wv hbx hev hev0 hd
            have e54 := hev 4 _ 54 rfl rfl
            have d4 : xx 4 = .int .i64 dy := hd ⟨4, .data⟩ (by simp) rfl
            rw [d4] at e54
            clear d4
            have e55 := hev 5 _ 55 rfl rfl
            have d5 : xx 5 = .int .i64 ev := hd ⟨5, .data⟩ (by simp) rfl
            rw [d5] at e55
            clear d5
            clear hev hev0 hd
            go_wp2
            exact StepQ.mk _ (Below.refl _ _) rfl
          · intro xx af wv hbx hev hev0 hd
            have e3 : af.tmps[3]?.getD undef = .int .i64 dst := hev0 3 rfl
            clear hev hev0 hd
            go_wp2
            exact StepQ.mk _ (Below.refl _ _) rfl
          · intro xx af wv hbx hev hev0 hd
            have e56 := hev 6 _ 56 rfl rfl
            have d6 : xx 6 = .int .i64 (dy + ev) := hd ⟨6, .data⟩ (by simp) rfl
            rw [d6] at e56
            clear d6
            have e57 := hev 7 _ 57 rfl rfl
            have d7 : xx 7 = .int .i64 dst := hd ⟨7, .data⟩ (by simp) rfl
            rw [d7] at e57
            clear d7
            clear hev hev0 hd
            go_wp2
            exact StepQ.mk _ (Below.refl _ _) rfl
          · intro xx af wv hbx hev hev0 hd
            have e4 : af.tmps[4]?.getD undef = .int .i64 base := hev0 4 rfl
            clear hev hev0 hd
            go_wp2
            exact StepQ.mk _ (Below.refl _ _) rfl
          · intro xx af wv hbx hev hev0 hd
            have e52 := hev 2 _ 52 rfl rfl
            have d2 : xx 2 = v := hd ⟨2, .data⟩ (by simp) rfl
            rw [d2] at e52
            clear d2
            have e53 := hev 3 _ 53 rfl rfl
            have d3 : xx 3 = .int .i64 dy := hd ⟨3, .data⟩ (by simp) rfl
            rw [d3] at e53
            clear d3
            have e58 := hev 8 _ 58 rfl rfl
            have d8 : xx 8 = .int .i64 en := hd ⟨8, .data⟩ (by simp) rfl
            rw [d8] at e58
            clear d8
            have e59 := hev 9 _ 59 rfl rfl
            have d9 : xx 9 = .int .i64 base := hd ⟨9, .data⟩ (by simp) rfl
            rw [d9] at e59
            clear d9
            clear hev hev0 hd
            have hs1 := Lib.hid (HS.out.call hbx)
            go_wp2_with fail
            refine (HS1.out _ hs1.out.below).mono ?_
            rintro e w8 ⟨rfl, hb8⟩
            go_wp2
            exact StepQ.mk _ hb8 rfl
          · intro xx af wv hbx hev hev0 hd
            have e51 := hev 1 _ 51 rfl rfl
            have d1 : xx 1 = .agg #[.bool (negB (y)), .string (bs (numB (y))), .string (bs (denomB (y)))] := hd ⟨1, .data⟩ (by simp) rfl
            rw [d1] at e51
            clear d1
            have e60 := hev 10 _ 60 rfl rfl
            have d10 : xx 10 = .agg #[.bool (negB (x)), .string (bs (numB (x))), .string (bs (denomB (x)))] := hd ⟨10, .data⟩ (by simp) rfl
            rw [d10] at e60
            clear d10
            clear hev hev0 hd
            go_wp2_with fail
            refine (HM1.out _).mono ?_
            rintro e w8 ⟨rfl, hb8⟩
            go_wp2
            exact StepQ.mk _ hb8 rfl
          · intro xx af wv hbx hev hev0 hd
            have e50 := hev 0 _ 50 rfl rfl
            have d0 : xx 0 = .agg #[.bool (negB (y)), .string (bs (numB (y))), .string (bs (denomB (y)))] := hd ⟨0, .data⟩ (by simp) rfl
            rw [d0] at e50
            clear d0
            have e61 := hev 11 _ 61 rfl rfl
            have d11 : xx 11 = .agg #[.bool (negB (mm)), .string (bs (numB (mm))), .string (bs (denomB (mm)))] := hd ⟨11, .data⟩ (by simp) rfl
            rw [d11] at e61
            clear d11
            clear hev hev0 hd
            go_wp2_with fail
            refine (HA1.out _).mono ?_
            rintro e w8 ⟨rfl, hb8⟩
            go_wp2
            exact StepQ.mk _ hb8 rfl
          intro xx w6 hb9 hv
          have hv0 : xx 0 = .agg #[.bool (negB (y)), .string (bs (numB (y))), .string (bs (denomB (y)))] := hv 0 (by decide)
          have hv1 : xx 1 = .agg #[.bool (negB (y)), .string (bs (numB (y))), .string (bs (denomB (y)))] := hv 1 (by decide)
          have hv2 : xx 2 = v := hv 2 (by decide)
          have hv3 : xx 3 = .int .i64 dy := hv 3 (by decide)
          have hv4 : xx 4 = .int .i64 dy := hv 4 (by decide)
          have hv5 : xx 5 = .int .i64 ev := hv 5 (by decide)
          have hv6 : xx 6 = .int .i64 (dy + ev) := hv 6 (by decide)
          have hv7 : xx 7 = .int .i64 dst := hv 7 (by decide)
          have hv8 : xx 8 = .int .i64 en := hv 8 (by decide)
          have hv9 : xx 9 = .int .i64 base := hv 9 (by decide)
          have hv10 : xx 10 = .agg #[.bool (negB (x)), .string (bs (numB (x))), .string (bs (denomB (x)))] := hv 10 (by decide)
          have hv11 : xx 11 = .agg #[.bool (negB (mm)), .string (bs (numB (mm))), .string (bs (denomB (mm)))] := hv 11 (by decide)
          have hv12 : xx 12 = .agg #[.bool (negB (z)), .string (bs (numB (z))), .string (bs (denomB (z)))] := hv 12 (by decide)
          clear hv
          simp only [List.take, List.drop, fillA, Act.put]
          simp only [hv0, hv1, hv2, hv3, hv4, hv5, hv6, hv7, hv8, hv9, hv10, hv11, hv12]
          clear hv0 hv1 hv2 hv3 hv4 hv5 hv6 hv7 hv8 hv9 hv10 hv11 hv12
          have HS6 := Lib.hid (HS.out.call hb9)
          clear hb9 HS
          have x4 := HS6.out.cell 0 rfl 0 rfl
          have x5 := HS6.out.cell 0 rfl 1 rfl
          have x6 := HS6.out.cell 0 rfl 2 rfl
          have x7 := HS6.out.frozen 0 rfl 0
          have x8 := HS6.out.frozen 0 rfl 1
          have x9 := HS6.out.frozen 0 rfl 2
          have x10 := HS6.out.ne 0 1 rfl rfl (by decide)
          have x11 := HS6.out.ne 1 0 rfl rfl (by decide)
          have x12 := HS6.out.ne 0 2 rfl rfl (by decide)
          have x13 := HS6.out.ne 2 0 rfl rfl (by decide)
          go_wp2
          have HS7 : Hid (St w [⟨w4.heap.size, #[.bool (negB (z)), .string (bs (numB (z))), .string (bs (denomB (z)))], 23⟩, ⟨w.heap.size + 1, #[.bool false, .string (bs []), .string (bs [])], 23⟩, ⟨w.heap.size, #[.bool n, .string (bs a), .string (bs b)], 23⟩] _) := Lib.hid (St.set ((St.set ((St.set (HS6.out) 0 rfl 0 _)) 0 rfl 1 _)) 0 rfl 2 _)
          go_roundw
          case rel => exact ⟨k + 1, dy + ev, by omega, rfl, by have := hdy.out; show _ = _; rw [Int.natCast_add, Int.add_mul]; omega, by omega, by omega, .inr (by have := hdy.out; rw [show ((k + 1 : Nat) : Int) - 1 = (k : Int) by omega]; omega), by show St _ _ _; rw [← HZZ.out]; exact HS7.out⟩
          case measure => simp [intOf]; omega
        · have hl2 : decide (dy < dst) = false := decide_eq_false hlt
          have hce := comp_end (l := l) (base := base) (every := ev) (src := src) (dst := dst) (p := p) e1 (k := k) (by have := hdy.out; omega) hkk.out
          have hy0 := HCS.out k
          have hS := fun W => HSB.out (compTo l base ev src dst p k) W (hy0.mono (by omega))
          have HR : Hid (compS l base every src dst p = compTo l base ev src dst p k) := by show _ = _; rw [← HCM.out, hce]
          clear hce hy0
          obtain ⟨y, hyy⟩ : ∃ y, y = compTo l base ev src dst p k := ⟨_, rfl⟩
          have HR := HR.out
          rw [← hyy] at hS HR
          have HS' := HS.out
          rw [← hyy] at HS'
          have HR := Lib.hid HR
          have HS2 := Lib.hid HS'
          clear HS' HS hyy
          obtain ⟨z, hzz⟩ : ∃ z, z = y - p := ⟨_, rfl⟩
          rw [← hzz] at hS
          have HZZ := Lib.hid hzz
          clear hzz
          unfold rat raw at hS
          have HS3 := Lib.hid hS
          clear hS
          have x4 := HS2.out.cell 0 rfl 0 rfl
          have x5 := HS2.out.cell 0 rfl 1 rfl
          have x6 := HS2.out.cell 0 rfl 2 rfl
          have x7 := HS2.out.cell 2 rfl 0 rfl
          have x8 := HS2.out.cell 2 rfl 1 rfl
          have x9 := HS2.out.cell 2 rfl 2 rfl
          go_wp2_with fail
          refine (HS3.out _).mono ?_
          rintro e w6 ⟨rfl, hb6⟩
          have HS6 := Lib.hid (HS2.out.call hb6)
          clear hb6 HS2
          clear x4 x5 x6 x7 x8 x9
          have x10 := HS6.out.cell 1 rfl 0 rfl
          have x11 := HS6.out.cell 1 rfl 1 rfl
          have x12 := HS6.out.cell 1 rfl 2 rfl
          have x13 := HS6.out.frozen 1 rfl 0
          have x14 := HS6.out.frozen 1 rfl 1
          have x15 := HS6.out.frozen 1 rfl 2
          have x16 := HS6.out.ne 1 0 rfl rfl (by decide)
          have x17 := HS6.out.ne 0 1 rfl rfl (by decide)
          have x18 := HS6.out.ne 1 2 rfl rfl (by decide)
          have x19 := HS6.out.ne 2 1 rfl rfl (by decide)
          go_wp2
          have HS7 : Hid (St w [⟨w4.heap.size, #[.bool (negB (y)), .string (bs (numB (y))), .string (bs (denomB (y)))], 23⟩, ⟨w.heap.size + 1, #[.bool (negB (z)), .string (bs (numB (z))), .string (bs (denomB (z)))], 23⟩, ⟨w.heap.size, #[.bool n, .string (bs a), .string (bs b)], 23⟩] _) := Lib.hid (St.set ((St.set ((St.set (HS6.out) 1 rfl 0 _)) 1 rfl 1 _)) 1 rfl 2 _)
          refine bodyPost_ret (raw_result2 rfl _ _ _ _ _ _ rfl (HS7.out.blk 1 rfl)) rfl ?_
          rw [R.out, HR.out, ← HZZ.out]
          exact ⟨rfl, HS7.out.below⟩
  · have R := Lib.hid (K1 rfl h0)
    have hn0 : (m == 0) = false := by rw [beq_eq_false_iff_ne]; exact h0
    have hn1 : (m != 0) = true := by rw [bne, hn0]; rfl
    have HC := Lib.hid hC
    clear hC hS hm K0 K1 K2 K3 sp h hok hok' hA0 hB
    go_enter Tryz.func12, Tryz.ntmps12
    have HS := Lib.hid (St.start w)
    go_wp2_with fail
    have HS2 : Hid (St w [⟨w.heap.size + 1, #[.bool false, .string (bs []), .string (bs [])], 23⟩, ⟨w.heap.size, #[.bool n, .string (bs a), .string (bs b)], 23⟩] _) := Lib.hid (St.alloc ((St.alloc (HS.out) #[.bool n, .string (bs a), .string (bs b)] 23 _ (by simp))) #[.bool false, .string (bs []), .string (bs [])] 23 _ (by simp))
    refine (HC.out _ HS2.out.below).mono ?_
    rintro e w3 ⟨rfl, hb3⟩
    have HS3 := Lib.hid (HS2.out.call hb3)
    clear hb3 HS HS2
    have x1 := HS3.out.cell 0 rfl 0 rfl
    have x2 := HS3.out.cell 0 rfl 1 rfl
    have x3 := HS3.out.cell 0 rfl 2 rfl
    have x4 := HS3.out.frozen 0 rfl 0
    have x5 := HS3.out.frozen 0 rfl 1
    have x6 := HS3.out.frozen 0 rfl 2
    have x7 := HS3.out.ne 0 1 rfl rfl (by decide)
    have x8 := HS3.out.ne 1 0 rfl rfl (by decide)
    go_wp2
    have HS4 : Hid (St w [⟨w.heap.size + 1, #[.bool false, .string (bs []), .string (bs [])], 23⟩, ⟨w.heap.size, #[.bool n, .string (bs a), .string (bs b)], 23⟩] _) := Lib.hid (St.set ((St.set ((St.set (HS3.out) 0 rfl 0 _)) 0 rfl 1 _)) 0 rfl 2 _)
    refine bodyPost_ret (raw_result2 rfl _ _ _ _ _ _ rfl (HS4.out.blk 0 rfl)) rfl ?_
    rw [R.out, rat_zero]
    exact ⟨rfl, HS4.out.below⟩
end Go.Proofs.YtakoagjpmdcddaaGreatDoor
