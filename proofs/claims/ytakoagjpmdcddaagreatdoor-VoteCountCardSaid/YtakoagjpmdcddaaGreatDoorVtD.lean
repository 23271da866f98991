/-
The document's threshold (printed by gen_vot10.py).
-/
import Derived.Test.YtakoagjpmdcddaaGreatDoorVtC
namespace Go.Proofs.YtakoagjpmdcddaaGreatDoor
open Go.RowKit

/-- The document's search behind k voters. -/
def rTo (l : List Vtr) (k : Nat) : Rat × Bool := ((l.take k).map Vtr.ask).foldl (tryV l) (0, false)
theorem rTo_add {l : List Vtr} {k : Nat} {u : Vtr} (hq : l[k]? = some u) : rTo l (k + 1) = tryV l (rTo l k) u.ask := by unfold rTo; rw [take_at hq, List.map_append, List.foldl_append]; rfl
theorem rTo_sized {N : Nat} (h1 : 1 ≤ N) {l : List Vtr} (hok : SmallV N l) : ∀ k, k ≤ l.length → Sized N (rTo l k).1
  | 0, _ => sized_zero.mono h1
  | k + 1, hk => by
    have hq : l[k]? = some l[k] := List.getElem?_eq_getElem (by omega)
    rw [rTo_add hq]; exact try_sized (rTo_sized h1 hok k (by omega)) (hok.ask h1 (List.mem_of_getElem? hq))
theorem rTo_end {l : List Vtr} (h : passedV (tallyV l 0) = false) (ha : ∀ v ∈ l, 0 ≤ v.ask) : thrV l = rTo l l.length := by
  rw [← thr_same ha]
  unfold thrR rTo
  rw [h, List.take_length]; rfl
theorem thr_zero {l : List Vtr} (h : passedV (tallyV l 0) = true) (ha : ∀ v ∈ l, 0 ≤ v.ask) : thrV l = (0, true) := by
  rw [← thr_same ha]
  unfold thrR
  rw [h]; rfl
theorem try_high2 {l : List Vtr} {r best : Rat} {fd : Bool} (h : sgn (1 - r).num < 0) : tryV l (best, fd) r = (best, fd) := by
  rw [lt_sgn] at h
  refine try_high ?_
  rw [le_sgn]; grind
theorem try_first2 {l : List Vtr} {r best : Rat} (h : ¬ sgn (1 - r).num < 0) : tryV l (best, false) r = if passedV (tallyV l r) then (r, true) else (best, false) := by
  rw [lt_sgn] at h
  refine try_first ?_
  rw [le_sgn]; grind
theorem try_less2 {l : List Vtr} {r best : Rat} (h : ¬ sgn (1 - r).num < 0) (h2 : sgn (r - best).num < 0) : tryV l (best, true) r = if passedV (tallyV l r) then (r, true) else (best, true) := by
  rw [lt_sgn] at h
  refine try_less ?_ h2
  rw [le_sgn]; grind

set_option maxRecDepth 100000 in
set_option maxHeartbeats 3000000 in
theorem ref_Threshold (v : Value) (l : List Vtr) (w : World) (h : VotersL w v l) (hok : SmallV 100000 l) :
    Calls Tryz.prog 20 #[v] w fun e w' => e = .returned (.tuple #[rat (thresholdR l).1, .bool (thresholdR l).2.1, .int .i64 (thresholdR l).2.2]) ∧ Below w.heap.size w w' := by
  have hC := fun W (hb : Below w.heap.size w W) => ref_CheckVoters v l W (h.below hb) (hok.mono (by decide))
  have R0 : Hid (thresholdR l = if checkV l ≠ 0 then (0, false, checkV l) else ((thrV l).1, (thrV l).2, 0)) := rfl
  have hz0 : checkV l = 0 → l.length ≤ 64 ∧ ∀ v ∈ l, 0 ≤ v.ask := fun h => ⟨(checkV_zero h).1, fun v hv => ((checkV_zero h).2 v hv).2.2⟩
  obtain ⟨r, hr⟩ : ∃ x, x = thresholdR l := ⟨_, rfl⟩
  obtain ⟨m, hm⟩ : ∃ x, x = checkV l := ⟨_, rfl⟩
  rw [← hr] at R0 ⊢
  rw [← hm] at hC R0 hz0
  clear hr hm
  have HC := Lib.hid hC
  have H := Lib.hid h
  obtain ⟨A, c, rfl, hl, hc⟩ := h.slice
  by_cases h0 : m = 0
  · subst h0
    obtain ⟨hlen, hask⟩ := hz0 rfl
    have R : Hid (r = ((thrV l).1, (thrV l).2, 0)) := by show _ = _; have := R0.out; rw [if_neg (by decide)] at this; exact this
    have HT := Lib.hid (fun n a b W (hb : Below w.heap.size w W) (la : a.length ≤ 17179869184) (lb : b.length ≤ 17179869184) => ref_tally _ l n a b W (h.below hb) hok hlen la lb)
    have HP := Lib.hid (fun q W => ref_passed (tallyV l q) W (tally_size hok hlen _).1 (tally_size hok hlen _).2.1 (tally_size hok hlen _).2.2.1 (tally_size hok hlen _).2.2.2)
    have HSZ := Lib.hid (rTo_sized (by decide) hok)
    have HOK := Lib.hid hok
    have t0 := fun W hb => HT.out false [] [] W hb (by decide) (by decide)
    rw [dec_zero3] at t0
    have p0 := HP.out 0
    have hz := @thr_zero l
    have he := @rTo_end l
    generalize tallyV l 0 = tz at *
    obtain ⟨zB, hzB⟩ : ∃ x, x = passedV tz := ⟨_, rfl⟩
    rw [← hzB] at p0 hz he
    have hz2 := fun h => hz h hask
    have he2 := fun h => he h hask
    unfold raw at t0
    unfold tly tlyC at t0 p0
    have T0 := Lib.hid t0
    have P0 := Lib.hid p0
    have HZ := Lib.hid hz2
    have HE := Lib.hid he2
    clear hC R0 hz0 h hok hask t0 p0 hz he hz2 he2 hzB
    cases zB
    · have HEQ := Lib.hid (HE.out rfl)
      clear HE HZ
      go_enter Tryz.func20, Tryz.ntmps20
      have HS := Lib.hid (St.start w)
      go_wp2_with fail
      have HS2 : Hid (St w [⟨w.heap.size, #[.bool false, .string (bs []), .string (bs [])], 23⟩] _) := Lib.hid (St.alloc (HS.out) #[.bool false, .string (bs []), .string (bs [])] 23 _ (by simp))
      refine (HC.out _ HS2.out.below).mono ?_
      rintro e w3 ⟨rfl, hb3⟩
      have HS3 := Lib.hid (HS2.out.call hb3)
      clear hb3 HS HS2
      go_wp2_with fail
      refine (T0.out _ HS3.out.below).mono ?_
      rintro e w4 ⟨rfl, hb4⟩
      have HS4 := Lib.hid (HS3.out.call hb4)
      clear hb4 HS3
      go_wp2_with fail
      refine (P0.out _).mono ?_
      rintro e w5 ⟨rfl, hb5⟩
      have HS5 := Lib.hid (HS4.out.call hb5)
      clear hb5 HS4
      go_wp2
      go_loopw [6, 8] (fun fd i wr => ∃ k : Nat, k ≤ l.length ∧ i = .int .i64 k ∧ fd = .bool (rTo l k).2 ∧ Hid (St w [⟨w5.heap.size, #[.bool (negB ((rTo l k).1)), .string (bs (numB ((rTo l k).1))), .string (bs (denomB ((rTo l k).1)))], 23⟩, ⟨w.heap.size, #[.bool false, .string (bs []), .string (bs [])], 23⟩] wr)) (fun _ i _ => l.length - (intOf i).toNat)
      case atStart => exact ⟨0, Nat.zero_le _, rfl, rfl, by show St _ _ _; rw [show (rTo l 0).1 = 0 from rfl, enc0.1, enc0.2.1, enc0.2.2]; exact (St.alloc (HS5.out) #[.bool false, .string (bs []), .string (bs [])] 23 _ (by simp))⟩
      case round =>
        obtain ⟨k, hk, rfl, rfl, HS⟩ := hrel
        by_cases hlt : k < l.length
        · obtain ⟨b, o, u, rfl, hbb, hq, hx⟩ := H.out.at_ hlt
          have hsm := HOK.out u (List.mem_of_getElem? hq)
          have hbs := (HSZ.out k hk).mono (show 100000 ≤ 17179869184 by decide)
          have had := rTo_add hq
          have hpair : rTo l k = ((rTo l k).1, (rTo l k).2) := rfl
          rw [hpair] at had
          have hF := fun W => ref_Fix u.kn u.ka u.kb W (by have := hsm.2.2.1; omega) (by have := hsm.2.2.2; omega)
          change ∀ W, Calls Tryz.prog _ _ W (fun e w' => e = .returned (rat u.ask) ∧ _) at hF
          have has := (HOK.out.ask (by decide) (List.mem_of_getElem? hq)).mono (show 100000 ≤ 17179869184 by decide)
          have h1 := fun W => ref_One W
          have l1 := fun W => ref_Less 1 u.ask W (sized_one.mono (by decide)) has
          have l2 := fun W => ref_Less u.ask (rTo l k).1 W has hbs
          have tt := fun W hb => HT.out (negB u.ask) (numB u.ask) (denomB u.ask) W hb has.num has.denom
          rw [show decR (negB u.ask) (numB u.ask) (denomB u.ask) = u.ask from dec_enc _] at tt
          have pp := HP.out u.ask
          have HS0 := HS.out
          have x1 := fun h => @try_high2 l u.ask (rTo l k).1 (rTo l k).2 h
          have x2 := fun h => @try_first2 l u.ask (rTo l k).1 h
          have x3 := fun h => @try_more l u.ask (rTo l k).1 h
          have x4 := fun h h2 => @try_less2 l u.ask (rTo l k).1 h h2
          clear HS hpair
          obtain ⟨be, hbe⟩ : ∃ x, x = (rTo l k).1 := ⟨_, rfl⟩
          obtain ⟨fB, hfB⟩ : ∃ x, x = (rTo l k).2 := ⟨_, rfl⟩
          rw [← hfB]
          rw [← hbe] at HS0 had x1 l2 x2 x3 x4
          rw [← hfB] at had x1
          obtain ⟨tn, htn⟩ : ∃ x, x = rTo l (k + 1) := ⟨_, rfl⟩
          rw [← htn] at had
          have HTN := Lib.hid htn
          generalize tallyV l u.ask = t at *
          obtain ⟨pB, hpB⟩ : ∃ x, x = passedV t := ⟨_, rfl⟩
          rw [← hpB] at pp x2 x4
          have HX := Lib.hid hx
          have e0 : (0 : Int) ≤ ((k : Nat) : Int) := by omega
          have e1 : ((k : Nat) : Int) < (l.length : Int) := by omega
          have e2 : decide (((k : Nat) : Int) < (l.length : Int)) = true := decide_eq_true e1
          clear hsm hbs hbe hfB htn hx has hq hpB
          generalize u.ask = a at *
          generalize hc1 : sgn (1 - a).num = c1 at *
          generalize hc2 : sgn (a - be).num = c2 at *
          unfold rat raw tly tlyC at *
          generalize (1 : Rat) = one at *
          obtain ⟨d1B, hd1⟩ : ∃ x, x = decide (c1 < 0) := ⟨_, rfl⟩
          obtain ⟨d2B, hd2⟩ : ∃ x, x = decide (c2 < 0) := ⟨_, rfl⟩
          rw [← hd1] at l1
          rw [← hd2] at l2
          have HS := Lib.hid HS0
          have HF := Lib.hid hF
          have H1 := Lib.hid h1
          have L1 := Lib.hid l1
          have L2 := Lib.hid l2
          have HTT := Lib.hid tt
          have HPP := Lib.hid pp
          clear HS0 hF h1 l1 l2 tt pp hc1 hc2
          cases d1B
          · cases fB
            · cases pB
              · have R := x2 (of_decide_eq_false hd1.symm)
                try simp only [if_false, Bool.false_eq_true] at R
                rw [R] at had
                have R := Lib.hid (HTN.out.symm.trans had)
                clear had x1 x2 x3 x4 HTN hd1 hd2
                have x1 := HX.out _ HS.out.below 4 _ rfl
                have x2 := HX.out _ HS.out.below 5 _ rfl
                have x3 := HX.out _ HS.out.below 6 _ rfl
                go_wp2_with fail
                refine (HF.out _).mono ?_
                rintro e w6 ⟨rfl, hb6⟩
                have HS6 := Lib.hid (HS.out.call hb6)
                clear hb6 HS
                clear x1 x2 x3
                go_wp2
                have HS7 : Hid (St w [⟨w6.heap.size, #[.bool (negB (a)), .string (bs (numB (a))), .string (bs (denomB (a)))], 23⟩, ⟨w5.heap.size, #[.bool (negB (be)), .string (bs (numB (be))), .string (bs (denomB (be)))], 23⟩, ⟨w.heap.size, #[.bool false, .string (bs []), .string (bs [])], 23⟩] _) := Lib.hid (St.alloc (HS6.out) #[.bool (negB (a)), .string (bs (numB (a))), .string (bs (denomB (a)))] 23 _ (by simp))
                clear HS6
                refine wp_region_facts 11 [fun _ vv => vv = .agg #[.bool (negB (one)), .string (bs (numB (one))), .string (bs (denomB (one)))], fun _ vv => vv = .agg #[.bool (negB (a)), .string (bs (numB (a))), .string (bs (denomB (a)))], fun _ vv => vv = .bool false, fun _ vv => vv = .bool false, fun _ vv => vv = .bool false, fun _ vv => vv = .bool false, fun _ vv => vv = undef, fun _ vv => vv = undef, fun _ vv => vv = undef, fun _ vv => vv = undef, fun _ vv => vv = .bool false] rfl (by kernel_rfl) (by kernel_rfl) (by kernel_rfl) ⟨fun _ _ _ h _ => h, fun _ _ _ h _ => h, fun _ _ _ h _ => h, fun _ _ _ h _ => h, fun _ _ _ h _ => h, fun _ _ _ h _ => h, fun _ _ _ h _ => h, fun _ _ _ h _ => h, fun _ _ _ h _ => h, fun _ _ _ h _ => h, fun _ _ _ h _ => h, trivial⟩ ?_ ?_
                refine ⟨?_, ?_, ?_, ?_, ?_, ?_, ?_, ?_, ?_, ?_, ?_, trivial⟩
                · intro xx af wv hbx hev hev0 hd
                  clear hev hev0 hd
                  go_wp2_with fail
                  refine (H1.out _).mono ?_
                  rintro e w8 ⟨rfl, hb8⟩
                  go_wp2
                  exact StepQ.mk _ hb8 rfl
                · intro xx af wv hbx hev hev0 hd
                  have e9 : af.tmps[9]?.getD undef = .pointer (some ⟨w6.heap.size, 0, none⟩) := hev0 9 rfl
                  clear hev hev0 hd
                  have hs1 := Lib.hid (HS7.out.call hbx)
                  have y0 := hs1.out.cell 0 rfl 0 rfl
                  have y1 := hs1.out.cell 0 rfl 1 rfl
                  have y2 := hs1.out.cell 0 rfl 2 rfl
                  go_wp2
                  exact StepQ.mk _ (Below.refl _ _) rfl
                · intro xx af wv hbx hev hev0 hd
                  have e34 := hev 0 _ 34 rfl rfl
                  have d0 : xx 0 = .agg #[.bool (negB (one)), .string (bs (numB (one))), .string (bs (denomB (one)))] := hd ⟨0, .data⟩ (by simp) rfl
                  rw [d0] at e34
                  clear d0
                  have e35 := hev 1 _ 35 rfl rfl
                  have d1 : xx 1 = .agg #[.bool (negB (a)), .string (bs (numB (a))), .string (bs (denomB (a)))] := hd ⟨1, .data⟩ (by simp) rfl
                  rw [d1] at e35
                  clear d1
                  clear hev hev0 hd
                  go_wp2_with fail
                  refine (L1.out _).mono ?_
                  rintro e w8 ⟨rfl, hb8⟩
                  go_wp2
                  exact StepQ.mk _ hb8 rfl
                · intro xx af wv hbx hev hev0 hd
                  have e36 := hev 2 _ 36 rfl rfl
                  have d2 : xx 2 = .bool false := hd ⟨2, .data⟩ (by simp) rfl
                  rw [d2] at e36
                  clear d2
                  clear hev hev0 hd
                  go_wp2
                  exact StepQ.mk _ (Below.refl _ _) rfl
                · intro xx af wv hbx hev hev0 hd
                  have e37 := hev 3 _ 37 rfl rfl
                  have d3 : xx 3 = .bool false := hd ⟨3, .guard⟩ (by simp) rfl
                  rw [d3] at e37
                  clear d3
                  have e6 : af.tmps[6]?.getD undef = .bool false := hev0 6 rfl
                  have q37 := getD_bool e37
                  clear hev hev0 hd
                  go_wp2
                  exact StepQ.mk _ (Below.refl _ _) rfl
                · intro xx af wv hbx hev hev0 hd
                  have e37 := hev 3 _ 37 rfl rfl
                  have d3 : xx 3 = .bool false := hd ⟨3, .chain⟩ (by simp) rfl
                  rw [d3] at e37
                  clear d3
                  have e38 := hev 4 _ 38 rfl rfl
                  have d4 : xx 4 = .bool false := hd ⟨4, .data⟩ (by simp) rfl
                  rw [d4] at e38
                  clear d4
                  have q37 := getD_bool e37
                  clear hev hev0 hd
                  go_wp2
                  exact StepQ.mk _ (Below.refl _ _) rfl
                · intro xx af wv hbx hev hev0 hd
                  have e39 := hev 5 _ 39 rfl rfl
                  have d5 : xx 5 = .bool false := hd ⟨5, .guard⟩ (by simp) rfl
                  rw [d5] at e39
                  clear d5
                  have q39 := getD_bool e39
                  clear hev hev0 hd
                  go_wp2
                  exact StepQ.mk _ (Below.refl _ _) rfl
                · intro xx af wv hbx hev hev0 hd
                  have e39 := hev 5 _ 39 rfl rfl
                  have d5 : xx 5 = .bool false := hd ⟨5, .guard⟩ (by simp) rfl
                  rw [d5] at e39
                  clear d5
                  have q39 := getD_bool e39
                  clear hev hev0 hd
                  go_wp2
                  exact StepQ.mk _ (Below.refl _ _) rfl
                · intro xx af wv hbx hev hev0 hd
                  have e39 := hev 5 _ 39 rfl rfl
                  have d5 : xx 5 = .bool false := hd ⟨5, .chain⟩ (by simp) rfl
                  rw [d5] at e39
                  clear d5
                  have q39 := getD_bool e39
                  clear hev hev0 hd
                  go_wp2
                  exact StepQ.mk _ (Below.refl _ _) rfl
                · intro xx af wv hbx hev hev0 hd
                  have e39 := hev 5 _ 39 rfl rfl
                  have d5 : xx 5 = .bool false := hd ⟨5, .guard⟩ (by simp) rfl
                  rw [d5] at e39
                  clear d5
                  have q39 := getD_bool e39
                  clear hev hev0 hd
                  go_wp2
                  exact StepQ.mk _ (Below.refl _ _) rfl
                · intro xx af wv hbx hev hev0 hd
                  have e37 := hev 3 _ 37 rfl rfl
                  have d3 : xx 3 = .bool false := hd ⟨3, .guard⟩ (by simp) rfl
                  rw [d3] at e37
                  clear d3
                  have e39 := hev 5 _ 39 rfl rfl
                  have d5 : xx 5 = .bool false := hd ⟨5, .data⟩ (by simp) rfl
                  rw [d5] at e39
                  clear d5
                  have e43 := hev 9 _ 43 rfl rfl
                  have d9 : xx 9 = undef := hd ⟨9, .data⟩ (by simp) rfl
                  rw [d9] at e43
                  clear d9
                  have q37 := getD_bool e37
                  clear hev hev0 hd
                  go_wp2
                  exact StepQ.mk _ (Below.refl _ _) rfl
                intro xx w9 hb9 hv
                have hv0 : xx 0 = .agg #[.bool (negB (one)), .string (bs (numB (one))), .string (bs (denomB (one)))] := hv 0 (by decide)
                have hv1 : xx 1 = .agg #[.bool (negB (a)), .string (bs (numB (a))), .string (bs (denomB (a)))] := hv 1 (by decide)
                have hv2 : xx 2 = .bool false := hv 2 (by decide)
                have hv3 : xx 3 = .bool false := hv 3 (by decide)
                have hv4 : xx 4 = .bool false := hv 4 (by decide)
                have hv5 : xx 5 = .bool false := hv 5 (by decide)
                have hv6 : xx 6 = undef := hv 6 (by decide)
                have hv7 : xx 7 = undef := hv 7 (by decide)
                have hv8 : xx 8 = undef := hv 8 (by decide)
                have hv9 : xx 9 = undef := hv 9 (by decide)
                have hv10 : xx 10 = .bool false := hv 10 (by decide)
                clear hv
                simp only [List.take, List.drop, fillA, Act.put]
                simp only [hv0, hv1, hv2, hv3, hv4, hv5, hv6, hv7, hv8, hv9, hv10]
                clear hv0 hv1 hv2 hv3 hv4 hv5 hv6 hv7 hv8 hv9 hv10
                have HS9 := Lib.hid (HS7.out.call hb9)
                clear hb9 HS7
                have x4 := HS9.out.cell 0 rfl 0 rfl
                have x5 := HS9.out.cell 0 rfl 1 rfl
                have x6 := HS9.out.cell 0 rfl 2 rfl
                go_wp2_with fail
                refine (HTT.out _ HS9.out.below).mono ?_
                rintro e w10 ⟨rfl, hb10⟩
                have HS10 := Lib.hid (HS9.out.call hb10)
                clear hb10 HS9
                clear x4 x5 x6
                go_wp2_with fail
                refine (HPP.out _).mono ?_
                rintro e w11 ⟨rfl, hb11⟩
                have HS11 := Lib.hid (HS10.out.call hb11)
                clear hb11 HS10
                go_wp2
                have HS12 : Hid (St w [⟨w6.heap.size, #[.bool (negB (a)), .string (bs (numB (a))), .string (bs (denomB (a)))], 23⟩, ⟨w5.heap.size, #[.bool (negB (be)), .string (bs (numB (be))), .string (bs (denomB (be)))], 23⟩, ⟨w.heap.size, #[.bool false, .string (bs []), .string (bs [])], 23⟩] _) := Lib.hid HS11.out
                go_roundw
                case rel => exact ⟨k + 1, by omega, by go_num, by rw [R.out], by show St _ _ _; rw [R.out]; exact HS12.out.sub (by simp)⟩
                case measure => simp [intOf]; omega
              · have R := x2 (of_decide_eq_false hd1.symm)
                try simp only [if_true] at R
                rw [R] at had
                have R := Lib.hid (HTN.out.symm.trans had)
                clear had x1 x2 x3 x4 HTN hd1 hd2
                have x1 := HX.out _ HS.out.below 4 _ rfl
                have x2 := HX.out _ HS.out.below 5 _ rfl
                have x3 := HX.out _ HS.out.below 6 _ rfl
                go_wp2_with fail
                refine (HF.out _).mono ?_
                rintro e w6 ⟨rfl, hb6⟩
                have HS6 := Lib.hid (HS.out.call hb6)
                clear hb6 HS
                clear x1 x2 x3
                go_wp2
                have HS7 : Hid (St w [⟨w6.heap.size, #[.bool (negB (a)), .string (bs (numB (a))), .string (bs (denomB (a)))], 23⟩, ⟨w5.heap.size, #[.bool (negB (be)), .string (bs (numB (be))), .string (bs (denomB (be)))], 23⟩, ⟨w.heap.size, #[.bool false, .string (bs []), .string (bs [])], 23⟩] _) := Lib.hid (St.alloc (HS6.out) #[.bool (negB (a)), .string (bs (numB (a))), .string (bs (denomB (a)))] 23 _ (by simp))
                clear HS6
                refine wp_region_facts 11 [fun _ vv => vv = .agg #[.bool (negB (one)), .string (bs (numB (one))), .string (bs (denomB (one)))], fun _ vv => vv = .agg #[.bool (negB (a)), .string (bs (numB (a))), .string (bs (denomB (a)))], fun _ vv => vv = .bool false, fun _ vv => vv = .bool false, fun _ vv => vv = .bool false, fun _ vv => vv = .bool false, fun _ vv => vv = undef, fun _ vv => vv = undef, fun _ vv => vv = undef, fun _ vv => vv = undef, fun _ vv => vv = .bool false] rfl (by kernel_rfl) (by kernel_rfl) (by kernel_rfl) ⟨fun _ _ _ h _ => h, fun _ _ _ h _ => h, fun _ _ _ h _ => h, fun _ _ _ h _ => h, fun _ _ _ h _ => h, fun _ _ _ h _ => h, fun _ _ _ h _ => h, fun _ _ _ h _ => h, fun _ _ _ h _ => h, fun _ _ _ h _ => h, fun _ _ _ h _ => h, trivial⟩ ?_ ?_
                refine ⟨?_, ?_, ?_, ?_, ?_, ?_, ?_, ?_, ?_, ?_, ?_, trivial⟩
                · intro xx af wv hbx hev hev0 hd
                  clear hev hev0 hd
                  go_wp2_with fail
                  refine (H1.out _).mono ?_
                  rintro e w8 ⟨rfl, hb8⟩
                  go_wp2
                  exact StepQ.mk _ hb8 rfl
                · intro xx af wv hbx hev hev0 hd
                  have e9 : af.tmps[9]?.getD undef = .pointer (some ⟨w6.heap.size, 0, none⟩) := hev0 9 rfl
                  clear hev hev0 hd
                  have hs1 := Lib.hid (HS7.out.call hbx)
                  have y0 := hs1.out.cell 0 rfl 0 rfl
                  have y1 := hs1.out.cell 0 rfl 1 rfl
                  have y2 := hs1.out.cell 0 rfl 2 rfl
                  go_wp2
                  exact StepQ.mk _ (Below.refl _ _) rfl
                · intro xx af wv hbx hev hev0 hd
                  have e34 := hev 0 _ 34 rfl rfl
                  have d0 : xx 0 = .agg #[.bool (negB (one)), .string (bs (numB (one))), .string (bs (denomB (one)))] := hd ⟨0, .data⟩ (by simp) rfl
                  rw [d0] at e34
                  clear d0
                  have e35 := hev 1 _ 35 rfl rfl
                  have d1 : xx 1 = .agg #[.bool (negB (a)), .string (bs (numB (a))), .string (bs (denomB (a)))] := hd ⟨1, .data⟩ (by simp) rfl
                  rw [d1] at e35
                  clear d1
                  clear hev hev0 hd
                  go_wp2_with fail
                  refine (L1.out _).mono ?_
                  rintro e w8 ⟨rfl, hb8⟩
                  go_wp2
                  exact StepQ.mk _ hb8 rfl
                · intro xx af wv hbx hev hev0 hd
                  have e36 := hev 2 _ 36 rfl rfl
                  have d2 : xx 2 = .bool false := hd ⟨2, .data⟩ (by simp) rfl
                  rw [d2] at e36
                  clear d2
                  clear hev hev0 hd
                  go_wp2
                  exact StepQ.mk _ (Below.refl _ _) rfl
                · intro xx af wv hbx hev hev0 hd
                  have e37 := hev 3 _ 37 rfl rfl
                  have d3 : xx 3 = .bool false := hd ⟨3, .guard⟩ (by simp) rfl
                  rw [d3] at e37
                  clear d3
                  have e6 : af.tmps[6]?.getD undef = .bool false := hev0 6 rfl
                  have q37 := getD_bool e37
                  clear hev hev0 hd
                  go_wp2
                  exact StepQ.mk _ (Below.refl _ _) rfl
                · intro xx af wv hbx hev hev0 hd
                  have e37 := hev 3 _ 37 rfl rfl
                  have d3 : xx 3 = .bool false := hd ⟨3, .chain⟩ (by simp) rfl
                  rw [d3] at e37
                  clear d3
                  have e38 := hev 4 _ 38 rfl rfl
                  have d4 : xx 4 = .bool false := hd ⟨4, .data⟩ (by simp) rfl
                  rw [d4] at e38
                  clear d4
                  have q37 := getD_bool e37
                  clear hev hev0 hd
                  go_wp2
                  exact StepQ.mk _ (Below.refl _ _) rfl
                · intro xx af wv hbx hev hev0 hd
                  have e39 := hev 5 _ 39 rfl rfl
                  have d5 : xx 5 = .bool false := hd ⟨5, .guard⟩ (by simp) rfl
                  rw [d5] at e39
                  clear d5
                  have q39 := getD_bool e39
                  clear hev hev0 hd
                  go_wp2
                  exact StepQ.mk _ (Below.refl _ _) rfl
                · intro xx af wv hbx hev hev0 hd
                  have e39 := hev 5 _ 39 rfl rfl
                  have d5 : xx 5 = .bool false := hd ⟨5, .guard⟩ (by simp) rfl
                  rw [d5] at e39
                  clear d5
                  have q39 := getD_bool e39
                  clear hev hev0 hd
                  go_wp2
                  exact StepQ.mk _ (Below.refl _ _) rfl
                · intro xx af wv hbx hev hev0 hd
                  have e39 := hev 5 _ 39 rfl rfl
                  have d5 : xx 5 = .bool false := hd ⟨5, .chain⟩ (by simp) rfl
                  rw [d5] at e39
                  clear d5
                  have q39 := getD_bool e39
                  clear hev hev0 hd
                  go_wp2
                  exact StepQ.mk _ (Below.refl _ _) rfl
                · intro xx af wv hbx hev hev0 hd
                  have e39 := hev 5 _ 39 rfl rfl
                  have d5 : xx 5 = .bool false := hd ⟨5, .guard⟩ (by simp) rfl
                  rw [d5] at e39
                  clear d5
                  have q39 := getD_bool e39
                  clear hev hev0 hd
                  go_wp2
                  exact StepQ.mk _ (Below.refl _ _) rfl
                · intro xx af wv hbx hev hev0 hd
                  have e37 := hev 3 _ 37 rfl rfl
                  have d3 : xx 3 = .bool false := hd ⟨3, .guard⟩ (by simp) rfl
                  rw [d3] at e37
                  clear d3
                  have e39 := hev 5 _ 39 rfl rfl
                  have d5 : xx 5 = .bool false := hd ⟨5, .data⟩ (by simp) rfl
                  rw [d5] at e39
                  clear d5
                  have e43 := hev 9 _ 43 rfl rfl
                  have d9 : xx 9 = undef := hd ⟨9, .data⟩ (by simp) rfl
                  rw [d9] at e43
                  clear d9
                  have q37 := getD_bool e37
                  clear hev hev0 hd
                  go_wp2
                  exact StepQ.mk _ (Below.refl _ _) rfl
                intro xx w9 hb9 hv
                have hv0 : xx 0 = .agg #[.bool (negB (one)), .string (bs (numB (one))), .string (bs (denomB (one)))] := hv 0 (by decide)
                have hv1 : xx 1 = .agg #[.bool (negB (a)), .string (bs (numB (a))), .string (bs (denomB (a)))] := hv 1 (by decide)
                have hv2 : xx 2 = .bool false := hv 2 (by decide)
                have hv3 : xx 3 = .bool false := hv 3 (by decide)
                have hv4 : xx 4 = .bool false := hv 4 (by decide)
                have hv5 : xx 5 = .bool false := hv 5 (by decide)
                have hv6 : xx 6 = undef := hv 6 (by decide)
                have hv7 : xx 7 = undef := hv 7 (by decide)
                have hv8 : xx 8 = undef := hv 8 (by decide)
                have hv9 : xx 9 = undef := hv 9 (by decide)
                have hv10 : xx 10 = .bool false := hv 10 (by decide)
                clear hv
                simp only [List.take, List.drop, fillA, Act.put]
                simp only [hv0, hv1, hv2, hv3, hv4, hv5, hv6, hv7, hv8, hv9, hv10]
                clear hv0 hv1 hv2 hv3 hv4 hv5 hv6 hv7 hv8 hv9 hv10
                have HS9 := Lib.hid (HS7.out.call hb9)
                clear hb9 HS7
                have x4 := HS9.out.cell 0 rfl 0 rfl
                have x5 := HS9.out.cell 0 rfl 1 rfl
                have x6 := HS9.out.cell 0 rfl 2 rfl
                go_wp2_with fail
                refine (HTT.out _ HS9.out.below).mono ?_
                rintro e w10 ⟨rfl, hb10⟩
                have HS10 := Lib.hid (HS9.out.call hb10)
                clear hb10 HS9
                clear x4 x5 x6
                go_wp2_with fail
                refine (HPP.out _).mono ?_
                rintro e w11 ⟨rfl, hb11⟩
                have HS11 := Lib.hid (HS10.out.call hb11)
                clear hb11 HS10
                have x7 := HS11.out.cell 0 rfl 0 rfl
                have x8 := HS11.out.cell 0 rfl 1 rfl
                have x9 := HS11.out.cell 0 rfl 2 rfl
                have x10 := HS11.out.cell 1 rfl 0 rfl
                have x11 := HS11.out.cell 1 rfl 1 rfl
                have x12 := HS11.out.cell 1 rfl 2 rfl
                have x13 := HS11.out.frozen 1 rfl 0
                have x14 := HS11.out.frozen 1 rfl 1
                have x15 := HS11.out.frozen 1 rfl 2
                have x16 := HS11.out.ne 1 0 rfl rfl (by decide)
                have x17 := HS11.out.ne 0 1 rfl rfl (by decide)
                have x18 := HS11.out.ne 1 2 rfl rfl (by decide)
                have x19 := HS11.out.ne 2 1 rfl rfl (by decide)
                go_wp2
                have HS12 : Hid (St w [⟨w6.heap.size, #[.bool (negB (a)), .string (bs (numB (a))), .string (bs (denomB (a)))], 23⟩, ⟨w5.heap.size, #[.bool (negB (a)), .string (bs (numB (a))), .string (bs (denomB (a)))], 23⟩, ⟨w.heap.size, #[.bool false, .string (bs []), .string (bs [])], 23⟩] _) := Lib.hid (St.set ((St.set ((St.set (HS11.out) 1 rfl 0 _)) 1 rfl 1 _)) 1 rfl 2 _)
                go_roundw
                case rel => exact ⟨k + 1, by omega, by go_num, by rw [R.out], by show St _ _ _; rw [R.out]; exact HS12.out.sub (by simp)⟩
                case measure => simp [intOf]; omega
            · cases d2B
              · have R := x3 (of_decide_eq_false hd2.symm)
                rw [R] at had
                have R := Lib.hid (HTN.out.symm.trans had)
                clear had x1 x2 x3 x4 HTN hd1 hd2
                have x1 := HX.out _ HS.out.below 4 _ rfl
                have x2 := HX.out _ HS.out.below 5 _ rfl
                have x3 := HX.out _ HS.out.below 6 _ rfl
                go_wp2_with fail
                refine (HF.out _).mono ?_
                rintro e w6 ⟨rfl, hb6⟩
                have HS6 := Lib.hid (HS.out.call hb6)
                clear hb6 HS
                clear x1 x2 x3
                go_wp2
                have HS7 : Hid (St w [⟨w6.heap.size, #[.bool (negB (a)), .string (bs (numB (a))), .string (bs (denomB (a)))], 23⟩, ⟨w5.heap.size, #[.bool (negB (be)), .string (bs (numB (be))), .string (bs (denomB (be)))], 23⟩, ⟨w.heap.size, #[.bool false, .string (bs []), .string (bs [])], 23⟩] _) := Lib.hid (St.alloc (HS6.out) #[.bool (negB (a)), .string (bs (numB (a))), .string (bs (denomB (a)))] 23 _ (by simp))
                clear HS6
                refine wp_region_facts 11 [fun _ vv => vv = .agg #[.bool (negB (one)), .string (bs (numB (one))), .string (bs (denomB (one)))], fun _ vv => vv = .agg #[.bool (negB (a)), .string (bs (numB (a))), .string (bs (denomB (a)))], fun _ vv => vv = .bool false, fun _ vv => vv = .bool false, fun _ vv => vv = .bool true, fun _ vv => vv = .bool true, fun _ vv => vv = .agg #[.bool (negB (a)), .string (bs (numB (a))), .string (bs (denomB (a)))], fun _ vv => vv = .agg #[.bool (negB (be)), .string (bs (numB (be))), .string (bs (denomB (be)))], fun _ vv => vv = .bool false, fun _ vv => vv = .bool true, fun _ vv => vv = .bool true] rfl (by kernel_rfl) (by kernel_rfl) (by kernel_rfl) ⟨fun _ _ _ h _ => h, fun _ _ _ h _ => h, fun _ _ _ h _ => h, fun _ _ _ h _ => h, fun _ _ _ h _ => h, fun _ _ _ h _ => h, fun _ _ _ h _ => h, fun _ _ _ h _ => h, fun _ _ _ h _ => h, fun _ _ _ h _ => h, fun _ _ _ h _ => h, trivial⟩ ?_ ?_
                refine ⟨?_, ?_, ?_, ?_, ?_, ?_, ?_, ?_, ?_, ?_, ?_, trivial⟩
                · intro xx af wv hbx hev hev0 hd
                  clear hev hev0 hd
                  go_wp2_with fail
                  refine (H1.out _).mono ?_
                  rintro e w8 ⟨rfl, hb8⟩
                  go_wp2
                  exact StepQ.mk _ hb8 rfl
                · intro xx af wv hbx hev hev0 hd
                  have e9 : af.tmps[9]?.getD undef = .pointer (some ⟨w6.heap.size, 0, none⟩) := hev0 9 rfl
                  clear hev hev0 hd
                  have hs1 := Lib.hid (HS7.out.call hbx)
                  have y0 := hs1.out.cell 0 rfl 0 rfl
                  have y1 := hs1.out.cell 0 rfl 1 rfl
                  have y2 := hs1.out.cell 0 rfl 2 rfl
                  go_wp2
                  exact StepQ.mk _ (Below.refl _ _) rfl
                · intro xx af wv hbx hev hev0 hd
                  have e34 := hev 0 _ 34 rfl rfl
                  have d0 : xx 0 = .agg #[.bool (negB (one)), .string (bs (numB (one))), .string (bs (denomB (one)))] := hd ⟨0, .data⟩ (by simp) rfl
                  rw [d0] at e34
                  clear d0
                  have e35 := hev 1 _ 35 rfl rfl
                  have d1 : xx 1 = .agg #[.bool (negB (a)), .string (bs (numB (a))), .string (bs (denomB (a)))] := hd ⟨1, .data⟩ (by simp) rfl
                  rw [d1] at e35
                  clear d1
                  clear hev hev0 hd
                  go_wp2_with fail
                  refine (L1.out _).mono ?_
                  rintro e w8 ⟨rfl, hb8⟩
                  go_wp2
                  exact StepQ.mk _ hb8 rfl
                · intro xx af wv hbx hev hev0 hd
                  have e36 := hev 2 _ 36 rfl rfl
                  have d2 : xx 2 = .bool false := hd ⟨2, .data⟩ (by simp) rfl
                  rw [d2] at e36
                  clear d2
                  clear hev hev0 hd
                  go_wp2
                  exact StepQ.mk _ (Below.refl _ _) rfl
                · intro xx af wv hbx hev hev0 hd
                  have e37 := hev 3 _ 37 rfl rfl
                  have d3 : xx 3 = .bool false := hd ⟨3, .guard⟩ (by simp) rfl
                  rw [d3] at e37
                  clear d3
                  have e6 : af.tmps[6]?.getD undef = .bool true := hev0 6 rfl
                  have q37 := getD_bool e37
                  clear hev hev0 hd
                  go_wp2
                  exact StepQ.mk _ (Below.refl _ _) rfl
                · intro xx af wv hbx hev hev0 hd
                  have e37 := hev 3 _ 37 rfl rfl
                  have d3 : xx 3 = .bool false := hd ⟨3, .chain⟩ (by simp) rfl
                  rw [d3] at e37
                  clear d3
                  have e38 := hev 4 _ 38 rfl rfl
                  have d4 : xx 4 = .bool true := hd ⟨4, .data⟩ (by simp) rfl
                  rw [d4] at e38
                  clear d4
                  have q37 := getD_bool e37
                  clear hev hev0 hd
                  go_wp2
                  exact StepQ.mk _ (Below.refl _ _) rfl
                · intro xx af wv hbx hev hev0 hd
                  have e39 := hev 5 _ 39 rfl rfl
                  have d5 : xx 5 = .bool true := hd ⟨5, .guard⟩ (by simp) rfl
                  rw [d5] at e39
                  clear d5
                  have e9 : af.tmps[9]?.getD undef = .pointer (some ⟨w6.heap.size, 0, none⟩) := hev0 9 rfl
                  have q39 := getD_bool e39
                  clear hev hev0 hd
                  have hs1 := Lib.hid (HS7.out.call hbx)
                  have y0 := hs1.out.cell 0 rfl 0 rfl
                  have y1 := hs1.out.cell 0 rfl 1 rfl
                  have y2 := hs1.out.cell 0 rfl 2 rfl
                  go_wp2
                  exact StepQ.mk _ (Below.refl _ _) rfl
                · intro xx af wv hbx hev hev0 hd
                  have e39 := hev 5 _ 39 rfl rfl
                  have d5 : xx 5 = .bool true := hd ⟨5, .guard⟩ (by simp) rfl
                  rw [d5] at e39
                  clear d5
                  have e7 : af.tmps[7]?.getD undef = .pointer (some ⟨w5.heap.size, 0, none⟩) := hev0 7 rfl
                  have q39 := getD_bool e39
                  clear hev hev0 hd
                  have hs1 := Lib.hid (HS7.out.call hbx)
                  have y0 := hs1.out.cell 1 rfl 0 rfl
                  have y1 := hs1.out.cell 1 rfl 1 rfl
                  have y2 := hs1.out.cell 1 rfl 2 rfl
                  go_wp2
                  exact StepQ.mk _ (Below.refl _ _) rfl
                · intro xx af wv hbx hev hev0 hd
                  have e39 := hev 5 _ 39 rfl rfl
                  have d5 : xx 5 = .bool true := hd ⟨5, .chain⟩ (by simp) rfl
                  rw [d5] at e39
                  clear d5
                  have e40 := hev 6 _ 40 rfl rfl
                  have d6 : xx 6 = .agg #[.bool (negB (a)), .string (bs (numB (a))), .string (bs (denomB (a)))] := hd ⟨6, .data⟩ (by simp) rfl
                  rw [d6] at e40
                  clear d6
                  have e41 := hev 7 _ 41 rfl rfl
                  have d7 : xx 7 = .agg #[.bool (negB (be)), .string (bs (numB (be))), .string (bs (denomB (be)))] := hd ⟨7, .data⟩ (by simp) rfl
                  rw [d7] at e41
                  clear d7
                  have q39 := getD_bool e39
                  clear hev hev0 hd
                  go_wp2_with fail
                  refine (L2.out _).mono ?_
                  rintro e w8 ⟨rfl, hb8⟩
                  go_wp2
                  exact StepQ.mk _ hb8 rfl
                · intro xx af wv hbx hev hev0 hd
                  have e39 := hev 5 _ 39 rfl rfl
                  have d5 : xx 5 = .bool true := hd ⟨5, .guard⟩ (by simp) rfl
                  rw [d5] at e39
                  clear d5
                  have e42 := hev 8 _ 42 rfl rfl
                  have d8 : xx 8 = .bool false := hd ⟨8, .data⟩ (by simp) rfl
                  rw [d8] at e42
                  clear d8
                  have q39 := getD_bool e39
                  clear hev hev0 hd
                  go_wp2
                  exact StepQ.mk _ (Below.refl _ _) rfl
                · intro xx af wv hbx hev hev0 hd
                  have e37 := hev 3 _ 37 rfl rfl
                  have d3 : xx 3 = .bool false := hd ⟨3, .guard⟩ (by simp) rfl
                  rw [d3] at e37
                  clear d3
                  have e39 := hev 5 _ 39 rfl rfl
                  have d5 : xx 5 = .bool true := hd ⟨5, .data⟩ (by simp) rfl
                  rw [d5] at e39
                  clear d5
                  have e43 := hev 9 _ 43 rfl rfl
                  have d9 : xx 9 = .bool true := hd ⟨9, .data⟩ (by simp) rfl
                  rw [d9] at e43
                  clear d9
                  have q37 := getD_bool e37
                  clear hev hev0 hd
                  go_wp2
                  exact StepQ.mk _ (Below.refl _ _) rfl
                intro xx w9 hb9 hv
                have hv0 : xx 0 = .agg #[.bool (negB (one)), .string (bs (numB (one))), .string (bs (denomB (one)))] := hv 0 (by decide)
                have hv1 : xx 1 = .agg #[.bool (negB (a)), .string (bs (numB (a))), .string (bs (denomB (a)))] := hv 1 (by decide)
                have hv2 : xx 2 = .bool false := hv 2 (by decide)
                have hv3 : xx 3 = .bool false := hv 3 (by decide)
                have hv4 : xx 4 = .bool true := hv 4 (by decide)
                have hv5 : xx 5 = .bool true := hv 5 (by decide)
                have hv6 : xx 6 = .agg #[.bool (negB (a)), .string (bs (numB (a))), .string (bs (denomB (a)))] := hv 6 (by decide)
                have hv7 : xx 7 = .agg #[.bool (negB (be)), .string (bs (numB (be))), .string (bs (denomB (be)))] := hv 7 (by decide)
                have hv8 : xx 8 = .bool false := hv 8 (by decide)
                have hv9 : xx 9 = .bool true := hv 9 (by decide)
                have hv10 : xx 10 = .bool true := hv 10 (by decide)
                clear hv
                simp only [List.take, List.drop, fillA, Act.put]
                simp only [hv0, hv1, hv2, hv3, hv4, hv5, hv6, hv7, hv8, hv9, hv10]
                clear hv0 hv1 hv2 hv3 hv4 hv5 hv6 hv7 hv8 hv9 hv10
                have HS9 := Lib.hid (HS7.out.call hb9)
                clear hb9 HS7
                go_wp2
                have HS10 : Hid (St w [⟨w6.heap.size, #[.bool (negB (a)), .string (bs (numB (a))), .string (bs (denomB (a)))], 23⟩, ⟨w5.heap.size, #[.bool (negB (be)), .string (bs (numB (be))), .string (bs (denomB (be)))], 23⟩, ⟨w.heap.size, #[.bool false, .string (bs []), .string (bs [])], 23⟩] _) := Lib.hid HS9.out
                go_roundw
                case rel => exact ⟨k + 1, by omega, by go_num, by rw [R.out], by show St _ _ _; rw [R.out]; exact HS10.out.sub (by simp)⟩
                case measure => simp [intOf]; omega
              · cases pB
                · have R := x4 (of_decide_eq_false hd1.symm) (of_decide_eq_true hd2.symm)
                  try simp only [if_false, Bool.false_eq_true] at R
                  rw [R] at had
                  have R := Lib.hid (HTN.out.symm.trans had)
                  clear had x1 x2 x3 x4 HTN hd1 hd2
                  have x1 := HX.out _ HS.out.below 4 _ rfl
                  have x2 := HX.out _ HS.out.below 5 _ rfl
                  have x3 := HX.out _ HS.out.below 6 _ rfl
                  go_wp2_with fail
                  refine (HF.out _).mono ?_
                  rintro e w6 ⟨rfl, hb6⟩
                  have HS6 := Lib.hid (HS.out.call hb6)
                  clear hb6 HS
                  clear x1 x2 x3
                  go_wp2
                  have HS7 : Hid (St w [⟨w6.heap.size, #[.bool (negB (a)), .string (bs (numB (a))), .string (bs (denomB (a)))], 23⟩, ⟨w5.heap.size, #[.bool (negB (be)), .string (bs (numB (be))), .string (bs (denomB (be)))], 23⟩, ⟨w.heap.size, #[.bool false, .string (bs []), .string (bs [])], 23⟩] _) := Lib.hid (St.alloc (HS6.out) #[.bool (negB (a)), .string (bs (numB (a))), .string (bs (denomB (a)))] 23 _ (by simp))
                  clear HS6
                  refine wp_region_facts 11 [fun _ vv => vv = .agg #[.bool (negB (one)), .string (bs (numB (one))), .string (bs (denomB (one)))], fun _ vv => vv = .agg #[.bool (negB (a)), .string (bs (numB (a))), .string (bs (denomB (a)))], fun _ vv => vv = .bool false, fun _ vv => vv = .bool false, fun _ vv => vv = .bool true, fun _ vv => vv = .bool true, fun _ vv => vv = .agg #[.bool (negB (a)), .string (bs (numB (a))), .string (bs (denomB (a)))], fun _ vv => vv = .agg #[.bool (negB (be)), .string (bs (numB (be))), .string (bs (denomB (be)))], fun _ vv => vv = .bool true, fun _ vv => vv = .bool false, fun _ vv => vv = .bool false] rfl (by kernel_rfl) (by kernel_rfl) (by kernel_rfl) ⟨fun _ _ _ h _ => h, fun _ _ _ h _ => h, fun _ _ _ h _ => h, fun _ _ _ h _ => h, fun _ _ _ h _ => h, fun _ _ _ h _ => h, fun _ _ _ h _ => h, fun _ _ _ h _ => h, fun _ _ _ h _ => h, fun _ _ _ h _ => h, fun _ _ _ h _ => h, trivial⟩ ?_ ?_
                  refine ⟨?_, ?_, ?_, ?_, ?_, ?_, ?_, ?_, ?_, ?_, ?_, trivial⟩
                  · intro xx af wv hbx hev hev0 hd
                    clear hev hev0 hd
                    go_wp2_with fail
                    refine (H1.out _).mono ?_
                    rintro e w8 ⟨rfl, hb8⟩
                    go_wp2
                    exact StepQ.mk _ hb8 rfl
                  · intro xx af wv hbx hev hev0 hd
                    have e9 : af.tmps[9]?.getD undef = .pointer (some ⟨w6.heap.size, 0, none⟩) := hev0 9 rfl
                    clear hev hev0 hd
                    have hs1 := Lib.hid (HS7.out.call hbx)
                    have y0 := hs1.out.cell 0 rfl 0 rfl
                    have y1 := hs1.out.cell 0 rfl 1 rfl
                    have y2 := hs1.out.cell 0 rfl 2 rfl
                    go_wp2
                    exact StepQ.mk _ (Below.refl _ _) rfl
                  · intro xx af wv hbx hev hev0 hd
                    have e34 := hev 0 _ 34 rfl rfl
                    have d0 : xx 0 = .agg #[.bool (negB (one)), .string (bs (numB (one))), .string (bs (denomB (one)))] := hd ⟨0, .data⟩ (by simp) rfl
                    rw [d0] at e34
                    clear d0
                    have e35 := hev 1 _ 35 rfl rfl
                    have d1 : xx 1 = .agg #[.bool (negB (a)), .string (bs (numB (a))), .string (bs (denomB (a)))] := hd ⟨1, .data⟩ (by simp) rfl
                    rw [d1] at e35
                    clear d1
                    clear hev hev0 hd
                    go_wp2_with fail
                    refine (L1.out _).mono ?_
                    rintro e w8 ⟨rfl, hb8⟩
                    go_wp2
                    exact StepQ.mk _ hb8 rfl
                  · intro xx af wv hbx hev hev0 hd
                    have e36 := hev 2 _ 36 rfl rfl
                    have d2 : xx 2 = .bool false := hd ⟨2, .data⟩ (by simp) rfl
                    rw [d2] at e36
                    clear d2
                    clear hev hev0 hd
                    go_wp2
                    exact StepQ.mk _ (Below.refl _ _) rfl
                  · intro xx af wv hbx hev hev0 hd
                    have e37 := hev 3 _ 37 rfl rfl
                    have d3 : xx 3 = .bool false := hd ⟨3, .guard⟩ (by simp) rfl
                    rw [d3] at e37
                    clear d3
                    have e6 : af.tmps[6]?.getD undef = .bool true := hev0 6 rfl
                    have q37 := getD_bool e37
                    clear hev hev0 hd
                    go_wp2
                    exact StepQ.mk _ (Below.refl _ _) rfl
                  · intro xx af wv hbx hev hev0 hd
                    have e37 := hev 3 _ 37 rfl rfl
                    have d3 : xx 3 = .bool false := hd ⟨3, .chain⟩ (by simp) rfl
                    rw [d3] at e37
                    clear d3
                    have e38 := hev 4 _ 38 rfl rfl
                    have d4 : xx 4 = .bool true := hd ⟨4, .data⟩ (by simp) rfl
                    rw [d4] at e38
                    clear d4
                    have q37 := getD_bool e37
                    clear hev hev0 hd
                    go_wp2
                    exact StepQ.mk _ (Below.refl _ _) rfl
                  · intro xx af wv hbx hev hev0 hd
                    have e39 := hev 5 _ 39 rfl rfl
                    have d5 : xx 5 = .bool true := hd ⟨5, .guard⟩ (by simp) rfl
                    rw [d5] at e39
                    clear d5
                    have e9 : af.tmps[9]?.getD undef = .pointer (some ⟨w6.heap.size, 0, none⟩) := hev0 9 rfl
                    have q39 := getD_bool e39
                    clear hev hev0 hd
                    have hs1 := Lib.hid (HS7.out.call hbx)
                    have y0 := hs1.out.cell 0 rfl 0 rfl
                    have y1 := hs1.out.cell 0 rfl 1 rfl
                    have y2 := hs1.out.cell 0 rfl 2 rfl
                    go_wp2
                    exact StepQ.mk _ (Below.refl _ _) rfl
                  · intro xx af wv hbx hev hev0 hd
                    have e39 := hev 5 _ 39 rfl rfl
                    have d5 : xx 5 = .bool true := hd ⟨5, .guard⟩ (by simp) rfl
                    rw [d5] at e39
                    clear d5
                    have e7 : af.tmps[7]?.getD undef = .pointer (some ⟨w5.heap.size, 0, none⟩) := hev0 7 rfl
                    have q39 := getD_bool e39
                    clear hev hev0 hd
                    have hs1 := Lib.hid (HS7.out.call hbx)
                    have y0 := hs1.out.cell 1 rfl 0 rfl
                    have y1 := hs1.out.cell 1 rfl 1 rfl
                    have y2 := hs1.out.cell 1 rfl 2 rfl
                    go_wp2
                    exact StepQ.mk _ (Below.refl _ _) rfl
                  · intro xx af wv hbx hev hev0 hd
                    have e39 := hev 5 _ 39 rfl rfl
                    have d5 : xx 5 = .bool true := hd ⟨5, .chain⟩ (by simp) rfl
                    rw [d5] at e39
                    clear d5
                    have e40 := hev 6 _ 40 rfl rfl
                    have d6 : xx 6 = .agg #[.bool (negB (a)), .string (bs (numB (a))), .string (bs (denomB (a)))] := hd ⟨6, .data⟩ (by simp) rfl
                    rw [d6] at e40
                    clear d6
                    have e41 := hev 7 _ 41 rfl rfl
                    have d7 : xx 7 = .agg #[.bool (negB (be)), .string (bs (numB (be))), .string (bs (denomB (be)))] := hd ⟨7, .data⟩ (by simp) rfl
                    rw [d7] at e41
                    clear d7
                    have q39 := getD_bool e39
                    clear hev hev0 hd
                    go_wp2_with fail
                    refine (L2.out _).mono ?_
                    rintro e w8 ⟨rfl, hb8⟩
                    go_wp2
                    exact StepQ.mk _ hb8 rfl
                  · intro xx af wv hbx hev hev0 hd
                    have e39 := hev 5 _ 39 rfl rfl
                    have d5 : xx 5 = .bool true := hd ⟨5, .guard⟩ (by simp) rfl
                    rw [d5] at e39
                    clear d5
                    have e42 := hev 8 _ 42 rfl rfl
                    have d8 : xx 8 = .bool true := hd ⟨8, .data⟩ (by simp) rfl
                    rw [d8] at e42
                    clear d8
                    have q39 := getD_bool e39
                    clear hev hev0 hd
                    go_wp2
                    exact StepQ.mk _ (Below.refl _ _) rfl
                  · intro xx af wv hbx hev hev0 hd
                    have e37 := hev 3 _ 37 rfl rfl
                    have d3 : xx 3 = .bool false := hd ⟨3, .guard⟩ (by simp) rfl
                    rw [d3] at e37
                    clear d3
                    have e39 := hev 5 _ 39 rfl rfl
                    have d5 : xx 5 = .bool true := hd ⟨5, .data⟩ (by simp) rfl
                    rw [d5] at e39
                    clear d5
                    have e43 := hev 9 _ 43 rfl rfl
                    have d9 : xx 9 = .bool false := hd ⟨9, .data⟩ (by simp) rfl
                    rw [d9] at e43
                    clear d9
                    have q37 := getD_bool e37
                    clear hev hev0 hd
                    go_wp2
                    exact StepQ.mk _ (Below.refl _ _) rfl
                  intro xx w9 hb9 hv
                  have hv0 : xx 0 = .agg #[.bool (negB (one)), .string (bs (numB (one))), .string (bs (denomB (one)))] := hv 0 (by decide)
                  have hv1 : xx 1 = .agg #[.bool (negB (a)), .string (bs (numB (a))), .string (bs (denomB (a)))] := hv 1 (by decide)
                  have hv2 : xx 2 = .bool false := hv 2 (by decide)
                  have hv3 : xx 3 = .bool false := hv 3 (by decide)
                  have hv4 : xx 4 = .bool true := hv 4 (by decide)
                  have hv5 : xx 5 = .bool true := hv 5 (by decide)
                  have hv6 : xx 6 = .agg #[.bool (negB (a)), .string (bs (numB (a))), .string (bs (denomB (a)))] := hv 6 (by decide)
                  have hv7 : xx 7 = .agg #[.bool (negB (be)), .string (bs (numB (be))), .string (bs (denomB (be)))] := hv 7 (by decide)
                  have hv8 : xx 8 = .bool true := hv 8 (by decide)
                  have hv9 : xx 9 = .bool false := hv 9 (by decide)
                  have hv10 : xx 10 = .bool false := hv 10 (by decide)
                  clear hv
                  simp only [List.take, List.drop, fillA, Act.put]
                  simp only [hv0, hv1, hv2, hv3, hv4, hv5, hv6, hv7, hv8, hv9, hv10]
                  clear hv0 hv1 hv2 hv3 hv4 hv5 hv6 hv7 hv8 hv9 hv10
                  have HS9 := Lib.hid (HS7.out.call hb9)
                  clear hb9 HS7
                  have x4 := HS9.out.cell 0 rfl 0 rfl
                  have x5 := HS9.out.cell 0 rfl 1 rfl
                  have x6 := HS9.out.cell 0 rfl 2 rfl
                  go_wp2_with fail
                  refine (HTT.out _ HS9.out.below).mono ?_
                  rintro e w10 ⟨rfl, hb10⟩
                  have HS10 := Lib.hid (HS9.out.call hb10)
                  clear hb10 HS9
                  clear x4 x5 x6
                  go_wp2_with fail
                  refine (HPP.out _).mono ?_
                  rintro e w11 ⟨rfl, hb11⟩
                  have HS11 := Lib.hid (HS10.out.call hb11)
                  clear hb11 HS10
                  go_wp2
                  have HS12 : Hid (St w [⟨w6.heap.size, #[.bool (negB (a)), .string (bs (numB (a))), .string (bs (denomB (a)))], 23⟩, ⟨w5.heap.size, #[.bool (negB (be)), .string (bs (numB (be))), .string (bs (denomB (be)))], 23⟩, ⟨w.heap.size, #[.bool false, .string (bs []), .string (bs [])], 23⟩] _) := Lib.hid HS11.out
                  go_roundw
                  case rel => exact ⟨k + 1, by omega, by go_num, by rw [R.out], by show St _ _ _; rw [R.out]; exact HS12.out.sub (by simp)⟩
                  case measure => simp [intOf]; omega
                · have R := x4 (of_decide_eq_false hd1.symm) (of_decide_eq_true hd2.symm)
                  try simp only [if_true] at R
                  rw [R] at had
                  have R := Lib.hid (HTN.out.symm.trans had)
                  clear had x1 x2 x3 x4 HTN hd1 hd2
                  have x1 := HX.out _ HS.out.below 4 _ rfl
                  have x2 := HX.out _ HS.out.below 5 _ rfl
                  have x3 := HX.out _ HS.out.below 6 _ rfl
                  go_wp2_with fail
                  refine (HF.out _).mono ?_
                  rintro e w6 ⟨rfl, hb6⟩
                  have HS6 := Lib.hid (HS.out.call hb6)
                  clear hb6 HS
                  clear x1 x2 x3
                  go_wp2
                  have HS7 : Hid (St w [⟨w6.heap.size, #[.bool (negB (a)), .string (bs (numB (a))), .string (bs (denomB (a)))], 23⟩, ⟨w5.heap.size, #[.bool (negB (be)), .string (bs (numB (be))), .string (bs (denomB (be)))], 23⟩, ⟨w.heap.size, #[.bool false, .string (bs []), .string (bs [])], 23⟩] _) := Lib.hid (St.alloc (HS6.out) #[.bool (negB (a)), .string (bs (numB (a))), .string (bs (denomB (a)))] 23 _ (by simp))
                  clear HS6
                  refine wp_region_facts 11 [fun _ vv => vv = .agg #[.bool (negB (one)), .string (bs (numB (one))), .string (bs (denomB (one)))], fun _ vv => vv = .agg #[.bool (negB (a)), .string (bs (numB (a))), .string (bs (denomB (a)))], fun _ vv => vv = .bool false, fun _ vv => vv = .bool false, fun _ vv => vv = .bool true, fun _ vv => vv = .bool true, fun _ vv => vv = .agg #[.bool (negB (a)), .string (bs (numB (a))), .string (bs (denomB (a)))], fun _ vv => vv = .agg #[.bool (negB (be)), .string (bs (numB (be))), .string (bs (denomB (be)))], fun _ vv => vv = .bool true, fun _ vv => vv = .bool false, fun _ vv => vv = .bool false] rfl (by kernel_rfl) (by kernel_rfl) (by kernel_rfl) ⟨fun _ _ _ h _ => h, fun _ _ _ h _ => h, fun _ _ _ h _ => h, fun _ _ _ h _ => h, fun _ _ _ h _ => h, fun _ _ _ h _ => h, fun _ _ _ h _ => h, fun _ _ _ h _ => h, fun _ _ _ h _ => h, fun _ _ _ h _ => h, fun _ _ _ h _ => h, trivial⟩ ?_ ?_
                  refine ⟨?_, ?_, ?_, ?_, ?_, ?_, ?_, ?_, ?_, ?_, ?_, trivial⟩
                  · intro xx af wv hbx hev hev0 hd
                    clear hev hev0 hd
                    go_wp2_with fail
                    refine (H1.out _).mono ?_
                    rintro e w8 ⟨rfl, hb8⟩
                    go_wp2
                    exact StepQ.mk _ hb8 rfl
                  · intro xx af wv hbx hev hev0 hd
                    have e9 : af.tmps[9]?.getD undef = .pointer (some ⟨w6.heap.size, 0, none⟩) := hev0 9 rfl
                    clear hev hev0 hd
                    have hs1 := Lib.hid (HS7.out.call hbx)
                    have y0 := hs1.out.cell 0 rfl 0 rfl
                    have y1 := hs1.out.cell 0 rfl 1 rfl
                    have y2 := hs1.out.cell 0 rfl 2 rfl
                    go_wp2
                    exact StepQ.mk _ (Below.refl _ _) rfl
                  · intro xx af wv hbx hev hev0 hd
                    have e34 := hev 0 _ 34 rfl rfl
                    have d0 : xx 0 = .agg #[.bool (negB (one)), .string (bs (numB (one))), .string (bs (denomB (one)))] := hd ⟨0, .data⟩ (by simp) rfl
                    rw [d0] at e34
                    clear d0
                    have e35 := hev 1 _ 35 rfl rfl
                    have d1 : xx 1 = .agg #[.bool (negB (a)), .string (bs (numB (a))), .string (bs (denomB (a)))] := hd ⟨1, .data⟩ (by simp) rfl
                    rw [d1] at e35
                    clear d1
                    clear hev hev0 hd
                    go_wp2_with fail
                    refine (L1.out _).mono ?_
                    rintro e w8 ⟨rfl, hb8⟩
                    go_wp2
                    exact StepQ.mk _ hb8 rfl
                  · intro xx af wv hbx hev hev0 hd
                    have e36 := hev 2 _ 36 rfl rfl
                    have d2 : xx 2 = .bool false := hd ⟨2, .data⟩ (by simp) rfl
                    rw [d2] at e36
                    clear d2
                    clear hev hev0 hd
                    go_wp2
                    exact StepQ.mk _ (Below.refl _ _) rfl
                  · intro xx af wv hbx hev hev0 hd
                    have e37 := hev 3 _ 37 rfl rfl
                    have d3 : xx 3 = .bool false := hd ⟨3, .guard⟩ (by simp) rfl
                    rw [d3] at e37
                    clear d3
                    have e6 : af.tmps[6]?.getD undef = .bool true := hev0 6 rfl
                    have q37 := getD_bool e37
                    clear hev hev0 hd
                    go_wp2
                    exact StepQ.mk _ (Below.refl _ _) rfl
                  · intro xx af wv hbx hev hev0 hd
                    have e37 := hev 3 _ 37 rfl rfl
                    have d3 : xx 3 = .bool false := hd ⟨3, .chain⟩ (by simp) rfl
                    rw [d3] at e37
                    clear d3
                    have e38 := hev 4 _ 38 rfl rfl
                    have d4 : xx 4 = .bool true := hd ⟨4, .data⟩ (by simp) rfl
                    rw [d4] at e38
                    clear d4
                    have q37 := getD_bool e37
                    clear hev hev0 hd
                    go_wp2
                    exact StepQ.mk _ (Below.refl _ _) rfl
                  · intro xx af wv hbx hev hev0 hd
                    have e39 := hev 5 _ 39 rfl rfl
                    have d5 : xx 5 = .bool true := hd ⟨5, .guard⟩ (by simp) rfl
                    rw [d5] at e39
                    clear d5
                    have e9 : af.tmps[9]?.getD undef = .pointer (some ⟨w6.heap.size, 0, none⟩) := hev0 9 rfl
                    have q39 := getD_bool e39
                    clear hev hev0 hd
                    have hs1 := Lib.hid (HS7.out.call hbx)
                    have y0 := hs1.out.cell 0 rfl 0 rfl
                    have y1 := hs1.out.cell 0 rfl 1 rfl
                    have y2 := hs1.out.cell 0 rfl 2 rfl
                    go_wp2
                    exact StepQ.mk _ (Below.refl _ _) rfl
                  · intro xx af wv hbx hev hev0 hd
                    have e39 := hev 5 _ 39 rfl rfl
                    have d5 : xx 5 = .bool true := hd ⟨5, .guard⟩ (by simp) rfl
                    rw [d5] at e39
                    clear d5
                    have e7 : af.tmps[7]?.getD undef = .pointer (some ⟨w5.heap.size, 0, none⟩) := hev0 7 rfl
                    have q39 := getD_bool e39
                    clear hev hev0 hd
                    have hs1 := Lib.hid (HS7.out.call hbx)
                    have y0 := hs1.out.cell 1 rfl 0 rfl
                    have y1 := hs1.out.cell 1 rfl 1 rfl
                    have y2 := hs1.out.cell 1 rfl 2 rfl
                    go_wp2
                    exact StepQ.mk _ (Below.refl _ _) rfl
                  · intro xx af wv hbx hev hev0 hd
                    have e39 := hev 5 _ 39 rfl rfl
                    have d5 : xx 5 = .bool true := hd ⟨5, .chain⟩ (by simp) rfl
                    rw [d5] at e39
                    clear d5
                    have e40 := hev 6 _ 40 rfl rfl
                    have d6 : xx 6 = .agg #[.bool (negB (a)), .string (bs (numB (a))), .string (bs (denomB (a)))] := hd ⟨6, .data⟩ (by simp) rfl
                    rw [d6] at e40
                    clear d6
                    have e41 := hev 7 _ 41 rfl rfl
                    have d7 : xx 7 = .agg #[.bool (negB (be)), .string (bs (numB (be))), .string (bs (denomB (be)))] := hd ⟨7, .data⟩ (by simp) rfl
                    rw [d7] at e41
                    clear d7
                    have q39 := getD_bool e39
                    clear hev hev0 hd
                    go_wp2_with fail
                    refine (L2.out _).mono ?_
                    rintro e w8 ⟨rfl, hb8⟩
                    go_wp2
                    exact StepQ.mk _ hb8 rfl
                  · intro xx af wv hbx hev hev0 hd
                    have e39 := hev 5 _ 39 rfl rfl
                    have d5 : xx 5 = .bool true := hd ⟨5, .guard⟩ (by simp) rfl
                    rw [d5] at e39
                    clear d5
                    have e42 := hev 8 _ 42 rfl rfl
                    have d8 : xx 8 = .bool true := hd ⟨8, .data⟩ (by simp) rfl
                    rw [d8] at e42
                    clear d8
                    have q39 := getD_bool e39
                    clear hev hev0 hd
                    go_wp2
                    exact StepQ.mk _ (Below.refl _ _) rfl
                  · intro xx af wv hbx hev hev0 hd
                    have e37 := hev 3 _ 37 rfl rfl
                    have d3 : xx 3 = .bool false := hd ⟨3, .guard⟩ (by simp) rfl
                    rw [d3] at e37
                    clear d3
                    have e39 := hev 5 _ 39 rfl rfl
                    have d5 : xx 5 = .bool true := hd ⟨5, .data⟩ (by simp) rfl
                    rw [d5] at e39
                    clear d5
                    have e43 := hev 9 _ 43 rfl rfl
                    have d9 : xx 9 = .bool false := hd ⟨9, .data⟩ (by simp) rfl
                    rw [d9] at e43
                    clear d9
                    have q37 := getD_bool e37
                    clear hev hev0 hd
                    go_wp2
                    exact StepQ.mk _ (Below.refl _ _) rfl
                  intro xx w9 hb9 hv
                  have hv0 : xx 0 = .agg #[.bool (negB (one)), .string (bs (numB (one))), .string (bs (denomB (one)))] := hv 0 (by decide)
                  have hv1 : xx 1 = .agg #[.bool (negB (a)), .string (bs (numB (a))), .string (bs (denomB (a)))] := hv 1 (by decide)
                  have hv2 : xx 2 = .bool false := hv 2 (by decide)
                  have hv3 : xx 3 = .bool false := hv 3 (by decide)
                  have hv4 : xx 4 = .bool true := hv 4 (by decide)
                  have hv5 : xx 5 = .bool true := hv 5 (by decide)
                  have hv6 : xx 6 = .agg #[.bool (negB (a)), .string (bs (numB (a))), .string (bs (denomB (a)))] := hv 6 (by decide)
                  have hv7 : xx 7 = .agg #[.bool (negB (be)), .string (bs (numB (be))), .string (bs (denomB (be)))] := hv 7 (by decide)
                  have hv8 : xx 8 = .bool true := hv 8 (by decide)
                  have hv9 : xx 9 = .bool false := hv 9 (by decide)
                  have hv10 : xx 10 = .bool false := hv 10 (by decide)
                  clear hv
                  simp only [List.take, List.drop, fillA, Act.put]
                  simp only [hv0, hv1, hv2, hv3, hv4, hv5, hv6, hv7, hv8, hv9, hv10]
                  clear hv0 hv1 hv2 hv3 hv4 hv5 hv6 hv7 hv8 hv9 hv10
                  have HS9 := Lib.hid (HS7.out.call hb9)
                  clear hb9 HS7
                  have x4 := HS9.out.cell 0 rfl 0 rfl
                  have x5 := HS9.out.cell 0 rfl 1 rfl
                  have x6 := HS9.out.cell 0 rfl 2 rfl
                  go_wp2_with fail
                  refine (HTT.out _ HS9.out.below).mono ?_
                  rintro e w10 ⟨rfl, hb10⟩
                  have HS10 := Lib.hid (HS9.out.call hb10)
                  clear hb10 HS9
                  clear x4 x5 x6
                  go_wp2_with fail
                  refine (HPP.out _).mono ?_
                  rintro e w11 ⟨rfl, hb11⟩
                  have HS11 := Lib.hid (HS10.out.call hb11)
                  clear hb11 HS10
                  have x7 := HS11.out.cell 0 rfl 0 rfl
                  have x8 := HS11.out.cell 0 rfl 1 rfl
                  have x9 := HS11.out.cell 0 rfl 2 rfl
                  have x10 := HS11.out.cell 1 rfl 0 rfl
                  have x11 := HS11.out.cell 1 rfl 1 rfl
                  have x12 := HS11.out.cell 1 rfl 2 rfl
                  have x13 := HS11.out.frozen 1 rfl 0
                  have x14 := HS11.out.frozen 1 rfl 1
                  have x15 := HS11.out.frozen 1 rfl 2
                  have x16 := HS11.out.ne 1 0 rfl rfl (by decide)
                  have x17 := HS11.out.ne 0 1 rfl rfl (by decide)
                  have x18 := HS11.out.ne 1 2 rfl rfl (by decide)
                  have x19 := HS11.out.ne 2 1 rfl rfl (by decide)
                  go_wp2
                  have HS12 : Hid (St w [⟨w6.heap.size, #[.bool (negB (a)), .string (bs (numB (a))), .string (bs (denomB (a)))], 23⟩, ⟨w5.heap.size, #[.bool (negB (a)), .string (bs (numB (a))), .string (bs (denomB (a)))], 23⟩, ⟨w.heap.size, #[.bool false, .string (bs []), .string (bs [])], 23⟩] _) := Lib.hid (St.set ((St.set ((St.set (HS11.out) 1 rfl 0 _)) 1 rfl 1 _)) 1 rfl 2 _)
                  go_roundw
                  case rel => exact ⟨k + 1, by omega, by go_num, by rw [R.out], by show St _ _ _; rw [R.out]; exact HS12.out.sub (by simp)⟩
                  case measure => simp [intOf]; omega
          · have R := x1 (of_decide_eq_true hd1.symm)
            rw [R] at had
            have R := Lib.hid (HTN.out.symm.trans had)
            clear had x1 x2 x3 x4 HTN hd1 hd2
            have x1 := HX.out _ HS.out.below 4 _ rfl
            have x2 := HX.out _ HS.out.below 5 _ rfl
            have x3 := HX.out _ HS.out.below 6 _ rfl
            go_wp2_with fail
            refine (HF.out _).mono ?_
            rintro e w6 ⟨rfl, hb6⟩
            have HS6 := Lib.hid (HS.out.call hb6)
            clear hb6 HS
            clear x1 x2 x3
            go_wp2
            have HS7 : Hid (St w [⟨w6.heap.size, #[.bool (negB (a)), .string (bs (numB (a))), .string (bs (denomB (a)))], 23⟩, ⟨w5.heap.size, #[.bool (negB (be)), .string (bs (numB (be))), .string (bs (denomB (be)))], 23⟩, ⟨w.heap.size, #[.bool false, .string (bs []), .string (bs [])], 23⟩] _) := Lib.hid (St.alloc (HS6.out) #[.bool (negB (a)), .string (bs (numB (a))), .string (bs (denomB (a)))] 23 _ (by simp))
            clear HS6
            refine wp_region_facts 11 [fun _ vv => vv = .agg #[.bool (negB (one)), .string (bs (numB (one))), .string (bs (denomB (one)))], fun _ vv => vv = .agg #[.bool (negB (a)), .string (bs (numB (a))), .string (bs (denomB (a)))], fun _ vv => vv = .bool true, fun _ vv => vv = .bool true, fun _ vv => vv = undef, fun _ vv => vv = undef, fun _ vv => vv = undef, fun _ vv => vv = undef, fun _ vv => vv = undef, fun _ vv => vv = undef, fun _ vv => vv = undef] rfl (by kernel_rfl) (by kernel_rfl) (by kernel_rfl) ⟨fun _ _ _ h _ => h, fun _ _ _ h _ => h, fun _ _ _ h _ => h, fun _ _ _ h _ => h, fun _ _ _ h _ => h, fun _ _ _ h _ => h, fun _ _ _ h _ => h, fun _ _ _ h _ => h, fun _ _ _ h _ => h, fun _ _ _ h _ => h, fun _ _ _ h _ => h, trivial⟩ ?_ ?_
            refine ⟨?_, ?_, ?_, ?_, ?_, ?_, ?_, ?_, ?_, ?_, ?_, trivial⟩
            · intro xx af wv hbx hev hev0 hd
              clear hev hev0 hd
              go_wp2_with fail
              refine (H1.out _).mono ?_
              rintro e w8 ⟨rfl, hb8⟩
              go_wp2
              exact StepQ.mk _ hb8 rfl
            · intro xx af wv hbx hev hev0 hd
              have e9 : af.tmps[9]?.getD undef = .pointer (some ⟨w6.heap.size, 0, none⟩) := hev0 9 rfl
              clear hev hev0 hd
              have hs1 := Lib.hid (HS7.out.call hbx)
              have y0 := hs1.out.cell 0 rfl 0 rfl
              have y1 := hs1.out.cell 0 rfl 1 rfl
              have y2 := hs1.out.cell 0 rfl 2 rfl
              go_wp2
              exact StepQ.mk _ (Below.refl _ _) rfl
            · intro xx af wv hbx hev hev0 hd
              have e34 := hev 0 _ 34 rfl rfl
              have d0 : xx 0 = .agg #[.bool (negB (one)), .string (bs (numB (one))), .string (bs (denomB (one)))] := hd ⟨0, .data⟩ (by simp) rfl
              rw [d0] at e34
              clear d0
              have e35 := hev 1 _ 35 rfl rfl
              have d1 : xx 1 = .agg #[.bool (negB (a)), .string (bs (numB (a))), .string (bs (denomB (a)))] := hd ⟨1, .data⟩ (by simp) rfl
              rw [d1] at e35
              clear d1
              clear hev hev0 hd
              go_wp2_with fail
              refine (L1.out _).mono ?_
              rintro e w8 ⟨rfl, hb8⟩
              go_wp2
              exact StepQ.mk _ hb8 rfl
            · intro xx af wv hbx hev hev0 hd
              have e36 := hev 2 _ 36 rfl rfl
              have d2 : xx 2 = .bool true := hd ⟨2, .data⟩ (by simp) rfl
              rw [d2] at e36
              clear d2
              clear hev hev0 hd
              go_wp2
              exact StepQ.mk _ (Below.refl _ _) rfl
            · intro xx af wv hbx hev hev0 hd
              have e37 := hev 3 _ 37 rfl rfl
              have d3 : xx 3 = .bool true := hd ⟨3, .guard⟩ (by simp) rfl
              rw [d3] at e37
              clear d3
              have q37 := getD_bool e37
              clear hev hev0 hd
              go_wp2
              exact StepQ.mk _ (Below.refl _ _) rfl
            · intro xx af wv hbx hev hev0 hd
              have e37 := hev 3 _ 37 rfl rfl
              have d3 : xx 3 = .bool true := hd ⟨3, .chain⟩ (by simp) rfl
              rw [d3] at e37
              clear d3
              have q37 := getD_bool e37
              clear hev hev0 hd
              go_wp2
              exact StepQ.mk _ (Below.refl _ _) rfl
            · intro xx af wv hbx hev hev0 hd
              have e39 := hev 5 _ 39 rfl rfl
              have d5 : xx 5 = undef := hd ⟨5, .guard⟩ (by simp) rfl
              rw [d5] at e39
              clear d5
              clear hev hev0 hd
              rcases getD_undef e39 with q39 | q39
              · go_wp2
                exact StepQ.mk _ (Below.refl _ _) rfl
              · go_wp2
                exact StepQ.mk _ (Below.refl _ _) rfl
            · intro xx af wv hbx hev hev0 hd
              have e39 := hev 5 _ 39 rfl rfl
              have d5 : xx 5 = undef := hd ⟨5, .guard⟩ (by simp) rfl
              rw [d5] at e39
              clear d5
              clear hev hev0 hd
              rcases getD_undef e39 with q39 | q39
              · go_wp2
                exact StepQ.mk _ (Below.refl _ _) rfl
              · go_wp2
                exact StepQ.mk _ (Below.refl _ _) rfl
            · intro xx af wv hbx hev hev0 hd
              have e39 := hev 5 _ 39 rfl rfl
              have d5 : xx 5 = undef := hd ⟨5, .chain⟩ (by simp) rfl
              rw [d5] at e39
              clear d5
              clear hev hev0 hd
              rcases getD_undef e39 with q39 | q39
              · go_wp2
                exact StepQ.mk _ (Below.refl _ _) rfl
              · go_wp2
                exact StepQ.mk _ (Below.refl _ _) rfl
            · intro xx af wv hbx hev hev0 hd
              have e39 := hev 5 _ 39 rfl rfl
              have d5 : xx 5 = undef := hd ⟨5, .guard⟩ (by simp) rfl
              rw [d5] at e39
              clear d5
              clear hev hev0 hd
              rcases getD_undef e39 with q39 | q39
              · go_wp2
                exact StepQ.mk _ (Below.refl _ _) rfl
              · go_wp2
                exact StepQ.mk _ (Below.refl _ _) rfl
            · intro xx af wv hbx hev hev0 hd
              have e37 := hev 3 _ 37 rfl rfl
              have d3 : xx 3 = .bool true := hd ⟨3, .guard⟩ (by simp) rfl
              rw [d3] at e37
              clear d3
              have q37 := getD_bool e37
              clear hev hev0 hd
              go_wp2
              exact StepQ.mk _ (Below.refl _ _) rfl
            intro xx w9 hb9 hv
            have hv0 : xx 0 = .agg #[.bool (negB (one)), .string (bs (numB (one))), .string (bs (denomB (one)))] := hv 0 (by decide)
            have hv1 : xx 1 = .agg #[.bool (negB (a)), .string (bs (numB (a))), .string (bs (denomB (a)))] := hv 1 (by decide)
            have hv2 : xx 2 = .bool true := hv 2 (by decide)
            have hv3 : xx 3 = .bool true := hv 3 (by decide)
            have hv4 : xx 4 = undef := hv 4 (by decide)
            have hv5 : xx 5 = undef := hv 5 (by decide)
            have hv6 : xx 6 = undef := hv 6 (by decide)
            have hv7 : xx 7 = undef := hv 7 (by decide)
            have hv8 : xx 8 = undef := hv 8 (by decide)
            have hv9 : xx 9 = undef := hv 9 (by decide)
            have hv10 : xx 10 = undef := hv 10 (by decide)
            clear hv
            simp only [List.take, List.drop, fillA, Act.put]
            simp only [hv0, hv1, hv2, hv3, hv4, hv5, hv6, hv7, hv8, hv9, hv10]
            clear hv0 hv1 hv2 hv3 hv4 hv5 hv6 hv7 hv8 hv9 hv10
            have HS9 := Lib.hid (HS7.out.call hb9)
            clear hb9 HS7
            go_wp2
            have HS10 : Hid (St w [⟨w6.heap.size, #[.bool (negB (a)), .string (bs (numB (a))), .string (bs (denomB (a)))], 23⟩, ⟨w5.heap.size, #[.bool (negB (be)), .string (bs (numB (be))), .string (bs (denomB (be)))], 23⟩, ⟨w.heap.size, #[.bool false, .string (bs []), .string (bs [])], 23⟩] _) := Lib.hid HS9.out
            go_roundw
            case rel => exact ⟨k + 1, by omega, by go_num, by rw [R.out], by show St _ _ _; rw [R.out]; exact HS10.out.sub (by simp)⟩
            case measure => simp [intOf]; omega
        · obtain rfl : k = l.length := by omega
          rw [HEQ.out] at R
          generalize rTo l l.length = tn at *
          obtain ⟨be, fB⟩ := tn
          dsimp only at HS R ⊢
          have x1 := HS.out.cell 0 rfl 0 rfl
          have x2 := HS.out.cell 0 rfl 1 rfl
          have x3 := HS.out.cell 0 rfl 2 rfl
          have x4 := HS.out.cell 1 rfl 0 rfl
          have x5 := HS.out.cell 1 rfl 1 rfl
          have x6 := HS.out.cell 1 rfl 2 rfl
          have x7 := HS.out.frozen 1 rfl 0
          have x8 := HS.out.frozen 1 rfl 1
          have x9 := HS.out.frozen 1 rfl 2
          have x10 := HS.out.ne 1 0 rfl rfl (by decide)
          have x11 := HS.out.ne 0 1 rfl rfl (by decide)
          go_wp2
          have HS6 : Hid (St w [⟨w5.heap.size, #[.bool (negB (be)), .string (bs (numB (be))), .string (bs (denomB (be)))], 23⟩, ⟨w.heap.size, #[.bool (negB (be)), .string (bs (numB (be))), .string (bs (denomB (be)))], 23⟩] _) := Lib.hid (St.set ((St.set ((St.set (HS.out) 1 rfl 0 _)) 1 rfl 1 _)) 1 rfl 2 _)
          refine bodyPost_ret (raw_result3 rfl _ _ _ _ _ _ rfl (HS6.out.blk 1 rfl)) rfl ?_
          rw [R.out]
          exact ⟨rfl, HS6.out.below⟩
    · have HEQ := Lib.hid (HZ.out rfl)
      clear HE HZ
      go_enter Tryz.func20, Tryz.ntmps20
      have HS := Lib.hid (St.start w)
      go_wp2_with fail
      have HS2 : Hid (St w [⟨w.heap.size, #[.bool false, .string (bs []), .string (bs [])], 23⟩] _) := Lib.hid (St.alloc (HS.out) #[.bool false, .string (bs []), .string (bs [])] 23 _ (by simp))
      refine (HC.out _ HS2.out.below).mono ?_
      rintro e w3 ⟨rfl, hb3⟩
      have HS3 := Lib.hid (HS2.out.call hb3)
      clear hb3 HS HS2
      go_wp2_with fail
      refine (T0.out _ HS3.out.below).mono ?_
      rintro e w4 ⟨rfl, hb4⟩
      have HS4 := Lib.hid (HS3.out.call hb4)
      clear hb4 HS3
      go_wp2_with fail
      refine (P0.out _).mono ?_
      rintro e w5 ⟨rfl, hb5⟩
      have HS5 := Lib.hid (HS4.out.call hb5)
      clear hb5 HS4
      have x1 := HS5.out.cell 0 rfl 0 rfl
      have x2 := HS5.out.cell 0 rfl 1 rfl
      have x3 := HS5.out.cell 0 rfl 2 rfl
      have x4 := HS5.out.frozen 0 rfl 0
      have x5 := HS5.out.frozen 0 rfl 1
      have x6 := HS5.out.frozen 0 rfl 2
      go_wp2
      have HS6 : Hid (St w [⟨w.heap.size, #[.bool false, .string (bs []), .string (bs [])], 23⟩] _) := Lib.hid (St.set ((St.set ((St.set (HS5.out) 0 rfl 0 _)) 0 rfl 1 _)) 0 rfl 2 _)
      refine bodyPost_ret (raw_result3 rfl _ _ _ _ _ _ rfl (HS6.out.blk 0 rfl)) rfl ?_
      rw [R.out, HEQ.out]
      rw [rat_zero]
      exact ⟨rfl, HS6.out.below⟩
  · have hn0 : (m == 0) = false := by rw [beq_eq_false_iff_ne]; exact h0
    have hn1 : (m != 0) = true := by rw [bne, hn0]; rfl
    have R : Hid (r = (0, false, m)) := by show _ = _; have := R0.out; rw [if_pos h0] at this; exact this
    clear hC hz0 h hok R0
    go_enter Tryz.func20, Tryz.ntmps20
    have HS := Lib.hid (St.start w)
    go_wp2_with fail
    have HS2 : Hid (St w [⟨w.heap.size, #[.bool false, .string (bs []), .string (bs [])], 23⟩] _) := Lib.hid (St.alloc (HS.out) #[.bool false, .string (bs []), .string (bs [])] 23 _ (by simp))
    refine (HC.out _ HS2.out.below).mono ?_
    rintro e w3 ⟨rfl, hb3⟩
    have HS3 := Lib.hid (HS2.out.call hb3)
    clear hb3 HS HS2
    have x1 := HS3.out.cell 0 rfl 0 rfl
    have x2 := HS3.out.cell 0 rfl 1 rfl
    have x3 := HS3.out.cell 0 rfl 2 rfl
    have x4 := HS3.out.frozen 0 rfl 0
    have x5 := HS3.out.frozen 0 rfl 1
    have x6 := HS3.out.frozen 0 rfl 2
    go_wp2
    have HS4 : Hid (St w [⟨w.heap.size, #[.bool false, .string (bs []), .string (bs [])], 23⟩] _) := Lib.hid (St.set ((St.set ((St.set (HS3.out) 0 rfl 0 _)) 0 rfl 1 _)) 0 rfl 2 _)
    refine bodyPost_ret (raw_result3 rfl _ _ _ _ _ _ rfl (HS4.out.blk 0 rfl)) rfl ?_
    rw [R.out]
    rw [rat_zero]
    exact ⟨rfl, HS4.out.below⟩
end Go.Proofs.YtakoagjpmdcddaaGreatDoor
