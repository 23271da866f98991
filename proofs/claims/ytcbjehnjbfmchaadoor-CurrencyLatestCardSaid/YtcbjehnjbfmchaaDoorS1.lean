/-
A guard whose own operation did not come.
-/
import Derived.Test.YtcbjehnjbfmchaaDoorQ0
import Derived.Test.YtcbjehnjbfmchaaDoorS0
import Derived.Test.YtcbjehnjbfmchaaDoorPI
import Derived.Test.YtcbjehnjbfmchaaDoorPA
import Derived.Test.YtcbjehnjbfmchaaDoorPH
import Derived.Test.YtcbjehnjbfmchaaDoorQB
namespace Go.Proofs.YtcbjehnjbfmchaaDoor
theorem getD_undef {a : Array Value} {t : Nat} (h : a[t]?.getD undef = undef) : a[t]? = none ∨ a[t]? = some (.tuple #[]) := by
  cases hx : a[t]? with
  | none => exact .inl rfl
  | some v => rw [hx] at h; exact .inr (congrArg some h)
end Go.Proofs.YtcbjehnjbfmchaaDoor

/-
CurrencyLatest: the law walked (printed by gen_latest.py).
-/
namespace Go.Proofs.YtcbjehnjbfmchaaDoor
open Go.ChangeShapes Go.WideShapes Go.ChangeAt Go.ChangeMaps Go.RowKit

theorem rev_take {qs : List Quo} {n j : Nat} {q : Quo} (hj : j + n + 1 = qs.length) (hq : qs[j]? = some q) : qs.reverse.take (n + 1) = qs.reverse.take n ++ [q] := by
  refine take_at ?_
  rw [List.getElem?_reverse (by omega), show qs.length - 1 - n = j by omega, hq]
theorem code4_not_eur {x : Int} (_ : 0 ≤ x) : (code4 (((1 + x % 3) % 4).toNat) == eur) = false := by
  have h : (1 + x % 3) % 4 = 1 ∨ (1 + x % 3) % 4 = 2 ∨ (1 + x % 3) % 4 = 3 := by omega
  rcases h with h | h | h <;> rw [h] <;> decide

set_option maxRecDepth 100000 in
set_option maxHeartbeats 2000000 in
theorem law_CurrencyLatest (v : Value) (ts : List Tri) (a d : Int) (w : World) (h : Tris w v ts) (hok : ∀ t ∈ ts, t.ok) (ha : 0 ≤ a ∧ a ≤ 255) (hd : 0 ≤ d ∧ d ≤ 255) :
    Calls Tryd.prog 6 #[v, .int .u8 a, .int .u8 d] w fun e w' => e = .returned (.bool true) ∧ Below w.heap.size w w' := by
  obtain ⟨a0, a1⟩ := ha
  obtain ⟨d0, d1⟩ := hd
  obtain ⟨i0, hi, hz0, hz1, hz2⟩ := info_parts info_quote
  have HI := Lib.hid hi
  have HQ := Lib.hid (law0_Quotes v ts w h hok)
  have HAW := Lib.hid (fun W => law7_awake W)
  have hok2 := quotesOf_ok hok
  have hsm := quotesOf_small hok
  have hq8 : (quotesOf ts).length ≤ 8 := by
    have h1 := fold_len (ts.take 8)
    have h2 : (ts.take 8).length ≤ 8 := List.length_take_le _ _
    exact Nat.le_trans h1 h2
  have hcd := law7_code (1 + a % 3)
  have t1 : Int.tmod a 3 = a % 3 := Int.tmod_eq_emod_of_nonneg a0
  have t2 : Int.tmod d 50 = d % 50 := Int.tmod_eq_emod_of_nonneg d0
  have HCO := Lib.hid (fun W => law7_code (1 + a % 3) W (by omega))
  have hne := code4_not_eur a0
  have hdy : dayB (d % 50) = true := by unfold dayB; rw [decide_eq_true (by omega), decide_eq_true (by omega)]; rfl
  have hrev := rate_rev hok (code4 (((1 + a % 3) % 4).toNat)) (d % 50) hdy hne
  have hby := rate_by (quotesOf_check ts hok) hdy hne
  clear h hok hi hcd
  generalize quotesOf ts = qs at *
  generalize code4 (((1 + a % 3) % 4).toNat) = cc at *
  have u1 : IntKind.u8.wrap (a % 3) = a % 3 := by rw [IntKind.wrap_u8]; omega
  have u2 : IntKind.u8.wrap (1 + a % 3) = 1 + a % 3 := by rw [IntKind.wrap_u8]; omega
  have u3 : IntKind.u8.wrap (d % 50) = d % 50 := by rw [IntKind.wrap_u8]; omega
  have u4 : IntKind.i64.wrap (d % 50) = d % 50 := IntWalk.i64_in _ (by omega)
  have hR1 := fun (v' : Value) (W : World) (hq : Quotes W v' qs) => currency_Rate v' qs cc (d % 50) W hq hok2
  have hR2 := fun (v' : Value) (W : World) (hq : Quotes W v' qs.reverse) => currency_Rate v' qs.reverse cc (d % 50) W hq (fun q hq => hok2 q (List.mem_reverse.1 hq))
  rw [hrev] at hR2
  obtain ⟨dy, hdyd⟩ : ∃ z, z = d % 50 := ⟨_, rfl⟩
  rw [← hdyd] at hR1 hR2 hby
  have y1 : 0 ≤ dy ∧ dy ≤ 49 := by omega
  obtain ⟨y1, y2⟩ := y1
  have t3 : d % 50 = dy := hdyd.symm
  have u5 : IntKind.i64.wrap dy = dy := IntWalk.i64_in _ (by omega)
  obtain ⟨⟨rn, ra, rd⟩, m, hr⟩ : ∃ r n, rateQ qs cc dy = (r, n) := ⟨_, _, rfl⟩
  rw [hr] at hR1 hR2 hby
  dsimp only at hR1 hR2
  unfold Trip.val raw at hR1 hR2
  dsimp only at hR1 hR2
  have XR1 := Lib.hid hR1
  have XR2 := Lib.hid hR2
  have HBY := Lib.hid hby
  have HSM := Lib.hid hsm
  clear hR1 hR2 hby hsm hrev hr hok2 hne hdy hdyd u3 u4
  go_enter Tryd.func6, Tryd.ntmps6
  have HS := Lib.hid (St.start w)
  go_wp2_with fail
  refine (HQ.out).mono ?_
  rintro e w2 ⟨v2, rfl, hl2, hb2⟩
  have HS2 := Lib.hid (HS.out.call hb2)
  have Q_2 := Lib.hid hl2
  clear hl2
  clear hb2 HS
  have HB0 := Lib.hid HS2.out.below
  clear HS2
  have HT2 := Lib.hid (St.start w2)
  have HZQ := Q_2.out
  have HZQ := Lib.hid HZQ
  clear Q_2
  obtain ⟨A, c, rfl, hl, hc⟩ := HZQ.out.slice
  go_wp2
  go_loopw [8, 9] (fun r i wr => ∃ n : Nat, n ≤ qs.length ∧ i = .int .i64 ((qs.length : Int) - 1 - n) ∧ Hid (Grows wr w2.heap.size 33 5 r n (flat Quo.enc (qs.reverse.take n))) ∧ Hid (St w2 [] wr)) (fun _ i _ => (intOf i + 1).toNat)
  case atStart => exact ⟨0, Nat.zero_le _, by simp, ⟨rfl, .inl ⟨rfl, rfl⟩⟩, HT2.out⟩
  case round =>
    obtain ⟨n, hn, rfl, HG, HS⟩ := hrel
    obtain ⟨wo, hwo⟩ : ∃ wo : World, wo = wr := ⟨_, rfl⟩
    subst hwo
    by_cases hlt : n < qs.length
    · obtain ⟨j, hj⟩ : ∃ j : Nat, j + n + 1 = qs.length := ⟨qs.length - 1 - n, by omega⟩
      have hji : (qs.length : Int) - 1 - (n : Int) = (j : Nat) := by omega
      rw [hji]
      obtain ⟨b, o, q, rfl, hbb, hq, hx⟩ := HZQ.out.at_ (show j < qs.length by omega)
      have HX := Lib.hid hx
      have HRT := Lib.hid (rev_take hj hq)
      have e0 : (0 : Int) ≤ ((j : Nat) : Int) := by omega
      have e1 : ((j : Nat) : Int) < (qs.length : Int) := by omega
      have e2 : decide ((0 : Int) ≤ ((j : Nat) : Int)) = true := decide_eq_true e0
      have e3 : ¬ ((j : Nat) : Int) < 0 := by omega
      have hlr : (qs.reverse.take n).length = n := by rw [List.length_take, List.length_reverse]; omega
      clear hx hq
      have x1 : b < wo.heap.size := Nat.lt_of_lt_of_le hbb HS.out.below.size
      have x2 : ¬ b = wo.heap.size := by omega
      have x3 := HX.out _ HS.out.below 0 _ rfl
      rw [Nat.add_zero] at x3
      have x4 := HX.out _ HS.out.below 1 _ rfl
      have x5 := HX.out _ HS.out.below 2 _ rfl
      have x6 := HX.out _ HS.out.below 3 _ rfl
      have x7 := HX.out _ HS.out.below 4 _ rfl
      have hsz := HS.out.below.size
      have HB9 := Lib.hid HS.out.below
      have hgr := HG.out
      go_wp2_with (at_builtin; refine wpList_push wo rfl _ _ 22 rfl w2.heap.size 33 i0 _ 5 64 Tryd.underlying22 HI.out hz0 hz1 hz2 rfl (by decide) quo_len _ n (qs.reverse.take n) rfl (by exact hgr) q _ ?c1 rfl (quo_cells _) (by unfold maxLen; omega) (by omega) hsz ?_)
      case c1 => rfl
      intro v9 w9 hown9 hb9
      rw [← HRT.out] at hown9
      have HG9 := Lib.hid hown9
      have HS9 := Lib.hid (St.of (HB9.out.trans hb9))
      clear hown9 hb9 hgr
      go_wp2
      go_roundw
      case rel => exact ⟨n + 1, by omega, by rw [show (qs.length : Int) - 1 - ((n + 1 : Nat) : Int) = (j : Int) - 1 by omega], HG9.out, HS9.out⟩
      case measure => simp [intOf] <;> omega
    · obtain rfl : n = qs.length := by omega
      rw [show (qs.length : Int) - 1 - (qs.length : Int) = -1 by omega]
      have hqr := Slc.of_own quo_len HG.out (by rw [List.length_take, List.length_reverse]; omega)
      rw [show qs.reverse.take qs.length = qs.reverse by rw [← List.length_reverse, List.take_length]] at hqr
      have HQR := Lib.hid hqr
      clear hqr HG
      go_wp2_with fail
      refine (HCO.out _).mono ?_
      rintro e w3 ⟨rfl, hb3⟩
      have HS3 := Lib.hid (HS.out.call hb3)
      have R_3 := Lib.hid (HQR.out.below hb3)
      clear HQR
      clear hb3 HS
      go_wp2_with fail
      refine (XR1.out _ _ (HZQ.out.below HS3.out.below)).mono ?_
      rintro e w4 ⟨rfl, hb4⟩
      have HS4 := Lib.hid (HS3.out.call hb4)
      have R_4 := Lib.hid (R_3.out.below hb4)
      clear R_3
      clear hb4 HS3
      go_wp2_with fail
      have HS5 : Hid (St w2 [⟨w4.heap.size, #[.bool rn, .string (bs ra), .string (bs rd)], 30⟩] _) := Lib.hid (St.alloc (HS4.out) #[.bool rn, .string (bs ra), .string (bs rd)] 30 _ (by simp))
      refine (XR2.out _ _ (R_4.out.below (Ext.alloc (Below.refl w4.heap.size w4) (Obj.cells #[.bool rn, .string (bs ra), .string (bs rd)] 30)))).mono ?_
      rintro e w6 ⟨rfl, hb6⟩
      have HS6 := Lib.hid (HS5.out.call hb6)
      have R_6 := Lib.hid (R_4.out.below (Ext.trans (Ext.alloc (Below.refl w4.heap.size w4) (Obj.cells #[.bool rn, .string (bs ra), .string (bs rd)] 30)) hb6))
      clear R_4
      clear hb6 HS4 HS5
      go_wp2
      have HS7 : Hid (St w2 [⟨w6.heap.size, #[.bool rn, .string (bs ra), .string (bs rd)], 30⟩, ⟨w4.heap.size, #[.bool rn, .string (bs ra), .string (bs rd)], 30⟩] _) := Lib.hid (St.alloc (HS6.out) #[.bool rn, .string (bs ra), .string (bs rd)] 30 _ (by simp))
      go_loopw [16, 17, 59] (fun be kn ct wr => ∃ (k : Nat) (kb : Bool) (ob : Option Nat), k ≤ qs.length ∧ ct = .int .i64 k ∧ kn = .bool kb ∧ BestIs ob be ∧ Hid (bestQ qs cc dy k = (kb, ob)) ∧ Hid (St w2 [⟨w6.heap.size, #[.bool rn, .string (bs ra), .string (bs rd)], 30⟩, ⟨w4.heap.size, #[.bool rn, .string (bs ra), .string (bs rd)], 30⟩] wr)) (fun _ _ ct _ => qs.length - (intOf ct).toNat)
      case atStart => exact ⟨0, false, none, Nat.zero_le _, rfl, rfl, rfl, rfl, HS7.out⟩
      case round =>
        obtain ⟨k, kb, ob, hk, rfl, rfl, ho, hbest, HT⟩ := hrel
        have hk2 : (bestQ qs cc dy k).2 = ob := by rw [hbest.out]
        by_cases hlt : k < qs.length
        · obtain ⟨b, o, q, rfl, hbb, hq, hx⟩ := HZQ.out.at_ hlt
          have HX := Lib.hid hx
          have e0 : (0 : Int) ≤ ((k : Nat) : Int) := by omega
          have e1 : ((k : Nat) : Int) < (qs.length : Int) := by omega
          obtain ⟨cB, hcB⟩ : ∃ x, x = (q.code == cc) := ⟨_, rfl⟩
          have fc : ((bs q.code).toList == (bs cc).toList) = cB := by rw [bs_toList, bs_toList]; exact hcB.symm
          obtain ⟨lB, hlB⟩ : ∃ x, x = decide (q.day ≤ dy) := ⟨_, rfl⟩
          have fl : decide (q.day ≤ dy) = lB := hlB.symm
          have HQQ := Lib.hid hq
          have HCB := Lib.hid hcB.symm
          have HLB := Lib.hid hlB.symm
          have HK2 := Lib.hid hk2
          clear hx hq hcB hlB hk2
          cases cB
          · clear fl HK2
            have x1 : b < wr.heap.size := Nat.lt_of_lt_of_le hbb HT.out.below.size
            have x2 : ¬ b = wr.heap.size := by omega
            have x3 := HX.out _ HT.out.below 0 _ rfl
            rw [Nat.add_zero] at x3
            have x4 := HX.out _ HT.out.below 1 _ rfl
            have x5 := HX.out _ HT.out.below 2 _ rfl
            have x6 := HX.out _ HT.out.below 3 _ rfl
            have x7 := HX.out _ HT.out.below 4 _ rfl
            go_wp2
            have HT8 : Hid (St w2 [⟨wr.heap.size, #[.string (bs q.code), .int .i64 q.day, .bool q.neg, .string (bs q.num), .string (bs q.den)], 33⟩, ⟨w6.heap.size, #[.bool rn, .string (bs ra), .string (bs rd)], 30⟩, ⟨w4.heap.size, #[.bool rn, .string (bs ra), .string (bs rd)], 30⟩] _) := Lib.hid (St.alloc (HT.out) #[.string (bs q.code), .int .i64 q.day, .bool q.neg, .string (bs q.num), .string (bs q.den)] 33 _ (by simp))
            go_roundw
            case rel => exact ⟨k + 1, _, _, by omega, by go_num, rfl, ho, by show _ = _; rw [best_other HQQ.out HCB.out]; exact hbest.out, HT8.out.sub (List.sublist_cons_self _ _)⟩
            case measure => simp [intOf]; omega
          · cases lB
            · rcases ob with _ | bi
              · have hv : _ = Value.int .i64 (-1) := ho
                subst hv
                have x1 : b < wr.heap.size := Nat.lt_of_lt_of_le hbb HT.out.below.size
                have x2 : ¬ b = wr.heap.size := by omega
                have x3 := HX.out _ HT.out.below 0 _ rfl
                rw [Nat.add_zero] at x3
                have x4 := HX.out _ HT.out.below 1 _ rfl
                have x5 := HX.out _ HT.out.below 2 _ rfl
                have x6 := HX.out _ HT.out.below 3 _ rfl
                have x7 := HX.out _ HT.out.below 4 _ rfl
                go_wp2
                clear x1 x2 x3 x4 x5 x6 x7
                have HT8 : Hid (St w2 [⟨wr.heap.size, #[.string (bs q.code), .int .i64 q.day, .bool q.neg, .string (bs q.num), .string (bs q.den)], 33⟩, ⟨w6.heap.size, #[.bool rn, .string (bs ra), .string (bs rd)], 30⟩, ⟨w4.heap.size, #[.bool rn, .string (bs ra), .string (bs rd)], 30⟩] _) := Lib.hid (St.alloc (HT.out) #[.string (bs q.code), .int .i64 q.day, .bool q.neg, .string (bs q.num), .string (bs q.den)] 33 _ (by simp))
                clear HT
                refine wp_region_facts 17 [fun _ vv => vv = .pointer (some ⟨wr.heap.size, 1, none⟩), fun _ vv => vv = .int .i64 q.day, fun _ vv => vv = .int .i64 dy, fun _ vv => vv = .bool false, fun _ vv => vv = .bool false, fun _ vv => vv = undef, fun _ vv => vv = undef, fun _ vv => vv = undef, fun _ vv => vv = undef, fun _ vv => vv = undef, fun _ vv => vv = undef, fun _ vv => vv = undef, fun _ vv => vv = undef, fun _ vv => vv = undef, fun _ vv => vv = undef, fun _ vv => vv = undef, fun _ vv => vv = undef] rfl (by kernel_rfl) (by kernel_rfl) (by kernel_rfl) ⟨fun _ _ _ h _ => h, fun _ _ _ h _ => h, fun _ _ _ h _ => h, fun _ _ _ h _ => h, fun _ _ _ h _ => h, fun _ _ _ h _ => h, fun _ _ _ h _ => h, fun _ _ _ h _ => h, fun _ _ _ h _ => h, fun _ _ _ h _ => h, fun _ _ _ h _ => h, fun _ _ _ h _ => h, fun _ _ _ h _ => h, fun _ _ _ h _ => h, fun _ _ _ h _ => h, fun _ _ _ h _ => h, fun _ _ _ h _ => h, trivial⟩ ?_ ?_
                refine ⟨?_, ?_, ?_, ?_, ?_, ?_, ?_, ?_, ?_, ?_, ?_, ?_, ?_, ?_, ?_, ?_, ?_, trivial⟩
                · intro xx af wv hbx hev hev0 hd
                  have e19 : af.tmps[19]?.getD undef = .pointer (some ⟨wr.heap.size, 0, none⟩) := hev0 19 rfl
                  clear hev hev0 hd
                  go_wp2
                  exact StepQ.mk _ (Below.refl _ _) rfl
                · intro xx af wv hbx hev hev0 hd
                  have e68 := hev 0 _ 68 rfl rfl
                  have d0 : xx 0 = .pointer (some ⟨wr.heap.size, 1, none⟩) := hd ⟨0, .data⟩ (by simp) rfl
                  rw [d0] at e68
                  clear d0
                  clear hev hev0 hd
                  have hs1 := Lib.hid (HT8.out.call hbx)
                  have y0 := hs1.out.cell 0 rfl 1 rfl
                  go_wp2
                  exact StepQ.mk _ (Below.refl _ _) rfl
                · intro xx af wv hbx hev hev0 hd
                  have e11 : af.tmps[11]?.getD undef = .int .i64 dy := hev0 11 rfl
                  clear hev hev0 hd
                  go_wp2
                  exact StepQ.mk _ (Below.refl _ _) rfl
                · intro xx af wv hbx hev hev0 hd
                  have e69 := hev 1 _ 69 rfl rfl
                  have d1 : xx 1 = .int .i64 q.day := hd ⟨1, .data⟩ (by simp) rfl
                  rw [d1] at e69
                  clear d1
                  have e70 := hev 2 _ 70 rfl rfl
                  have d2 : xx 2 = .int .i64 dy := hd ⟨2, .data⟩ (by simp) rfl
                  rw [d2] at e70
                  clear d2
                  clear hev hev0 hd
                  go_wp2
                  exact StepQ.mk _ (Below.refl _ _) rfl
                · intro xx af wv hbx hev hev0 hd
                  have e71 := hev 3 _ 71 rfl rfl
                  have d3 : xx 3 = .bool false := hd ⟨3, .data⟩ (by simp) rfl
                  rw [d3] at e71
                  clear d3
                  clear hev hev0 hd
                  go_wp2
                  exact StepQ.mk _ (Below.refl _ _) rfl
                · intro xx af wv hbx hev hev0 hd
                  have e72 := hev 4 _ 72 rfl rfl
                  have d4 : xx 4 = .bool false := hd ⟨4, .guard⟩ (by simp) rfl
                  rw [d4] at e72
                  clear d4
                  have q72 := getD_bool e72
                  clear hev hev0 hd
                  go_wp2
                  exact StepQ.mk _ (Below.refl _ _) rfl
                · intro xx af wv hbx hev hev0 hd
                  have e72 := hev 4 _ 72 rfl rfl
                  have d4 : xx 4 = .bool false := hd ⟨4, .guard⟩ (by simp) rfl
                  rw [d4] at e72
                  clear d4
                  have q72 := getD_bool e72
                  clear hev hev0 hd
                  go_wp2
                  exact StepQ.mk _ (Below.refl _ _) rfl
                · intro xx af wv hbx hev hev0 hd
                  have e72 := hev 4 _ 72 rfl rfl
                  have d4 : xx 4 = .bool false := hd ⟨4, .chain⟩ (by simp) rfl
                  rw [d4] at e72
                  clear d4
                  have q72 := getD_bool e72
                  clear hev hev0 hd
                  go_wp2
                  exact StepQ.mk _ (Below.refl _ _) rfl
                · intro xx af wv hbx hev hev0 hd
                  have e75 := hev 7 _ 75 rfl rfl
                  have d7 : xx 7 = undef := hd ⟨7, .guard⟩ (by simp) rfl
                  rw [d7] at e75
                  clear d7
                  clear hev hev0 hd
                  rcases getD_undef e75 with q75 | q75
                  · go_wp2
                    exact StepQ.mk _ (Below.refl _ _) rfl
                  · go_wp2
                    exact StepQ.mk _ (Below.refl _ _) rfl
                · intro xx af wv hbx hev hev0 hd
                  have e75 := hev 7 _ 75 rfl rfl
                  have d7 : xx 7 = undef := hd ⟨7, .guard⟩ (by simp) rfl
                  rw [d7] at e75
                  clear d7
                  clear hev hev0 hd
                  rcases getD_undef e75 with q75 | q75
                  · go_wp2
                    exact StepQ.mk _ (Below.refl _ _) rfl
                  · go_wp2
                    exact StepQ.mk _ (Below.refl _ _) rfl
                · intro xx af wv hbx hev hev0 hd
                  have e75 := hev 7 _ 75 rfl rfl
                  have d7 : xx 7 = undef := hd ⟨7, .guard⟩ (by simp) rfl
                  rw [d7] at e75
                  clear d7
                  clear hev hev0 hd
                  rcases getD_undef e75 with q75 | q75
                  · go_wp2
                    exact StepQ.mk _ (Below.refl _ _) rfl
                  · go_wp2
                    exact StepQ.mk _ (Below.refl _ _) rfl
                · intro xx af wv hbx hev hev0 hd
                  have e75 := hev 7 _ 75 rfl rfl
                  have d7 : xx 7 = undef := hd ⟨7, .guard⟩ (by simp) rfl
                  rw [d7] at e75
                  clear d7
                  clear hev hev0 hd
                  rcases getD_undef e75 with q75 | q75
                  · go_wp2
                    exact StepQ.mk _ (Below.refl _ _) rfl
                  · go_wp2
                    exact StepQ.mk _ (Below.refl _ _) rfl
                · intro xx af wv hbx hev hev0 hd
                  have e75 := hev 7 _ 75 rfl rfl
                  have d7 : xx 7 = undef := hd ⟨7, .guard⟩ (by simp) rfl
                  rw [d7] at e75
                  clear d7
                  clear hev hev0 hd
                  rcases getD_undef e75 with q75 | q75
                  · go_wp2
                    exact StepQ.mk _ (Below.refl _ _) rfl
                  · go_wp2
                    exact StepQ.mk _ (Below.refl _ _) rfl
                · intro xx af wv hbx hev hev0 hd
                  have e75 := hev 7 _ 75 rfl rfl
                  have d7 : xx 7 = undef := hd ⟨7, .guard⟩ (by simp) rfl
                  rw [d7] at e75
                  clear d7
                  clear hev hev0 hd
                  rcases getD_undef e75 with q75 | q75
                  · go_wp2
                    exact StepQ.mk _ (Below.refl _ _) rfl
                  · go_wp2
                    exact StepQ.mk _ (Below.refl _ _) rfl
                · intro xx af wv hbx hev hev0 hd
                  have e75 := hev 7 _ 75 rfl rfl
                  have d7 : xx 7 = undef := hd ⟨7, .guard⟩ (by simp) rfl
                  rw [d7] at e75
                  clear d7
                  clear hev hev0 hd
                  rcases getD_undef e75 with q75 | q75
                  · go_wp2
                    exact StepQ.mk _ (Below.refl _ _) rfl
                  · go_wp2
                    exact StepQ.mk _ (Below.refl _ _) rfl
                · intro xx af wv hbx hev hev0 hd
                  have e75 := hev 7 _ 75 rfl rfl
                  have d7 : xx 7 = undef := hd ⟨7, .guard⟩ (by simp) rfl
                  rw [d7] at e75
                  clear d7
                  clear hev hev0 hd
                  rcases getD_undef e75 with q75 | q75
                  · go_wp2
                    exact StepQ.mk _ (Below.refl _ _) rfl
                  · go_wp2
                    exact StepQ.mk _ (Below.refl _ _) rfl
                · intro xx af wv hbx hev hev0 hd
                  have e72 := hev 4 _ 72 rfl rfl
                  have d4 : xx 4 = .bool false := hd ⟨4, .guard⟩ (by simp) rfl
                  rw [d4] at e72
                  clear d4
                  have q72 := getD_bool e72
                  clear hev hev0 hd
                  go_wp2
                  exact StepQ.mk _ (Below.refl _ _) rfl
                intro xx w10 hb9 hv
                have hv0 : xx 0 = .pointer (some ⟨wr.heap.size, 1, none⟩) := hv 0 (by decide)
                have hv1 : xx 1 = .int .i64 q.day := hv 1 (by decide)
                have hv2 : xx 2 = .int .i64 dy := hv 2 (by decide)
                have hv3 : xx 3 = .bool false := hv 3 (by decide)
                have hv4 : xx 4 = .bool false := hv 4 (by decide)
                have hv5 : xx 5 = undef := hv 5 (by decide)
                have hv6 : xx 6 = undef := hv 6 (by decide)
                have hv7 : xx 7 = undef := hv 7 (by decide)
                have hv8 : xx 8 = undef := hv 8 (by decide)
                have hv9 : xx 9 = undef := hv 9 (by decide)
                have hv10 : xx 10 = undef := hv 10 (by decide)
                have hv11 : xx 11 = undef := hv 11 (by decide)
                have hv12 : xx 12 = undef := hv 12 (by decide)
                have hv13 : xx 13 = undef := hv 13 (by decide)
                have hv14 : xx 14 = undef := hv 14 (by decide)
                have hv15 : xx 15 = undef := hv 15 (by decide)
                have hv16 : xx 16 = undef := hv 16 (by decide)
                clear hv
                simp only [List.take, List.drop, fillA, Act.put]
                simp only [hv0, hv1, hv2, hv3, hv4, hv5, hv6, hv7, hv8, hv9, hv10, hv11, hv12, hv13, hv14, hv15, hv16]
                clear hv0 hv1 hv2 hv3 hv4 hv5 hv6 hv7 hv8 hv9 hv10 hv11 hv12 hv13 hv14 hv15 hv16
                have HT10 := Lib.hid (HT8.out.call hb9)
                clear hb9 HT8
                go_wp2
                have HT11 : Hid (St w2 [⟨wr.heap.size, #[.string (bs q.code), .int .i64 q.day, .bool q.neg, .string (bs q.num), .string (bs q.den)], 33⟩, ⟨w6.heap.size, #[.bool rn, .string (bs ra), .string (bs rd)], 30⟩, ⟨w4.heap.size, #[.bool rn, .string (bs ra), .string (bs rd)], 30⟩] _) := Lib.hid HT10.out
                go_roundw
                case rel => exact ⟨k + 1, _, _, by omega, by go_num, rfl, (show BestIs (none) _ from rfl), by show _ = _; rw [best_late HQQ.out HCB.out HLB.out, HK2.out], HT11.out.sub (List.sublist_cons_self _ _)⟩
                case measure => simp [intOf]; omega
              · have hv : _ = Value.int .i64 (bi : Nat) := ho
                subst hv
                have x1 : b < wr.heap.size := Nat.lt_of_lt_of_le hbb HT.out.below.size
                have x2 : ¬ b = wr.heap.size := by omega
                have x3 := HX.out _ HT.out.below 0 _ rfl
                rw [Nat.add_zero] at x3
                have x4 := HX.out _ HT.out.below 1 _ rfl
                have x5 := HX.out _ HT.out.below 2 _ rfl
                have x6 := HX.out _ HT.out.below 3 _ rfl
                have x7 := HX.out _ HT.out.below 4 _ rfl
                go_wp2
                clear x1 x2 x3 x4 x5 x6 x7
                have HT8 : Hid (St w2 [⟨wr.heap.size, #[.string (bs q.code), .int .i64 q.day, .bool q.neg, .string (bs q.num), .string (bs q.den)], 33⟩, ⟨w6.heap.size, #[.bool rn, .string (bs ra), .string (bs rd)], 30⟩, ⟨w4.heap.size, #[.bool rn, .string (bs ra), .string (bs rd)], 30⟩] _) := Lib.hid (St.alloc (HT.out) #[.string (bs q.code), .int .i64 q.day, .bool q.neg, .string (bs q.num), .string (bs q.den)] 33 _ (by simp))
                clear HT
                refine wp_region_facts 17 [fun _ vv => vv = .pointer (some ⟨wr.heap.size, 1, none⟩), fun _ vv => vv = .int .i64 q.day, fun _ vv => vv = .int .i64 dy, fun _ vv => vv = .bool false, fun _ vv => vv = .bool false, fun _ vv => vv = undef, fun _ vv => vv = undef, fun _ vv => vv = undef, fun _ vv => vv = undef, fun _ vv => vv = undef, fun _ vv => vv = undef, fun _ vv => vv = undef, fun _ vv => vv = undef, fun _ vv => vv = undef, fun _ vv => vv = undef, fun _ vv => vv = undef, fun _ vv => vv = undef] rfl (by kernel_rfl) (by kernel_rfl) (by kernel_rfl) ⟨fun _ _ _ h _ => h, fun _ _ _ h _ => h, fun _ _ _ h _ => h, fun _ _ _ h _ => h, fun _ _ _ h _ => h, fun _ _ _ h _ => h, fun _ _ _ h _ => h, fun _ _ _ h _ => h, fun _ _ _ h _ => h, fun _ _ _ h _ => h, fun _ _ _ h _ => h, fun _ _ _ h _ => h, fun _ _ _ h _ => h, fun _ _ _ h _ => h, fun _ _ _ h _ => h, fun _ _ _ h _ => h, fun _ _ _ h _ => h, trivial⟩ ?_ ?_
                refine ⟨?_, ?_, ?_, ?_, ?_, ?_, ?_, ?_, ?_, ?_, ?_, ?_, ?_, ?_, ?_, ?_, ?_, trivial⟩
                · intro xx af wv hbx hev hev0 hd
                  have e19 : af.tmps[19]?.getD undef = .pointer (some ⟨wr.heap.size, 0, none⟩) := hev0 19 rfl
                  clear hev hev0 hd
                  go_wp2
                  exact StepQ.mk _ (Below.refl _ _) rfl
                · intro xx af wv hbx hev hev0 hd
                  have e68 := hev 0 _ 68 rfl rfl
                  have d0 : xx 0 = .pointer (some ⟨wr.heap.size, 1, none⟩) := hd ⟨0, .data⟩ (by simp) rfl
                  rw [d0] at e68
                  clear d0
                  clear hev hev0 hd
                  have hs1 := Lib.hid (HT8.out.call hbx)
                  have y0 := hs1.out.cell 0 rfl 1 rfl
                  go_wp2
                  exact StepQ.mk _ (Below.refl _ _) rfl
                · intro xx af wv hbx hev hev0 hd
                  have e11 : af.tmps[11]?.getD undef = .int .i64 dy := hev0 11 rfl
                  clear hev hev0 hd
                  go_wp2
                  exact StepQ.mk _ (Below.refl _ _) rfl
                · intro xx af wv hbx hev hev0 hd
                  have e69 := hev 1 _ 69 rfl rfl
                  have d1 : xx 1 = .int .i64 q.day := hd ⟨1, .data⟩ (by simp) rfl
                  rw [d1] at e69
                  clear d1
                  have e70 := hev 2 _ 70 rfl rfl
                  have d2 : xx 2 = .int .i64 dy := hd ⟨2, .data⟩ (by simp) rfl
                  rw [d2] at e70
                  clear d2
                  clear hev hev0 hd
                  go_wp2
                  exact StepQ.mk _ (Below.refl _ _) rfl
                · intro xx af wv hbx hev hev0 hd
                  have e71 := hev 3 _ 71 rfl rfl
                  have d3 : xx 3 = .bool false := hd ⟨3, .data⟩ (by simp) rfl
                  rw [d3] at e71
                  clear d3
                  clear hev hev0 hd
                  go_wp2
                  exact StepQ.mk _ (Below.refl _ _) rfl
                · intro xx af wv hbx hev hev0 hd
                  have e72 := hev 4 _ 72 rfl rfl
                  have d4 : xx 4 = .bool false := hd ⟨4, .guard⟩ (by simp) rfl
                  rw [d4] at e72
                  clear d4
                  have q72 := getD_bool e72
                  clear hev hev0 hd
                  go_wp2
                  exact StepQ.mk _ (Below.refl _ _) rfl
                · intro xx af wv hbx hev hev0 hd
                  have e72 := hev 4 _ 72 rfl rfl
                  have d4 : xx 4 = .bool false := hd ⟨4, .guard⟩ (by simp) rfl
                  rw [d4] at e72
                  clear d4
                  have q72 := getD_bool e72
                  clear hev hev0 hd
                  go_wp2
                  exact StepQ.mk _ (Below.refl _ _) rfl
                · intro xx af wv hbx hev hev0 hd
                  have e72 := hev 4 _ 72 rfl rfl
                  have d4 : xx 4 = .bool false := hd ⟨4, .chain⟩ (by simp) rfl
                  rw [d4] at e72
                  clear d4
                  have q72 := getD_bool e72
                  clear hev hev0 hd
                  go_wp2
                  exact StepQ.mk _ (Below.refl _ _) rfl
                · intro xx af wv hbx hev hev0 hd
                  have e75 := hev 7 _ 75 rfl rfl
                  have d7 : xx 7 = undef := hd ⟨7, .guard⟩ (by simp) rfl
                  rw [d7] at e75
                  clear d7
                  clear hev hev0 hd
                  rcases getD_undef e75 with q75 | q75
                  · go_wp2
                    exact StepQ.mk _ (Below.refl _ _) rfl
                  · go_wp2
                    exact StepQ.mk _ (Below.refl _ _) rfl
                · intro xx af wv hbx hev hev0 hd
                  have e75 := hev 7 _ 75 rfl rfl
                  have d7 : xx 7 = undef := hd ⟨7, .guard⟩ (by simp) rfl
                  rw [d7] at e75
                  clear d7
                  clear hev hev0 hd
                  rcases getD_undef e75 with q75 | q75
                  · go_wp2
                    exact StepQ.mk _ (Below.refl _ _) rfl
                  · go_wp2
                    exact StepQ.mk _ (Below.refl _ _) rfl
                · intro xx af wv hbx hev hev0 hd
                  have e75 := hev 7 _ 75 rfl rfl
                  have d7 : xx 7 = undef := hd ⟨7, .guard⟩ (by simp) rfl
                  rw [d7] at e75
                  clear d7
                  clear hev hev0 hd
                  rcases getD_undef e75 with q75 | q75
                  · go_wp2
                    exact StepQ.mk _ (Below.refl _ _) rfl
                  · go_wp2
                    exact StepQ.mk _ (Below.refl _ _) rfl
                · intro xx af wv hbx hev hev0 hd
                  have e75 := hev 7 _ 75 rfl rfl
                  have d7 : xx 7 = undef := hd ⟨7, .guard⟩ (by simp) rfl
                  rw [d7] at e75
                  clear d7
                  clear hev hev0 hd
                  rcases getD_undef e75 with q75 | q75
                  · go_wp2
                    exact StepQ.mk _ (Below.refl _ _) rfl
                  · go_wp2
                    exact StepQ.mk _ (Below.refl _ _) rfl
                · intro xx af wv hbx hev hev0 hd
                  have e75 := hev 7 _ 75 rfl rfl
                  have d7 : xx 7 = undef := hd ⟨7, .guard⟩ (by simp) rfl
                  rw [d7] at e75
                  clear d7
                  clear hev hev0 hd
                  rcases getD_undef e75 with q75 | q75
                  · go_wp2
                    exact StepQ.mk _ (Below.refl _ _) rfl
                  · go_wp2
                    exact StepQ.mk _ (Below.refl _ _) rfl
                · intro xx af wv hbx hev hev0 hd
                  have e75 := hev 7 _ 75 rfl rfl
                  have d7 : xx 7 = undef := hd ⟨7, .guard⟩ (by simp) rfl
                  rw [d7] at e75
                  clear d7
                  clear hev hev0 hd
                  rcases getD_undef e75 with q75 | q75
                  · go_wp2
                    exact StepQ.mk _ (Below.refl _ _) rfl
                  · go_wp2
                    exact StepQ.mk _ (Below.refl _ _) rfl
                · intro xx af wv hbx hev hev0 hd
                  have e75 := hev 7 _ 75 rfl rfl
                  have d7 : xx 7 = undef := hd ⟨7, .guard⟩ (by simp) rfl
                  rw [d7] at e75
                  clear d7
                  clear hev hev0 hd
                  rcases getD_undef e75 with q75 | q75
                  · go_wp2
                    exact StepQ.mk _ (Below.refl _ _) rfl
                  · go_wp2
                    exact StepQ.mk _ (Below.refl _ _) rfl
                · intro xx af wv hbx hev hev0 hd
                  have e75 := hev 7 _ 75 rfl rfl
                  have d7 : xx 7 = undef := hd ⟨7, .guard⟩ (by simp) rfl
                  rw [d7] at e75
                  clear d7
                  clear hev hev0 hd
                  rcases getD_undef e75 with q75 | q75
                  · go_wp2
                    exact StepQ.mk _ (Below.refl _ _) rfl
                  · go_wp2
                    exact StepQ.mk _ (Below.refl _ _) rfl
                · intro xx af wv hbx hev hev0 hd
                  have e72 := hev 4 _ 72 rfl rfl
                  have d4 : xx 4 = .bool false := hd ⟨4, .guard⟩ (by simp) rfl
                  rw [d4] at e72
                  clear d4
                  have q72 := getD_bool e72
                  clear hev hev0 hd
                  go_wp2
                  exact StepQ.mk _ (Below.refl _ _) rfl
                intro xx w10 hb9 hv
                have hv0 : xx 0 = .pointer (some ⟨wr.heap.size, 1, none⟩) := hv 0 (by decide)
                have hv1 : xx 1 = .int .i64 q.day := hv 1 (by decide)
                have hv2 : xx 2 = .int .i64 dy := hv 2 (by decide)
                have hv3 : xx 3 = .bool false := hv 3 (by decide)
                have hv4 : xx 4 = .bool false := hv 4 (by decide)
                have hv5 : xx 5 = undef := hv 5 (by decide)
                have hv6 : xx 6 = undef := hv 6 (by decide)
                have hv7 : xx 7 = undef := hv 7 (by decide)
                have hv8 : xx 8 = undef := hv 8 (by decide)
                have hv9 : xx 9 = undef := hv 9 (by decide)
                have hv10 : xx 10 = undef := hv 10 (by decide)
                have hv11 : xx 11 = undef := hv 11 (by decide)
                have hv12 : xx 12 = undef := hv 12 (by decide)
                have hv13 : xx 13 = undef := hv 13 (by decide)
                have hv14 : xx 14 = undef := hv 14 (by decide)
                have hv15 : xx 15 = undef := hv 15 (by decide)
                have hv16 : xx 16 = undef := hv 16 (by decide)
                clear hv
                simp only [List.take, List.drop, fillA, Act.put]
                simp only [hv0, hv1, hv2, hv3, hv4, hv5, hv6, hv7, hv8, hv9, hv10, hv11, hv12, hv13, hv14, hv15, hv16]
                clear hv0 hv1 hv2 hv3 hv4 hv5 hv6 hv7 hv8 hv9 hv10 hv11 hv12 hv13 hv14 hv15 hv16
                have HT10 := Lib.hid (HT8.out.call hb9)
                clear hb9 HT8
                go_wp2
                have HT11 : Hid (St w2 [⟨wr.heap.size, #[.string (bs q.code), .int .i64 q.day, .bool q.neg, .string (bs q.num), .string (bs q.den)], 33⟩, ⟨w6.heap.size, #[.bool rn, .string (bs ra), .string (bs rd)], 30⟩, ⟨w4.heap.size, #[.bool rn, .string (bs ra), .string (bs rd)], 30⟩] _) := Lib.hid HT10.out
                go_roundw
                case rel => exact ⟨k + 1, _, _, by omega, by go_num, rfl, (show BestIs (some bi) _ from rfl), by show _ = _; rw [best_late HQQ.out HCB.out HLB.out, HK2.out], HT11.out.sub (List.sublist_cons_self _ _)⟩
                case measure => simp [intOf]; omega
            · rcases ob with _ | bi
              · have hv : _ = Value.int .i64 (-1) := ho
                subst hv
                have x1 : b < wr.heap.size := Nat.lt_of_lt_of_le hbb HT.out.below.size
                have x2 : ¬ b = wr.heap.size := by omega
                have x3 := HX.out _ HT.out.below 0 _ rfl
                rw [Nat.add_zero] at x3
                have x4 := HX.out _ HT.out.below 1 _ rfl
                have x5 := HX.out _ HT.out.below 2 _ rfl
                have x6 := HX.out _ HT.out.below 3 _ rfl
                have x7 := HX.out _ HT.out.below 4 _ rfl
                go_wp2
                clear x1 x2 x3 x4 x5 x6 x7
                have HT8 : Hid (St w2 [⟨wr.heap.size, #[.string (bs q.code), .int .i64 q.day, .bool q.neg, .string (bs q.num), .string (bs q.den)], 33⟩, ⟨w6.heap.size, #[.bool rn, .string (bs ra), .string (bs rd)], 30⟩, ⟨w4.heap.size, #[.bool rn, .string (bs ra), .string (bs rd)], 30⟩] _) := Lib.hid (St.alloc (HT.out) #[.string (bs q.code), .int .i64 q.day, .bool q.neg, .string (bs q.num), .string (bs q.den)] 33 _ (by simp))
                clear HT
                refine wp_region_facts 17 [fun _ vv => vv = .pointer (some ⟨wr.heap.size, 1, none⟩), fun _ vv => vv = .int .i64 q.day, fun _ vv => vv = .int .i64 dy, fun _ vv => vv = .bool true, fun _ vv => vv = .bool true, fun _ vv => vv = .int .i64 (-1), fun _ vv => vv = .bool true, fun _ vv => vv = .bool true, fun _ vv => vv = undef, fun _ vv => vv = undef, fun _ vv => vv = undef, fun _ vv => vv = undef, fun _ vv => vv = undef, fun _ vv => vv = undef, fun _ vv => vv = undef, fun _ vv => vv = undef, fun _ vv => vv = .bool true] rfl (by kernel_rfl) (by kernel_rfl) (by kernel_rfl) ⟨fun _ _ _ h _ => h, fun _ _ _ h _ => h, fun _ _ _ h _ => h, fun _ _ _ h _ => h, fun _ _ _ h _ => h, fun _ _ _ h _ => h, fun _ _ _ h _ => h, fun _ _ _ h _ => h, fun _ _ _ h _ => h, fun _ _ _ h _ => h, fun _ _ _ h _ => h, fun _ _ _ h _ => h, fun _ _ _ h _ => h, fun _ _ _ h _ => h, fun _ _ _ h _ => h, fun _ _ _ h _ => h, fun _ _ _ h _ => h, trivial⟩ ?_ ?_
                refine ⟨?_, ?_, ?_, ?_, ?_, ?_, ?_, ?_, ?_, ?_, ?_, ?_, ?_, ?_, ?_, ?_, ?_, trivial⟩
                · intro xx af wv hbx hev hev0 hd
                  have e19 : af.tmps[19]?.getD undef = .pointer (some ⟨wr.heap.size, 0, none⟩) := hev0 19 rfl
                  clear hev hev0 hd
                  go_wp2
                  exact StepQ.mk _ (Below.refl _ _) rfl
                · intro xx af wv hbx hev hev0 hd
                  have e68 := hev 0 _ 68 rfl rfl
                  have d0 : xx 0 = .pointer (some ⟨wr.heap.size, 1, none⟩) := hd ⟨0, .data⟩ (by simp) rfl
                  rw [d0] at e68
                  clear d0
                  clear hev hev0 hd
                  have hs1 := Lib.hid (HT8.out.call hbx)
                  have y0 := hs1.out.cell 0 rfl 1 rfl
                  go_wp2
                  exact StepQ.mk _ (Below.refl _ _) rfl
                · intro xx af wv hbx hev hev0 hd
                  have e11 : af.tmps[11]?.getD undef = .int .i64 dy := hev0 11 rfl
                  clear hev hev0 hd
                  go_wp2
                  exact StepQ.mk _ (Below.refl _ _) rfl
                · intro xx af wv hbx hev hev0 hd
                  have e69 := hev 1 _ 69 rfl rfl
                  have d1 : xx 1 = .int .i64 q.day := hd ⟨1, .data⟩ (by simp) rfl
                  rw [d1] at e69
                  clear d1
                  have e70 := hev 2 _ 70 rfl rfl
                  have d2 : xx 2 = .int .i64 dy := hd ⟨2, .data⟩ (by simp) rfl
                  rw [d2] at e70
                  clear d2
                  clear hev hev0 hd
                  go_wp2
                  exact StepQ.mk _ (Below.refl _ _) rfl
                · intro xx af wv hbx hev hev0 hd
                  have e71 := hev 3 _ 71 rfl rfl
                  have d3 : xx 3 = .bool true := hd ⟨3, .data⟩ (by simp) rfl
                  rw [d3] at e71
                  clear d3
                  clear hev hev0 hd
                  go_wp2
                  exact StepQ.mk _ (Below.refl _ _) rfl
                · intro xx af wv hbx hev hev0 hd
                  have e72 := hev 4 _ 72 rfl rfl
                  have d4 : xx 4 = .bool true := hd ⟨4, .guard⟩ (by simp) rfl
                  rw [d4] at e72
                  clear d4
                  have e16 : af.tmps[16]?.getD undef = .int .i64 (-1) := hev0 16 rfl
                  have q72 := getD_bool e72
                  clear hev hev0 hd
                  go_wp2
                  exact StepQ.mk _ (Below.refl _ _) rfl
                · intro xx af wv hbx hev hev0 hd
                  have e72 := hev 4 _ 72 rfl rfl
                  have d4 : xx 4 = .bool true := hd ⟨4, .guard⟩ (by simp) rfl
                  rw [d4] at e72
                  clear d4
                  have e73 := hev 5 _ 73 rfl rfl
                  have d5 : xx 5 = .int .i64 (-1) := hd ⟨5, .data⟩ (by simp) rfl
                  rw [d5] at e73
                  clear d5
                  have q72 := getD_bool e72
                  clear hev hev0 hd
                  go_wp2
                  exact StepQ.mk _ (Below.refl _ _) rfl
                · intro xx af wv hbx hev hev0 hd
                  have e72 := hev 4 _ 72 rfl rfl
                  have d4 : xx 4 = .bool true := hd ⟨4, .chain⟩ (by simp) rfl
                  rw [d4] at e72
                  clear d4
                  have e74 := hev 6 _ 74 rfl rfl
                  have d6 : xx 6 = .bool true := hd ⟨6, .data⟩ (by simp) rfl
                  rw [d6] at e74
                  clear d6
                  have q72 := getD_bool e72
                  clear hev hev0 hd
                  go_wp2
                  exact StepQ.mk _ (Below.refl _ _) rfl
                · intro xx af wv hbx hev hev0 hd
                  have e75 := hev 7 _ 75 rfl rfl
                  have d7 : xx 7 = .bool true := hd ⟨7, .guard⟩ (by simp) rfl
                  rw [d7] at e75
                  clear d7
                  have q75 := getD_bool e75
                  clear hev hev0 hd
                  go_wp2
                  exact StepQ.mk _ (Below.refl _ _) rfl
                · intro xx af wv hbx hev hev0 hd
                  have e75 := hev 7 _ 75 rfl rfl
                  have d7 : xx 7 = .bool true := hd ⟨7, .guard⟩ (by simp) rfl
                  rw [d7] at e75
                  clear d7
                  have q75 := getD_bool e75
                  clear hev hev0 hd
                  go_wp2
                  exact StepQ.mk _ (Below.refl _ _) rfl
                · intro xx af wv hbx hev hev0 hd
                  have e75 := hev 7 _ 75 rfl rfl
                  have d7 : xx 7 = .bool true := hd ⟨7, .guard⟩ (by simp) rfl
                  rw [d7] at e75
                  clear d7
                  have q75 := getD_bool e75
                  clear hev hev0 hd
                  go_wp2
                  exact StepQ.mk _ (Below.refl _ _) rfl
                · intro xx af wv hbx hev hev0 hd
                  have e75 := hev 7 _ 75 rfl rfl
                  have d7 : xx 7 = .bool true := hd ⟨7, .guard⟩ (by simp) rfl
                  rw [d7] at e75
                  clear d7
                  have q75 := getD_bool e75
                  clear hev hev0 hd
                  go_wp2
                  exact StepQ.mk _ (Below.refl _ _) rfl
                · intro xx af wv hbx hev hev0 hd
                  have e75 := hev 7 _ 75 rfl rfl
                  have d7 : xx 7 = .bool true := hd ⟨7, .guard⟩ (by simp) rfl
                  rw [d7] at e75
                  clear d7
                  have q75 := getD_bool e75
                  clear hev hev0 hd
                  go_wp2
                  exact StepQ.mk _ (Below.refl _ _) rfl
                · intro xx af wv hbx hev hev0 hd
                  have e75 := hev 7 _ 75 rfl rfl
                  have d7 : xx 7 = .bool true := hd ⟨7, .guard⟩ (by simp) rfl
                  rw [d7] at e75
                  clear d7
                  have q75 := getD_bool e75
                  clear hev hev0 hd
                  go_wp2
                  exact StepQ.mk _ (Below.refl _ _) rfl
                · intro xx af wv hbx hev hev0 hd
                  have e75 := hev 7 _ 75 rfl rfl
                  have d7 : xx 7 = .bool true := hd ⟨7, .guard⟩ (by simp) rfl
                  rw [d7] at e75
                  clear d7
                  have q75 := getD_bool e75
                  clear hev hev0 hd
                  go_wp2
                  exact StepQ.mk _ (Below.refl _ _) rfl
                · intro xx af wv hbx hev hev0 hd
                  have e75 := hev 7 _ 75 rfl rfl
                  have d7 : xx 7 = .bool true := hd ⟨7, .guard⟩ (by simp) rfl
                  rw [d7] at e75
                  clear d7
                  have q75 := getD_bool e75
                  clear hev hev0 hd
                  go_wp2
                  exact StepQ.mk _ (Below.refl _ _) rfl
                · intro xx af wv hbx hev hev0 hd
                  have e72 := hev 4 _ 72 rfl rfl
                  have d4 : xx 4 = .bool true := hd ⟨4, .guard⟩ (by simp) rfl
                  rw [d4] at e72
                  clear d4
                  have e75 := hev 7 _ 75 rfl rfl
                  have d7 : xx 7 = .bool true := hd ⟨7, .data⟩ (by simp) rfl
                  rw [d7] at e75
                  clear d7
                  have e83 := hev 15 _ 83 rfl rfl
                  have d15 : xx 15 = undef := hd ⟨15, .data⟩ (by simp) rfl
                  rw [d15] at e83
                  clear d15
                  have q72 := getD_bool e72
                  clear hev hev0 hd
                  go_wp2
                  exact StepQ.mk _ (Below.refl _ _) rfl
                intro xx w10 hb9 hv
                have hv0 : xx 0 = .pointer (some ⟨wr.heap.size, 1, none⟩) := hv 0 (by decide)
                have hv1 : xx 1 = .int .i64 q.day := hv 1 (by decide)
                have hv2 : xx 2 = .int .i64 dy := hv 2 (by decide)
                have hv3 : xx 3 = .bool true := hv 3 (by decide)
                have hv4 : xx 4 = .bool true := hv 4 (by decide)
                have hv5 : xx 5 = .int .i64 (-1) := hv 5 (by decide)
                have hv6 : xx 6 = .bool true := hv 6 (by decide)
                have hv7 : xx 7 = .bool true := hv 7 (by decide)
                have hv8 : xx 8 = undef := hv 8 (by decide)
                have hv9 : xx 9 = undef := hv 9 (by decide)
                have hv10 : xx 10 = undef := hv 10 (by decide)
                have hv11 : xx 11 = undef := hv 11 (by decide)
                have hv12 : xx 12 = undef := hv 12 (by decide)
                have hv13 : xx 13 = undef := hv 13 (by decide)
                have hv14 : xx 14 = undef := hv 14 (by decide)
                have hv15 : xx 15 = undef := hv 15 (by decide)
                have hv16 : xx 16 = .bool true := hv 16 (by decide)
                clear hv
                simp only [List.take, List.drop, fillA, Act.put]
                simp only [hv0, hv1, hv2, hv3, hv4, hv5, hv6, hv7, hv8, hv9, hv10, hv11, hv12, hv13, hv14, hv15, hv16]
                clear hv0 hv1 hv2 hv3 hv4 hv5 hv6 hv7 hv8 hv9 hv10 hv11 hv12 hv13 hv14 hv15 hv16
                have HT10 := Lib.hid (HT8.out.call hb9)
                clear hb9 HT8
                go_wp2
                have HT11 : Hid (St w2 [⟨wr.heap.size, #[.string (bs q.code), .int .i64 q.day, .bool q.neg, .string (bs q.num), .string (bs q.den)], 33⟩, ⟨w6.heap.size, #[.bool rn, .string (bs ra), .string (bs rd)], 30⟩, ⟨w4.heap.size, #[.bool rn, .string (bs ra), .string (bs rd)], 30⟩] _) := Lib.hid HT10.out
                go_roundw
                case rel => exact ⟨k + 1, _, _, by omega, by go_num, rfl, (show BestIs (some k) _ from rfl), by show _ = _; rw [best_first HQQ.out HCB.out HLB.out HK2.out], HT11.out.sub (List.sublist_cons_self _ _)⟩
                case measure => simp [intOf]; omega
              · have hv : _ = Value.int .i64 (bi : Nat) := ho
                subst hv
                have hbl := best_lt qs cc dy k bi HK2.out
                obtain ⟨b', o', p, e, _, hp, hy⟩ := HZQ.out.at_ hbl.2
                injection e with e
                injection e with e1' e2'
                subst e1'
                subst e2'
                have HY := Lib.hid hy
                have g0 : (0 : Int) ≤ ((bi : Nat) : Int) := by omega
                have g1 : ((bi : Nat) : Int) < (qs.length : Int) := by omega
                have g2 : decide (((bi : Nat) : Int) < 0) = false := decide_eq_false (by omega)
                have hda : dayAt qs bi = p.day := by unfold dayAt; rw [hp]
                obtain ⟨gB, hgB⟩ : ∃ x, x = decide (p.day < q.day) := ⟨_, rfl⟩
                have fg : decide (p.day < q.day) = gB := hgB.symm
                have HGB : Hid (decide (dayAt qs bi < q.day) = gB) := by show _ = _; rw [hda]; exact fg
                clear hgB hda hp hy hbl
                cases gB
                · have x1 : b < wr.heap.size := Nat.lt_of_lt_of_le hbb HT.out.below.size
                  have x2 : ¬ b = wr.heap.size := by omega
                  have x3 := HX.out _ HT.out.below 0 _ rfl
                  rw [Nat.add_zero] at x3
                  have x4 := HX.out _ HT.out.below 1 _ rfl
                  have x5 := HX.out _ HT.out.below 2 _ rfl
                  have x6 := HX.out _ HT.out.below 3 _ rfl
                  have x7 := HX.out _ HT.out.below 4 _ rfl
                  go_wp2
                  clear x1 x2 x3 x4 x5 x6 x7
                  have HT8 : Hid (St w2 [⟨wr.heap.size, #[.string (bs q.code), .int .i64 q.day, .bool q.neg, .string (bs q.num), .string (bs q.den)], 33⟩, ⟨w6.heap.size, #[.bool rn, .string (bs ra), .string (bs rd)], 30⟩, ⟨w4.heap.size, #[.bool rn, .string (bs ra), .string (bs rd)], 30⟩] _) := Lib.hid (St.alloc (HT.out) #[.string (bs q.code), .int .i64 q.day, .bool q.neg, .string (bs q.num), .string (bs q.den)] 33 _ (by simp))
                  clear HT
                  refine wp_region_facts 17 [fun _ vv => vv = .pointer (some ⟨wr.heap.size, 1, none⟩), fun _ vv => vv = .int .i64 q.day, fun _ vv => vv = .int .i64 dy, fun _ vv => vv = .bool true, fun _ vv => vv = .bool true, fun _ vv => vv = .int .i64 (bi : Nat), fun _ vv => vv = .bool false, fun _ vv => vv = .bool false, fun _ vv => vv = .pointer (some ⟨wr.heap.size, 1, none⟩), fun _ vv => vv = .int .i64 q.day, fun _ vv => vv = .slice (some ⟨b, o, none⟩) qs.length c, fun _ vv => vv = .int .i64 (bi : Nat), fun _ vv => vv = .pointer (some ⟨b, o + bi * 5, none⟩), fun _ vv => vv = .pointer (some ⟨b, o + bi * 5 + 1, none⟩), fun _ vv => vv = .int .i64 p.day, fun _ vv => vv = .bool false, fun _ vv => vv = .bool false] rfl (by kernel_rfl) (by kernel_rfl) (by kernel_rfl) ⟨fun _ _ _ h _ => h, fun _ _ _ h _ => h, fun _ _ _ h _ => h, fun _ _ _ h _ => h, fun _ _ _ h _ => h, fun _ _ _ h _ => h, fun _ _ _ h _ => h, fun _ _ _ h _ => h, fun _ _ _ h _ => h, fun _ _ _ h _ => h, fun _ _ _ h _ => h, fun _ _ _ h _ => h, fun _ _ _ h _ => h, fun _ _ _ h _ => h, fun _ _ _ h _ => h, fun _ _ _ h _ => h, fun _ _ _ h _ => h, trivial⟩ ?_ ?_
                  refine ⟨?_, ?_, ?_, ?_, ?_, ?_, ?_, ?_, ?_, ?_, ?_, ?_, ?_, ?_, ?_, ?_, ?_, trivial⟩
                  · intro xx af wv hbx hev hev0 hd
                    have e19 : af.tmps[19]?.getD undef = .pointer (some ⟨wr.heap.size, 0, none⟩) := hev0 19 rfl
                    clear hev hev0 hd
                    go_wp2
                    exact StepQ.mk _ (Below.refl _ _) rfl
                  · intro xx af wv hbx hev hev0 hd
                    have e68 := hev 0 _ 68 rfl rfl
                    have d0 : xx 0 = .pointer (some ⟨wr.heap.size, 1, none⟩) := hd ⟨0, .data⟩ (by simp) rfl
                    rw [d0] at e68
                    clear d0
                    clear hev hev0 hd
                    have hs1 := Lib.hid (HT8.out.call hbx)
                    have y0 := hs1.out.cell 0 rfl 1 rfl
                    go_wp2
                    exact StepQ.mk _ (Below.refl _ _) rfl
                  · intro xx af wv hbx hev hev0 hd
                    have e11 : af.tmps[11]?.getD undef = .int .i64 dy := hev0 11 rfl
                    clear hev hev0 hd
                    go_wp2
                    exact StepQ.mk _ (Below.refl _ _) rfl
                  · intro xx af wv hbx hev hev0 hd
                    have e69 := hev 1 _ 69 rfl rfl
                    have d1 : xx 1 = .int .i64 q.day := hd ⟨1, .data⟩ (by simp) rfl
                    rw [d1] at e69
                    clear d1
                    have e70 := hev 2 _ 70 rfl rfl
                    have d2 : xx 2 = .int .i64 dy := hd ⟨2, .data⟩ (by simp) rfl
                    rw [d2] at e70
                    clear d2
                    clear hev hev0 hd
                    go_wp2
                    exact StepQ.mk _ (Below.refl _ _) rfl
                  · intro xx af wv hbx hev hev0 hd
                    have e71 := hev 3 _ 71 rfl rfl
                    have d3 : xx 3 = .bool true := hd ⟨3, .data⟩ (by simp) rfl
                    rw [d3] at e71
                    clear d3
                    clear hev hev0 hd
                    go_wp2
                    exact StepQ.mk _ (Below.refl _ _) rfl
                  · intro xx af wv hbx hev hev0 hd
                    have e72 := hev 4 _ 72 rfl rfl
                    have d4 : xx 4 = .bool true := hd ⟨4, .guard⟩ (by simp) rfl
                    rw [d4] at e72
                    clear d4
                    have e16 : af.tmps[16]?.getD undef = .int .i64 (bi : Nat) := hev0 16 rfl
                    have q72 := getD_bool e72
                    clear hev hev0 hd
                    go_wp2
                    exact StepQ.mk _ (Below.refl _ _) rfl
                  · intro xx af wv hbx hev hev0 hd
                    have e72 := hev 4 _ 72 rfl rfl
                    have d4 : xx 4 = .bool true := hd ⟨4, .guard⟩ (by simp) rfl
                    rw [d4] at e72
                    clear d4
                    have e73 := hev 5 _ 73 rfl rfl
                    have d5 : xx 5 = .int .i64 (bi : Nat) := hd ⟨5, .data⟩ (by simp) rfl
                    rw [d5] at e73
                    clear d5
                    have q72 := getD_bool e72
                    clear hev hev0 hd
                    go_wp2
                    exact StepQ.mk _ (Below.refl _ _) rfl
                  · intro xx af wv hbx hev hev0 hd
                    have e72 := hev 4 _ 72 rfl rfl
                    have d4 : xx 4 = .bool true := hd ⟨4, .chain⟩ (by simp) rfl
                    rw [d4] at e72
                    clear d4
                    have e74 := hev 6 _ 74 rfl rfl
                    have d6 : xx 6 = .bool false := hd ⟨6, .data⟩ (by simp) rfl
                    rw [d6] at e74
                    clear d6
                    have q72 := getD_bool e72
                    clear hev hev0 hd
                    go_wp2
                    exact StepQ.mk _ (Below.refl _ _) rfl
                  · intro xx af wv hbx hev hev0 hd
                    have e75 := hev 7 _ 75 rfl rfl
                    have d7 : xx 7 = .bool false := hd ⟨7, .guard⟩ (by simp) rfl
                    rw [d7] at e75
                    clear d7
                    have e19 : af.tmps[19]?.getD undef = .pointer (some ⟨wr.heap.size, 0, none⟩) := hev0 19 rfl
                    have q75 := getD_bool e75
                    clear hev hev0 hd
                    go_wp2
                    exact StepQ.mk _ (Below.refl _ _) rfl
                  · intro xx af wv hbx hev hev0 hd
                    have e75 := hev 7 _ 75 rfl rfl
                    have d7 : xx 7 = .bool false := hd ⟨7, .guard⟩ (by simp) rfl
                    rw [d7] at e75
                    clear d7
                    have e76 := hev 8 _ 76 rfl rfl
                    have d8 : xx 8 = .pointer (some ⟨wr.heap.size, 1, none⟩) := hd ⟨8, .data⟩ (by simp) rfl
                    rw [d8] at e76
                    clear d8
                    have q75 := getD_bool e75
                    clear hev hev0 hd
                    have hs1 := Lib.hid (HT8.out.call hbx)
                    have y0 := hs1.out.cell 0 rfl 1 rfl
                    go_wp2
                    exact StepQ.mk _ (Below.refl _ _) rfl
                  · intro xx af wv hbx hev hev0 hd
                    have e75 := hev 7 _ 75 rfl rfl
                    have d7 : xx 7 = .bool false := hd ⟨7, .guard⟩ (by simp) rfl
                    rw [d7] at e75
                    clear d7
                    have e7 : af.tmps[7]?.getD undef = .slice (some ⟨b, o, none⟩) qs.length c := hev0 7 rfl
                    have q75 := getD_bool e75
                    clear hev hev0 hd
                    go_wp2
                    exact StepQ.mk _ (Below.refl _ _) rfl
                  · intro xx af wv hbx hev hev0 hd
                    have e75 := hev 7 _ 75 rfl rfl
                    have d7 : xx 7 = .bool false := hd ⟨7, .guard⟩ (by simp) rfl
                    rw [d7] at e75
                    clear d7
                    have e16 : af.tmps[16]?.getD undef = .int .i64 (bi : Nat) := hev0 16 rfl
                    have q75 := getD_bool e75
                    clear hev hev0 hd
                    go_wp2
                    exact StepQ.mk _ (Below.refl _ _) rfl
                  · intro xx af wv hbx hev hev0 hd
                    have e75 := hev 7 _ 75 rfl rfl
                    have d7 : xx 7 = .bool false := hd ⟨7, .guard⟩ (by simp) rfl
                    rw [d7] at e75
                    clear d7
                    have e78 := hev 10 _ 78 rfl rfl
                    have d10 : xx 10 = .slice (some ⟨b, o, none⟩) qs.length c := hd ⟨10, .data⟩ (by simp) rfl
                    rw [d10] at e78
                    clear d10
                    have e79 := hev 11 _ 79 rfl rfl
                    have d11 : xx 11 = .int .i64 (bi : Nat) := hd ⟨11, .data⟩ (by simp) rfl
                    rw [d11] at e79
                    clear d11
                    have q75 := getD_bool e75
                    clear hev hev0 hd
                    go_wp2
                    exact StepQ.mk _ (Below.refl _ _) rfl
                  · intro xx af wv hbx hev hev0 hd
                    have e75 := hev 7 _ 75 rfl rfl
                    have d7 : xx 7 = .bool false := hd ⟨7, .guard⟩ (by simp) rfl
                    rw [d7] at e75
                    clear d7
                    have e80 := hev 12 _ 80 rfl rfl
                    have d12 : xx 12 = .pointer (some ⟨b, o + bi * 5, none⟩) := hd ⟨12, .data⟩ (by simp) rfl
                    rw [d12] at e80
                    clear d12
                    have q75 := getD_bool e75
                    clear hev hev0 hd
                    go_wp2
                    exact StepQ.mk _ (Below.refl _ _) rfl
                  · intro xx af wv hbx hev hev0 hd
                    have e75 := hev 7 _ 75 rfl rfl
                    have d7 : xx 7 = .bool false := hd ⟨7, .guard⟩ (by simp) rfl
                    rw [d7] at e75
                    clear d7
                    have e81 := hev 13 _ 81 rfl rfl
                    have d13 : xx 13 = .pointer (some ⟨b, o + bi * 5 + 1, none⟩) := hd ⟨13, .data⟩ (by simp) rfl
                    rw [d13] at e81
                    clear d13
                    have q75 := getD_bool e75
                    clear hev hev0 hd
                    have hs1 := Lib.hid (HT8.out.call hbx)
                    have y0 := HY.out _ hs1.out.below 1 _ rfl
                    go_wp2
                    exact StepQ.mk _ (Below.refl _ _) rfl
                  · intro xx af wv hbx hev hev0 hd
                    have e75 := hev 7 _ 75 rfl rfl
                    have d7 : xx 7 = .bool false := hd ⟨7, .guard⟩ (by simp) rfl
                    rw [d7] at e75
                    clear d7
                    have e77 := hev 9 _ 77 rfl rfl
                    have d9 : xx 9 = .int .i64 q.day := hd ⟨9, .data⟩ (by simp) rfl
                    rw [d9] at e77
                    clear d9
                    have e82 := hev 14 _ 82 rfl rfl
                    have d14 : xx 14 = .int .i64 p.day := hd ⟨14, .data⟩ (by simp) rfl
                    rw [d14] at e82
                    clear d14
                    have q75 := getD_bool e75
                    clear hev hev0 hd
                    go_wp2
                    exact StepQ.mk _ (Below.refl _ _) rfl
                  · intro xx af wv hbx hev hev0 hd
                    have e72 := hev 4 _ 72 rfl rfl
                    have d4 : xx 4 = .bool true := hd ⟨4, .guard⟩ (by simp) rfl
                    rw [d4] at e72
                    clear d4
                    have e75 := hev 7 _ 75 rfl rfl
                    have d7 : xx 7 = .bool false := hd ⟨7, .data⟩ (by simp) rfl
                    rw [d7] at e75
                    clear d7
                    have e83 := hev 15 _ 83 rfl rfl
                    have d15 : xx 15 = .bool false := hd ⟨15, .data⟩ (by simp) rfl
                    rw [d15] at e83
                    clear d15
                    have q72 := getD_bool e72
                    clear hev hev0 hd
                    go_wp2
                    exact StepQ.mk _ (Below.refl _ _) rfl
                  intro xx w10 hb9 hv
                  have hv0 : xx 0 = .pointer (some ⟨wr.heap.size, 1, none⟩) := hv 0 (by decide)
                  have hv1 : xx 1 = .int .i64 q.day := hv 1 (by decide)
                  have hv2 : xx 2 = .int .i64 dy := hv 2 (by decide)
                  have hv3 : xx 3 = .bool true := hv 3 (by decide)
                  have hv4 : xx 4 = .bool true := hv 4 (by decide)
                  have hv5 : xx 5 = .int .i64 (bi : Nat) := hv 5 (by decide)
                  have hv6 : xx 6 = .bool false := hv 6 (by decide)
                  have hv7 : xx 7 = .bool false := hv 7 (by decide)
                  have hv8 : xx 8 = .pointer (some ⟨wr.heap.size, 1, none⟩) := hv 8 (by decide)
                  have hv9 : xx 9 = .int .i64 q.day := hv 9 (by decide)
                  have hv10 : xx 10 = .slice (some ⟨b, o, none⟩) qs.length c := hv 10 (by decide)
                  have hv11 : xx 11 = .int .i64 (bi : Nat) := hv 11 (by decide)
                  have hv12 : xx 12 = .pointer (some ⟨b, o + bi * 5, none⟩) := hv 12 (by decide)
                  have hv13 : xx 13 = .pointer (some ⟨b, o + bi * 5 + 1, none⟩) := hv 13 (by decide)
                  have hv14 : xx 14 = .int .i64 p.day := hv 14 (by decide)
                  have hv15 : xx 15 = .bool false := hv 15 (by decide)
                  have hv16 : xx 16 = .bool false := hv 16 (by decide)
                  clear hv
                  simp only [List.take, List.drop, fillA, Act.put]
                  simp only [hv0, hv1, hv2, hv3, hv4, hv5, hv6, hv7, hv8, hv9, hv10, hv11, hv12, hv13, hv14, hv15, hv16]
                  clear hv0 hv1 hv2 hv3 hv4 hv5 hv6 hv7 hv8 hv9 hv10 hv11 hv12 hv13 hv14 hv15 hv16
                  have HT10 := Lib.hid (HT8.out.call hb9)
                  clear hb9 HT8
                  go_wp2
                  have HT11 : Hid (St w2 [⟨wr.heap.size, #[.string (bs q.code), .int .i64 q.day, .bool q.neg, .string (bs q.num), .string (bs q.den)], 33⟩, ⟨w6.heap.size, #[.bool rn, .string (bs ra), .string (bs rd)], 30⟩, ⟨w4.heap.size, #[.bool rn, .string (bs ra), .string (bs rd)], 30⟩] _) := Lib.hid HT10.out
                  go_roundw
                  case rel => exact ⟨k + 1, _, _, by omega, by go_num, rfl, (show BestIs (some bi) _ from rfl), by show _ = _; rw [best_stay HQQ.out HCB.out HLB.out HK2.out HGB.out], HT11.out.sub (List.sublist_cons_self _ _)⟩
                  case measure => simp [intOf]; omega
                · have x1 : b < wr.heap.size := Nat.lt_of_lt_of_le hbb HT.out.below.size
                  have x2 : ¬ b = wr.heap.size := by omega
                  have x3 := HX.out _ HT.out.below 0 _ rfl
                  rw [Nat.add_zero] at x3
                  have x4 := HX.out _ HT.out.below 1 _ rfl
                  have x5 := HX.out _ HT.out.below 2 _ rfl
                  have x6 := HX.out _ HT.out.below 3 _ rfl
                  have x7 := HX.out _ HT.out.below 4 _ rfl
                  go_wp2
                  clear x1 x2 x3 x4 x5 x6 x7
                  have HT8 : Hid (St w2 [⟨wr.heap.size, #[.string (bs q.code), .int .i64 q.day, .bool q.neg, .string (bs q.num), .string (bs q.den)], 33⟩, ⟨w6.heap.size, #[.bool rn, .string (bs ra), .string (bs rd)], 30⟩, ⟨w4.heap.size, #[.bool rn, .string (bs ra), .string (bs rd)], 30⟩] _) := Lib.hid (St.alloc (HT.out) #[.string (bs q.code), .int .i64 q.day, .bool q.neg, .string (bs q.num), .string (bs q.den)] 33 _ (by simp))
                  clear HT
                  refine wp_region_facts 17 [fun _ vv => vv = .pointer (some ⟨wr.heap.size, 1, none⟩), fun _ vv => vv = .int .i64 q.day, fun _ vv => vv = .int .i64 dy, fun _ vv => vv = .bool true, fun _ vv => vv = .bool true, fun _ vv => vv = .int .i64 (bi : Nat), fun _ vv => vv = .bool false, fun _ vv => vv = .bool false, fun _ vv => vv = .pointer (some ⟨wr.heap.size, 1, none⟩), fun _ vv => vv = .int .i64 q.day, fun _ vv => vv = .slice (some ⟨b, o, none⟩) qs.length c, fun _ vv => vv = .int .i64 (bi : Nat), fun _ vv => vv = .pointer (some ⟨b, o + bi * 5, none⟩), fun _ vv => vv = .pointer (some ⟨b, o + bi * 5 + 1, none⟩), fun _ vv => vv = .int .i64 p.day, fun _ vv => vv = .bool true, fun _ vv => vv = .bool true] rfl (by kernel_rfl) (by kernel_rfl) (by kernel_rfl) ⟨fun _ _ _ h _ => h, fun _ _ _ h _ => h, fun _ _ _ h _ => h, fun _ _ _ h _ => h, fun _ _ _ h _ => h, fun _ _ _ h _ => h, fun _ _ _ h _ => h, fun _ _ _ h _ => h, fun _ _ _ h _ => h, fun _ _ _ h _ => h, fun _ _ _ h _ => h, fun _ _ _ h _ => h, fun _ _ _ h _ => h, fun _ _ _ h _ => h, fun _ _ _ h _ => h, fun _ _ _ h _ => h, fun _ _ _ h _ => h, trivial⟩ ?_ ?_
                  refine ⟨?_, ?_, ?_, ?_, ?_, ?_, ?_, ?_, ?_, ?_, ?_, ?_, ?_, ?_, ?_, ?_, ?_, trivial⟩
                  · intro xx af wv hbx hev hev0 hd
                    have e19 : af.tmps[19]?.getD undef = .pointer (some ⟨wr.heap.size, 0, none⟩) := hev0 19 rfl
                    clear hev hev0 hd
                    go_wp2
                    exact StepQ.mk _ (Below.refl _ _) rfl
                  · intro xx af wv hbx hev hev0 hd
                    have e68 := hev 0 _ 68 rfl rfl
                    have d0 : xx 0 = .pointer (some ⟨wr.heap.size, 1, none⟩) := hd ⟨0, .data⟩ (by simp) rfl
                    rw [d0] at e68
                    clear d0
                    clear hev hev0 hd
                    have hs1 := Lib.hid (HT8.out.call hbx)
                    have y0 := hs1.out.cell 0 rfl 1 rfl
                    go_wp2
                    exact StepQ.mk _ (Below.refl _ _) rfl
                  · intro xx af wv hbx hev hev0 hd
                    have e11 : af.tmps[11]?.getD undef = .int .i64 dy := hev0 11 rfl
                    clear hev hev0 hd
                    go_wp2
                    exact StepQ.mk _ (Below.refl _ _) rfl
                  · intro xx af wv hbx hev hev0 hd
                    have e69 := hev 1 _ 69 rfl rfl
                    have d1 : xx 1 = .int .i64 q.day := hd ⟨1, .data⟩ (by simp) rfl
                    rw [d1] at e69
                    clear d1
                    have e70 := hev 2 _ 70 rfl rfl
                    have d2 : xx 2 = .int .i64 dy := hd ⟨2, .data⟩ (by simp) rfl
                    rw [d2] at e70
                    clear d2
                    clear hev hev0 hd
                    go_wp2
                    exact StepQ.mk _ (Below.refl _ _) rfl
                  · intro xx af wv hbx hev hev0 hd
                    have e71 := hev 3 _ 71 rfl rfl
                    have d3 : xx 3 = .bool true := hd ⟨3, .data⟩ (by simp) rfl
                    rw [d3] at e71
                    clear d3
                    clear hev hev0 hd
                    go_wp2
                    exact StepQ.mk _ (Below.refl _ _) rfl
                  · intro xx af wv hbx hev hev0 hd
                    have e72 := hev 4 _ 72 rfl rfl
                    have d4 : xx 4 = .bool true := hd ⟨4, .guard⟩ (by simp) rfl
                    rw [d4] at e72
                    clear d4
                    have e16 : af.tmps[16]?.getD undef = .int .i64 (bi : Nat) := hev0 16 rfl
                    have q72 := getD_bool e72
                    clear hev hev0 hd
                    go_wp2
                    exact StepQ.mk _ (Below.refl _ _) rfl
                  · intro xx af wv hbx hev hev0 hd
                    have e72 := hev 4 _ 72 rfl rfl
                    have d4 : xx 4 = .bool true := hd ⟨4, .guard⟩ (by simp) rfl
                    rw [d4] at e72
                    clear d4
                    have e73 := hev 5 _ 73 rfl rfl
                    have d5 : xx 5 = .int .i64 (bi : Nat) := hd ⟨5, .data⟩ (by simp) rfl
                    rw [d5] at e73
                    clear d5
                    have q72 := getD_bool e72
                    clear hev hev0 hd
                    go_wp2
                    exact StepQ.mk _ (Below.refl _ _) rfl
                  · intro xx af wv hbx hev hev0 hd
                    have e72 := hev 4 _ 72 rfl rfl
                    have d4 : xx 4 = .bool true := hd ⟨4, .chain⟩ (by simp) rfl
                    rw [d4] at e72
                    clear d4
                    have e74 := hev 6 _ 74 rfl rfl
                    have d6 : xx 6 = .bool false := hd ⟨6, .data⟩ (by simp) rfl
                    rw [d6] at e74
                    clear d6
                    have q72 := getD_bool e72
                    clear hev hev0 hd
                    go_wp2
                    exact StepQ.mk _ (Below.refl _ _) rfl
                  · intro xx af wv hbx hev hev0 hd
                    have e75 := hev 7 _ 75 rfl rfl
                    have d7 : xx 7 = .bool false := hd ⟨7, .guard⟩ (by simp) rfl
                    rw [d7] at e75
                    clear d7
                    have e19 : af.tmps[19]?.getD undef = .pointer (some ⟨wr.heap.size, 0, none⟩) := hev0 19 rfl
                    have q75 := getD_bool e75
                    clear hev hev0 hd
                    go_wp2
                    exact StepQ.mk _ (Below.refl _ _) rfl
                  · intro xx af wv hbx hev hev0 hd
                    have e75 := hev 7 _ 75 rfl rfl
                    have d7 : xx 7 = .bool false := hd ⟨7, .guard⟩ (by simp) rfl
                    rw [d7] at e75
                    clear d7
                    have e76 := hev 8 _ 76 rfl rfl
                    have d8 : xx 8 = .pointer (some ⟨wr.heap.size, 1, none⟩) := hd ⟨8, .data⟩ (by simp) rfl
                    rw [d8] at e76
                    clear d8
                    have q75 := getD_bool e75
                    clear hev hev0 hd
                    have hs1 := Lib.hid (HT8.out.call hbx)
                    have y0 := hs1.out.cell 0 rfl 1 rfl
                    go_wp2
                    exact StepQ.mk _ (Below.refl _ _) rfl
                  · intro xx af wv hbx hev hev0 hd
                    have e75 := hev 7 _ 75 rfl rfl
                    have d7 : xx 7 = .bool false := hd ⟨7, .guard⟩ (by simp) rfl
                    rw [d7] at e75
                    clear d7
                    have e7 : af.tmps[7]?.getD undef = .slice (some ⟨b, o, none⟩) qs.length c := hev0 7 rfl
                    have q75 := getD_bool e75
                    clear hev hev0 hd
                    go_wp2
                    exact StepQ.mk _ (Below.refl _ _) rfl
                  · intro xx af wv hbx hev hev0 hd
                    have e75 := hev 7 _ 75 rfl rfl
                    have d7 : xx 7 = .bool false := hd ⟨7, .guard⟩ (by simp) rfl
                    rw [d7] at e75
                    clear d7
                    have e16 : af.tmps[16]?.getD undef = .int .i64 (bi : Nat) := hev0 16 rfl
                    have q75 := getD_bool e75
                    clear hev hev0 hd
                    go_wp2
                    exact StepQ.mk _ (Below.refl _ _) rfl
                  · intro xx af wv hbx hev hev0 hd
                    have e75 := hev 7 _ 75 rfl rfl
                    have d7 : xx 7 = .bool false := hd ⟨7, .guard⟩ (by simp) rfl
                    rw [d7] at e75
                    clear d7
                    have e78 := hev 10 _ 78 rfl rfl
                    have d10 : xx 10 = .slice (some ⟨b, o, none⟩) qs.length c := hd ⟨10, .data⟩ (by simp) rfl
                    rw [d10] at e78
                    clear d10
                    have e79 := hev 11 _ 79 rfl rfl
                    have d11 : xx 11 = .int .i64 (bi : Nat) := hd ⟨11, .data⟩ (by simp) rfl
                    rw [d11] at e79
                    clear d11
                    have q75 := getD_bool e75
                    clear hev hev0 hd
                    go_wp2
                    exact StepQ.mk _ (Below.refl _ _) rfl
                  · intro xx af wv hbx hev hev0 hd
                    have e75 := hev 7 _ 75 rfl rfl
                    have d7 : xx 7 = .bool false := hd ⟨7, .guard⟩ (by simp) rfl
                    rw [d7] at e75
                    clear d7
                    have e80 := hev 12 _ 80 rfl rfl
                    have d12 : xx 12 = .pointer (some ⟨b, o + bi * 5, none⟩) := hd ⟨12, .data⟩ (by simp) rfl
                    rw [d12] at e80
                    clear d12
                    have q75 := getD_bool e75
                    clear hev hev0 hd
                    go_wp2
                    exact StepQ.mk _ (Below.refl _ _) rfl
                  · intro xx af wv hbx hev hev0 hd
                    have e75 := hev 7 _ 75 rfl rfl
                    have d7 : xx 7 = .bool false := hd ⟨7, .guard⟩ (by simp) rfl
                    rw [d7] at e75
                    clear d7
                    have e81 := hev 13 _ 81 rfl rfl
                    have d13 : xx 13 = .pointer (some ⟨b, o + bi * 5 + 1, none⟩) := hd ⟨13, .data⟩ (by simp) rfl
                    rw [d13] at e81
                    clear d13
                    have q75 := getD_bool e75
                    clear hev hev0 hd
                    have hs1 := Lib.hid (HT8.out.call hbx)
                    have y0 := HY.out _ hs1.out.below 1 _ rfl
                    go_wp2
                    exact StepQ.mk _ (Below.refl _ _) rfl
                  · intro xx af wv hbx hev hev0 hd
                    have e75 := hev 7 _ 75 rfl rfl
                    have d7 : xx 7 = .bool false := hd ⟨7, .guard⟩ (by simp) rfl
                    rw [d7] at e75
                    clear d7
                    have e77 := hev 9 _ 77 rfl rfl
                    have d9 : xx 9 = .int .i64 q.day := hd ⟨9, .data⟩ (by simp) rfl
                    rw [d9] at e77
                    clear d9
                    have e82 := hev 14 _ 82 rfl rfl
                    have d14 : xx 14 = .int .i64 p.day := hd ⟨14, .data⟩ (by simp) rfl
                    rw [d14] at e82
                    clear d14
                    have q75 := getD_bool e75
                    clear hev hev0 hd
                    go_wp2
                    exact StepQ.mk _ (Below.refl _ _) rfl
                  · intro xx af wv hbx hev hev0 hd
                    have e72 := hev 4 _ 72 rfl rfl
                    have d4 : xx 4 = .bool true := hd ⟨4, .guard⟩ (by simp) rfl
                    rw [d4] at e72
                    clear d4
                    have e75 := hev 7 _ 75 rfl rfl
                    have d7 : xx 7 = .bool false := hd ⟨7, .data⟩ (by simp) rfl
                    rw [d7] at e75
                    clear d7
                    have e83 := hev 15 _ 83 rfl rfl
                    have d15 : xx 15 = .bool true := hd ⟨15, .data⟩ (by simp) rfl
                    rw [d15] at e83
                    clear d15
                    have q72 := getD_bool e72
                    clear hev hev0 hd
                    go_wp2
                    exact StepQ.mk _ (Below.refl _ _) rfl
                  intro xx w10 hb9 hv
                  have hv0 : xx 0 = .pointer (some ⟨wr.heap.size, 1, none⟩) := hv 0 (by decide)
                  have hv1 : xx 1 = .int .i64 q.day := hv 1 (by decide)
                  have hv2 : xx 2 = .int .i64 dy := hv 2 (by decide)
                  have hv3 : xx 3 = .bool true := hv 3 (by decide)
                  have hv4 : xx 4 = .bool true := hv 4 (by decide)
                  have hv5 : xx 5 = .int .i64 (bi : Nat) := hv 5 (by decide)
                  have hv6 : xx 6 = .bool false := hv 6 (by decide)
                  have hv7 : xx 7 = .bool false := hv 7 (by decide)
                  have hv8 : xx 8 = .pointer (some ⟨wr.heap.size, 1, none⟩) := hv 8 (by decide)
                  have hv9 : xx 9 = .int .i64 q.day := hv 9 (by decide)
                  have hv10 : xx 10 = .slice (some ⟨b, o, none⟩) qs.length c := hv 10 (by decide)
                  have hv11 : xx 11 = .int .i64 (bi : Nat) := hv 11 (by decide)
                  have hv12 : xx 12 = .pointer (some ⟨b, o + bi * 5, none⟩) := hv 12 (by decide)
                  have hv13 : xx 13 = .pointer (some ⟨b, o + bi * 5 + 1, none⟩) := hv 13 (by decide)
                  have hv14 : xx 14 = .int .i64 p.day := hv 14 (by decide)
                  have hv15 : xx 15 = .bool true := hv 15 (by decide)
                  have hv16 : xx 16 = .bool true := hv 16 (by decide)
                  clear hv
                  simp only [List.take, List.drop, fillA, Act.put]
                  simp only [hv0, hv1, hv2, hv3, hv4, hv5, hv6, hv7, hv8, hv9, hv10, hv11, hv12, hv13, hv14, hv15, hv16]
                  clear hv0 hv1 hv2 hv3 hv4 hv5 hv6 hv7 hv8 hv9 hv10 hv11 hv12 hv13 hv14 hv15 hv16
                  have HT10 := Lib.hid (HT8.out.call hb9)
                  clear hb9 HT8
                  go_wp2
                  have HT11 : Hid (St w2 [⟨wr.heap.size, #[.string (bs q.code), .int .i64 q.day, .bool q.neg, .string (bs q.num), .string (bs q.den)], 33⟩, ⟨w6.heap.size, #[.bool rn, .string (bs ra), .string (bs rd)], 30⟩, ⟨w4.heap.size, #[.bool rn, .string (bs ra), .string (bs rd)], 30⟩] _) := Lib.hid HT10.out
                  go_roundw
                  case rel => exact ⟨k + 1, _, _, by omega, by go_num, rfl, (show BestIs (some k) _ from rfl), by show _ = _; rw [best_next HQQ.out HCB.out HLB.out HK2.out HGB.out], HT11.out.sub (List.sublist_cons_self _ _)⟩
                  case measure => simp [intOf]; omega
        · obtain rfl : k = qs.length := by omega
          have hby := HBY.out
          rw [hbest.out] at hby
          cases kb
          · have hm : m = 8 := by injection hby
            subst hm
            clear hby hk2
            go_wp2_with fail
            refine (HAW.out _).mono ?_
            rintro e w8 ⟨rfl, hb8⟩
            have HT8 := Lib.hid (HT.out.call hb8)
            clear hb8 HT
            go_wp2
            have HT9 : Hid (St w2 [⟨w6.heap.size, #[.bool rn, .string (bs ra), .string (bs rd)], 30⟩, ⟨w4.heap.size, #[.bool rn, .string (bs ra), .string (bs rd)], 30⟩] _) := Lib.hid HT8.out
            go_ret
            exact ⟨rfl, HB0.out.trans (HT9.out.below.mono HB0.out.size)⟩
          · rcases ob with _ | bi
            · have hv : _ = Value.int .i64 (-1) := ho
              subst hv
              have hm : m = 9 := by injection hby
              subst hm
              clear hby hk2
              go_wp2_with fail
              refine (HAW.out _).mono ?_
              rintro e w8 ⟨rfl, hb8⟩
              have HT8 := Lib.hid (HT.out.call hb8)
              clear hb8 HT
              go_wp2
              have HT9 : Hid (St w2 [⟨w6.heap.size, #[.bool rn, .string (bs ra), .string (bs rd)], 30⟩, ⟨w4.heap.size, #[.bool rn, .string (bs ra), .string (bs rd)], 30⟩] _) := Lib.hid HT8.out
              go_ret
              exact ⟨rfl, HB0.out.trans (HT9.out.below.mono HB0.out.size)⟩
            · have hv : _ = Value.int .i64 (bi : Nat) := ho
              subst hv
              have hbl := best_lt qs cc dy qs.length bi hk2
              obtain ⟨b, o, p, rfl, hbb, hp, hy⟩ := HZQ.out.at_ hbl.2
              have hz := HSM.out p (List.mem_of_getElem? hp)
              rw [show (some bi).bind (fun b => qs[b]?) = some p from hp] at hby
              have hm : m = 0 ∧ rn = p.neg ∧ ra = p.num ∧ rd = p.den := by
                injection hby with h1 h2
                injection h1 with h3 h4 h5
                exact ⟨h2, h3, h4, h5⟩
              obtain ⟨rfl, rfl, rfl, rfl⟩ := hm
              have HEQ := Lib.hid (fun W => rat_eql p.neg p.neg p.num p.num p.den p.den (by omega) (by omega) (by omega) (by omega) true (by simp) W)
              have heq := HEQ.out
              unfold raw at heq
              have XEQ := Lib.hid heq
              have HY := Lib.hid hy
              have g0 : (0 : Int) ≤ ((bi : Nat) : Int) := by omega
              have g1 : ((bi : Nat) : Int) < (qs.length : Int) := by omega
              have g2 : decide (((bi : Nat) : Int) < 0) = false := decide_eq_false (by omega)
              clear hby hk2 hbl hp hy hz heq HEQ
              go_wp2
              refine wp_region_facts 23 [fun _ vv => vv = .bool true, fun _ vv => vv = .bool true, fun _ vv => vv = .int .i64 0, fun _ vv => vv = .bool true, fun _ vv => vv = .bool true, fun _ vv => vv = .bool true, fun _ vv => vv = .int .i64 0, fun _ vv => vv = .bool true, fun _ vv => vv = .bool true, fun _ vv => vv = .bool true, fun _ vv => vv = .agg #[.bool p.neg, .string (bs p.num), .string (bs p.den)], fun _ vv => vv = .slice (some ⟨b, o, none⟩) qs.length c, fun _ vv => vv = .int .i64 (bi : Nat), fun _ vv => vv = .pointer (some ⟨b, o + bi * 5, none⟩), fun _ vv => vv = .pointer (some ⟨b, o + bi * 5 + 2, none⟩), fun _ vv => vv = .agg #[.bool p.neg, .string (bs p.num), .string (bs p.den)], fun _ vv => vv = .bool true, fun _ vv => vv = .bool true, fun _ vv => vv = .bool true, fun _ vv => vv = .agg #[.bool p.neg, .string (bs p.num), .string (bs p.den)], fun _ vv => vv = .agg #[.bool p.neg, .string (bs p.num), .string (bs p.den)], fun _ vv => vv = .bool true, fun _ vv => vv = .bool true] rfl (by kernel_rfl) (by kernel_rfl) (by kernel_rfl) ⟨fun _ _ _ h _ => h, fun _ _ _ h _ => h, fun _ _ _ h _ => h, fun _ _ _ h _ => h, fun _ _ _ h _ => h, fun _ _ _ h _ => h, fun _ _ _ h _ => h, fun _ _ _ h _ => h, fun _ _ _ h _ => h, fun _ _ _ h _ => h, fun _ _ _ h _ => h, fun _ _ _ h _ => h, fun _ _ _ h _ => h, fun _ _ _ h _ => h, fun _ _ _ h _ => h, fun _ _ _ h _ => h, fun _ _ _ h _ => h, fun _ _ _ h _ => h, fun _ _ _ h _ => h, fun _ _ _ h _ => h, fun _ _ _ h _ => h, fun _ _ _ h _ => h, fun _ _ _ h _ => h, trivial⟩ ?_ ?_
              refine ⟨?_, ?_, ?_, ?_, ?_, ?_, ?_, ?_, ?_, ?_, ?_, ?_, ?_, ?_, ?_, ?_, ?_, ?_, ?_, ?_, ?_, ?_, ?_, trivial⟩
              · intro xx af wv hbx hev hev0 hd
                clear hev hev0 hd
                go_wp2_with fail
                refine (HAW.out _).mono ?_
                rintro e w8 ⟨rfl, hb8⟩
                go_wp2
                exact StepQ.mk _ hb8 rfl
              · intro xx af wv hbx hev hev0 hd
                have e114 := hev 0 _ 114 rfl rfl
                have d0 : xx 0 = .bool true := hd ⟨0, .data⟩ (by simp) rfl
                rw [d0] at e114
                clear d0
                clear hev hev0 hd
                go_wp2
                exact StepQ.mk _ (Below.refl _ _) rfl
              · intro xx af wv hbx hev hev0 hd
                have e115 := hev 1 _ 115 rfl rfl
                have d1 : xx 1 = .bool true := hd ⟨1, .guard⟩ (by simp) rfl
                rw [d1] at e115
                clear d1
                have e13 : af.tmps[13]?.getD undef = .int .i64 0 := hev0 13 rfl
                have q115 := getD_bool e115
                clear hev hev0 hd
                go_wp2
                exact StepQ.mk _ (Below.refl _ _) rfl
              · intro xx af wv hbx hev hev0 hd
                have e115 := hev 1 _ 115 rfl rfl
                have d1 : xx 1 = .bool true := hd ⟨1, .guard⟩ (by simp) rfl
                rw [d1] at e115
                clear d1
                have e116 := hev 2 _ 116 rfl rfl
                have d2 : xx 2 = .int .i64 0 := hd ⟨2, .data⟩ (by simp) rfl
                rw [d2] at e116
                clear d2
                have q115 := getD_bool e115
                clear hev hev0 hd
                go_wp2
                exact StepQ.mk _ (Below.refl _ _) rfl
              · intro xx af wv hbx hev hev0 hd
                have e115 := hev 1 _ 115 rfl rfl
                have d1 : xx 1 = .bool true := hd ⟨1, .data⟩ (by simp) rfl
                rw [d1] at e115
                clear d1
                have e117 := hev 3 _ 117 rfl rfl
                have d3 : xx 3 = .bool true := hd ⟨3, .data⟩ (by simp) rfl
                rw [d3] at e117
                clear d3
                clear hev hev0 hd
                go_wp2
                exact StepQ.mk _ (Below.refl _ _) rfl
              · intro xx af wv hbx hev hev0 hd
                have e118 := hev 4 _ 118 rfl rfl
                have d4 : xx 4 = .bool true := hd ⟨4, .data⟩ (by simp) rfl
                rw [d4] at e118
                clear d4
                clear hev hev0 hd
                go_wp2
                exact StepQ.mk _ (Below.refl _ _) rfl
              · intro xx af wv hbx hev hev0 hd
                have e119 := hev 5 _ 119 rfl rfl
                have d5 : xx 5 = .bool true := hd ⟨5, .guard⟩ (by simp) rfl
                rw [d5] at e119
                clear d5
                have e15 : af.tmps[15]?.getD undef = .int .i64 0 := hev0 15 rfl
                have q119 := getD_bool e119
                clear hev hev0 hd
                go_wp2
                exact StepQ.mk _ (Below.refl _ _) rfl
              · intro xx af wv hbx hev hev0 hd
                have e119 := hev 5 _ 119 rfl rfl
                have d5 : xx 5 = .bool true := hd ⟨5, .guard⟩ (by simp) rfl
                rw [d5] at e119
                clear d5
                have e120 := hev 6 _ 120 rfl rfl
                have d6 : xx 6 = .int .i64 0 := hd ⟨6, .data⟩ (by simp) rfl
                rw [d6] at e120
                clear d6
                have q119 := getD_bool e119
                clear hev hev0 hd
                go_wp2
                exact StepQ.mk _ (Below.refl _ _) rfl
              · intro xx af wv hbx hev hev0 hd
                have e119 := hev 5 _ 119 rfl rfl
                have d5 : xx 5 = .bool true := hd ⟨5, .data⟩ (by simp) rfl
                rw [d5] at e119
                clear d5
                have e121 := hev 7 _ 121 rfl rfl
                have d7 : xx 7 = .bool true := hd ⟨7, .data⟩ (by simp) rfl
                rw [d7] at e121
                clear d7
                clear hev hev0 hd
                go_wp2
                exact StepQ.mk _ (Below.refl _ _) rfl
              · intro xx af wv hbx hev hev0 hd
                have e122 := hev 8 _ 122 rfl rfl
                have d8 : xx 8 = .bool true := hd ⟨8, .data⟩ (by simp) rfl
                rw [d8] at e122
                clear d8
                clear hev hev0 hd
                go_wp2
                exact StepQ.mk _ (Below.refl _ _) rfl
              · intro xx af wv hbx hev hev0 hd
                have e123 := hev 9 _ 123 rfl rfl
                have d9 : xx 9 = .bool true := hd ⟨9, .guard⟩ (by simp) rfl
                rw [d9] at e123
                clear d9
                have e12 : af.tmps[12]?.getD undef = .pointer (some ⟨w4.heap.size, 0, none⟩) := hev0 12 rfl
                have q123 := getD_bool e123
                clear hev hev0 hd
                have hs1 := Lib.hid (HT.out.call hbx)
                have y0 := hs1.out.cell 1 rfl 0 rfl
                have y1 := hs1.out.cell 1 rfl 1 rfl
                have y2 := hs1.out.cell 1 rfl 2 rfl
                go_wp2
                exact StepQ.mk _ (Below.refl _ _) rfl
              · intro xx af wv hbx hev hev0 hd
                have e123 := hev 9 _ 123 rfl rfl
                have d9 : xx 9 = .bool true := hd ⟨9, .guard⟩ (by simp) rfl
                rw [d9] at e123
                clear d9
                have e7 : af.tmps[7]?.getD undef = .slice (some ⟨b, o, none⟩) qs.length c := hev0 7 rfl
                have q123 := getD_bool e123
                clear hev hev0 hd
                go_wp2
                exact StepQ.mk _ (Below.refl _ _) rfl
              · intro xx af wv hbx hev hev0 hd
                have e123 := hev 9 _ 123 rfl rfl
                have d9 : xx 9 = .bool true := hd ⟨9, .guard⟩ (by simp) rfl
                rw [d9] at e123
                clear d9
                have e16 : af.tmps[16]?.getD undef = .int .i64 (bi : Nat) := hev0 16 rfl
                have q123 := getD_bool e123
                clear hev hev0 hd
                go_wp2
                exact StepQ.mk _ (Below.refl _ _) rfl
              · intro xx af wv hbx hev hev0 hd
                have e123 := hev 9 _ 123 rfl rfl
                have d9 : xx 9 = .bool true := hd ⟨9, .guard⟩ (by simp) rfl
                rw [d9] at e123
                clear d9
                have e125 := hev 11 _ 125 rfl rfl
                have d11 : xx 11 = .slice (some ⟨b, o, none⟩) qs.length c := hd ⟨11, .data⟩ (by simp) rfl
                rw [d11] at e125
                clear d11
                have e126 := hev 12 _ 126 rfl rfl
                have d12 : xx 12 = .int .i64 (bi : Nat) := hd ⟨12, .data⟩ (by simp) rfl
                rw [d12] at e126
                clear d12
                have q123 := getD_bool e123
                clear hev hev0 hd
                go_wp2
                exact StepQ.mk _ (Below.refl _ _) rfl
              · intro xx af wv hbx hev hev0 hd
                have e123 := hev 9 _ 123 rfl rfl
                have d9 : xx 9 = .bool true := hd ⟨9, .guard⟩ (by simp) rfl
                rw [d9] at e123
                clear d9
                have e127 := hev 13 _ 127 rfl rfl
                have d13 : xx 13 = .pointer (some ⟨b, o + bi * 5, none⟩) := hd ⟨13, .data⟩ (by simp) rfl
                rw [d13] at e127
                clear d13
                have q123 := getD_bool e123
                clear hev hev0 hd
                go_wp2
                exact StepQ.mk _ (Below.refl _ _) rfl
              · intro xx af wv hbx hev hev0 hd
                have e123 := hev 9 _ 123 rfl rfl
                have d9 : xx 9 = .bool true := hd ⟨9, .guard⟩ (by simp) rfl
                rw [d9] at e123
                clear d9
                have e128 := hev 14 _ 128 rfl rfl
                have d14 : xx 14 = .pointer (some ⟨b, o + bi * 5 + 2, none⟩) := hd ⟨14, .data⟩ (by simp) rfl
                rw [d14] at e128
                clear d14
                have q123 := getD_bool e123
                clear hev hev0 hd
                have hs1 := Lib.hid (HT.out.call hbx)
                have y0 := HY.out _ hs1.out.below 2 _ rfl
                have y1 := HY.out _ hs1.out.below 3 _ rfl
                have y2 := HY.out _ hs1.out.below 4 _ rfl
                go_wp2
                exact StepQ.mk _ (Below.refl _ _) rfl
              · intro xx af wv hbx hev hev0 hd
                have e123 := hev 9 _ 123 rfl rfl
                have d9 : xx 9 = .bool true := hd ⟨9, .guard⟩ (by simp) rfl
                rw [d9] at e123
                clear d9
                have e124 := hev 10 _ 124 rfl rfl
                have d10 : xx 10 = .agg #[.bool p.neg, .string (bs p.num), .string (bs p.den)] := hd ⟨10, .data⟩ (by simp) rfl
                rw [d10] at e124
                clear d10
                have e129 := hev 15 _ 129 rfl rfl
                have d15 : xx 15 = .agg #[.bool p.neg, .string (bs p.num), .string (bs p.den)] := hd ⟨15, .data⟩ (by simp) rfl
                rw [d15] at e129
                clear d15
                have q123 := getD_bool e123
                clear hev hev0 hd
                have en := XEQ.out
                go_wp2
                exact StepQ.mk _ (Below.refl _ _) rfl
              · intro xx af wv hbx hev hev0 hd
                have e123 := hev 9 _ 123 rfl rfl
                have d9 : xx 9 = .bool true := hd ⟨9, .data⟩ (by simp) rfl
                rw [d9] at e123
                clear d9
                have e130 := hev 16 _ 130 rfl rfl
                have d16 : xx 16 = .bool true := hd ⟨16, .data⟩ (by simp) rfl
                rw [d16] at e130
                clear d16
                clear hev hev0 hd
                go_wp2
                exact StepQ.mk _ (Below.refl _ _) rfl
              · intro xx af wv hbx hev hev0 hd
                have e131 := hev 17 _ 131 rfl rfl
                have d17 : xx 17 = .bool true := hd ⟨17, .data⟩ (by simp) rfl
                rw [d17] at e131
                clear d17
                clear hev hev0 hd
                go_wp2
                exact StepQ.mk _ (Below.refl _ _) rfl
              · intro xx af wv hbx hev hev0 hd
                have e132 := hev 18 _ 132 rfl rfl
                have d18 : xx 18 = .bool true := hd ⟨18, .guard⟩ (by simp) rfl
                rw [d18] at e132
                clear d18
                have e14 : af.tmps[14]?.getD undef = .pointer (some ⟨w6.heap.size, 0, none⟩) := hev0 14 rfl
                have q132 := getD_bool e132
                clear hev hev0 hd
                have hs1 := Lib.hid (HT.out.call hbx)
                have y0 := hs1.out.cell 0 rfl 0 rfl
                have y1 := hs1.out.cell 0 rfl 1 rfl
                have y2 := hs1.out.cell 0 rfl 2 rfl
                go_wp2
                exact StepQ.mk _ (Below.refl _ _) rfl
              · intro xx af wv hbx hev hev0 hd
                have e132 := hev 18 _ 132 rfl rfl
                have d18 : xx 18 = .bool true := hd ⟨18, .guard⟩ (by simp) rfl
                rw [d18] at e132
                clear d18
                have e12 : af.tmps[12]?.getD undef = .pointer (some ⟨w4.heap.size, 0, none⟩) := hev0 12 rfl
                have q132 := getD_bool e132
                clear hev hev0 hd
                have hs1 := Lib.hid (HT.out.call hbx)
                have y0 := hs1.out.cell 1 rfl 0 rfl
                have y1 := hs1.out.cell 1 rfl 1 rfl
                have y2 := hs1.out.cell 1 rfl 2 rfl
                go_wp2
                exact StepQ.mk _ (Below.refl _ _) rfl
              · intro xx af wv hbx hev hev0 hd
                have e132 := hev 18 _ 132 rfl rfl
                have d18 : xx 18 = .bool true := hd ⟨18, .guard⟩ (by simp) rfl
                rw [d18] at e132
                clear d18
                have e133 := hev 19 _ 133 rfl rfl
                have d19 : xx 19 = .agg #[.bool p.neg, .string (bs p.num), .string (bs p.den)] := hd ⟨19, .data⟩ (by simp) rfl
                rw [d19] at e133
                clear d19
                have e134 := hev 20 _ 134 rfl rfl
                have d20 : xx 20 = .agg #[.bool p.neg, .string (bs p.num), .string (bs p.den)] := hd ⟨20, .data⟩ (by simp) rfl
                rw [d20] at e134
                clear d20
                have q132 := getD_bool e132
                clear hev hev0 hd
                have en := XEQ.out
                go_wp2
                exact StepQ.mk _ (Below.refl _ _) rfl
              · intro xx af wv hbx hev hev0 hd
                have e132 := hev 18 _ 132 rfl rfl
                have d18 : xx 18 = .bool true := hd ⟨18, .data⟩ (by simp) rfl
                rw [d18] at e132
                clear d18
                have e135 := hev 21 _ 135 rfl rfl
                have d21 : xx 21 = .bool true := hd ⟨21, .data⟩ (by simp) rfl
                rw [d21] at e135
                clear d21
                clear hev hev0 hd
                go_wp2
                exact StepQ.mk _ (Below.refl _ _) rfl
              intro xx w8 hb9 hv
              have hv0 : xx 0 = .bool true := hv 0 (by decide)
              have hv1 : xx 1 = .bool true := hv 1 (by decide)
              have hv2 : xx 2 = .int .i64 0 := hv 2 (by decide)
              have hv3 : xx 3 = .bool true := hv 3 (by decide)
              have hv4 : xx 4 = .bool true := hv 4 (by decide)
              have hv5 : xx 5 = .bool true := hv 5 (by decide)
              have hv6 : xx 6 = .int .i64 0 := hv 6 (by decide)
              have hv7 : xx 7 = .bool true := hv 7 (by decide)
              have hv8 : xx 8 = .bool true := hv 8 (by decide)
              have hv9 : xx 9 = .bool true := hv 9 (by decide)
              have hv10 : xx 10 = .agg #[.bool p.neg, .string (bs p.num), .string (bs p.den)] := hv 10 (by decide)
              have hv11 : xx 11 = .slice (some ⟨b, o, none⟩) qs.length c := hv 11 (by decide)
              have hv12 : xx 12 = .int .i64 (bi : Nat) := hv 12 (by decide)
              have hv13 : xx 13 = .pointer (some ⟨b, o + bi * 5, none⟩) := hv 13 (by decide)
              have hv14 : xx 14 = .pointer (some ⟨b, o + bi * 5 + 2, none⟩) := hv 14 (by decide)
              have hv15 : xx 15 = .agg #[.bool p.neg, .string (bs p.num), .string (bs p.den)] := hv 15 (by decide)
              have hv16 : xx 16 = .bool true := hv 16 (by decide)
              have hv17 : xx 17 = .bool true := hv 17 (by decide)
              have hv18 : xx 18 = .bool true := hv 18 (by decide)
              have hv19 : xx 19 = .agg #[.bool p.neg, .string (bs p.num), .string (bs p.den)] := hv 19 (by decide)
              have hv20 : xx 20 = .agg #[.bool p.neg, .string (bs p.num), .string (bs p.den)] := hv 20 (by decide)
              have hv21 : xx 21 = .bool true := hv 21 (by decide)
              have hv22 : xx 22 = .bool true := hv 22 (by decide)
              clear hv
              simp only [List.take, List.drop, fillA, Act.put]
              simp only [hv0, hv1, hv2, hv3, hv4, hv5, hv6, hv7, hv8, hv9, hv10, hv11, hv12, hv13, hv14, hv15, hv16, hv17, hv18, hv19, hv20, hv21, hv22]
              clear hv0 hv1 hv2 hv3 hv4 hv5 hv6 hv7 hv8 hv9 hv10 hv11 hv12 hv13 hv14 hv15 hv16 hv17 hv18 hv19 hv20 hv21 hv22
              have HT8 := Lib.hid (HT.out.call hb9)
              clear hb9 HT
              go_wp2
              have HT9 : Hid (St w2 [⟨w6.heap.size, #[.bool p.neg, .string (bs p.num), .string (bs p.den)], 30⟩, ⟨w4.heap.size, #[.bool p.neg, .string (bs p.num), .string (bs p.den)], 30⟩] _) := Lib.hid HT8.out
              go_ret
              exact ⟨rfl, HB0.out.trans (HT9.out.below.mono HB0.out.size)⟩
end Go.Proofs.YtcbjehnjbfmchaaDoor
