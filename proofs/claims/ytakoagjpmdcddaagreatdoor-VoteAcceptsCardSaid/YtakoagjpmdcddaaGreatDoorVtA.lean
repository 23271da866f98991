/-
The document's votes: who accepts, what passes (printed by gen_vot8.py).
-/
import Derived.Test.YtakoagjpmdcddaaGreatDoorVotI
namespace Go.Proofs.YtakoagjpmdcddaaGreatDoor
open Go.RowKit

set_option maxRecDepth 100000 in
set_option maxHeartbeats 1000000 in
theorem ref_Less (p q : Rat) (w : World) (sp : Sized 17179869184 p) (sq : Sized 17179869184 q) :
    Calls Tryz.prog 50 #[rat p, rat q] w fun e w' => e = .returned (.bool (decide (sgn (p - q).num < 0))) ∧ Below w.heap.size w w' := by
  have mi := fun W => ref_Minus p q W sp sq
  have sg := fun W => ref_Signum (negB (p - q)) (numB (p - q)) (denomB (p - q)) W
  rw [sgnR_dec] at sg
  clear sp sq
  generalize sgn (p - q).num = s at *
  generalize p - q = r at *
  unfold rat raw at *
  generalize negB p = np at *
  generalize numB p = bp at *
  generalize denomB p = dp at *
  generalize negB q = nq at *
  generalize numB q = bq at *
  generalize denomB q = dq at *
  generalize negB r = nr at *
  generalize numB r = br at *
  generalize denomB r = dr at *
  have MI := Lib.hid mi
  have SG := Lib.hid sg
  clear mi sg
  go_enter Tryz.func50, Tryz.ntmps50
  have HS := Lib.hid (St.start w)
  go_wp2_with fail
  have HS2 : Hid (St w [⟨w.heap.size + 1, #[.bool nq, .string (bs bq), .string (bs dq)], 23⟩, ⟨w.heap.size, #[.bool np, .string (bs bp), .string (bs dp)], 23⟩] _) := Lib.hid (St.alloc ((St.alloc (HS.out) #[.bool np, .string (bs bp), .string (bs dp)] 23 _ (by simp))) #[.bool nq, .string (bs bq), .string (bs dq)] 23 _ (by simp))
  refine (MI.out _).mono ?_
  rintro e w3 ⟨rfl, hb3⟩
  have HS3 := Lib.hid (HS2.out.call hb3)
  clear hb3 HS HS2
  go_wp2_with fail
  refine (SG.out _).mono ?_
  rintro e w4 ⟨rfl, hb4⟩
  have HS4 := Lib.hid (HS3.out.call hb4)
  clear hb4 HS3
  go_wp2
  go_ret
  have HS5 : Hid (St w [⟨w.heap.size + 1, #[.bool nq, .string (bs bq), .string (bs dq)], 23⟩, ⟨w.heap.size, #[.bool np, .string (bs bp), .string (bs dp)], 23⟩] _) := Lib.hid HS4.out
  exact ⟨rfl, HS5.out.below⟩

theorem yes_take {l : List Vtr} {k : Nat} {v : Vtr} {p : Int} {r : Rat} (hq : l[k]? = some v) : yesP (l.take (k + 1)) p r = (yesP (l.take k) p r && !blocks p r v) := by unfold yesP; exact take_all hq
theorem yes_not {l : List Vtr} {v : Vtr} {p : Int} {r : Rat} (hv : v ∈ l) (h : blocks p r v = true) : yesP l p r = false := by
  unfold yesP; rw [List.all_eq_false]; exact ⟨v, hv, by rw [h]; decide⟩

set_option maxRecDepth 100000 in
set_option maxHeartbeats 1000000 in
theorem ref_accepts (v : Value) (l : List Vtr) (p : Int) (rn : Bool) (ra rb : List UInt8) (w : World) (h : VotersL w v l) (hok : SmallV 100000 l) (la : ra.length ≤ 17179869184) (lb : rb.length ≤ 17179869184) :
    Calls Tryz.prog 80 #[v, .int .i64 p, raw rn ra rb] w fun e w' => e = .returned (.bool (yesP l p (decR rn ra rb))) ∧ Below w.heap.size w w' := by
  have H := Lib.hid h
  have HOK := Lib.hid hok
  have HC := Lib.hid (fun (n : Bool) (a b : List UInt8) (ha : a.length ≤ 17179869184) (hb : b.length ≤ 17179869184) W => ref_Compare n a b rn ra rb W ha hb la lb)
  generalize decR rn ra rb = rate at *
  obtain ⟨A, c, rfl, hl, hc⟩ := h.slice
  clear h hok la lb
  unfold raw
  go_enter Tryz.func80, Tryz.ntmps80
  have HS := Lib.hid (St.start w)
  go_wp2
  go_loopw [7] (fun i wr => ∃ k : Nat, k ≤ l.length ∧ i = .int .i64 k ∧ Hid (yesP (l.take k) p rate = true) ∧ Hid (St w [⟨w.heap.size, #[.bool rn, .string (bs ra), .string (bs rb)], 23⟩] wr)) (fun i _ => l.length - (intOf i).toNat)
  case atStart => exact ⟨0, Nat.zero_le _, rfl, rfl, (St.alloc (HS.out) #[.bool rn, .string (bs ra), .string (bs rb)] 23 _ (by simp))⟩
  case round =>
    obtain ⟨k, hk, rfl, hck, HS⟩ := hrel
    by_cases hlt : k < l.length
    · obtain ⟨b, o, u, rfl, hbb, hq, hx⟩ := H.out.at_ hlt
      have hin := List.mem_of_getElem? hq
      have ho := HOK.out u hin
      have hA := fun W => HC.out u.kn u.ka u.kb (by have := ho.2.2.1; omega) (by have := ho.2.2.2; omega) W
      change ∀ W, Calls Tryz.prog _ _ W (fun e w' => e = .returned (.int .i64 (sgn (u.ask - rate).num)) ∧ _) at hA
      unfold raw at hA
      have hyt := yes_take (p := p) (r := rate) hq
      have hyn := fun h => yes_not (p := p) (r := rate) hin h
      have hbl : blocks p rate u = ((u.party == p) && (!u.ex && decide (0 < sgn (u.ask - rate).num))) := rfl
      obtain ⟨cc, hcc⟩ : ∃ x, x = sgn (u.ask - rate).num := ⟨_, rfl⟩
      rw [← hcc] at hA hbl
      obtain ⟨pB, hpB⟩ : ∃ x, x = (u.party == p) := ⟨_, rfl⟩
      obtain ⟨xB, hxB⟩ : ∃ x, x = u.ex := ⟨_, rfl⟩
      obtain ⟨dB, hdB⟩ : ∃ x, x = decide (0 < cc) := ⟨_, rfl⟩
      have hp2 : (u.party == p) = pB := hpB.symm
      have hd2 : decide (0 < cc) = dB := hdB.symm
      rw [← hpB, ← hxB, ← hdB] at hbl
      rw [hbl] at hyt hyn
      have hx2 := hx
      unfold Vtr.enc at hx2
      rw [← hxB] at hx2
      have HA := Lib.hid hA
      have HX := Lib.hid hx2
      have HYT := Lib.hid hyt
      have HYN := Lib.hid hyn
      have e0 : (0 : Int) ≤ ((k : Nat) : Int) := by omega
      have e1 : ((k : Nat) : Int) < (l.length : Int) := by omega
      clear hA hx hx2 hq hin ho hyt hyn hbl hcc hpB hxB hdB
      cases pB
      · have R := Lib.hid (HYT.out)
        clear HYT HYN
        go_wp2
        refine wp_region_facts 24 [fun _ vv => vv = .slice (some ⟨b, o, none⟩) l.length c, fun _ vv => vv = .int .i64 (k : Nat), fun _ vv => vv = .pointer (some ⟨b, o + k * 8, none⟩), fun _ vv => vv = .pointer (some ⟨b, o + k * 8, none⟩), fun _ vv => vv = .int .i64 u.party, fun _ vv => vv = .int .i64 p, fun _ vv => vv = .bool false, fun _ vv => vv = .bool false, fun _ vv => vv = undef, fun _ vv => vv = undef, fun _ vv => vv = undef, fun _ vv => vv = undef, fun _ vv => vv = undef, fun _ vv => vv = undef, fun _ vv => vv = .bool false, fun _ vv => vv = .bool false, fun _ vv => vv = undef, fun _ vv => vv = undef, fun _ vv => vv = undef, fun _ vv => vv = undef, fun _ vv => vv = undef, fun _ vv => vv = undef, fun _ vv => vv = undef, fun _ vv => vv = undef] rfl (by kernel_rfl) (by kernel_rfl) (by kernel_rfl) ⟨fun _ _ _ h _ => h, fun _ _ _ h _ => h, fun _ _ _ h _ => h, fun _ _ _ h _ => h, fun _ _ _ h _ => h, fun _ _ _ h _ => h, fun _ _ _ h _ => h, fun _ _ _ h _ => h, fun _ _ _ h _ => h, fun _ _ _ h _ => h, fun _ _ _ h _ => h, fun _ _ _ h _ => h, fun _ _ _ h _ => h, fun _ _ _ h _ => h, fun _ _ _ h _ => h, fun _ _ _ h _ => h, fun _ _ _ h _ => h, fun _ _ _ h _ => h, fun _ _ _ h _ => h, fun _ _ _ h _ => h, fun _ _ _ h _ => h, fun _ _ _ h _ => h, fun _ _ _ h _ => h, fun _ _ _ h _ => h, trivial⟩ ?_ ?_
        refine ⟨?_, ?_, ?_, ?_, ?_, ?_, ?_, ?_, ?_, ?_, ?_, ?_, ?_, ?_, ?_, ?_, ?_, ?_, ?_, ?_, ?_, ?_, ?_, ?_, trivial⟩
        · intro xx af wv hbx hev hev0 hd
          have e0 : af.tmps[0]?.getD undef = .slice (some ⟨b, o, none⟩) l.length c := hev0 0 rfl
          clear hev hev0 hd
          go_wp2
          exact StepQ.mk _ (Below.refl _ _) rfl
        · intro xx af wv hbx hev hev0 hd
          have e7 : af.tmps[7]?.getD undef = .int .i64 (k : Nat) := hev0 7 rfl
          clear hev hev0 hd
          go_wp2
          exact StepQ.mk _ (Below.refl _ _) rfl
        · intro xx af wv hbx hev hev0 hd
          have e14 := hev 0 _ 14 rfl rfl
          have d0 : xx 0 = .slice (some ⟨b, o, none⟩) l.length c := hd ⟨0, .data⟩ (by simp) rfl
          rw [d0] at e14
          clear d0
          have e15 := hev 1 _ 15 rfl rfl
          have d1 : xx 1 = .int .i64 (k : Nat) := hd ⟨1, .data⟩ (by simp) rfl
          rw [d1] at e15
          clear d1
          clear hev hev0 hd
          go_wp2
          exact StepQ.mk _ (Below.refl _ _) rfl
        · intro xx af wv hbx hev hev0 hd
          have e16 := hev 2 _ 16 rfl rfl
          have d2 : xx 2 = .pointer (some ⟨b, o + k * 8, none⟩) := hd ⟨2, .data⟩ (by simp) rfl
          rw [d2] at e16
          clear d2
          clear hev hev0 hd
          go_wp2
          exact StepQ.mk _ (Below.refl _ _) rfl
        · intro xx af wv hbx hev hev0 hd
          have e17 := hev 3 _ 17 rfl rfl
          have d3 : xx 3 = .pointer (some ⟨b, o + k * 8, none⟩) := hd ⟨3, .data⟩ (by simp) rfl
          rw [d3] at e17
          clear d3
          clear hev hev0 hd
          have hs1 := Lib.hid (HS.out.call hbx)
          have y0 := HX.out _ hs1.out.below 0 _ rfl
          rw [Nat.add_zero] at y0
          go_wp2
          exact StepQ.mk _ (Below.refl _ _) rfl
        · intro xx af wv hbx hev hev0 hd
          have e1 : af.tmps[1]?.getD undef = .int .i64 p := hev0 1 rfl
          clear hev hev0 hd
          go_wp2
          exact StepQ.mk _ (Below.refl _ _) rfl
        · intro xx af wv hbx hev hev0 hd
          have e18 := hev 4 _ 18 rfl rfl
          have d4 : xx 4 = .int .i64 u.party := hd ⟨4, .data⟩ (by simp) rfl
          rw [d4] at e18
          clear d4
          have e19 := hev 5 _ 19 rfl rfl
          have d5 : xx 5 = .int .i64 p := hd ⟨5, .data⟩ (by simp) rfl
          rw [d5] at e19
          clear d5
          clear hev hev0 hd
          go_wp2
          exact StepQ.mk _ (Below.refl _ _) rfl
        · intro xx af wv hbx hev hev0 hd
          have e20 := hev 6 _ 20 rfl rfl
          have d6 : xx 6 = .bool false := hd ⟨6, .data⟩ (by simp) rfl
          rw [d6] at e20
          clear d6
          clear hev hev0 hd
          go_wp2
          exact StepQ.mk _ (Below.refl _ _) rfl
        · intro xx af wv hbx hev hev0 hd
          have e21 := hev 7 _ 21 rfl rfl
          have d7 : xx 7 = .bool false := hd ⟨7, .guard⟩ (by simp) rfl
          rw [d7] at e21
          clear d7
          have q21 := getD_bool e21
          clear hev hev0 hd
          go_wp2
          exact StepQ.mk _ (Below.refl _ _) rfl
        · intro xx af wv hbx hev hev0 hd
          have e21 := hev 7 _ 21 rfl rfl
          have d7 : xx 7 = .bool false := hd ⟨7, .guard⟩ (by simp) rfl
          rw [d7] at e21
          clear d7
          have q21 := getD_bool e21
          clear hev hev0 hd
          go_wp2
          exact StepQ.mk _ (Below.refl _ _) rfl
        · intro xx af wv hbx hev hev0 hd
          have e21 := hev 7 _ 21 rfl rfl
          have d7 : xx 7 = .bool false := hd ⟨7, .guard⟩ (by simp) rfl
          rw [d7] at e21
          clear d7
          have q21 := getD_bool e21
          clear hev hev0 hd
          go_wp2
          exact StepQ.mk _ (Below.refl _ _) rfl
        · intro xx af wv hbx hev hev0 hd
          have e21 := hev 7 _ 21 rfl rfl
          have d7 : xx 7 = .bool false := hd ⟨7, .guard⟩ (by simp) rfl
          rw [d7] at e21
          clear d7
          have q21 := getD_bool e21
          clear hev hev0 hd
          go_wp2
          exact StepQ.mk _ (Below.refl _ _) rfl
        · intro xx af wv hbx hev hev0 hd
          have e21 := hev 7 _ 21 rfl rfl
          have d7 : xx 7 = .bool false := hd ⟨7, .guard⟩ (by simp) rfl
          rw [d7] at e21
          clear d7
          have q21 := getD_bool e21
          clear hev hev0 hd
          go_wp2
          exact StepQ.mk _ (Below.refl _ _) rfl
        · intro xx af wv hbx hev hev0 hd
          have e21 := hev 7 _ 21 rfl rfl
          have d7 : xx 7 = .bool false := hd ⟨7, .guard⟩ (by simp) rfl
          rw [d7] at e21
          clear d7
          have q21 := getD_bool e21
          clear hev hev0 hd
          go_wp2
          exact StepQ.mk _ (Below.refl _ _) rfl
        · intro xx af wv hbx hev hev0 hd
          have e21 := hev 7 _ 21 rfl rfl
          have d7 : xx 7 = .bool false := hd ⟨7, .data⟩ (by simp) rfl
          rw [d7] at e21
          clear d7
          have e27 := hev 13 _ 27 rfl rfl
          have d13 : xx 13 = undef := hd ⟨13, .data⟩ (by simp) rfl
          rw [d13] at e27
          clear d13
          clear hev hev0 hd
          go_wp2
          exact StepQ.mk _ (Below.refl _ _) rfl
        · intro xx af wv hbx hev hev0 hd
          have e28 := hev 14 _ 28 rfl rfl
          have d14 : xx 14 = .bool false := hd ⟨14, .data⟩ (by simp) rfl
          rw [d14] at e28
          clear d14
          clear hev hev0 hd
          go_wp2
          exact StepQ.mk _ (Below.refl _ _) rfl
        · intro xx af wv hbx hev hev0 hd
          have e29 := hev 15 _ 29 rfl rfl
          have d15 : xx 15 = .bool false := hd ⟨15, .guard⟩ (by simp) rfl
          rw [d15] at e29
          clear d15
          have q29 := getD_bool e29
          clear hev hev0 hd
          go_wp2
          exact StepQ.mk _ (Below.refl _ _) rfl
        · intro xx af wv hbx hev hev0 hd
          have e29 := hev 15 _ 29 rfl rfl
          have d15 : xx 15 = .bool false := hd ⟨15, .guard⟩ (by simp) rfl
          rw [d15] at e29
          clear d15
          have q29 := getD_bool e29
          clear hev hev0 hd
          go_wp2
          exact StepQ.mk _ (Below.refl _ _) rfl
        · intro xx af wv hbx hev hev0 hd
          have e29 := hev 15 _ 29 rfl rfl
          have d15 : xx 15 = .bool false := hd ⟨15, .guard⟩ (by simp) rfl
          rw [d15] at e29
          clear d15
          have q29 := getD_bool e29
          clear hev hev0 hd
          go_wp2
          exact StepQ.mk _ (Below.refl _ _) rfl
        · intro xx af wv hbx hev hev0 hd
          have e29 := hev 15 _ 29 rfl rfl
          have d15 : xx 15 = .bool false := hd ⟨15, .guard⟩ (by simp) rfl
          rw [d15] at e29
          clear d15
          have q29 := getD_bool e29
          clear hev hev0 hd
          go_wp2
          exact StepQ.mk _ (Below.refl _ _) rfl
        · intro xx af wv hbx hev hev0 hd
          have e29 := hev 15 _ 29 rfl rfl
          have d15 : xx 15 = .bool false := hd ⟨15, .guard⟩ (by simp) rfl
          rw [d15] at e29
          clear d15
          have q29 := getD_bool e29
          clear hev hev0 hd
          go_wp2
          exact StepQ.mk _ (Below.refl _ _) rfl
        · intro xx af wv hbx hev hev0 hd
          have e29 := hev 15 _ 29 rfl rfl
          have d15 : xx 15 = .bool false := hd ⟨15, .guard⟩ (by simp) rfl
          rw [d15] at e29
          clear d15
          have q29 := getD_bool e29
          clear hev hev0 hd
          go_wp2
          exact StepQ.mk _ (Below.refl _ _) rfl
        · intro xx af wv hbx hev hev0 hd
          have e29 := hev 15 _ 29 rfl rfl
          have d15 : xx 15 = .bool false := hd ⟨15, .chain⟩ (by simp) rfl
          rw [d15] at e29
          clear d15
          have q29 := getD_bool e29
          clear hev hev0 hd
          go_wp2
          exact StepQ.mk _ (Below.refl _ _) rfl
        · intro xx af wv hbx hev hev0 hd
          have e29 := hev 15 _ 29 rfl rfl
          have d15 : xx 15 = .bool false := hd ⟨15, .guard⟩ (by simp) rfl
          rw [d15] at e29
          clear d15
          have q29 := getD_bool e29
          clear hev hev0 hd
          go_wp2
          exact StepQ.mk _ (Below.refl _ _) rfl
        intro xx w2 hb9 hv
        have hv0 : xx 0 = .slice (some ⟨b, o, none⟩) l.length c := hv 0 (by decide)
        have hv1 : xx 1 = .int .i64 (k : Nat) := hv 1 (by decide)
        have hv2 : xx 2 = .pointer (some ⟨b, o + k * 8, none⟩) := hv 2 (by decide)
        have hv3 : xx 3 = .pointer (some ⟨b, o + k * 8, none⟩) := hv 3 (by decide)
        have hv4 : xx 4 = .int .i64 u.party := hv 4 (by decide)
        have hv5 : xx 5 = .int .i64 p := hv 5 (by decide)
        have hv6 : xx 6 = .bool false := hv 6 (by decide)
        have hv7 : xx 7 = .bool false := hv 7 (by decide)
        have hv8 : xx 8 = undef := hv 8 (by decide)
        have hv9 : xx 9 = undef := hv 9 (by decide)
        have hv10 : xx 10 = undef := hv 10 (by decide)
        have hv11 : xx 11 = undef := hv 11 (by decide)
        have hv12 : xx 12 = undef := hv 12 (by decide)
        have hv13 : xx 13 = undef := hv 13 (by decide)
        have hv14 : xx 14 = .bool false := hv 14 (by decide)
        have hv15 : xx 15 = .bool false := hv 15 (by decide)
        have hv16 : xx 16 = undef := hv 16 (by decide)
        have hv17 : xx 17 = undef := hv 17 (by decide)
        have hv18 : xx 18 = undef := hv 18 (by decide)
        have hv19 : xx 19 = undef := hv 19 (by decide)
        have hv20 : xx 20 = undef := hv 20 (by decide)
        have hv21 : xx 21 = undef := hv 21 (by decide)
        have hv22 : xx 22 = undef := hv 22 (by decide)
        have hv23 : xx 23 = undef := hv 23 (by decide)
        clear hv
        simp only [List.take, List.drop, fillA, Act.put]
        simp only [hv0, hv1, hv2, hv3, hv4, hv5, hv6, hv7, hv8, hv9, hv10, hv11, hv12, hv13, hv14, hv15, hv16, hv17, hv18, hv19, hv20, hv21, hv22, hv23]
        clear hv0 hv1 hv2 hv3 hv4 hv5 hv6 hv7 hv8 hv9 hv10 hv11 hv12 hv13 hv14 hv15 hv16 hv17 hv18 hv19 hv20 hv21 hv22 hv23
        have HS2 := Lib.hid (HS.out.call hb9)
        clear hb9 HS
        go_wp2
        have HS3 : Hid (St w [⟨w.heap.size, #[.bool rn, .string (bs ra), .string (bs rb)], 23⟩] _) := Lib.hid HS2.out
        go_roundw
        case rel => exact ⟨k + 1, by omega, by go_num, by show _ = _; have := R.out; rw [hck.out] at this; simpa using this, HS3.out.sub (by simp)⟩
        case measure => simp [intOf]; omega
      · cases xB
        · cases dB
          · have R := Lib.hid (HYT.out)
            clear HYT HYN
            go_wp2
            refine wp_region_facts 24 [fun _ vv => vv = .slice (some ⟨b, o, none⟩) l.length c, fun _ vv => vv = .int .i64 (k : Nat), fun _ vv => vv = .pointer (some ⟨b, o + k * 8, none⟩), fun _ vv => vv = .pointer (some ⟨b, o + k * 8, none⟩), fun _ vv => vv = .int .i64 u.party, fun _ vv => vv = .int .i64 p, fun _ vv => vv = .bool true, fun _ vv => vv = .bool true, fun _ vv => vv = .slice (some ⟨b, o, none⟩) l.length c, fun _ vv => vv = .int .i64 (k : Nat), fun _ vv => vv = .pointer (some ⟨b, o + k * 8, none⟩), fun _ vv => vv = .pointer (some ⟨b, o + k * 8 + 7, none⟩), fun _ vv => vv = .bool false, fun _ vv => vv = .bool true, fun _ vv => vv = .bool true, fun _ vv => vv = .bool true, fun _ vv => vv = .slice (some ⟨b, o, none⟩) l.length c, fun _ vv => vv = .int .i64 (k : Nat), fun _ vv => vv = .pointer (some ⟨b, o + k * 8, none⟩), fun _ vv => vv = .pointer (some ⟨b, o + k * 8 + 4, none⟩), fun _ vv => vv = .agg #[.bool u.kn, .string (bs u.ka), .string (bs u.kb)], fun _ vv => vv = .agg #[.bool rn, .string (bs ra), .string (bs rb)], fun _ vv => vv = .int .i64 cc, fun _ vv => vv = .bool false] rfl (by kernel_rfl) (by kernel_rfl) (by kernel_rfl) ⟨fun _ _ _ h _ => h, fun _ _ _ h _ => h, fun _ _ _ h _ => h, fun _ _ _ h _ => h, fun _ _ _ h _ => h, fun _ _ _ h _ => h, fun _ _ _ h _ => h, fun _ _ _ h _ => h, fun _ _ _ h _ => h, fun _ _ _ h _ => h, fun _ _ _ h _ => h, fun _ _ _ h _ => h, fun _ _ _ h _ => h, fun _ _ _ h _ => h, fun _ _ _ h _ => h, fun _ _ _ h _ => h, fun _ _ _ h _ => h, fun _ _ _ h _ => h, fun _ _ _ h _ => h, fun _ _ _ h _ => h, fun _ _ _ h _ => h, fun _ _ _ h _ => h, fun _ _ _ h _ => h, fun _ _ _ h _ => h, trivial⟩ ?_ ?_
            refine ⟨?_, ?_, ?_, ?_, ?_, ?_, ?_, ?_, ?_, ?_, ?_, ?_, ?_, ?_, ?_, ?_, ?_, ?_, ?_, ?_, ?_, ?_, ?_, ?_, trivial⟩
            · intro xx af wv hbx hev hev0 hd
              have e0 : af.tmps[0]?.getD undef = .slice (some ⟨b, o, none⟩) l.length c := hev0 0 rfl
              clear hev hev0 hd
              go_wp2
              exact StepQ.mk _ (Below.refl _ _) rfl
            · intro xx af wv hbx hev hev0 hd
              have e7 : af.tmps[7]?.getD undef = .int .i64 (k : Nat) := hev0 7 rfl
              clear hev hev0 hd
              go_wp2
              exact StepQ.mk _ (Below.refl _ _) rfl
            · intro xx af wv hbx hev hev0 hd
              have e14 := hev 0 _ 14 rfl rfl
              have d0 : xx 0 = .slice (some ⟨b, o, none⟩) l.length c := hd ⟨0, .data⟩ (by simp) rfl
              rw [d0] at e14
              clear d0
              have e15 := hev 1 _ 15 rfl rfl
              have d1 : xx 1 = .int .i64 (k : Nat) := hd ⟨1, .data⟩ (by simp) rfl
              rw [d1] at e15
              clear d1
              clear hev hev0 hd
              go_wp2
              exact StepQ.mk _ (Below.refl _ _) rfl
            · intro xx af wv hbx hev hev0 hd
              have e16 := hev 2 _ 16 rfl rfl
              have d2 : xx 2 = .pointer (some ⟨b, o + k * 8, none⟩) := hd ⟨2, .data⟩ (by simp) rfl
              rw [d2] at e16
              clear d2
              clear hev hev0 hd
              go_wp2
              exact StepQ.mk _ (Below.refl _ _) rfl
            · intro xx af wv hbx hev hev0 hd
              have e17 := hev 3 _ 17 rfl rfl
              have d3 : xx 3 = .pointer (some ⟨b, o + k * 8, none⟩) := hd ⟨3, .data⟩ (by simp) rfl
              rw [d3] at e17
              clear d3
              clear hev hev0 hd
              have hs1 := Lib.hid (HS.out.call hbx)
              have y0 := HX.out _ hs1.out.below 0 _ rfl
              rw [Nat.add_zero] at y0
              go_wp2
              exact StepQ.mk _ (Below.refl _ _) rfl
            · intro xx af wv hbx hev hev0 hd
              have e1 : af.tmps[1]?.getD undef = .int .i64 p := hev0 1 rfl
              clear hev hev0 hd
              go_wp2
              exact StepQ.mk _ (Below.refl _ _) rfl
            · intro xx af wv hbx hev hev0 hd
              have e18 := hev 4 _ 18 rfl rfl
              have d4 : xx 4 = .int .i64 u.party := hd ⟨4, .data⟩ (by simp) rfl
              rw [d4] at e18
              clear d4
              have e19 := hev 5 _ 19 rfl rfl
              have d5 : xx 5 = .int .i64 p := hd ⟨5, .data⟩ (by simp) rfl
              rw [d5] at e19
              clear d5
              clear hev hev0 hd
              go_wp2
              exact StepQ.mk _ (Below.refl _ _) rfl
            · intro xx af wv hbx hev hev0 hd
              have e20 := hev 6 _ 20 rfl rfl
              have d6 : xx 6 = .bool true := hd ⟨6, .data⟩ (by simp) rfl
              rw [d6] at e20
              clear d6
              clear hev hev0 hd
              go_wp2
              exact StepQ.mk _ (Below.refl _ _) rfl
            · intro xx af wv hbx hev hev0 hd
              have e21 := hev 7 _ 21 rfl rfl
              have d7 : xx 7 = .bool true := hd ⟨7, .guard⟩ (by simp) rfl
              rw [d7] at e21
              clear d7
              have e0 : af.tmps[0]?.getD undef = .slice (some ⟨b, o, none⟩) l.length c := hev0 0 rfl
              have q21 := getD_bool e21
              clear hev hev0 hd
              go_wp2
              exact StepQ.mk _ (Below.refl _ _) rfl
            · intro xx af wv hbx hev hev0 hd
              have e21 := hev 7 _ 21 rfl rfl
              have d7 : xx 7 = .bool true := hd ⟨7, .guard⟩ (by simp) rfl
              rw [d7] at e21
              clear d7
              have e7 : af.tmps[7]?.getD undef = .int .i64 (k : Nat) := hev0 7 rfl
              have q21 := getD_bool e21
              clear hev hev0 hd
              go_wp2
              exact StepQ.mk _ (Below.refl _ _) rfl
            · intro xx af wv hbx hev hev0 hd
              have e21 := hev 7 _ 21 rfl rfl
              have d7 : xx 7 = .bool true := hd ⟨7, .guard⟩ (by simp) rfl
              rw [d7] at e21
              clear d7
              have e22 := hev 8 _ 22 rfl rfl
              have d8 : xx 8 = .slice (some ⟨b, o, none⟩) l.length c := hd ⟨8, .data⟩ (by simp) rfl
              rw [d8] at e22
              clear d8
              have e23 := hev 9 _ 23 rfl rfl
              have d9 : xx 9 = .int .i64 (k : Nat) := hd ⟨9, .data⟩ (by simp) rfl
              rw [d9] at e23
              clear d9
              have q21 := getD_bool e21
              clear hev hev0 hd
              go_wp2
              exact StepQ.mk _ (Below.refl _ _) rfl
            · intro xx af wv hbx hev hev0 hd
              have e21 := hev 7 _ 21 rfl rfl
              have d7 : xx 7 = .bool true := hd ⟨7, .guard⟩ (by simp) rfl
              rw [d7] at e21
              clear d7
              have e24 := hev 10 _ 24 rfl rfl
              have d10 : xx 10 = .pointer (some ⟨b, o + k * 8, none⟩) := hd ⟨10, .data⟩ (by simp) rfl
              rw [d10] at e24
              clear d10
              have q21 := getD_bool e21
              clear hev hev0 hd
              go_wp2
              exact StepQ.mk _ (Below.refl _ _) rfl
            · intro xx af wv hbx hev hev0 hd
              have e21 := hev 7 _ 21 rfl rfl
              have d7 : xx 7 = .bool true := hd ⟨7, .guard⟩ (by simp) rfl
              rw [d7] at e21
              clear d7
              have e25 := hev 11 _ 25 rfl rfl
              have d11 : xx 11 = .pointer (some ⟨b, o + k * 8 + 7, none⟩) := hd ⟨11, .data⟩ (by simp) rfl
              rw [d11] at e25
              clear d11
              have q21 := getD_bool e21
              clear hev hev0 hd
              have hs1 := Lib.hid (HS.out.call hbx)
              have y0 := HX.out _ hs1.out.below 7 _ rfl
              go_wp2
              exact StepQ.mk _ (Below.refl _ _) rfl
            · intro xx af wv hbx hev hev0 hd
              have e21 := hev 7 _ 21 rfl rfl
              have d7 : xx 7 = .bool true := hd ⟨7, .guard⟩ (by simp) rfl
              rw [d7] at e21
              clear d7
              have e26 := hev 12 _ 26 rfl rfl
              have d12 : xx 12 = .bool false := hd ⟨12, .data⟩ (by simp) rfl
              rw [d12] at e26
              clear d12
              have q21 := getD_bool e21
              clear hev hev0 hd
              go_wp2
              exact StepQ.mk _ (Below.refl _ _) rfl
            · intro xx af wv hbx hev hev0 hd
              have e21 := hev 7 _ 21 rfl rfl
              have d7 : xx 7 = .bool true := hd ⟨7, .data⟩ (by simp) rfl
              rw [d7] at e21
              clear d7
              have e27 := hev 13 _ 27 rfl rfl
              have d13 : xx 13 = .bool true := hd ⟨13, .data⟩ (by simp) rfl
              rw [d13] at e27
              clear d13
              clear hev hev0 hd
              go_wp2
              exact StepQ.mk _ (Below.refl _ _) rfl
            · intro xx af wv hbx hev hev0 hd
              have e28 := hev 14 _ 28 rfl rfl
              have d14 : xx 14 = .bool true := hd ⟨14, .data⟩ (by simp) rfl
              rw [d14] at e28
              clear d14
              clear hev hev0 hd
              go_wp2
              exact StepQ.mk _ (Below.refl _ _) rfl
            · intro xx af wv hbx hev hev0 hd
              have e29 := hev 15 _ 29 rfl rfl
              have d15 : xx 15 = .bool true := hd ⟨15, .guard⟩ (by simp) rfl
              rw [d15] at e29
              clear d15
              have e0 : af.tmps[0]?.getD undef = .slice (some ⟨b, o, none⟩) l.length c := hev0 0 rfl
              have q29 := getD_bool e29
              clear hev hev0 hd
              go_wp2
              exact StepQ.mk _ (Below.refl _ _) rfl
            · intro xx af wv hbx hev hev0 hd
              have e29 := hev 15 _ 29 rfl rfl
              have d15 : xx 15 = .bool true := hd ⟨15, .guard⟩ (by simp) rfl
              rw [d15] at e29
              clear d15
              have e7 : af.tmps[7]?.getD undef = .int .i64 (k : Nat) := hev0 7 rfl
              have q29 := getD_bool e29
              clear hev hev0 hd
              go_wp2
              exact StepQ.mk _ (Below.refl _ _) rfl
            · intro xx af wv hbx hev hev0 hd
              have e29 := hev 15 _ 29 rfl rfl
              have d15 : xx 15 = .bool true := hd ⟨15, .guard⟩ (by simp) rfl
              rw [d15] at e29
              clear d15
              have e30 := hev 16 _ 30 rfl rfl
              have d16 : xx 16 = .slice (some ⟨b, o, none⟩) l.length c := hd ⟨16, .data⟩ (by simp) rfl
              rw [d16] at e30
              clear d16
              have e31 := hev 17 _ 31 rfl rfl
              have d17 : xx 17 = .int .i64 (k : Nat) := hd ⟨17, .data⟩ (by simp) rfl
              rw [d17] at e31
              clear d17
              have q29 := getD_bool e29
              clear hev hev0 hd
              go_wp2
              exact StepQ.mk _ (Below.refl _ _) rfl
            · intro xx af wv hbx hev hev0 hd
              have e29 := hev 15 _ 29 rfl rfl
              have d15 : xx 15 = .bool true := hd ⟨15, .guard⟩ (by simp) rfl
              rw [d15] at e29
              clear d15
              have e32 := hev 18 _ 32 rfl rfl
              have d18 : xx 18 = .pointer (some ⟨b, o + k * 8, none⟩) := hd ⟨18, .data⟩ (by simp) rfl
              rw [d18] at e32
              clear d18
              have q29 := getD_bool e29
              clear hev hev0 hd
              go_wp2
              exact StepQ.mk _ (Below.refl _ _) rfl
            · intro xx af wv hbx hev hev0 hd
              have e29 := hev 15 _ 29 rfl rfl
              have d15 : xx 15 = .bool true := hd ⟨15, .guard⟩ (by simp) rfl
              rw [d15] at e29
              clear d15
              have e33 := hev 19 _ 33 rfl rfl
              have d19 : xx 19 = .pointer (some ⟨b, o + k * 8 + 4, none⟩) := hd ⟨19, .data⟩ (by simp) rfl
              rw [d19] at e33
              clear d19
              have q29 := getD_bool e29
              clear hev hev0 hd
              have hs1 := Lib.hid (HS.out.call hbx)
              have y0 := HX.out _ hs1.out.below 4 _ rfl
              have y1 := HX.out _ hs1.out.below 5 _ rfl
              have y2 := HX.out _ hs1.out.below 6 _ rfl
              go_wp2
              exact StepQ.mk _ (Below.refl _ _) rfl
            · intro xx af wv hbx hev hev0 hd
              have e29 := hev 15 _ 29 rfl rfl
              have d15 : xx 15 = .bool true := hd ⟨15, .guard⟩ (by simp) rfl
              rw [d15] at e29
              clear d15
              have e5 : af.tmps[5]?.getD undef = .pointer (some ⟨w.heap.size, 0, none⟩) := hev0 5 rfl
              have q29 := getD_bool e29
              clear hev hev0 hd
              have hs1 := Lib.hid (HS.out.call hbx)
              have y0 := hs1.out.cell 0 rfl 0 rfl
              have y1 := hs1.out.cell 0 rfl 1 rfl
              have y2 := hs1.out.cell 0 rfl 2 rfl
              go_wp2
              exact StepQ.mk _ (Below.refl _ _) rfl
            · intro xx af wv hbx hev hev0 hd
              have e29 := hev 15 _ 29 rfl rfl
              have d15 : xx 15 = .bool true := hd ⟨15, .chain⟩ (by simp) rfl
              rw [d15] at e29
              clear d15
              have e34 := hev 20 _ 34 rfl rfl
              have d20 : xx 20 = .agg #[.bool u.kn, .string (bs u.ka), .string (bs u.kb)] := hd ⟨20, .data⟩ (by simp) rfl
              rw [d20] at e34
              clear d20
              have e35 := hev 21 _ 35 rfl rfl
              have d21 : xx 21 = .agg #[.bool rn, .string (bs ra), .string (bs rb)] := hd ⟨21, .data⟩ (by simp) rfl
              rw [d21] at e35
              clear d21
              have q29 := getD_bool e29
              clear hev hev0 hd
              go_wp2_with fail
              refine (HA.out _).mono ?_
              rintro e w8 ⟨rfl, hb8⟩
              go_wp2
              exact StepQ.mk _ hb8 rfl
            · intro xx af wv hbx hev hev0 hd
              have e29 := hev 15 _ 29 rfl rfl
              have d15 : xx 15 = .bool true := hd ⟨15, .guard⟩ (by simp) rfl
              rw [d15] at e29
              clear d15
              have e36 := hev 22 _ 36 rfl rfl
              have d22 : xx 22 = .int .i64 cc := hd ⟨22, .data⟩ (by simp) rfl
              rw [d22] at e36
              clear d22
              have q29 := getD_bool e29
              clear hev hev0 hd
              go_wp2
              exact StepQ.mk _ (Below.refl _ _) rfl
            intro xx w2 hb9 hv
            have hv0 : xx 0 = .slice (some ⟨b, o, none⟩) l.length c := hv 0 (by decide)
            have hv1 : xx 1 = .int .i64 (k : Nat) := hv 1 (by decide)
            have hv2 : xx 2 = .pointer (some ⟨b, o + k * 8, none⟩) := hv 2 (by decide)
            have hv3 : xx 3 = .pointer (some ⟨b, o + k * 8, none⟩) := hv 3 (by decide)
            have hv4 : xx 4 = .int .i64 u.party := hv 4 (by decide)
            have hv5 : xx 5 = .int .i64 p := hv 5 (by decide)
            have hv6 : xx 6 = .bool true := hv 6 (by decide)
            have hv7 : xx 7 = .bool true := hv 7 (by decide)
            have hv8 : xx 8 = .slice (some ⟨b, o, none⟩) l.length c := hv 8 (by decide)
            have hv9 : xx 9 = .int .i64 (k : Nat) := hv 9 (by decide)
            have hv10 : xx 10 = .pointer (some ⟨b, o + k * 8, none⟩) := hv 10 (by decide)
            have hv11 : xx 11 = .pointer (some ⟨b, o + k * 8 + 7, none⟩) := hv 11 (by decide)
            have hv12 : xx 12 = .bool false := hv 12 (by decide)
            have hv13 : xx 13 = .bool true := hv 13 (by decide)
            have hv14 : xx 14 = .bool true := hv 14 (by decide)
            have hv15 : xx 15 = .bool true := hv 15 (by decide)
            have hv16 : xx 16 = .slice (some ⟨b, o, none⟩) l.length c := hv 16 (by decide)
            have hv17 : xx 17 = .int .i64 (k : Nat) := hv 17 (by decide)
            have hv18 : xx 18 = .pointer (some ⟨b, o + k * 8, none⟩) := hv 18 (by decide)
            have hv19 : xx 19 = .pointer (some ⟨b, o + k * 8 + 4, none⟩) := hv 19 (by decide)
            have hv20 : xx 20 = .agg #[.bool u.kn, .string (bs u.ka), .string (bs u.kb)] := hv 20 (by decide)
            have hv21 : xx 21 = .agg #[.bool rn, .string (bs ra), .string (bs rb)] := hv 21 (by decide)
            have hv22 : xx 22 = .int .i64 cc := hv 22 (by decide)
            have hv23 : xx 23 = .bool false := hv 23 (by decide)
            clear hv
            simp only [List.take, List.drop, fillA, Act.put]
            simp only [hv0, hv1, hv2, hv3, hv4, hv5, hv6, hv7, hv8, hv9, hv10, hv11, hv12, hv13, hv14, hv15, hv16, hv17, hv18, hv19, hv20, hv21, hv22, hv23]
            clear hv0 hv1 hv2 hv3 hv4 hv5 hv6 hv7 hv8 hv9 hv10 hv11 hv12 hv13 hv14 hv15 hv16 hv17 hv18 hv19 hv20 hv21 hv22 hv23
            have HS2 := Lib.hid (HS.out.call hb9)
            clear hb9 HS
            go_wp2
            have HS3 : Hid (St w [⟨w.heap.size, #[.bool rn, .string (bs ra), .string (bs rb)], 23⟩] _) := Lib.hid HS2.out
            go_roundw
            case rel => exact ⟨k + 1, by omega, by go_num, by show _ = _; have := R.out; rw [hck.out] at this; simpa using this, HS3.out.sub (by simp)⟩
            case measure => simp [intOf]; omega
          · have R := Lib.hid (HYN.out rfl)
            clear HYT HYN
            go_wp2
            refine wp_region_facts 24 [fun _ vv => vv = .slice (some ⟨b, o, none⟩) l.length c, fun _ vv => vv = .int .i64 (k : Nat), fun _ vv => vv = .pointer (some ⟨b, o + k * 8, none⟩), fun _ vv => vv = .pointer (some ⟨b, o + k * 8, none⟩), fun _ vv => vv = .int .i64 u.party, fun _ vv => vv = .int .i64 p, fun _ vv => vv = .bool true, fun _ vv => vv = .bool true, fun _ vv => vv = .slice (some ⟨b, o, none⟩) l.length c, fun _ vv => vv = .int .i64 (k : Nat), fun _ vv => vv = .pointer (some ⟨b, o + k * 8, none⟩), fun _ vv => vv = .pointer (some ⟨b, o + k * 8 + 7, none⟩), fun _ vv => vv = .bool false, fun _ vv => vv = .bool true, fun _ vv => vv = .bool true, fun _ vv => vv = .bool true, fun _ vv => vv = .slice (some ⟨b, o, none⟩) l.length c, fun _ vv => vv = .int .i64 (k : Nat), fun _ vv => vv = .pointer (some ⟨b, o + k * 8, none⟩), fun _ vv => vv = .pointer (some ⟨b, o + k * 8 + 4, none⟩), fun _ vv => vv = .agg #[.bool u.kn, .string (bs u.ka), .string (bs u.kb)], fun _ vv => vv = .agg #[.bool rn, .string (bs ra), .string (bs rb)], fun _ vv => vv = .int .i64 cc, fun _ vv => vv = .bool true] rfl (by kernel_rfl) (by kernel_rfl) (by kernel_rfl) ⟨fun _ _ _ h _ => h, fun _ _ _ h _ => h, fun _ _ _ h _ => h, fun _ _ _ h _ => h, fun _ _ _ h _ => h, fun _ _ _ h _ => h, fun _ _ _ h _ => h, fun _ _ _ h _ => h, fun _ _ _ h _ => h, fun _ _ _ h _ => h, fun _ _ _ h _ => h, fun _ _ _ h _ => h, fun _ _ _ h _ => h, fun _ _ _ h _ => h, fun _ _ _ h _ => h, fun _ _ _ h _ => h, fun _ _ _ h _ => h, fun _ _ _ h _ => h, fun _ _ _ h _ => h, fun _ _ _ h _ => h, fun _ _ _ h _ => h, fun _ _ _ h _ => h, fun _ _ _ h _ => h, fun _ _ _ h _ => h, trivial⟩ ?_ ?_
            refine ⟨?_, ?_, ?_, ?_, ?_, ?_, ?_, ?_, ?_, ?_, ?_, ?_, ?_, ?_, ?_, ?_, ?_, ?_, ?_, ?_, ?_, ?_, ?_, ?_, trivial⟩
            · intro xx af wv hbx hev hev0 hd
              have e0 : af.tmps[0]?.getD undef = .slice (some ⟨b, o, none⟩) l.length c := hev0 0 rfl
              clear hev hev0 hd
              go_wp2
              exact StepQ.mk _ (Below.refl _ _) rfl
            · intro xx af wv hbx hev hev0 hd
              have e7 : af.tmps[7]?.getD undef = .int .i64 (k : Nat) := hev0 7 rfl
              clear hev hev0 hd
              go_wp2
              exact StepQ.mk _ (Below.refl _ _) rfl
            · intro xx af wv hbx hev hev0 hd
              have e14 := hev 0 _ 14 rfl rfl
              have d0 : xx 0 = .slice (some ⟨b, o, none⟩) l.length c := hd ⟨0, .data⟩ (by simp) rfl
              rw [d0] at e14
              clear d0
              have e15 := hev 1 _ 15 rfl rfl
              have d1 : xx 1 = .int .i64 (k : Nat) := hd ⟨1, .data⟩ (by simp) rfl
              rw [d1] at e15
              clear d1
              clear hev hev0 hd
              go_wp2
              exact StepQ.mk _ (Below.refl _ _) rfl
            · intro xx af wv hbx hev hev0 hd
              have e16 := hev 2 _ 16 rfl rfl
              have d2 : xx 2 = .pointer (some ⟨b, o + k * 8, none⟩) := hd ⟨2, .data⟩ (by simp) rfl
              rw [d2] at e16
              clear d2
              clear hev hev0 hd
              go_wp2
              exact StepQ.mk _ (Below.refl _ _) rfl
            · intro xx af wv hbx hev hev0 hd
              have e17 := hev 3 _ 17 rfl rfl
              have d3 : xx 3 = .pointer (some ⟨b, o + k * 8, none⟩) := hd ⟨3, .data⟩ (by simp) rfl
              rw [d3] at e17
              clear d3
              clear hev hev0 hd
              have hs1 := Lib.hid (HS.out.call hbx)
              have y0 := HX.out _ hs1.out.below 0 _ rfl
              rw [Nat.add_zero] at y0
              go_wp2
              exact StepQ.mk _ (Below.refl _ _) rfl
            · intro xx af wv hbx hev hev0 hd
              have e1 : af.tmps[1]?.getD undef = .int .i64 p := hev0 1 rfl
              clear hev hev0 hd
              go_wp2
              exact StepQ.mk _ (Below.refl _ _) rfl
            · intro xx af wv hbx hev hev0 hd
              have e18 := hev 4 _ 18 rfl rfl
              have d4 : xx 4 = .int .i64 u.party := hd ⟨4, .data⟩ (by simp) rfl
              rw [d4] at e18
              clear d4
              have e19 := hev 5 _ 19 rfl rfl
              have d5 : xx 5 = .int .i64 p := hd ⟨5, .data⟩ (by simp) rfl
              rw [d5] at e19
              clear d5
              clear hev hev0 hd
              go_wp2
              exact StepQ.mk _ (Below.refl _ _) rfl
            · intro xx af wv hbx hev hev0 hd
              have e20 := hev 6 _ 20 rfl rfl
              have d6 : xx 6 = .bool true := hd ⟨6, .data⟩ (by simp) rfl
              rw [d6] at e20
              clear d6
              clear hev hev0 hd
              go_wp2
              exact StepQ.mk _ (Below.refl _ _) rfl
            · intro xx af wv hbx hev hev0 hd
              have e21 := hev 7 _ 21 rfl rfl
              have d7 : xx 7 = .bool true := hd ⟨7, .guard⟩ (by simp) rfl
              rw [d7] at e21
              clear d7
              have e0 : af.tmps[0]?.getD undef = .slice (some ⟨b, o, none⟩) l.length c := hev0 0 rfl
              have q21 := getD_bool e21
              clear hev hev0 hd
              go_wp2
              exact StepQ.mk _ (Below.refl _ _) rfl
            · intro xx af wv hbx hev hev0 hd
              have e21 := hev 7 _ 21 rfl rfl
              have d7 : xx 7 = .bool true := hd ⟨7, .guard⟩ (by simp) rfl
              rw [d7] at e21
              clear d7
              have e7 : af.tmps[7]?.getD undef = .int .i64 (k : Nat) := hev0 7 rfl
              have q21 := getD_bool e21
              clear hev hev0 hd
              go_wp2
              exact StepQ.mk _ (Below.refl _ _) rfl
            · intro xx af wv hbx hev hev0 hd
              have e21 := hev 7 _ 21 rfl rfl
              have d7 : xx 7 = .bool true := hd ⟨7, .guard⟩ (by simp) rfl
              rw [d7] at e21
              clear d7
              have e22 := hev 8 _ 22 rfl rfl
              have d8 : xx 8 = .slice (some ⟨b, o, none⟩) l.length c := hd ⟨8, .data⟩ (by simp) rfl
              rw [d8] at e22
              clear d8
              have e23 := hev 9 _ 23 rfl rfl
              have d9 : xx 9 = .int .i64 (k : Nat) := hd ⟨9, .data⟩ (by simp) rfl
              rw [d9] at e23
              clear d9
              have q21 := getD_bool e21
              clear hev hev0 hd
              go_wp2
              exact StepQ.mk _ (Below.refl _ _) rfl
            · intro xx af wv hbx hev hev0 hd
              have e21 := hev 7 _ 21 rfl rfl
              have d7 : xx 7 = .bool true := hd ⟨7, .guard⟩ (by simp) rfl
              rw [d7] at e21
              clear d7
              have e24 := hev 10 _ 24 rfl rfl
              have d10 : xx 10 = .pointer (some ⟨b, o + k * 8, none⟩) := hd ⟨10, .data⟩ (by simp) rfl
              rw [d10] at e24
              clear d10
              have q21 := getD_bool e21
              clear hev hev0 hd
              go_wp2
              exact StepQ.mk _ (Below.refl _ _) rfl
            · intro xx af wv hbx hev hev0 hd
              have e21 := hev 7 _ 21 rfl rfl
              have d7 : xx 7 = .bool true := hd ⟨7, .guard⟩ (by simp) rfl
              rw [d7] at e21
              clear d7
              have e25 := hev 11 _ 25 rfl rfl
              have d11 : xx 11 = .pointer (some ⟨b, o + k * 8 + 7, none⟩) := hd ⟨11, .data⟩ (by simp) rfl
              rw [d11] at e25
              clear d11
              have q21 := getD_bool e21
              clear hev hev0 hd
              have hs1 := Lib.hid (HS.out.call hbx)
              have y0 := HX.out _ hs1.out.below 7 _ rfl
              go_wp2
              exact StepQ.mk _ (Below.refl _ _) rfl
            · intro xx af wv hbx hev hev0 hd
              have e21 := hev 7 _ 21 rfl rfl
              have d7 : xx 7 = .bool true := hd ⟨7, .guard⟩ (by simp) rfl
              rw [d7] at e21
              clear d7
              have e26 := hev 12 _ 26 rfl rfl
              have d12 : xx 12 = .bool false := hd ⟨12, .data⟩ (by simp) rfl
              rw [d12] at e26
              clear d12
              have q21 := getD_bool e21
              clear hev hev0 hd
              go_wp2
              exact StepQ.mk _ (Below.refl _ _) rfl
            · intro xx af wv hbx hev hev0 hd
              have e21 := hev 7 _ 21 rfl rfl
              have d7 : xx 7 = .bool true := hd ⟨7, .data⟩ (by simp) rfl
              rw [d7] at e21
              clear d7
              have e27 := hev 13 _ 27 rfl rfl
              have d13 : xx 13 = .bool true := hd ⟨13, .data⟩ (by simp) rfl
              rw [d13] at e27
              clear d13
              clear hev hev0 hd
              go_wp2
              exact StepQ.mk _ (Below.refl _ _) rfl
            · intro xx af wv hbx hev hev0 hd
              have e28 := hev 14 _ 28 rfl rfl
              have d14 : xx 14 = .bool true := hd ⟨14, .data⟩ (by simp) rfl
              rw [d14] at e28
              clear d14
              clear hev hev0 hd
              go_wp2
              exact StepQ.mk _ (Below.refl _ _) rfl
            · intro xx af wv hbx hev hev0 hd
              have e29 := hev 15 _ 29 rfl rfl
              have d15 : xx 15 = .bool true := hd ⟨15, .guard⟩ (by simp) rfl
              rw [d15] at e29
              clear d15
              have e0 : af.tmps[0]?.getD undef = .slice (some ⟨b, o, none⟩) l.length c := hev0 0 rfl
              have q29 := getD_bool e29
              clear hev hev0 hd
              go_wp2
              exact StepQ.mk _ (Below.refl _ _) rfl
            · intro xx af wv hbx hev hev0 hd
              have e29 := hev 15 _ 29 rfl rfl
              have d15 : xx 15 = .bool true := hd ⟨15, .guard⟩ (by simp) rfl
              rw [d15] at e29
              clear d15
              have e7 : af.tmps[7]?.getD undef = .int .i64 (k : Nat) := hev0 7 rfl
              have q29 := getD_bool e29
              clear hev hev0 hd
              go_wp2
              exact StepQ.mk _ (Below.refl _ _) rfl
            · intro xx af wv hbx hev hev0 hd
              have e29 := hev 15 _ 29 rfl rfl
              have d15 : xx 15 = .bool true := hd ⟨15, .guard⟩ (by simp) rfl
              rw [d15] at e29
              clear d15
              have e30 := hev 16 _ 30 rfl rfl
              have d16 : xx 16 = .slice (some ⟨b, o, none⟩) l.length c := hd ⟨16, .data⟩ (by simp) rfl
              rw [d16] at e30
              clear d16
              have e31 := hev 17 _ 31 rfl rfl
              have d17 : xx 17 = .int .i64 (k : Nat) := hd ⟨17, .data⟩ (by simp) rfl
              rw [d17] at e31
              clear d17
              have q29 := getD_bool e29
              clear hev hev0 hd
              go_wp2
              exact StepQ.mk _ (Below.refl _ _) rfl
            · intro xx af wv hbx hev hev0 hd
              have e29 := hev 15 _ 29 rfl rfl
              have d15 : xx 15 = .bool true := hd ⟨15, .guard⟩ (by simp) rfl
              rw [d15] at e29
              clear d15
              have e32 := hev 18 _ 32 rfl rfl
              have d18 : xx 18 = .pointer (some ⟨b, o + k * 8, none⟩) := hd ⟨18, .data⟩ (by simp) rfl
              rw [d18] at e32
              clear d18
              have q29 := getD_bool e29
              clear hev hev0 hd
              go_wp2
              exact StepQ.mk _ (Below.refl _ _) rfl
            · intro xx af wv hbx hev hev0 hd
              have e29 := hev 15 _ 29 rfl rfl
              have d15 : xx 15 = .bool true := hd ⟨15, .guard⟩ (by simp) rfl
              rw [d15] at e29
              clear d15
              have e33 := hev 19 _ 33 rfl rfl
              have d19 : xx 19 = .pointer (some ⟨b, o + k * 8 + 4, none⟩) := hd ⟨19, .data⟩ (by simp) rfl
              rw [d19] at e33
              clear d19
              have q29 := getD_bool e29
              clear hev hev0 hd
              have hs1 := Lib.hid (HS.out.call hbx)
              have y0 := HX.out _ hs1.out.below 4 _ rfl
              have y1 := HX.out _ hs1.out.below 5 _ rfl
              have y2 := HX.out _ hs1.out.below 6 _ rfl
              go_wp2
              exact StepQ.mk _ (Below.refl _ _) rfl
            · intro xx af wv hbx hev hev0 hd
              have e29 := hev 15 _ 29 rfl rfl
              have d15 : xx 15 = .bool true := hd ⟨15, .guard⟩ (by simp) rfl
              rw [d15] at e29
              clear d15
              have e5 : af.tmps[5]?.getD undef = .pointer (some ⟨w.heap.size, 0, none⟩) := hev0 5 rfl
              have q29 := getD_bool e29
              clear hev hev0 hd
              have hs1 := Lib.hid (HS.out.call hbx)
              have y0 := hs1.out.cell 0 rfl 0 rfl
              have y1 := hs1.out.cell 0 rfl 1 rfl
              have y2 := hs1.out.cell 0 rfl 2 rfl
              go_wp2
              exact StepQ.mk _ (Below.refl _ _) rfl
            · intro xx af wv hbx hev hev0 hd
              have e29 := hev 15 _ 29 rfl rfl
              have d15 : xx 15 = .bool true := hd ⟨15, .chain⟩ (by simp) rfl
              rw [d15] at e29
              clear d15
              have e34 := hev 20 _ 34 rfl rfl
              have d20 : xx 20 = .agg #[.bool u.kn, .string (bs u.ka), .string (bs u.kb)] := hd ⟨20, .data⟩ (by simp) rfl
              rw [d20] at e34
              clear d20
              have e35 := hev 21 _ 35 rfl rfl
              have d21 : xx 21 = .agg #[.bool rn, .string (bs ra), .string (bs rb)] := hd ⟨21, .data⟩ (by simp) rfl
              rw [d21] at e35
              clear d21
              have q29 := getD_bool e29
              clear hev hev0 hd
              go_wp2_with fail
              refine (HA.out _).mono ?_
              rintro e w8 ⟨rfl, hb8⟩
              go_wp2
              exact StepQ.mk _ hb8 rfl
            · intro xx af wv hbx hev hev0 hd
              have e29 := hev 15 _ 29 rfl rfl
              have d15 : xx 15 = .bool true := hd ⟨15, .guard⟩ (by simp) rfl
              rw [d15] at e29
              clear d15
              have e36 := hev 22 _ 36 rfl rfl
              have d22 : xx 22 = .int .i64 cc := hd ⟨22, .data⟩ (by simp) rfl
              rw [d22] at e36
              clear d22
              have q29 := getD_bool e29
              clear hev hev0 hd
              go_wp2
              exact StepQ.mk _ (Below.refl _ _) rfl
            intro xx w2 hb9 hv
            have hv0 : xx 0 = .slice (some ⟨b, o, none⟩) l.length c := hv 0 (by decide)
            have hv1 : xx 1 = .int .i64 (k : Nat) := hv 1 (by decide)
            have hv2 : xx 2 = .pointer (some ⟨b, o + k * 8, none⟩) := hv 2 (by decide)
            have hv3 : xx 3 = .pointer (some ⟨b, o + k * 8, none⟩) := hv 3 (by decide)
            have hv4 : xx 4 = .int .i64 u.party := hv 4 (by decide)
            have hv5 : xx 5 = .int .i64 p := hv 5 (by decide)
            have hv6 : xx 6 = .bool true := hv 6 (by decide)
            have hv7 : xx 7 = .bool true := hv 7 (by decide)
            have hv8 : xx 8 = .slice (some ⟨b, o, none⟩) l.length c := hv 8 (by decide)
            have hv9 : xx 9 = .int .i64 (k : Nat) := hv 9 (by decide)
            have hv10 : xx 10 = .pointer (some ⟨b, o + k * 8, none⟩) := hv 10 (by decide)
            have hv11 : xx 11 = .pointer (some ⟨b, o + k * 8 + 7, none⟩) := hv 11 (by decide)
            have hv12 : xx 12 = .bool false := hv 12 (by decide)
            have hv13 : xx 13 = .bool true := hv 13 (by decide)
            have hv14 : xx 14 = .bool true := hv 14 (by decide)
            have hv15 : xx 15 = .bool true := hv 15 (by decide)
            have hv16 : xx 16 = .slice (some ⟨b, o, none⟩) l.length c := hv 16 (by decide)
            have hv17 : xx 17 = .int .i64 (k : Nat) := hv 17 (by decide)
            have hv18 : xx 18 = .pointer (some ⟨b, o + k * 8, none⟩) := hv 18 (by decide)
            have hv19 : xx 19 = .pointer (some ⟨b, o + k * 8 + 4, none⟩) := hv 19 (by decide)
            have hv20 : xx 20 = .agg #[.bool u.kn, .string (bs u.ka), .string (bs u.kb)] := hv 20 (by decide)
            have hv21 : xx 21 = .agg #[.bool rn, .string (bs ra), .string (bs rb)] := hv 21 (by decide)
            have hv22 : xx 22 = .int .i64 cc := hv 22 (by decide)
            have hv23 : xx 23 = .bool true := hv 23 (by decide)
            clear hv
            simp only [List.take, List.drop, fillA, Act.put]
            simp only [hv0, hv1, hv2, hv3, hv4, hv5, hv6, hv7, hv8, hv9, hv10, hv11, hv12, hv13, hv14, hv15, hv16, hv17, hv18, hv19, hv20, hv21, hv22, hv23]
            clear hv0 hv1 hv2 hv3 hv4 hv5 hv6 hv7 hv8 hv9 hv10 hv11 hv12 hv13 hv14 hv15 hv16 hv17 hv18 hv19 hv20 hv21 hv22 hv23
            have HS2 := Lib.hid (HS.out.call hb9)
            clear hb9 HS
            go_wp2
            go_ret
            have HS3 : Hid (St w [⟨w.heap.size, #[.bool rn, .string (bs ra), .string (bs rb)], 23⟩] _) := Lib.hid HS2.out
            rw [R.out]
            exact ⟨rfl, HS3.out.below⟩
        · have R := Lib.hid (HYT.out)
          clear HYT HYN
          go_wp2
          refine wp_region_facts 24 [fun _ vv => vv = .slice (some ⟨b, o, none⟩) l.length c, fun _ vv => vv = .int .i64 (k : Nat), fun _ vv => vv = .pointer (some ⟨b, o + k * 8, none⟩), fun _ vv => vv = .pointer (some ⟨b, o + k * 8, none⟩), fun _ vv => vv = .int .i64 u.party, fun _ vv => vv = .int .i64 p, fun _ vv => vv = .bool true, fun _ vv => vv = .bool true, fun _ vv => vv = .slice (some ⟨b, o, none⟩) l.length c, fun _ vv => vv = .int .i64 (k : Nat), fun _ vv => vv = .pointer (some ⟨b, o + k * 8, none⟩), fun _ vv => vv = .pointer (some ⟨b, o + k * 8 + 7, none⟩), fun _ vv => vv = .bool true, fun _ vv => vv = .bool false, fun _ vv => vv = .bool false, fun _ vv => vv = .bool false, fun _ vv => vv = undef, fun _ vv => vv = undef, fun _ vv => vv = undef, fun _ vv => vv = undef, fun _ vv => vv = undef, fun _ vv => vv = undef, fun _ vv => vv = undef, fun _ vv => vv = undef] rfl (by kernel_rfl) (by kernel_rfl) (by kernel_rfl) ⟨fun _ _ _ h _ => h, fun _ _ _ h _ => h, fun _ _ _ h _ => h, fun _ _ _ h _ => h, fun _ _ _ h _ => h, fun _ _ _ h _ => h, fun _ _ _ h _ => h, fun _ _ _ h _ => h, fun _ _ _ h _ => h, fun _ _ _ h _ => h, fun _ _ _ h _ => h, fun _ _ _ h _ => h, fun _ _ _ h _ => h, fun _ _ _ h _ => h, fun _ _ _ h _ => h, fun _ _ _ h _ => h, fun _ _ _ h _ => h, fun _ _ _ h _ => h, fun _ _ _ h _ => h, fun _ _ _ h _ => h, fun _ _ _ h _ => h, fun _ _ _ h _ => h, fun _ _ _ h _ => h, fun _ _ _ h _ => h, trivial⟩ ?_ ?_
          refine ⟨?_, ?_, ?_, ?_, ?_, ?_, ?_, ?_, ?_, ?_, ?_, ?_, ?_, ?_, ?_, ?_, ?_, ?_, ?_, ?_, ?_, ?_, ?_, ?_, trivial⟩
          · intro xx af wv hbx hev hev0 hd
            have e0 : af.tmps[0]?.getD undef = .slice (some ⟨b, o, none⟩) l.length c := hev0 0 rfl
            clear hev hev0 hd
            go_wp2
            exact StepQ.mk _ (Below.refl _ _) rfl
          · intro xx af wv hbx hev hev0 hd
            have e7 : af.tmps[7]?.getD undef = .int .i64 (k : Nat) := hev0 7 rfl
            clear hev hev0 hd
            go_wp2
            exact StepQ.mk _ (Below.refl _ _) rfl
          · intro xx af wv hbx hev hev0 hd
            have e14 := hev 0 _ 14 rfl rfl
            have d0 : xx 0 = .slice (some ⟨b, o, none⟩) l.length c := hd ⟨0, .data⟩ (by simp) rfl
            rw [d0] at e14
            clear d0
            have e15 := hev 1 _ 15 rfl rfl
            have d1 : xx 1 = .int .i64 (k : Nat) := hd ⟨1, .data⟩ (by simp) rfl
            rw [d1] at e15
            clear d1
            clear hev hev0 hd
            go_wp2
            exact StepQ.mk _ (Below.refl _ _) rfl
          · intro xx af wv hbx hev hev0 hd
            have e16 := hev 2 _ 16 rfl rfl
            have d2 : xx 2 = .pointer (some ⟨b, o + k * 8, none⟩) := hd ⟨2, .data⟩ (by simp) rfl
            rw [d2] at e16
            clear d2
            clear hev hev0 hd
            go_wp2
            exact StepQ.mk _ (Below.refl _ _) rfl
          · intro xx af wv hbx hev hev0 hd
            have e17 := hev 3 _ 17 rfl rfl
            have d3 : xx 3 = .pointer (some ⟨b, o + k * 8, none⟩) := hd ⟨3, .data⟩ (by simp) rfl
            rw [d3] at e17
            clear d3
            clear hev hev0 hd
            have hs1 := Lib.hid (HS.out.call hbx)
            have y0 := HX.out _ hs1.out.below 0 _ rfl
            rw [Nat.add_zero] at y0
            go_wp2
            exact StepQ.mk _ (Below.refl _ _) rfl
          · intro xx af wv hbx hev hev0 hd
            have e1 : af.tmps[1]?.getD undef = .int .i64 p := hev0 1 rfl
            clear hev hev0 hd
            go_wp2
            exact StepQ.mk _ (Below.refl _ _) rfl
          · intro xx af wv hbx hev hev0 hd
            have e18 := hev 4 _ 18 rfl rfl
            have d4 : xx 4 = .int .i64 u.party := hd ⟨4, .data⟩ (by simp) rfl
            rw [d4] at e18
            clear d4
            have e19 := hev 5 _ 19 rfl rfl
            have d5 : xx 5 = .int .i64 p := hd ⟨5, .data⟩ (by simp) rfl
            rw [d5] at e19
            clear d5
            clear hev hev0 hd
            go_wp2
            exact StepQ.mk _ (Below.refl _ _) rfl
          · intro xx af wv hbx hev hev0 hd
            have e20 := hev 6 _ 20 rfl rfl
            have d6 : xx 6 = .bool true := hd ⟨6, .data⟩ (by simp) rfl
            rw [d6] at e20
            clear d6
            clear hev hev0 hd
            go_wp2
            exact StepQ.mk _ (Below.refl _ _) rfl
          · intro xx af wv hbx hev hev0 hd
            have e21 := hev 7 _ 21 rfl rfl
            have d7 : xx 7 = .bool true := hd ⟨7, .guard⟩ (by simp) rfl
            rw [d7] at e21
            clear d7
            have e0 : af.tmps[0]?.getD undef = .slice (some ⟨b, o, none⟩) l.length c := hev0 0 rfl
            have q21 := getD_bool e21
            clear hev hev0 hd
            go_wp2
            exact StepQ.mk _ (Below.refl _ _) rfl
          · intro xx af wv hbx hev hev0 hd
            have e21 := hev 7 _ 21 rfl rfl
            have d7 : xx 7 = .bool true := hd ⟨7, .guard⟩ (by simp) rfl
            rw [d7] at e21
            clear d7
            have e7 : af.tmps[7]?.getD undef = .int .i64 (k : Nat) := hev0 7 rfl
            have q21 := getD_bool e21
            clear hev hev0 hd
            go_wp2
            exact StepQ.mk _ (Below.refl _ _) rfl
          · intro xx af wv hbx hev hev0 hd
            have e21 := hev 7 _ 21 rfl rfl
            have d7 : xx 7 = .bool true := hd ⟨7, .guard⟩ (by simp) rfl
            rw [d7] at e21
            clear d7
            have e22 := hev 8 _ 22 rfl rfl
            have d8 : xx 8 = .slice (some ⟨b, o, none⟩) l.length c := hd ⟨8, .data⟩ (by simp) rfl
            rw [d8] at e22
            clear d8
            have e23 := hev 9 _ 23 rfl rfl
            have d9 : xx 9 = .int .i64 (k : Nat) := hd ⟨9, .data⟩ (by simp) rfl
            rw [d9] at e23
            clear d9
            have q21 := getD_bool e21
            clear hev hev0 hd
            go_wp2
            exact StepQ.mk _ (Below.refl _ _) rfl
          · intro xx af wv hbx hev hev0 hd
            have e21 := hev 7 _ 21 rfl rfl
            have d7 : xx 7 = .bool true := hd ⟨7, .guard⟩ (by simp) rfl
            rw [d7] at e21
            clear d7
            have e24 := hev 10 _ 24 rfl rfl
            have d10 : xx 10 = .pointer (some ⟨b, o + k * 8, none⟩) := hd ⟨10, .data⟩ (by simp) rfl
            rw [d10] at e24
            clear d10
            have q21 := getD_bool e21
            clear hev hev0 hd
            go_wp2
            exact StepQ.mk _ (Below.refl _ _) rfl
          · intro xx af wv hbx hev hev0 hd
            have e21 := hev 7 _ 21 rfl rfl
            have d7 : xx 7 = .bool true := hd ⟨7, .guard⟩ (by simp) rfl
            rw [d7] at e21
            clear d7
            have e25 := hev 11 _ 25 rfl rfl
            have d11 : xx 11 = .pointer (some ⟨b, o + k * 8 + 7, none⟩) := hd ⟨11, .data⟩ (by simp) rfl
            rw [d11] at e25
            clear d11
            have q21 := getD_bool e21
            clear hev hev0 hd
            have hs1 := Lib.hid (HS.out.call hbx)
            have y0 := HX.out _ hs1.out.below 7 _ rfl
            go_wp2
            exact StepQ.mk _ (Below.refl _ _) rfl
          · intro xx af wv hbx hev hev0 hd
            have e21 := hev 7 _ 21 rfl rfl
            have d7 : xx 7 = .bool true := hd ⟨7, .guard⟩ (by simp) rfl
            rw [d7] at e21
            clear d7
            have e26 := hev 12 _ 26 rfl rfl
            have d12 : xx 12 = .bool true := hd ⟨12, .data⟩ (by simp) rfl
            rw [d12] at e26
            clear d12
            have q21 := getD_bool e21
            clear hev hev0 hd
            go_wp2
            exact StepQ.mk _ (Below.refl _ _) rfl
          · intro xx af wv hbx hev hev0 hd
            have e21 := hev 7 _ 21 rfl rfl
            have d7 : xx 7 = .bool true := hd ⟨7, .data⟩ (by simp) rfl
            rw [d7] at e21
            clear d7
            have e27 := hev 13 _ 27 rfl rfl
            have d13 : xx 13 = .bool false := hd ⟨13, .data⟩ (by simp) rfl
            rw [d13] at e27
            clear d13
            clear hev hev0 hd
            go_wp2
            exact StepQ.mk _ (Below.refl _ _) rfl
          · intro xx af wv hbx hev hev0 hd
            have e28 := hev 14 _ 28 rfl rfl
            have d14 : xx 14 = .bool false := hd ⟨14, .data⟩ (by simp) rfl
            rw [d14] at e28
            clear d14
            clear hev hev0 hd
            go_wp2
            exact StepQ.mk _ (Below.refl _ _) rfl
          · intro xx af wv hbx hev hev0 hd
            have e29 := hev 15 _ 29 rfl rfl
            have d15 : xx 15 = .bool false := hd ⟨15, .guard⟩ (by simp) rfl
            rw [d15] at e29
            clear d15
            have q29 := getD_bool e29
            clear hev hev0 hd
            go_wp2
            exact StepQ.mk _ (Below.refl _ _) rfl
          · intro xx af wv hbx hev hev0 hd
            have e29 := hev 15 _ 29 rfl rfl
            have d15 : xx 15 = .bool false := hd ⟨15, .guard⟩ (by simp) rfl
            rw [d15] at e29
            clear d15
            have q29 := getD_bool e29
            clear hev hev0 hd
            go_wp2
            exact StepQ.mk _ (Below.refl _ _) rfl
          · intro xx af wv hbx hev hev0 hd
            have e29 := hev 15 _ 29 rfl rfl
            have d15 : xx 15 = .bool false := hd ⟨15, .guard⟩ (by simp) rfl
            rw [d15] at e29
            clear d15
            have q29 := getD_bool e29
            clear hev hev0 hd
            go_wp2
            exact StepQ.mk _ (Below.refl _ _) rfl
          · intro xx af wv hbx hev hev0 hd
            have e29 := hev 15 _ 29 rfl rfl
            have d15 : xx 15 = .bool false := hd ⟨15, .guard⟩ (by simp) rfl
            rw [d15] at e29
            clear d15
            have q29 := getD_bool e29
            clear hev hev0 hd
            go_wp2
            exact StepQ.mk _ (Below.refl _ _) rfl
          · intro xx af wv hbx hev hev0 hd
            have e29 := hev 15 _ 29 rfl rfl
            have d15 : xx 15 = .bool false := hd ⟨15, .guard⟩ (by simp) rfl
            rw [d15] at e29
            clear d15
            have q29 := getD_bool e29
            clear hev hev0 hd
            go_wp2
            exact StepQ.mk _ (Below.refl _ _) rfl
          · intro xx af wv hbx hev hev0 hd
            have e29 := hev 15 _ 29 rfl rfl
            have d15 : xx 15 = .bool false := hd ⟨15, .guard⟩ (by simp) rfl
            rw [d15] at e29
            clear d15
            have q29 := getD_bool e29
            clear hev hev0 hd
            go_wp2
            exact StepQ.mk _ (Below.refl _ _) rfl
          · intro xx af wv hbx hev hev0 hd
            have e29 := hev 15 _ 29 rfl rfl
            have d15 : xx 15 = .bool false := hd ⟨15, .chain⟩ (by simp) rfl
            rw [d15] at e29
            clear d15
            have q29 := getD_bool e29
            clear hev hev0 hd
            go_wp2
            exact StepQ.mk _ (Below.refl _ _) rfl
          · intro xx af wv hbx hev hev0 hd
            have e29 := hev 15 _ 29 rfl rfl
            have d15 : xx 15 = .bool false := hd ⟨15, .guard⟩ (by simp) rfl
            rw [d15] at e29
            clear d15
            have q29 := getD_bool e29
            clear hev hev0 hd
            go_wp2
            exact StepQ.mk _ (Below.refl _ _) rfl
          intro xx w2 hb9 hv
          have hv0 : xx 0 = .slice (some ⟨b, o, none⟩) l.length c := hv 0 (by decide)
          have hv1 : xx 1 = .int .i64 (k : Nat) := hv 1 (by decide)
          have hv2 : xx 2 = .pointer (some ⟨b, o + k * 8, none⟩) := hv 2 (by decide)
          have hv3 : xx 3 = .pointer (some ⟨b, o + k * 8, none⟩) := hv 3 (by decide)
          have hv4 : xx 4 = .int .i64 u.party := hv 4 (by decide)
          have hv5 : xx 5 = .int .i64 p := hv 5 (by decide)
          have hv6 : xx 6 = .bool true := hv 6 (by decide)
          have hv7 : xx 7 = .bool true := hv 7 (by decide)
          have hv8 : xx 8 = .slice (some ⟨b, o, none⟩) l.length c := hv 8 (by decide)
          have hv9 : xx 9 = .int .i64 (k : Nat) := hv 9 (by decide)
          have hv10 : xx 10 = .pointer (some ⟨b, o + k * 8, none⟩) := hv 10 (by decide)
          have hv11 : xx 11 = .pointer (some ⟨b, o + k * 8 + 7, none⟩) := hv 11 (by decide)
          have hv12 : xx 12 = .bool true := hv 12 (by decide)
          have hv13 : xx 13 = .bool false := hv 13 (by decide)
          have hv14 : xx 14 = .bool false := hv 14 (by decide)
          have hv15 : xx 15 = .bool false := hv 15 (by decide)
          have hv16 : xx 16 = undef := hv 16 (by decide)
          have hv17 : xx 17 = undef := hv 17 (by decide)
          have hv18 : xx 18 = undef := hv 18 (by decide)
          have hv19 : xx 19 = undef := hv 19 (by decide)
          have hv20 : xx 20 = undef := hv 20 (by decide)
          have hv21 : xx 21 = undef := hv 21 (by decide)
          have hv22 : xx 22 = undef := hv 22 (by decide)
          have hv23 : xx 23 = undef := hv 23 (by decide)
          clear hv
          simp only [List.take, List.drop, fillA, Act.put]
          simp only [hv0, hv1, hv2, hv3, hv4, hv5, hv6, hv7, hv8, hv9, hv10, hv11, hv12, hv13, hv14, hv15, hv16, hv17, hv18, hv19, hv20, hv21, hv22, hv23]
          clear hv0 hv1 hv2 hv3 hv4 hv5 hv6 hv7 hv8 hv9 hv10 hv11 hv12 hv13 hv14 hv15 hv16 hv17 hv18 hv19 hv20 hv21 hv22 hv23
          have HS2 := Lib.hid (HS.out.call hb9)
          clear hb9 HS
          go_wp2
          have HS3 : Hid (St w [⟨w.heap.size, #[.bool rn, .string (bs ra), .string (bs rb)], 23⟩] _) := Lib.hid HS2.out
          go_roundw
          case rel => exact ⟨k + 1, by omega, by go_num, by show _ = _; have := R.out; rw [hck.out] at this; simpa using this, HS3.out.sub (by simp)⟩
          case measure => simp [intOf]; omega
    · obtain rfl : k = l.length := by omega
      have R := hck.out
      rw [List.take_length] at R
      have R := Lib.hid R
      go_wp2
      go_ret
      have HS2 : Hid (St w [⟨w.heap.size, #[.bool rn, .string (bs ra), .string (bs rb)], 23⟩] _) := Lib.hid HS.out
      rw [R.out]
      exact ⟨rfl, HS2.out.below⟩

theorem passed_less (t : Tly) : passedV t = ((!decide (sgn (3 * t.yes - 2 * t.amount).num < 0)) && decide (t.heads < 2 * t.yesHeads)) := by
  unfold passedV
  congr 1
  rw [Bool.eq_iff_iff]; simp

set_option maxRecDepth 100000 in
set_option maxHeartbeats 1000000 in
theorem ref_passed (t : Tly) (w : World) (h1 : Sized 10000000 t.amount) (h2 : Sized 10000000 t.yes) (h3 : t.heads ≤ 1000000) (h4 : t.yesHeads ≤ 1000000) :
    Calls Tryz.prog 48 #[tly t] w fun e w' => e = .returned (.bool (passedV t)) ∧ Below w.heap.size w w' := by
  rw [passed_less]
  obtain ⟨p, q, m, n⟩ := t
  dsimp only at h1 h2 h3 h4
  unfold tly tlyC
  dsimp only
  have i3 := fun W => ref_Int 3 W (by decide) (by decide)
  have i2 := fun W => ref_Int 2 W (by decide) (by decide)
  have z3 := (sized_int8 (n := 3) (by decide)).mono (show 8 ≤ 17179869184 by decide)
  have z2 := (sized_int8 (n := 2) (by decide)).mono (show 8 ≤ 17179869184 by decide)
  have m3 := fun W => ref_Times ((3 : Int) : Rat) q W z3 (h2.mono (by decide))
  have m2 := fun W => ref_Times ((2 : Int) : Rat) p W z2 (h1.mono (by decide))
  have s3 := ((sized_int8 (n := 3) (by decide)).mul h2).mono (show _ ≤ 17179869184 by decide)
  have s2 := ((sized_int8 (n := 2) (by decide)).mul h1).mono (show _ ≤ 17179869184 by decide)
  rw [show ((3 : Int) : Rat) = 3 from rfl] at i3 m3 s3
  rw [show ((2 : Int) : Rat) = 2 from rfl] at i2 m2 s2
  have cm := fun W => ref_Less (3 * q) (2 * p) W s3 s2
  clear z3 z2 s3 s2 h1 h2
  generalize decide (sgn (3 * q - 2 * p).num < 0) = eB at *
  generalize (3 : Rat) * q = a at *
  generalize (2 : Rat) * p = b at *
  generalize (3 : Rat) = u at *
  generalize (2 : Rat) = v at *
  unfold rat raw at *
  generalize negB p = np at *
  generalize numB p = bp at *
  generalize denomB p = dp at *
  generalize negB q = nq at *
  generalize numB q = bq at *
  generalize denomB q = dq at *
  generalize negB a = na at *
  generalize numB a = ba at *
  generalize denomB a = da at *
  generalize negB b = nb at *
  generalize numB b = bb at *
  generalize denomB b = db at *
  generalize negB u = nu at *
  generalize numB u = bu at *
  generalize denomB u = du at *
  generalize negB v = nv at *
  generalize numB v = bv at *
  generalize denomB v = dv at *
  have I3 := Lib.hid i3
  have I2 := Lib.hid i2
  have M3 := Lib.hid m3
  have M2 := Lib.hid m2
  have CM := Lib.hid cm
  clear i3 i2 m3 m2 cm
  have k1 : IntKind.i64.wrap (2 * (n : Int)) = 2 * (n : Int) := IntWalk.i64_in _ (by omega)
  have k2 : decide ((m : Int) < 2 * (n : Int)) = decide (m < 2 * n) := by rw [Bool.eq_iff_iff]; simp; omega
  obtain ⟨dB, hdB⟩ : ∃ x, x = decide (m < 2 * n) := ⟨_, rfl⟩
  rw [← hdB] at k2 ⊢
  clear hdB
  cases eB
  · go_enter Tryz.func48, Tryz.ntmps48
    have HS := Lib.hid (St.start w)
    go_wp2
    refine wp_st (R := [⟨w.heap.size, #[.bool np, .string (bs bp), .string (bs dp), .bool nq, .string (bs bq), .string (bs dq), .int .i64 (m : Nat), .int .i64 (n : Nat)], 52⟩]) (St.alloc (HS.out) #[.bool np, .string (bs bp), .string (bs dp), .bool nq, .string (bs bq), .string (bs dq), .int .i64 (m : Nat), .int .i64 (n : Nat)] 52 _ (by simp)) ?_
    intro wg2 hb
    have HS2 := Lib.hid hb
    clear hb HS
    refine wp_region_facts 5 [fun _ vv => vv = .agg #[.bool nu, .string (bs bu), .string (bs du)], fun _ vv => vv = .pointer (some ⟨w.heap.size, 3, none⟩), fun _ vv => vv = .agg #[.bool nq, .string (bs bq), .string (bs dq)], fun _ vv => vv = .agg #[.bool na, .string (bs ba), .string (bs da)], fun ww vv => ∃ g, vv = .pointer (some ⟨g, 0, none⟩) ∧ wg2.heap.size ≤ g ∧ Blk ww g #[.bool false, .string (bs []), .string (bs [])] 23] rfl (by kernel_rfl) (by kernel_rfl) (by kernel_rfl) ⟨fun _ _ _ h _ => h, fun _ _ _ h _ => h, fun _ _ _ h _ => h, fun _ _ _ h _ => h, fun _ _ _ ⟨g, e, hg, h⟩ hb => ⟨g, e, hg, h.below hb h.lt⟩, trivial⟩ ?_ ?_
    refine ⟨?_, ?_, ?_, ?_, ?_, trivial⟩
    · intro xx af wv hbx hev hev0 hd
      clear hev hev0 hd
      go_wp2_with fail
      refine (I3.out _).mono ?_
      rintro e w8 ⟨rfl, hb8⟩
      go_wp2
      exact StepQ.mk _ hb8 rfl
    · intro xx af wv hbx hev hev0 hd
      have e1 : af.tmps[1]?.getD undef = .pointer (some ⟨w.heap.size, 0, none⟩) := hev0 1 rfl
      clear hev hev0 hd
      go_wp2
      exact StepQ.mk _ (Below.refl _ _) rfl
    · intro xx af wv hbx hev hev0 hd
      have e6 := hev 1 _ 6 rfl rfl
      have d1 : xx 1 = .pointer (some ⟨w.heap.size, 3, none⟩) := hd ⟨1, .data⟩ (by simp) rfl
      rw [d1] at e6
      clear d1
      clear hev hev0 hd
      have hs1 := Lib.hid (HS2.out.call hbx)
      have y0 := hs1.out.cell 0 rfl 3 rfl
      have y1 := hs1.out.cell 0 rfl 4 rfl
      have y2 := hs1.out.cell 0 rfl 5 rfl
      go_wp2
      exact StepQ.mk _ (Below.refl _ _) rfl
    · intro xx af wv hbx hev hev0 hd
      have e5 := hev 0 _ 5 rfl rfl
      have d0 : xx 0 = .agg #[.bool nu, .string (bs bu), .string (bs du)] := hd ⟨0, .data⟩ (by simp) rfl
      rw [d0] at e5
      clear d0
      have e7 := hev 2 _ 7 rfl rfl
      have d2 : xx 2 = .agg #[.bool nq, .string (bs bq), .string (bs dq)] := hd ⟨2, .data⟩ (by simp) rfl
      rw [d2] at e7
      clear d2
      clear hev hev0 hd
      go_wp2_with fail
      refine (M3.out _).mono ?_
      rintro e w8 ⟨rfl, hb8⟩
      go_wp2
      exact StepQ.mk _ hb8 rfl
    · intro xx af wv hbx hev hev0 hd
      clear hev hev0 hd
      go_wp2
      exact StepQ.mk _ (Ext.alloc (Below.refl _ _) _) ⟨_, rfl, hbx.size, Blk.new _ _ _⟩
    intro xx w4 hb9 hv
    have hv0 : xx 0 = .agg #[.bool nu, .string (bs bu), .string (bs du)] := hv 0 (by decide)
    have hv1 : xx 1 = .pointer (some ⟨w.heap.size, 3, none⟩) := hv 1 (by decide)
    have hv2 : xx 2 = .agg #[.bool nq, .string (bs bq), .string (bs dq)] := hv 2 (by decide)
    have hv3 : xx 3 = .agg #[.bool na, .string (bs ba), .string (bs da)] := hv 3 (by decide)
    obtain ⟨g4, hv4, hlg4, hB4⟩ := hv 4 (by decide)
    clear hv
    simp only [List.take, List.drop, fillA, Act.put]
    simp only [hv0, hv1, hv2, hv3, hv4]
    clear hv0 hv1 hv2 hv3 hv4
    have HS4 := Lib.hid (HS2.out.fill hb9 hlg4 hB4)
    clear hlg4 hB4
    clear hb9 HS2
    have x1 := HS4.out.cell 0 rfl 0 rfl
    have x2 := HS4.out.cell 0 rfl 1 rfl
    have x3 := HS4.out.cell 0 rfl 2 rfl
    have x4 := HS4.out.frozen 0 rfl 0
    have x5 := HS4.out.frozen 0 rfl 1
    have x6 := HS4.out.frozen 0 rfl 2
    have x7 := HS4.out.ne 0 1 rfl rfl (by decide)
    have x8 := HS4.out.ne 1 0 rfl rfl (by decide)
    go_wp2
    clear x1 x2 x3 x4 x5 x6 x7 x8
    refine wp_st (R := [⟨g4, #[.bool na, .string (bs ba), .string (bs da)], 23⟩, ⟨w.heap.size, #[.bool np, .string (bs bp), .string (bs dp), .bool nq, .string (bs bq), .string (bs dq), .int .i64 (m : Nat), .int .i64 (n : Nat)], 52⟩]) (St.set ((St.set ((St.set (HS4.out) 0 rfl 0 _)) 0 rfl 1 _)) 0 rfl 2 _) ?_
    intro wg5 hb
    have HS5 := Lib.hid hb
    clear hb HS4
    refine wp_region_facts 5 [fun _ vv => vv = .agg #[.bool nv, .string (bs bv), .string (bs dv)], fun _ vv => vv = .pointer (some ⟨w.heap.size, 0, none⟩), fun _ vv => vv = .agg #[.bool np, .string (bs bp), .string (bs dp)], fun _ vv => vv = .agg #[.bool nb, .string (bs bb), .string (bs db)], fun ww vv => ∃ g, vv = .pointer (some ⟨g, 0, none⟩) ∧ wg5.heap.size ≤ g ∧ Blk ww g #[.bool false, .string (bs []), .string (bs [])] 23] rfl (by kernel_rfl) (by kernel_rfl) (by kernel_rfl) ⟨fun _ _ _ h _ => h, fun _ _ _ h _ => h, fun _ _ _ h _ => h, fun _ _ _ h _ => h, fun _ _ _ ⟨g, e, hg, h⟩ hb => ⟨g, e, hg, h.below hb h.lt⟩, trivial⟩ ?_ ?_
    refine ⟨?_, ?_, ?_, ?_, ?_, trivial⟩
    · intro xx af wv hbx hev hev0 hd
      clear hev hev0 hd
      go_wp2_with fail
      refine (I2.out _).mono ?_
      rintro e w8 ⟨rfl, hb8⟩
      go_wp2
      exact StepQ.mk _ hb8 rfl
    · intro xx af wv hbx hev hev0 hd
      have e1 : af.tmps[1]?.getD undef = .pointer (some ⟨w.heap.size, 0, none⟩) := hev0 1 rfl
      clear hev hev0 hd
      go_wp2
      exact StepQ.mk _ (Below.refl _ _) rfl
    · intro xx af wv hbx hev hev0 hd
      have e10 := hev 1 _ 10 rfl rfl
      have d1 : xx 1 = .pointer (some ⟨w.heap.size, 0, none⟩) := hd ⟨1, .data⟩ (by simp) rfl
      rw [d1] at e10
      clear d1
      clear hev hev0 hd
      have hs1 := Lib.hid (HS5.out.call hbx)
      have y0 := hs1.out.cell 1 rfl 0 rfl
      have y1 := hs1.out.cell 1 rfl 1 rfl
      have y2 := hs1.out.cell 1 rfl 2 rfl
      go_wp2
      exact StepQ.mk _ (Below.refl _ _) rfl
    · intro xx af wv hbx hev hev0 hd
      have e9 := hev 0 _ 9 rfl rfl
      have d0 : xx 0 = .agg #[.bool nv, .string (bs bv), .string (bs dv)] := hd ⟨0, .data⟩ (by simp) rfl
      rw [d0] at e9
      clear d0
      have e11 := hev 2 _ 11 rfl rfl
      have d2 : xx 2 = .agg #[.bool np, .string (bs bp), .string (bs dp)] := hd ⟨2, .data⟩ (by simp) rfl
      rw [d2] at e11
      clear d2
      clear hev hev0 hd
      go_wp2_with fail
      refine (M2.out _).mono ?_
      rintro e w8 ⟨rfl, hb8⟩
      go_wp2
      exact StepQ.mk _ hb8 rfl
    · intro xx af wv hbx hev hev0 hd
      clear hev hev0 hd
      go_wp2
      exact StepQ.mk _ (Ext.alloc (Below.refl _ _) _) ⟨_, rfl, hbx.size, Blk.new _ _ _⟩
    intro xx w6 hb9 hv
    have hv0 : xx 0 = .agg #[.bool nv, .string (bs bv), .string (bs dv)] := hv 0 (by decide)
    have hv1 : xx 1 = .pointer (some ⟨w.heap.size, 0, none⟩) := hv 1 (by decide)
    have hv2 : xx 2 = .agg #[.bool np, .string (bs bp), .string (bs dp)] := hv 2 (by decide)
    have hv3 : xx 3 = .agg #[.bool nb, .string (bs bb), .string (bs db)] := hv 3 (by decide)
    obtain ⟨g6, hv4, hlg4, hB4⟩ := hv 4 (by decide)
    clear hv
    simp only [List.take, List.drop, fillA, Act.put]
    simp only [hv0, hv1, hv2, hv3, hv4]
    clear hv0 hv1 hv2 hv3 hv4
    have HS6 := Lib.hid (HS5.out.fill hb9 hlg4 hB4)
    clear hlg4 hB4
    clear hb9 HS5
    have x9 := HS6.out.cell 0 rfl 0 rfl
    have x10 := HS6.out.cell 0 rfl 1 rfl
    have x11 := HS6.out.cell 0 rfl 2 rfl
    have x12 := HS6.out.cell 1 rfl 0 rfl
    have x13 := HS6.out.cell 1 rfl 1 rfl
    have x14 := HS6.out.cell 1 rfl 2 rfl
    have x15 := HS6.out.frozen 0 rfl 0
    have x16 := HS6.out.frozen 0 rfl 1
    have x17 := HS6.out.frozen 0 rfl 2
    have x18 := HS6.out.ne 0 1 rfl rfl (by decide)
    have x19 := HS6.out.ne 1 0 rfl rfl (by decide)
    have x20 := HS6.out.ne 0 2 rfl rfl (by decide)
    have x21 := HS6.out.ne 2 0 rfl rfl (by decide)
    go_wp2_with fail
    have HS7 : Hid (St w [⟨g6, #[.bool nb, .string (bs bb), .string (bs db)], 23⟩, ⟨g4, #[.bool na, .string (bs ba), .string (bs da)], 23⟩, ⟨w.heap.size, #[.bool np, .string (bs bp), .string (bs dp), .bool nq, .string (bs bq), .string (bs dq), .int .i64 (m : Nat), .int .i64 (n : Nat)], 52⟩] _) := Lib.hid (St.set ((St.set ((St.set (HS6.out) 0 rfl 0 _)) 0 rfl 1 _)) 0 rfl 2 _)
    refine (CM.out _).mono ?_
    rintro e w8 ⟨rfl, hb8⟩
    have HS8 := Lib.hid (HS7.out.call hb8)
    clear hb8 HS6 HS7
    clear x9 x10 x11 x12 x13 x14 x15 x16 x17 x18 x19 x20 x21
    have x22 := HS8.out.cell 2 rfl 7 rfl
    have x23 := HS8.out.cell 2 rfl 6 rfl
    go_wp2
    go_ret
    have HS9 : Hid (St w [⟨g6, #[.bool nb, .string (bs bb), .string (bs db)], 23⟩, ⟨g4, #[.bool na, .string (bs ba), .string (bs da)], 23⟩, ⟨w.heap.size, #[.bool np, .string (bs bp), .string (bs dp), .bool nq, .string (bs bq), .string (bs dq), .int .i64 (m : Nat), .int .i64 (n : Nat)], 52⟩] _) := Lib.hid HS8.out
    exact ⟨rfl, HS9.out.below⟩
  · go_enter Tryz.func48, Tryz.ntmps48
    have HS := Lib.hid (St.start w)
    go_wp2
    refine wp_st (R := [⟨w.heap.size, #[.bool np, .string (bs bp), .string (bs dp), .bool nq, .string (bs bq), .string (bs dq), .int .i64 (m : Nat), .int .i64 (n : Nat)], 52⟩]) (St.alloc (HS.out) #[.bool np, .string (bs bp), .string (bs dp), .bool nq, .string (bs bq), .string (bs dq), .int .i64 (m : Nat), .int .i64 (n : Nat)] 52 _ (by simp)) ?_
    intro wg2 hb
    have HS2 := Lib.hid hb
    clear hb HS
    refine wp_region_facts 5 [fun _ vv => vv = .agg #[.bool nu, .string (bs bu), .string (bs du)], fun _ vv => vv = .pointer (some ⟨w.heap.size, 3, none⟩), fun _ vv => vv = .agg #[.bool nq, .string (bs bq), .string (bs dq)], fun _ vv => vv = .agg #[.bool na, .string (bs ba), .string (bs da)], fun ww vv => ∃ g, vv = .pointer (some ⟨g, 0, none⟩) ∧ wg2.heap.size ≤ g ∧ Blk ww g #[.bool false, .string (bs []), .string (bs [])] 23] rfl (by kernel_rfl) (by kernel_rfl) (by kernel_rfl) ⟨fun _ _ _ h _ => h, fun _ _ _ h _ => h, fun _ _ _ h _ => h, fun _ _ _ h _ => h, fun _ _ _ ⟨g, e, hg, h⟩ hb => ⟨g, e, hg, h.below hb h.lt⟩, trivial⟩ ?_ ?_
    refine ⟨?_, ?_, ?_, ?_, ?_, trivial⟩
    · intro xx af wv hbx hev hev0 hd
      clear hev hev0 hd
      go_wp2_with fail
      refine (I3.out _).mono ?_
      rintro e w8 ⟨rfl, hb8⟩
      go_wp2
      exact StepQ.mk _ hb8 rfl
    · intro xx af wv hbx hev hev0 hd
      have e1 : af.tmps[1]?.getD undef = .pointer (some ⟨w.heap.size, 0, none⟩) := hev0 1 rfl
      clear hev hev0 hd
      go_wp2
      exact StepQ.mk _ (Below.refl _ _) rfl
    · intro xx af wv hbx hev hev0 hd
      have e6 := hev 1 _ 6 rfl rfl
      have d1 : xx 1 = .pointer (some ⟨w.heap.size, 3, none⟩) := hd ⟨1, .data⟩ (by simp) rfl
      rw [d1] at e6
      clear d1
      clear hev hev0 hd
      have hs1 := Lib.hid (HS2.out.call hbx)
      have y0 := hs1.out.cell 0 rfl 3 rfl
      have y1 := hs1.out.cell 0 rfl 4 rfl
      have y2 := hs1.out.cell 0 rfl 5 rfl
      go_wp2
      exact StepQ.mk _ (Below.refl _ _) rfl
    · intro xx af wv hbx hev hev0 hd
      have e5 := hev 0 _ 5 rfl rfl
      have d0 : xx 0 = .agg #[.bool nu, .string (bs bu), .string (bs du)] := hd ⟨0, .data⟩ (by simp) rfl
      rw [d0] at e5
      clear d0
      have e7 := hev 2 _ 7 rfl rfl
      have d2 : xx 2 = .agg #[.bool nq, .string (bs bq), .string (bs dq)] := hd ⟨2, .data⟩ (by simp) rfl
      rw [d2] at e7
      clear d2
      clear hev hev0 hd
      go_wp2_with fail
      refine (M3.out _).mono ?_
      rintro e w8 ⟨rfl, hb8⟩
      go_wp2
      exact StepQ.mk _ hb8 rfl
    · intro xx af wv hbx hev hev0 hd
      clear hev hev0 hd
      go_wp2
      exact StepQ.mk _ (Ext.alloc (Below.refl _ _) _) ⟨_, rfl, hbx.size, Blk.new _ _ _⟩
    intro xx w4 hb9 hv
    have hv0 : xx 0 = .agg #[.bool nu, .string (bs bu), .string (bs du)] := hv 0 (by decide)
    have hv1 : xx 1 = .pointer (some ⟨w.heap.size, 3, none⟩) := hv 1 (by decide)
    have hv2 : xx 2 = .agg #[.bool nq, .string (bs bq), .string (bs dq)] := hv 2 (by decide)
    have hv3 : xx 3 = .agg #[.bool na, .string (bs ba), .string (bs da)] := hv 3 (by decide)
    obtain ⟨g4, hv4, hlg4, hB4⟩ := hv 4 (by decide)
    clear hv
    simp only [List.take, List.drop, fillA, Act.put]
    simp only [hv0, hv1, hv2, hv3, hv4]
    clear hv0 hv1 hv2 hv3 hv4
    have HS4 := Lib.hid (HS2.out.fill hb9 hlg4 hB4)
    clear hlg4 hB4
    clear hb9 HS2
    have x1 := HS4.out.cell 0 rfl 0 rfl
    have x2 := HS4.out.cell 0 rfl 1 rfl
    have x3 := HS4.out.cell 0 rfl 2 rfl
    have x4 := HS4.out.frozen 0 rfl 0
    have x5 := HS4.out.frozen 0 rfl 1
    have x6 := HS4.out.frozen 0 rfl 2
    have x7 := HS4.out.ne 0 1 rfl rfl (by decide)
    have x8 := HS4.out.ne 1 0 rfl rfl (by decide)
    go_wp2
    clear x1 x2 x3 x4 x5 x6 x7 x8
    refine wp_st (R := [⟨g4, #[.bool na, .string (bs ba), .string (bs da)], 23⟩, ⟨w.heap.size, #[.bool np, .string (bs bp), .string (bs dp), .bool nq, .string (bs bq), .string (bs dq), .int .i64 (m : Nat), .int .i64 (n : Nat)], 52⟩]) (St.set ((St.set ((St.set (HS4.out) 0 rfl 0 _)) 0 rfl 1 _)) 0 rfl 2 _) ?_
    intro wg5 hb
    have HS5 := Lib.hid hb
    clear hb HS4
    refine wp_region_facts 5 [fun _ vv => vv = .agg #[.bool nv, .string (bs bv), .string (bs dv)], fun _ vv => vv = .pointer (some ⟨w.heap.size, 0, none⟩), fun _ vv => vv = .agg #[.bool np, .string (bs bp), .string (bs dp)], fun _ vv => vv = .agg #[.bool nb, .string (bs bb), .string (bs db)], fun ww vv => ∃ g, vv = .pointer (some ⟨g, 0, none⟩) ∧ wg5.heap.size ≤ g ∧ Blk ww g #[.bool false, .string (bs []), .string (bs [])] 23] rfl (by kernel_rfl) (by kernel_rfl) (by kernel_rfl) ⟨fun _ _ _ h _ => h, fun _ _ _ h _ => h, fun _ _ _ h _ => h, fun _ _ _ h _ => h, fun _ _ _ ⟨g, e, hg, h⟩ hb => ⟨g, e, hg, h.below hb h.lt⟩, trivial⟩ ?_ ?_
    refine ⟨?_, ?_, ?_, ?_, ?_, trivial⟩
    · intro xx af wv hbx hev hev0 hd
      clear hev hev0 hd
      go_wp2_with fail
      refine (I2.out _).mono ?_
      rintro e w8 ⟨rfl, hb8⟩
      go_wp2
      exact StepQ.mk _ hb8 rfl
    · intro xx af wv hbx hev hev0 hd
      have e1 : af.tmps[1]?.getD undef = .pointer (some ⟨w.heap.size, 0, none⟩) := hev0 1 rfl
      clear hev hev0 hd
      go_wp2
      exact StepQ.mk _ (Below.refl _ _) rfl
    · intro xx af wv hbx hev hev0 hd
      have e10 := hev 1 _ 10 rfl rfl
      have d1 : xx 1 = .pointer (some ⟨w.heap.size, 0, none⟩) := hd ⟨1, .data⟩ (by simp) rfl
      rw [d1] at e10
      clear d1
      clear hev hev0 hd
      have hs1 := Lib.hid (HS5.out.call hbx)
      have y0 := hs1.out.cell 1 rfl 0 rfl
      have y1 := hs1.out.cell 1 rfl 1 rfl
      have y2 := hs1.out.cell 1 rfl 2 rfl
      go_wp2
      exact StepQ.mk _ (Below.refl _ _) rfl
    · intro xx af wv hbx hev hev0 hd
      have e9 := hev 0 _ 9 rfl rfl
      have d0 : xx 0 = .agg #[.bool nv, .string (bs bv), .string (bs dv)] := hd ⟨0, .data⟩ (by simp) rfl
      rw [d0] at e9
      clear d0
      have e11 := hev 2 _ 11 rfl rfl
      have d2 : xx 2 = .agg #[.bool np, .string (bs bp), .string (bs dp)] := hd ⟨2, .data⟩ (by simp) rfl
      rw [d2] at e11
      clear d2
      clear hev hev0 hd
      go_wp2_with fail
      refine (M2.out _).mono ?_
      rintro e w8 ⟨rfl, hb8⟩
      go_wp2
      exact StepQ.mk _ hb8 rfl
    · intro xx af wv hbx hev hev0 hd
      clear hev hev0 hd
      go_wp2
      exact StepQ.mk _ (Ext.alloc (Below.refl _ _) _) ⟨_, rfl, hbx.size, Blk.new _ _ _⟩
    intro xx w6 hb9 hv
    have hv0 : xx 0 = .agg #[.bool nv, .string (bs bv), .string (bs dv)] := hv 0 (by decide)
    have hv1 : xx 1 = .pointer (some ⟨w.heap.size, 0, none⟩) := hv 1 (by decide)
    have hv2 : xx 2 = .agg #[.bool np, .string (bs bp), .string (bs dp)] := hv 2 (by decide)
    have hv3 : xx 3 = .agg #[.bool nb, .string (bs bb), .string (bs db)] := hv 3 (by decide)
    obtain ⟨g6, hv4, hlg4, hB4⟩ := hv 4 (by decide)
    clear hv
    simp only [List.take, List.drop, fillA, Act.put]
    simp only [hv0, hv1, hv2, hv3, hv4]
    clear hv0 hv1 hv2 hv3 hv4
    have HS6 := Lib.hid (HS5.out.fill hb9 hlg4 hB4)
    clear hlg4 hB4
    clear hb9 HS5
    have x9 := HS6.out.cell 0 rfl 0 rfl
    have x10 := HS6.out.cell 0 rfl 1 rfl
    have x11 := HS6.out.cell 0 rfl 2 rfl
    have x12 := HS6.out.cell 1 rfl 0 rfl
    have x13 := HS6.out.cell 1 rfl 1 rfl
    have x14 := HS6.out.cell 1 rfl 2 rfl
    have x15 := HS6.out.frozen 0 rfl 0
    have x16 := HS6.out.frozen 0 rfl 1
    have x17 := HS6.out.frozen 0 rfl 2
    have x18 := HS6.out.ne 0 1 rfl rfl (by decide)
    have x19 := HS6.out.ne 1 0 rfl rfl (by decide)
    have x20 := HS6.out.ne 0 2 rfl rfl (by decide)
    have x21 := HS6.out.ne 2 0 rfl rfl (by decide)
    go_wp2_with fail
    have HS7 : Hid (St w [⟨g6, #[.bool nb, .string (bs bb), .string (bs db)], 23⟩, ⟨g4, #[.bool na, .string (bs ba), .string (bs da)], 23⟩, ⟨w.heap.size, #[.bool np, .string (bs bp), .string (bs dp), .bool nq, .string (bs bq), .string (bs dq), .int .i64 (m : Nat), .int .i64 (n : Nat)], 52⟩] _) := Lib.hid (St.set ((St.set ((St.set (HS6.out) 0 rfl 0 _)) 0 rfl 1 _)) 0 rfl 2 _)
    refine (CM.out _).mono ?_
    rintro e w8 ⟨rfl, hb8⟩
    have HS8 := Lib.hid (HS7.out.call hb8)
    clear hb8 HS6 HS7
    clear x9 x10 x11 x12 x13 x14 x15 x16 x17 x18 x19 x20 x21
    go_wp2
    go_ret
    have HS9 : Hid (St w [⟨g6, #[.bool nb, .string (bs bb), .string (bs db)], 23⟩, ⟨g4, #[.bool na, .string (bs ba), .string (bs da)], 23⟩, ⟨w.heap.size, #[.bool np, .string (bs bp), .string (bs dp), .bool nq, .string (bs bq), .string (bs dq), .int .i64 (m : Nat), .int .i64 (n : Nat)], 52⟩] _) := Lib.hid HS8.out
    exact ⟨rfl, HS9.out.below⟩
end Go.Proofs.YtakoagjpmdcddaaGreatDoor
