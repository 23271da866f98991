/-
Part 32 of the base.
-/
import Derived.Test.YtgdhpghfojccaaaGreatDoorRb31
set_option maxRecDepth 100000
set_option maxHeartbeats 4000000
namespace Go.Proofs.YtgdhpghfojccaaaGreatDoor
open Go.RowKit
def lvE (f : Nat -> Nat) (x : Nat) : Int := (f x : Nat)
theorem lvE_lift {f : Nat -> Nat} {a b : Nat} (h : ¬ f a < f b) : putA (lvE f) b ((f a + 1 : Nat) : Int) = lvE (lift f a b) := by
 funext x
 unfold putA lvE lift
 by_cases hx : x = b
 ·rw [if_pos hx, if_pos hx, Nat.max_eq_right (by omega)]
 rw [if_neg hx, if_neg hx]
theorem a2n {w : World} {b o : Nat} {u : Value} (h : ∀ w', Below w.heap.size w w' -> w'.cell? ⟨b, o, none⟩ = some u) : ∀ w', Below w.heap.size w w' -> ∀ (j : Nat) (v : Value), [u][j]? = some v -> w'.cell? ⟨b, o + j, none⟩ = some v := by
 intro w' hb j v hv
 have hj : j = 0 := by have := (List.getElem?_eq_some_iff.1 hv).1; simpa using this
 subst hj
 obtain rfl : u = v := by simpa using hv
 exact h w' hb
theorem b1s (v : Value) (n : Nat) (M : Nat -> Nat -> Bool) (r : Nat -> Nat -> Prop) (w : World) (h : MatB w v n M) (hM : ∀ a b, a < n -> b < n -> (M a b = true ↔ r a b)) (hb : ∀ i j, r i j -> i < n /\ j < n) (hn : n <= 1000) :
  Calls Tryz.prog 73 #[v] w fun e w' => ((∃ g f, e = .returned (.tuple #[.slice (some ⟨g, 0, none⟩) n n, .bool true]) /\ Blk w' g (rowE (.int .i64) n (lvE f)) 3 /\ Lv r n f /\ w.heap.size <= g) \/ (e = .returned (.tuple #[.slice none 0 0, .bool false]) /\ ∃ x, Way r x x)) /\ Below w.heap.size w w' := by
 have hmk := b4j n (by omega)
 obtain ⟨A, c, rfl, _, _⟩ := h.slice
 have HH := zh h
 have HM := zh hM
 have HB := zh hb
 have LN := zh hn
 have LQ := zh (show ∀ t, t <= n -> (t + 1) * (n * n) <= 1001000000 from fun t ht => Nat.le_trans (Nat.mul_le_mul (show t + 1 <= 1001 by omega) (Nat.mul_le_mul hn hn)) (by decide))
 clear h hM hb hn
 go_enter Tryz.func73, Tryz.ntmps73
 have HS := zh (St.start w)
 go_wp2
 have HS2 := aL HS (rowE (.int .i64) n (fun _ => 0)) 3 w.heap.size
 go_loopw [6] (fun t_ wr => ∃ (t : Nat) (f : Nat -> Nat), t <= n + 1 /\ t_ = .int .i64 t /\ Hid (Rnd r n t 0 0 f) /\ Hid (∀ x, f x <= t * (n * n)) /\ Hid (t = n + 1 -> ∃ x, Way r x x) /\ Hid (St w [⟨w.heap.size, rowE (.int .i64) n (lvE f), 3⟩] wr)) (fun t_ _ => n + 1 - (intOf t_).toNat)
 case atStart => exact ⟨0, fun _ => 0, Nat.zero_le _, rfl, Rnd.start, (fun x => Nat.zero_le _), (fun h => by omega), HS2.out⟩
 case round =>
  obtain ⟨t, f, ht, rfl, HR, HF, HC, HS⟩ := hrel
  clear HS2
  by_cases htn : t <= n
  ·have e1 : ((t : Nat) : Int) <= (n : Int) := by omega
   have e2 : decide (((t : Nat) : Int) <= (n : Int)) = true := decide_eq_true e1
   have i1 : IntKind.i64.wrap ((t : Int) + 1) = ((t + 1 : Nat) : Int) := by have := LN.out; rw [IntWalk.i64_in _ (by omega)]; rfl
   go_wp2
   go_loopw [7, 8] (fun m_ a_ wr => ∃ (a : Nat) (f2 : Nat -> Nat) (more : Bool), a <= n /\ m_ = .bool more /\ a_ = .int .i64 a /\ Hid (Lg r n t a 0 f f2 more) /\ Hid (St w [⟨w.heap.size, rowE (.int .i64) n (lvE f2), 3⟩] wr)) (fun _ a_ _ => n - (intOf a_).toNat)
   case atStart => exact ⟨0, f, false, Nat.zero_le _, rfl, rfl, Lg.start HR.out HF.out, HS.out⟩
   case round =>
    obtain ⟨a, f2, more, ha, rfl, rfl, HL, HS2⟩ := hrel
    clear HS
    by_cases han : a < n
    ·have e3 : ((a : Nat) : Int) < (n : Int) := by omega
     have e4 : decide (((a : Nat) : Int) < (n : Int)) = true := decide_eq_true e3
     have e5 : (0 : Int) <= ((a : Nat) : Int) := by omega
     have i2 : IntKind.i64.wrap ((a : Int) + 1) = ((a + 1 : Nat) : Int) := by have := LN.out; rw [IntWalk.i64_in _ (by omega)]; rfl
     go_wp2
     go_loopw [7, 9] (fun m_ b_ wr => ∃ (b : Nat) (f3 : Nat -> Nat) (more : Bool), b <= n /\ m_ = .bool more /\ b_ = .int .i64 b /\ Hid (Lg r n t a b f f3 more) /\ Hid (St w [⟨w.heap.size, rowE (.int .i64) n (lvE f3), 3⟩] wr)) (fun _ b_ _ => n - (intOf b_).toNat)
     case atStart => exact ⟨0, f2, more, Nat.zero_le _, rfl, rfl, HL.out, HS2.out⟩
     case round =>
      obtain ⟨b, f3, mo, hb, rfl, rfl, HL3, HV⟩ := hrel
      clear HS2 HL
      by_cases hbn : b < n
      ·obtain ⟨b0, o0, gr, rfl, hb0, hgr, h1, h2⟩ := HH.out.at_ han
       have HX := zh (a2n h1)
       have HY := zh (a2n (fun w' hw => h2 w' hw b hbn))
       clear h1 h2
       have e6 : ((b : Nat) : Int) < (n : Int) := by omega
       have e7 : decide (((b : Nat) : Int) < (n : Int)) = true := decide_eq_true e6
       have e8 : (0 : Int) <= ((b : Nat) : Int) := by omega
       have i3 : IntKind.i64.wrap ((b : Int) + 1) = ((b + 1 : Nat) : Int) := by have := LN.out; rw [IntWalk.i64_in _ (by omega)]; rfl
       have HMM := zh (HM.out a b han hbn)
       cases hm : M a b
       ·rw [hm] at HY
        go_wp2
        refine a0c 17 [.slice (some ⟨b0, o0, none⟩) n c, .int .i64 (a : Nat), .pointer (some ⟨b0, o0 + a, none⟩), .slice (some ⟨gr, 0, none⟩) n n, .int .i64 (b : Nat), .pointer (some ⟨gr, b, none⟩), .bool false, .bool false, undef, undef, undef, undef, undef, undef, undef, undef, undef] rfl (by kernel_rfl) (by kernel_rfl) (by kernel_rfl) ?_ ?_
        refine ⟨?_, ?_, ?_, ?_, ?_, ?_, ?_, ?_, ?_, ?_, ?_, ?_, ?_, ?_, ?_, ?_, ?_, trivial⟩ <;> (intro xx af wv hbx hev hev0 hd; have H := SH.mk hev hev0 hd; clear hev hev0 hd)
        ·have e0 := H.i 0; clear H; go_wp2; exact sQ rfl
        ·have e8 := H.i 8; clear H; go_wp2; exact sQ rfl
        ·have e29 := H.r 0 29; have e30 := H.r 1 30; clear H; go_wp2; exact sQ rfl
        ·have e31 := H.r 2 31; clear H; have hs1 := zh (HV.out.call hbx); have y0 := HX.out _ hs1.out.below 0 _ rfl; rw [Nat.add_zero] at y0; go_wp2; exact sQ rfl
        ·have e9 := H.i 9; clear H; go_wp2; exact sQ rfl
        ·have e32 := H.r 3 32; have e33 := H.r 4 33; clear H; go_wp2; exact sQ rfl
        ·have e34 := H.r 5 34; clear H; have hs1 := zh (HV.out.call hbx); have y0 := HY.out _ hs1.out.below 0 _ rfl; rw [Nat.add_zero] at y0; go_wp2; exact sQ rfl
        ·have e35 := H.r 6 35; clear H; go_wp2; exact sQ rfl
        ·have e36 := H.g 7 36; have q36 := a0a e36; clear H; go_wp2; exact sQ rfl
        ·have e36 := H.g 7 36; have q36 := a0a e36; clear H; go_wp2; exact sQ rfl
        ·have e36 := H.g 7 36; have q36 := a0a e36; clear H; go_wp2; exact sQ rfl
        ·have e36 := H.g 7 36; have q36 := a0a e36; clear H; go_wp2; exact sQ rfl
        ·have e36 := H.g 7 36; have q36 := a0a e36; clear H; go_wp2; exact sQ rfl
        ·have e36 := H.g 7 36; have q36 := a0a e36; clear H; go_wp2; exact sQ rfl
        ·have e36 := H.g 7 36; have q36 := a0a e36; clear H; go_wp2; exact sQ rfl
        ·have e36 := H.g 7 36; have q36 := a0a e36; clear H; go_wp2; exact sQ rfl
        ·have e36 := H.g 7 36; have q36 := a0a e36; clear H; go_wp2; exact sQ rfl
        intro xx w3 hb9 hv
        simp only [List.take, List.drop, a0g, Act.put]
        simp only [vQ hv 0, vQ hv 1, vQ hv 2, vQ hv 3, vQ hv 4, vQ hv 5, vQ hv 6, vQ hv 7, vQ hv 8, vQ hv 9, vQ hv 10, vQ hv 11, vQ hv 12, vQ hv 13, vQ hv 14, vQ hv 15, vQ hv 16]
        clear hv
        have HV3 := zh (HV.out.call hb9)
        clear hb9 HV
        go_wp2
        go_roundw
        case rel => exact ⟨b + 1, f3, mo, by omega, rfl, by go_num, HL3.out.old HB.out (fun hr => by have := HMM.out.2 hr; rw [hm] at this; cases this), HV3.out⟩
        case measure => simp [intOf]; omega
       by_cases hle : f3 a < f3 b
       ·rw [hm] at HY
        have d1 : decide (((f3 b : Nat) : Int) <= ((f3 a : Nat) : Int)) = false := decide_eq_false (by omega)
        have d2 : decide (f3 b <= f3 a) = false := decide_eq_false (by omega)
        have HLE := zh hle
        clear hle
        go_wp2
        refine a0c 17 [.slice (some ⟨b0, o0, none⟩) n c, .int .i64 (a : Nat), .pointer (some ⟨b0, o0 + a, none⟩), .slice (some ⟨gr, 0, none⟩) n n, .int .i64 (b : Nat), .pointer (some ⟨gr, b, none⟩), .bool true, .bool true, .slice (some ⟨w.heap.size, 0, none⟩) n n, .int .i64 (b : Nat), .pointer (some ⟨w.heap.size, b, none⟩), .int .i64 (f3 b : Nat), .slice (some ⟨w.heap.size, 0, none⟩) n n, .int .i64 (a : Nat), .pointer (some ⟨w.heap.size, a, none⟩), .int .i64 (f3 a : Nat), .bool false] rfl (by kernel_rfl) (by kernel_rfl) (by kernel_rfl) ?_ ?_
        refine ⟨?_, ?_, ?_, ?_, ?_, ?_, ?_, ?_, ?_, ?_, ?_, ?_, ?_, ?_, ?_, ?_, ?_, trivial⟩ <;> (intro xx af wv hbx hev hev0 hd; have H := SH.mk hev hev0 hd; clear hev hev0 hd)
        ·have e0 := H.i 0; clear H; go_wp2; exact sQ rfl
        ·have e8 := H.i 8; clear H; go_wp2; exact sQ rfl
        ·have e29 := H.r 0 29; have e30 := H.r 1 30; clear H; go_wp2; exact sQ rfl
        ·have e31 := H.r 2 31; clear H; have hs1 := zh (HV.out.call hbx); have y0 := HX.out _ hs1.out.below 0 _ rfl; rw [Nat.add_zero] at y0; go_wp2; exact sQ rfl
        ·have e9 := H.i 9; clear H; go_wp2; exact sQ rfl
        ·have e32 := H.r 3 32; have e33 := H.r 4 33; clear H; go_wp2; exact sQ rfl
        ·have e34 := H.r 5 34; clear H; have hs1 := zh (HV.out.call hbx); have y0 := HY.out _ hs1.out.below 0 _ rfl; rw [Nat.add_zero] at y0; go_wp2; exact sQ rfl
        ·have e35 := H.r 6 35; clear H; go_wp2; exact sQ rfl
        ·have e36 := H.g 7 36; have e5 := H.i 5; have q36 := a0a e36; clear H; go_wp2; exact sQ rfl
        ·have e36 := H.g 7 36; have e9 := H.i 9; have q36 := a0a e36; clear H; go_wp2; exact sQ rfl
        ·have e36 := H.g 7 36; have e37 := H.r 8 37; have e38 := H.r 9 38; have q36 := a0a e36; clear H; go_wp2; exact sQ rfl
        ·have e36 := H.g 7 36; have e39 := H.r 10 39; have q36 := a0a e36; clear H; have hs1 := zh (HV.out.call hbx); have yf0 := hs1.out.cellE 0 rfl hbn; rw [lvE] at yf0; go_wp2; exact sQ rfl
        ·have e36 := H.g 7 36; have e5 := H.i 5; have q36 := a0a e36; clear H; go_wp2; exact sQ rfl
        ·have e36 := H.g 7 36; have e8 := H.i 8; have q36 := a0a e36; clear H; go_wp2; exact sQ rfl
        ·have e36 := H.g 7 36; have e41 := H.r 12 41; have e42 := H.r 13 42; have q36 := a0a e36; clear H; go_wp2; exact sQ rfl
        ·have e36 := H.g 7 36; have e43 := H.r 14 43; have q36 := a0a e36; clear H; have hs1 := zh (HV.out.call hbx); have yf0 := hs1.out.cellE 0 rfl han; rw [lvE] at yf0; go_wp2; exact sQ rfl
        ·have e36 := H.g 7 36; have e40 := H.r 11 40; have e44 := H.r 15 44; have q36 := a0a e36; clear H; go_wp2; exact sQ rfl
        intro xx w3 hb9 hv
        simp only [List.take, List.drop, a0g, Act.put]
        simp only [vQ hv 0, vQ hv 1, vQ hv 2, vQ hv 3, vQ hv 4, vQ hv 5, vQ hv 6, vQ hv 7, vQ hv 8, vQ hv 9, vQ hv 10, vQ hv 11, vQ hv 12, vQ hv 13, vQ hv 14, vQ hv 15, vQ hv 16]
        clear hv
        have HV3 := zh (HV.out.call hb9)
        clear hb9 HV
        go_wp2
        go_roundw
        case rel => exact ⟨b + 1, f3, mo, by omega, rfl, by go_num, HL3.out.old HB.out (fun _ => HLE.out), HV3.out⟩
        case measure => simp [intOf]; omega
       rw [hm] at HY
       have d1 : decide (((f3 b : Nat) : Int) <= ((f3 a : Nat) : Int)) = true := decide_eq_true (by omega)
       have d2 : decide (f3 b <= f3 a) = true := decide_eq_true (by omega)
       have HLE := zh hle
       clear hle
       have i4 : IntKind.i64.wrap (((f3 a : Nat) : Int) + 1) = ((f3 a + 1 : Nat) : Int) := by have h1 := HL3.out.le a; have h2 := LQ.out t htn; have h3 : a * n + b <= n * n := (by have := Nat.mul_le_mul_right n (show a + 1 <= n by omega); rw [Nat.add_mul] at this; omega); rw [Nat.add_mul] at h2; rw [IntWalk.i64_in _ (by omega)]; rfl
       go_wp2
       refine a0c 17 [.slice (some ⟨b0, o0, none⟩) n c, .int .i64 (a : Nat), .pointer (some ⟨b0, o0 + a, none⟩), .slice (some ⟨gr, 0, none⟩) n n, .int .i64 (b : Nat), .pointer (some ⟨gr, b, none⟩), .bool true, .bool true, .slice (some ⟨w.heap.size, 0, none⟩) n n, .int .i64 (b : Nat), .pointer (some ⟨w.heap.size, b, none⟩), .int .i64 (f3 b : Nat), .slice (some ⟨w.heap.size, 0, none⟩) n n, .int .i64 (a : Nat), .pointer (some ⟨w.heap.size, a, none⟩), .int .i64 (f3 a : Nat), .bool true] rfl (by kernel_rfl) (by kernel_rfl) (by kernel_rfl) ?_ ?_
       refine ⟨?_, ?_, ?_, ?_, ?_, ?_, ?_, ?_, ?_, ?_, ?_, ?_, ?_, ?_, ?_, ?_, ?_, trivial⟩ <;> (intro xx af wv hbx hev hev0 hd; have H := SH.mk hev hev0 hd; clear hev hev0 hd)
       ·have e0 := H.i 0; clear H; go_wp2; exact sQ rfl
       ·have e8 := H.i 8; clear H; go_wp2; exact sQ rfl
       ·have e29 := H.r 0 29; have e30 := H.r 1 30; clear H; go_wp2; exact sQ rfl
       ·have e31 := H.r 2 31; clear H; have hs1 := zh (HV.out.call hbx); have y0 := HX.out _ hs1.out.below 0 _ rfl; rw [Nat.add_zero] at y0; go_wp2; exact sQ rfl
       ·have e9 := H.i 9; clear H; go_wp2; exact sQ rfl
       ·have e32 := H.r 3 32; have e33 := H.r 4 33; clear H; go_wp2; exact sQ rfl
       ·have e34 := H.r 5 34; clear H; have hs1 := zh (HV.out.call hbx); have y0 := HY.out _ hs1.out.below 0 _ rfl; rw [Nat.add_zero] at y0; go_wp2; exact sQ rfl
       ·have e35 := H.r 6 35; clear H; go_wp2; exact sQ rfl
       ·have e36 := H.g 7 36; have e5 := H.i 5; have q36 := a0a e36; clear H; go_wp2; exact sQ rfl
       ·have e36 := H.g 7 36; have e9 := H.i 9; have q36 := a0a e36; clear H; go_wp2; exact sQ rfl
       ·have e36 := H.g 7 36; have e37 := H.r 8 37; have e38 := H.r 9 38; have q36 := a0a e36; clear H; go_wp2; exact sQ rfl
       ·have e36 := H.g 7 36; have e39 := H.r 10 39; have q36 := a0a e36; clear H; have hs1 := zh (HV.out.call hbx); have yf0 := hs1.out.cellE 0 rfl hbn; rw [lvE] at yf0; go_wp2; exact sQ rfl
       ·have e36 := H.g 7 36; have e5 := H.i 5; have q36 := a0a e36; clear H; go_wp2; exact sQ rfl
       ·have e36 := H.g 7 36; have e8 := H.i 8; have q36 := a0a e36; clear H; go_wp2; exact sQ rfl
       ·have e36 := H.g 7 36; have e41 := H.r 12 41; have e42 := H.r 13 42; have q36 := a0a e36; clear H; go_wp2; exact sQ rfl
       ·have e36 := H.g 7 36; have e43 := H.r 14 43; have q36 := a0a e36; clear H; have hs1 := zh (HV.out.call hbx); have yf0 := hs1.out.cellE 0 rfl han; rw [lvE] at yf0; go_wp2; exact sQ rfl
       ·have e36 := H.g 7 36; have e40 := H.r 11 40; have e44 := H.r 15 44; have q36 := a0a e36; clear H; go_wp2; exact sQ rfl
       intro xx w3 hb9 hv
       simp only [List.take, List.drop, a0g, Act.put]
       simp only [vQ hv 0, vQ hv 1, vQ hv 2, vQ hv 3, vQ hv 4, vQ hv 5, vQ hv 6, vQ hv 7, vQ hv 8, vQ hv 9, vQ hv 10, vQ hv 11, vQ hv 12, vQ hv 13, vQ hv 14, vQ hv 15, vQ hv 16]
       clear hv
       have HV3 := zh (HV.out.call hb9)
       clear hb9 HV
       have x1 := HV3.out.cellE 0 rfl han
       rw [lvE] at x1
       have x2 := HV3.out.cellE 0 rfl hbn
       rw [lvE] at x2
       have x3 := HV3.out.frozen 0 rfl b
       go_wp2
       have HV4 : Hid (St w [⟨w.heap.size, (rowE (.int .i64) n (putA (lvE f3) b (f3 a + 1 : Nat))), 3⟩] _) := zh (St.setE (HV3.out) 0 rfl b ((f3 a + 1 : Nat)))
       go_roundw
       case rel => exact ⟨b + 1, lift f3 a b, true, by omega, rfl, by go_num, HL3.out.new HB.out (HMM.out.1 hm) HLE.out, by rw [<- lvE_lift HLE.out]; exact HV4.out⟩
       case measure => simp [intOf]; omega
      have hbe : b = n := by omega
      rw [hbe] at HL3 ⊢
      have e6 : decide (((n : Nat) : Int) < (n : Int)) = false := decide_eq_false (by omega)
      clear hbe hb hbn
      go_wp2
      go_roundw
      case rel => exact ⟨a + 1, f3, mo, by omega, rfl, by go_num, HL3.out.row HB.out, HV.out⟩
      case measure => simp [intOf]; omega
    cases more
    ·have hae : a = n := by omega
     rw [hae] at HL ⊢
     have e3 : decide (((n : Nat) : Int) < (n : Int)) = false := decide_eq_false (by omega)
     clear hae ha han
     go_wp2
     go_ret2
     exact ⟨.inl ⟨_, f2, rfl, HS2.out.blk 0 rfl, HL.out.still HB.out, Nat.le_refl _⟩, HS2.out.below⟩
    have hae : a = n := by omega
    rw [hae] at HL ⊢
    have e3 : decide (((n : Nat) : Int) < (n : Int)) = false := decide_eq_false (by omega)
    clear hae ha han
    go_wp2
    go_roundw
    case rel => exact ⟨t + 1, f2, by omega, by go_num, (HL.out.again HB.out).1, (HL.out.again HB.out).2, (fun h => HL.out.circle HB.out HR.out (by omega)), HS2.out⟩
    case measure => simp [intOf]; omega
  have hte : t = n + 1 := by omega
  have HW := zh (HC.out hte)
  have e3 : decide (((t : Nat) : Int) <= (n : Int)) = false := decide_eq_false (by omega)
  clear HC hte
  go_wp2
  go_ret2
  exact ⟨.inr ⟨rfl, HW.out⟩, HS.out.below⟩
def prtB (M : Nat -> Nat -> Bool) (j x : Nat) : Bool := (List.range j).any fun q => M x q || M q x
def pI (M : Nat -> Nat -> Bool) (j x : Nat) : Int := if prtB M j x = true then (x : Int) else -1
def c1I (M : Nat -> Nat -> Bool) (n i x : Nat) : Int := if x < i then pI M n x else 0
def c2I (M : Nat -> Nat -> Bool) (n i j x : Nat) : Int := if x = i then pI M j i else c1I M n i x
theorem c0j {M : Nat -> Nat -> Bool} {j x : Nat} : prtB M (j + 1) x = (prtB M j x || (M x j || M j x)) := by
 unfold prtB
 rw [List.range_succ, List.any_append, List.any_cons, List.any_nil, Bool.or_false]
theorem c2_start {M : Nat -> Nat -> Bool} {n i : Nat} : putA (c1I M n i) i (-1) = c2I M n i 0 := by
 funext x
 unfold putA c2I
 by_cases hx : x = i
 ·rw [if_pos hx, if_pos hx]; rfl
 rw [if_neg hx, if_neg hx]
theorem c2_new {M : Nat -> Nat -> Bool} {n i j : Nat} (h : (M i j || M j i) = true) : putA (c2I M n i j) i (i : Int) = c2I M n i (j + 1) := by
 funext x
 unfold putA c2I
 by_cases hx : x = i
 ·rw [if_pos hx, if_pos hx]
  unfold pI
  rw [c0j, h, Bool.or_true, if_pos rfl]
 rw [if_neg hx, if_neg hx, if_neg hx]
theorem c2_old {M : Nat -> Nat -> Bool} {n i j : Nat} (h : (M i j || M j i) = false) : c2I M n i j = c2I M n i (j + 1) := by
 funext x
 unfold c2I pI
 rw [c0j, h, Bool.or_false]
theorem c2_done {M : Nat -> Nat -> Bool} {n i : Nat} : c2I M n i n = c1I M n (i + 1) := by
 funext x
 unfold c2I c1I
 by_cases hx : x = i
 ·rw [if_pos hx, if_pos (by omega), hx]
 rw [if_neg hx]
 by_cases hl : x < i
 ·rw [if_pos hl, if_pos (by omega)]
 rw [if_neg hl, if_neg (by omega)]
theorem c1_cmp {M : Nat -> Nat -> Bool} {n : Nat} {r : Nat -> Nat -> Prop} (hM : ∀ a b, a < n -> b < n -> (M a b = true ↔ r a b)) (hb : ∀ i j, r i j -> i < n /\ j < n) : Cmp r n (c1I M n n) := by
 refine Cmp.start fun i hi => ?_
 have e : prtB M n i = true ↔ ∃ j, r i j \/ r j i := by
  unfold prtB
  rw [List.any_eq_true]
  constructor
  ·rintro ⟨q, hq, h⟩
   have hqn := List.mem_range.1 hq
   rw [Bool.or_eq_true, hM i q hi hqn, hM q i hqn hi] at h
   exact ⟨q, h⟩
  rintro ⟨q, h⟩
  have hqn : q < n := by
   rcases h with h | h
   ·exact (hb _ _ h).2
   exact (hb _ _ h).1
  refine ⟨q, List.mem_range.2 hqn, ?_⟩
  rw [Bool.or_eq_true, hM i q hi hqn, hM q i hqn hi]
  exact h
 unfold c1I pI
 rw [if_pos hi, <- e]
 exact ⟨fun h => if_pos h, fun h => if_neg h⟩
def sumC (c : Nat -> Int) : Nat -> Nat
 | 0 => 0
 | n + 1 => sumC c n + (c n + 1).toNat
theorem c3v {c : Nat -> Int} {i : Nat} {v : Int} : ∀ {n : Nat}, n <= i -> sumC (putA c i v) n = sumC c n
 | 0, _ => rfl
 | n + 1, h => by rw [sumC, sumC, c3v (by omega), a4r (show n ≠ i by omega)]
theorem c3u {c : Nat -> Int} {i : Nat} {v : Int} (h1 : -1 <= v) (h2 : v < c i) : ∀ {n : Nat}, i < n -> sumC (putA c i v) n < sumC c n
 | 0, h => absurd h (Nat.not_lt_zero _)
 | n + 1, h => by
  rw [sumC, sumC]
  by_cases hin : i < n
  ·have := c3u h1 h2 hin
   rw [a4r (show n ≠ i by omega)]
   omega
  obtain rfl : i = n := by omega
  rw [c3v (Nat.le_refl _), b4e]
  omega
theorem c7x {c : Nat -> Int} {m : Nat} : ∀ {n : Nat}, (∀ i, i < n -> c i <= m) -> sumC c n <= n * (m + 1)
 | 0, _ => Nat.zero_le _
 | n + 1, h => by
  have h1 := c7x (c := c) (m := m) (n := n) (fun i hi => h i (by omega))
  have h2 := h n (Nat.lt_succ_self _)
  rw [sumC, Nat.add_mul]
  omega
structure Low (r : Nat -> Nat -> Prop) (n a b : Nat) (c0 c : Nat -> Int) (more : Bool) : Prop where
 cmp : Cmp r n c
 no : more = false -> c = c0 /\ ∀ i j, (i < a \/ (i = a /\ j < b)) -> (r i j \/ r j i) -> c i <= c j
 yes : more = true -> sumC c n < sumC c0 n
theorem Low.start {r : Nat -> Nat -> Prop} {n : Nat} {c : Nat -> Int} (h : Cmp r n c) : Low r n 0 0 c c false := ⟨h, fun _ => ⟨rfl, fun i j h => by omega⟩, fun h => by cases h⟩
theorem Low.old {r : Nat -> Nat -> Prop} {n a b : Nat} {c0 c : Nat -> Int} {more : Bool} (h : Low r n a b c0 c more) (ho : (r a b \/ r b a) -> c a <= c b) : Low r n a (b + 1) c0 c more := by
 refine ⟨h.cmp, fun hm => ⟨(h.no hm).1, fun i j hij hr => ?_⟩, h.yes⟩
 by_cases he : i = a /\ j = b
 ·obtain ⟨rfl, rfl⟩ := he; exact ho hr
 exact (h.no hm).2 i j (by omega) hr
theorem Low.new {r : Nat -> Nat -> Prop} {n a b : Nat} {c0 c : Nat -> Int} {more : Bool} (h : Low r n a b c0 c more) (ha : a < n) (hb : b < n) (hr : r a b \/ r b a) (hlt : c b < c a) : Low r n a (b + 1) c0 (putA c a (c b)) true := by
 have hle : -1 <= c b := by
  have := h.cmp b hb
  by_cases hp : ∃ j, r b j \/ r j b
  ·obtain ⟨m, hm, _⟩ := this.2 hp; omega
  have := this.1 hp; omega
 refine ⟨h.cmp.lower hb hr hlt, fun hm => (by cases hm), fun _ => ?_⟩
 have h1 := c3u (n := n) hle hlt ha
 cases more with
 | true => exact Nat.lt_trans h1 (h.yes rfl)
 | false => rw [<- (h.no rfl).1]; exact h1
theorem Low.row {r : Nat -> Nat -> Prop} {n a : Nat} {c0 c : Nat -> Int} {more : Bool} (hb : ∀ i j, r i j -> i < n /\ j < n) (h : Low r n a n c0 c more) : Low r n (a + 1) 0 c0 c more := by
 refine ⟨h.cmp, fun hm => ⟨(h.no hm).1, fun i j hij hr => ?_⟩, h.yes⟩
 have hj : j < n := by
  rcases hr with hr | hr
  ·exact (hb _ _ hr).2
  exact (hb _ _ hr).1
 exact (h.no hm).2 i j (by omega) hr
theorem Low.still {r : Nat -> Nat -> Prop} {n : Nat} {c0 c : Nat -> Int} (hb : ∀ i j, r i j -> i < n /\ j < n) (h : Low r n n 0 c0 c false) : ∀ i j, (r i j \/ r j i) -> c i <= c j := fun i j hr =>
 (h.no rfl).2 i j (.inl (by rcases hr with hr | hr; exact (hb _ _ hr).1; exact (hb _ _ hr).2)) hr
theorem edge_iff {M : Nat -> Nat -> Bool} {n a b : Nat} {r : Nat -> Nat -> Prop} (hM : ∀ a b, a < n -> b < n -> (M a b = true ↔ r a b)) (ha : a < n) (hb : b < n) : (M a b || M b a) = true ↔ r a b \/ r b a := by
 rw [Bool.or_eq_true, hM a b ha hb, hM b a hb ha]
theorem b3t (v : Value) (n : Nat) (M : Nat -> Nat -> Bool) (r : Nat -> Nat -> Prop) (w : World) (h : MatB w v n M) (hM : ∀ a b, a < n -> b < n -> (M a b = true ↔ r a b)) (hb : ∀ i j, r i j -> i < n /\ j < n) (hn : n <= 1000) :
  Calls Tryz.prog 17 #[v] w fun e w' => ∃ g c, e = .returned (.slice (some ⟨g, 0, none⟩) n n) /\ Blk w' g (rowE (.int .i64) n c) 3 /\ Cmp r n c /\ (∀ i j, (r i j \/ r j i) -> c i <= c j) /\ w.heap.size <= g /\ Below w.heap.size w w' := by
 have hmk := b4j n (by omega)
 obtain ⟨A, c', rfl, _, _⟩ := h.slice
 have HH := zh h
 have HE := zh (fun a b ha hb => edge_iff (a := a) (b := b) hM ha hb)
 have HC1 := zh (c1_cmp hM hb)
 have HB := zh hb
 have LN := zh hn
 clear h hM hb hn
 go_enter Tryz.func17, Tryz.ntmps17
 have HS := zh (St.start w)
 go_wp2
 have HS2 := aL HS (rowE (.int .i64) n (fun _ => 0)) 3 w.heap.size
 have HS1 : Hid (St w [⟨w.heap.size, rowE (.int .i64) n (c1I M n 0), 3⟩]  _) := zh (by rw [show rowE (.int .i64) n (c1I M n 0) = rowE (.int .i64) n (fun _ => 0) from c6b fun k _ => if_neg (Nat.not_lt_zero _)]; exact HS2.out)
 go_loopw [5] (fun i_ wr => ∃ i : Nat, i <= n /\ i_ = .int .i64 i /\ Hid (St w [⟨w.heap.size, rowE (.int .i64) n (c1I M n i), 3⟩] wr)) (fun i_ _ => n - (intOf i_).toNat)
 case atStart => exact ⟨0, Nat.zero_le _, rfl, HS1.out⟩
 case round =>
  clear HS2 HS1
  obtain ⟨i, hi, rfl, HS⟩ := hrel
  by_cases hin : i < n
  ·have e1 : (((i : Nat)) : Int) < (n : Int) := by omega
   have e2 : decide (((i : Nat) : Int) < (n : Int)) = true := decide_eq_true e1
   have e3 : (0 : Int) <= ((i : Nat) : Int) := by omega
   have i1 : IntKind.i64.wrap ((i : Int) + 1) = ((i + 1 : Nat) : Int) := by have := LN.out; rw [IntWalk.i64_in _ (by omega)]; rfl
   have x1 := HS.out.cellE 0 rfl hin
   have x2 := HS.out.frozen 0 rfl i
   go_wp2
   have HS3 : Hid (St w [⟨w.heap.size, (rowE (.int .i64) n (putA (c1I M n i) i (-1))), 3⟩] _) := zh (St.setE (HS.out) 0 rfl i ((-1)))
   have HS2 : Hid (St w [⟨w.heap.size, rowE (.int .i64) n (c2I M n i 0), 3⟩]  _) := zh (by rw [<- c2_start]; exact HS3.out)
   go_loopw [6] (fun j_ wr => ∃ j : Nat, j <= n /\ j_ = .int .i64 j /\ Hid (St w [⟨w.heap.size, rowE (.int .i64) n (c2I M n i j), 3⟩] wr)) (fun j_ _ => n - (intOf j_).toNat)
   case atStart => exact ⟨0, Nat.zero_le _, rfl, HS2.out⟩
   case round =>
    clear HS3 HS2 HS
    obtain ⟨j, hj, rfl, HV⟩ := hrel
    by_cases hjn : j < n
    ·obtain ⟨b0, o0, gi, rfl, hb0, hgi, h1, h2⟩ := HH.out.at_ hin
     obtain ⟨b1, o1, gj, hA, _, hgj, h3, h4⟩ := HH.out.at_ hjn
     injection hA with hA
     injection hA with hA1 hA2
     subst hA1
     subst hA2
     have HX1 := zh (a2n h1)
     have HX2 := zh (a2n (fun w' hw => h2 w' hw j hjn))
     have HX3 := zh (a2n h3)
     have HX4 := zh (a2n (fun w' hw => h4 w' hw i hin))
     clear h1 h2 h3 h4
     have e4 : (((j : Nat)) : Int) < (n : Int) := by omega
     have e5 : decide (((j : Nat) : Int) < (n : Int)) = true := decide_eq_true e4
     have e6 : (0 : Int) <= ((j : Nat) : Int) := by omega
     have i2 : IntKind.i64.wrap ((j : Int) + 1) = ((j + 1 : Nat) : Int) := by have := LN.out; rw [IntWalk.i64_in _ (by omega)]; rfl
     have HEE := HE.out i j hin hjn
     cases hm : M i j
     ·cases hm2 : M j i
      ·rw [hm] at HX2
       rw [hm2] at HX4
       have x3 := HX1.out _ HV.out.below 0 _ rfl
       rw [Nat.add_zero] at x3
       have x4 := HX2.out _ HV.out.below 0 _ rfl
       rw [Nat.add_zero] at x4
       have x5 := HX3.out _ HV.out.below 0 _ rfl
       rw [Nat.add_zero] at x5
       have x6 := HX4.out _ HV.out.below 0 _ rfl
       rw [Nat.add_zero] at x6
       go_wp2
       go_roundw
       case rel => exact ⟨j + 1, by omega, by go_num, by rw [<- c2_old (M := M) (by first | rw [hm, hm2]; rfl | rw [hm]; rfl)]; exact HV.out⟩
       case measure => simp [intOf]; omega
      rw [hm] at HX2
      rw [hm2] at HX4
      have x3 := HV.out.cellE 0 rfl hin
      have x4 := HV.out.frozen 0 rfl i
      have x5 := HX1.out _ HV.out.below 0 _ rfl
      rw [Nat.add_zero] at x5
      have x6 := HX2.out _ HV.out.below 0 _ rfl
      rw [Nat.add_zero] at x6
      have x7 := HX3.out _ HV.out.below 0 _ rfl
      rw [Nat.add_zero] at x7
      have x8 := HX4.out _ HV.out.below 0 _ rfl
      rw [Nat.add_zero] at x8
      go_wp2
      have HV4 : Hid (St w [⟨w.heap.size, (rowE (.int .i64) n (putA (c2I M n i j) i (i : Nat))), 3⟩] _) := zh (St.setE (HV.out) 0 rfl i ((i : Nat)))
      go_roundw
      case rel => exact ⟨j + 1, by omega, by go_num, by rw [<- c2_new (M := M) (by first | rw [hm, hm2]; rfl | rw [hm]; rfl)]; exact HV4.out⟩
      case measure => simp [intOf]; omega
     rw [hm] at HX2
     have x3 := HV.out.cellE 0 rfl hin
     have x4 := HV.out.frozen 0 rfl i
     have x5 := HX1.out _ HV.out.below 0 _ rfl
     rw [Nat.add_zero] at x5
     have x6 := HX2.out _ HV.out.below 0 _ rfl
     rw [Nat.add_zero] at x6
     go_wp2
     have HV4 : Hid (St w [⟨w.heap.size, (rowE (.int .i64) n (putA (c2I M n i j) i (i : Nat))), 3⟩] _) := zh (St.setE (HV.out) 0 rfl i ((i : Nat)))
     go_roundw
     case rel => exact ⟨j + 1, by omega, by go_num, by rw [<- c2_new (M := M) (by first | rw [hm, hm2]; rfl | rw [hm]; rfl)]; exact HV4.out⟩
     case measure => simp [intOf]; omega
    have hje : j = n := by omega
    rw [hje] at HV ⊢
    have e4 : decide (((n : Nat) : Int) < (n : Int)) = false := decide_eq_false (by omega)
    clear hje hj hjn
    go_wp2
    go_roundw
    case rel => exact ⟨i + 1, by omega, by go_num, by rw [<- c2_done]; exact HV.out⟩
    case measure => simp [intOf]; omega
  have hie : i = n := by omega
  rw [hie] at HS ⊢
  have e1 : decide (((n : Nat) : Int) < (n : Int)) = false := decide_eq_false (by omega)
  clear hie hi hin
  go_wp2
  go_loopg [7, 8, 9] (n * (n + 1) + 1) (fun gk m_ _ _ wr => ∃ (cc : Nat -> Int) (more : Bool), m_ = .bool more /\ Hid (Cmp r n cc) /\ Hid (more = false -> ∀ i j, (r i j \/ r j i) -> cc i <= cc j) /\ (if more = true then sumC cc n + 1 else 0) <= gk /\ Hid (St w [⟨w.heap.size, rowE (.int .i64) n (cc), 3⟩] wr))
  case atStart => exact ⟨c1I M n n, true, rfl, HC1.out, (fun h => by cases h), (by rw [if_pos rfl]; have := c7x (c := c1I M n n) (m := n) (n := n) (fun i hi => by unfold c1I pI; rw [if_pos hi]; split <;> omega); omega), HS.out⟩
  case round =>
   clear HS
   obtain ⟨cc, more, rfl, HC, HT, hgk, HS⟩ := hrel
   obtain ⟨G1, rfl⟩ : ∃ G1, G1 = gk := ⟨_, rfl⟩
   cases more
   ·go_wp2
    go_ret
    have HT2 := (by first | exact HT.out rfl | exact HT.out trivial | exact HT.out : ∀ i j, (r i j \/ r j i) -> cc i <= cc j)
    first | exact ⟨_, cc, rfl, HS.out.blk 0 rfl, HC.out, HT2, Nat.le_refl _, HS.out.below⟩ | exact ⟨_, rfl, cc, HS.out.blk 0 rfl, HC.out, HT2, Nat.le_refl _, HS.out.below⟩
   rw [if_pos rfl] at hgk
   have HGK := zh hgk
   clear hgk HT
   go_wp2
   go_loopg [7, 8, 9] n (fun g2 m_ a_ _ wr => ∃ (a : Nat) (c3 : Nat -> Int) (more : Bool), a <= n /\ n - a <= g2 /\ m_ = .bool more /\ a_ = .int .i64 a /\ Hid (Low r n a 0 cc c3 more) /\ Hid (St w [⟨w.heap.size, rowE (.int .i64) n (c3), 3⟩] wr))
   case atStart => exact ⟨0, cc, false, Nat.zero_le _, Nat.le_refl _, rfl, rfl, Low.start HC.out, HS.out⟩
   case round =>
    clear HS HC
    skip
    obtain ⟨a, c3, mo, ha, hg2, rfl, rfl, HL, HS⟩ := hrel
    by_cases han : a < n
    ·have e1 : (((a : Nat)) : Int) < (n : Int) := by omega
     have e2 : decide (((a : Nat) : Int) < (n : Int)) = true := decide_eq_true e1
     have e3 : (0 : Int) <= ((a : Nat) : Int) := by omega
     have i1 : IntKind.i64.wrap ((a : Int) + 1) = ((a + 1 : Nat) : Int) := by have := LN.out; rw [IntWalk.i64_in _ (by omega)]; rfl
     go_wp2
     go_loopg [7, 9] n (fun g3 m_ b_ wr => ∃ (b : Nat) (c4 : Nat -> Int) (more : Bool), b <= n /\ n - b <= g3 /\ m_ = .bool more /\ b_ = .int .i64 b /\ Hid (Low r n a b cc c4 more) /\ Hid (St w [⟨w.heap.size, rowE (.int .i64) n (c4), 3⟩] wr))
     case atStart => exact ⟨0, c3, mo, Nat.zero_le _, Nat.le_refl _, rfl, rfl, HL.out, HS.out⟩
     case round =>
      clear HS HL
      obtain ⟨b, c4, mo, hb, hg3, rfl, rfl, HL, HV⟩ := hrel
      by_cases hbn : b < n
      ·obtain ⟨b0, o0, gi, rfl, hb0, hgi, h1, h2⟩ := HH.out.at_ han
       obtain ⟨b1, o1, gj, hA, _, hgj, h3, h4⟩ := HH.out.at_ hbn
       injection hA with hA
       injection hA with hA1 hA2
       subst hA1
       subst hA2
       have HX1 := zh (a2n h1)
       have HX2 := zh (a2n (fun w' hw => h2 w' hw b hbn))
       have HX3 := zh (a2n h3)
       have HX4 := zh (a2n (fun w' hw => h4 w' hw a han))
       clear h1 h2 h3 h4
       have e4 : (((b : Nat)) : Int) < (n : Int) := by omega
       have e5 : decide (((b : Nat) : Int) < (n : Int)) = true := decide_eq_true e4
       have e6 : (0 : Int) <= ((b : Nat) : Int) := by omega
       have i2 : IntKind.i64.wrap ((b : Int) + 1) = ((b + 1 : Nat) : Int) := by have := LN.out; rw [IntWalk.i64_in _ (by omega)]; rfl
       have HEE := zh (HE.out a b han hbn)
       cases hm : M a b
       ·cases hm2 : M b a
        ·rw [hm] at HX2
         rw [hm2] at HX4
         go_wp2
         refine a0c 26 [.slice (some ⟨b0, o0, none⟩) n c', .int .i64 (a : Nat), .pointer (some ⟨b0, o0 + a, none⟩), .slice (some ⟨gi, 0, none⟩) n n, .int .i64 (b : Nat), .pointer (some ⟨gi, b, none⟩), .bool false, .bool false, .slice (some ⟨b0, o0, none⟩) n c', .int .i64 (b : Nat), .pointer (some ⟨b0, o0 + b, none⟩), .slice (some ⟨gj, 0, none⟩) n n, .int .i64 (a : Nat), .pointer (some ⟨gj, a, none⟩), .bool false, .bool false, .bool false, undef, undef, undef, undef, undef, undef, undef, undef, undef] rfl (by kernel_rfl) (by kernel_rfl) (by kernel_rfl) ?_ ?_
         refine ⟨?_, ?_, ?_, ?_, ?_, ?_, ?_, ?_, ?_, ?_, ?_, ?_, ?_, ?_, ?_, ?_, ?_, ?_, ?_, ?_, ?_, ?_, ?_, ?_, ?_, ?_, trivial⟩ <;> (intro xx af wv hbx hev hev0 hd; have H := SH.mk hev hev0 hd; clear hev hev0 hd)
         ·have e0 := H.i 0; clear H; go_wp2; exact sQ rfl
         ·have e8 := H.i 8; clear H; go_wp2; exact sQ rfl
         ·have e58 := H.r 0 58; have e59 := H.r 1 59; clear H; go_wp2; exact sQ rfl
         ·have e60 := H.r 2 60; clear H; have hs1 := zh (HV.out.call hbx); have y0 := HX1.out _ hs1.out.below 0 _ rfl; rw [Nat.add_zero] at y0; go_wp2; exact sQ rfl
         ·have e9 := H.i 9; clear H; go_wp2; exact sQ rfl
         ·have e61 := H.r 3 61; have e62 := H.r 4 62; clear H; go_wp2; exact sQ rfl
         ·have e63 := H.r 5 63; clear H; have hs1 := zh (HV.out.call hbx); have y0 := HX2.out _ hs1.out.below 0 _ rfl; rw [Nat.add_zero] at y0; go_wp2; exact sQ rfl
         ·have e64 := H.r 6 64; clear H; go_wp2; exact sQ rfl
         ·have e65 := H.g 7 65; have e0 := H.i 0; have q65 := a0a e65; clear H; go_wp2; exact sQ rfl
         ·have e65 := H.g 7 65; have e9 := H.i 9; have q65 := a0a e65; clear H; go_wp2; exact sQ rfl
         ·have e65 := H.g 7 65; have e66 := H.r 8 66; have e67 := H.r 9 67; have q65 := a0a e65; clear H; go_wp2; exact sQ rfl
         ·have e65 := H.g 7 65; have e68 := H.r 10 68; have q65 := a0a e65; clear H; have hs1 := zh (HV.out.call hbx); have y0 := HX3.out _ hs1.out.below 0 _ rfl; rw [Nat.add_zero] at y0; go_wp2; exact sQ rfl
         ·have e65 := H.g 7 65; have e8 := H.i 8; have q65 := a0a e65; clear H; go_wp2; exact sQ rfl
         ·have e65 := H.g 7 65; have e69 := H.r 11 69; have e70 := H.r 12 70; have q65 := a0a e65; clear H; go_wp2; exact sQ rfl
         ·have e65 := H.g 7 65; have e71 := H.r 13 71; have q65 := a0a e65; clear H; have hs1 := zh (HV.out.call hbx); have y0 := HX4.out _ hs1.out.below 0 _ rfl; rw [Nat.add_zero] at y0; go_wp2; exact sQ rfl
         ·have e65 := H.r 7 65; have e72 := H.r 14 72; clear H; go_wp2; exact sQ rfl
         ·have e73 := H.r 15 73; clear H; go_wp2; exact sQ rfl
         ·have e74 := H.g 16 74; have q74 := a0a e74; clear H; go_wp2; exact sQ rfl
         ·have e74 := H.g 16 74; have q74 := a0a e74; clear H; go_wp2; exact sQ rfl
         ·have e74 := H.g 16 74; have q74 := a0a e74; clear H; go_wp2; exact sQ rfl
         ·have e74 := H.g 16 74; have q74 := a0a e74; clear H; go_wp2; exact sQ rfl
         ·have e74 := H.g 16 74; have q74 := a0a e74; clear H; go_wp2; exact sQ rfl
         ·have e74 := H.g 16 74; have q74 := a0a e74; clear H; go_wp2; exact sQ rfl
         ·have e74 := H.g 16 74; have q74 := a0a e74; clear H; go_wp2; exact sQ rfl
         ·have e74 := H.g 16 74; have q74 := a0a e74; clear H; go_wp2; exact sQ rfl
         ·have e74 := H.g 16 74; have q74 := a0a e74; clear H; go_wp2; exact sQ rfl
         intro xx w3 hb9 hv
         simp only [List.take, List.drop, a0g, Act.put]
         simp only [vQ hv 0, vQ hv 1, vQ hv 2, vQ hv 3, vQ hv 4, vQ hv 5, vQ hv 6, vQ hv 7, vQ hv 8, vQ hv 9, vQ hv 10, vQ hv 11, vQ hv 12, vQ hv 13, vQ hv 14, vQ hv 15, vQ hv 16, vQ hv 17, vQ hv 18, vQ hv 19, vQ hv 20, vQ hv 21, vQ hv 22, vQ hv 23, vQ hv 24, vQ hv 25]
         clear hv
         have HV3 := zh (HV.out.call hb9)
         clear hb9 HV
         go_wp2
         go_roundg (n - (b + 1))
         case measure => omega
         case rel => exact ⟨b + 1, c4, mo, by omega, by omega, rfl, by go_num, HL.out.old (fun h => by have := HEE.out.2 h; rw [hm, hm2] at this; cases this), HV3.out⟩
        by_cases hlt : c4 b < c4 a
        ·rw [hm] at HX2
         rw [hm2] at HX4
         have d1 : decide (c4 b < c4 a) = true := decide_eq_true hlt
         have HLT := zh hlt
         clear hlt
         go_wp2
         refine a0c 26 [.slice (some ⟨b0, o0, none⟩) n c', .int .i64 (a : Nat), .pointer (some ⟨b0, o0 + a, none⟩), .slice (some ⟨gi, 0, none⟩) n n, .int .i64 (b : Nat), .pointer (some ⟨gi, b, none⟩), .bool false, .bool false, .slice (some ⟨b0, o0, none⟩) n c', .int .i64 (b : Nat), .pointer (some ⟨b0, o0 + b, none⟩), .slice (some ⟨gj, 0, none⟩) n n, .int .i64 (a : Nat), .pointer (some ⟨gj, a, none⟩), .bool true, .bool true, .bool true, .slice (some ⟨w.heap.size, 0, none⟩) n n, .int .i64 (b : Nat), .pointer (some ⟨w.heap.size, b, none⟩), .int .i64 (c4 b), .slice (some ⟨w.heap.size, 0, none⟩) n n, .int .i64 (a : Nat), .pointer (some ⟨w.heap.size, a, none⟩), .int .i64 (c4 a), .bool true] rfl (by kernel_rfl) (by kernel_rfl) (by kernel_rfl) ?_ ?_
         refine ⟨?_, ?_, ?_, ?_, ?_, ?_, ?_, ?_, ?_, ?_, ?_, ?_, ?_, ?_, ?_, ?_, ?_, ?_, ?_, ?_, ?_, ?_, ?_, ?_, ?_, ?_, trivial⟩ <;> (intro xx af wv hbx hev hev0 hd; have H := SH.mk hev hev0 hd; clear hev hev0 hd)
         ·have e0 := H.i 0; clear H; go_wp2; exact sQ rfl
         ·have e8 := H.i 8; clear H; go_wp2; exact sQ rfl
         ·have e58 := H.r 0 58; have e59 := H.r 1 59; clear H; go_wp2; exact sQ rfl
         ·have e60 := H.r 2 60; clear H; have hs1 := zh (HV.out.call hbx); have y0 := HX1.out _ hs1.out.below 0 _ rfl; rw [Nat.add_zero] at y0; go_wp2; exact sQ rfl
         ·have e9 := H.i 9; clear H; go_wp2; exact sQ rfl
         ·have e61 := H.r 3 61; have e62 := H.r 4 62; clear H; go_wp2; exact sQ rfl
         ·have e63 := H.r 5 63; clear H; have hs1 := zh (HV.out.call hbx); have y0 := HX2.out _ hs1.out.below 0 _ rfl; rw [Nat.add_zero] at y0; go_wp2; exact sQ rfl
         ·have e64 := H.r 6 64; clear H; go_wp2; exact sQ rfl
         ·have e65 := H.g 7 65; have e0 := H.i 0; have q65 := a0a e65; clear H; go_wp2; exact sQ rfl
         ·have e65 := H.g 7 65; have e9 := H.i 9; have q65 := a0a e65; clear H; go_wp2; exact sQ rfl
         ·have e65 := H.g 7 65; have e66 := H.r 8 66; have e67 := H.r 9 67; have q65 := a0a e65; clear H; go_wp2; exact sQ rfl
         ·have e65 := H.g 7 65; have e68 := H.r 10 68; have q65 := a0a e65; clear H; have hs1 := zh (HV.out.call hbx); have y0 := HX3.out _ hs1.out.below 0 _ rfl; rw [Nat.add_zero] at y0; go_wp2; exact sQ rfl
         ·have e65 := H.g 7 65; have e8 := H.i 8; have q65 := a0a e65; clear H; go_wp2; exact sQ rfl
         ·have e65 := H.g 7 65; have e69 := H.r 11 69; have e70 := H.r 12 70; have q65 := a0a e65; clear H; go_wp2; exact sQ rfl
         ·have e65 := H.g 7 65; have e71 := H.r 13 71; have q65 := a0a e65; clear H; have hs1 := zh (HV.out.call hbx); have y0 := HX4.out _ hs1.out.below 0 _ rfl; rw [Nat.add_zero] at y0; go_wp2; exact sQ rfl
         ·have e65 := H.r 7 65; have e72 := H.r 14 72; clear H; go_wp2; exact sQ rfl
         ·have e73 := H.r 15 73; clear H; go_wp2; exact sQ rfl
         ·have e74 := H.g 16 74; have e4 := H.i 4; have q74 := a0a e74; clear H; go_wp2; exact sQ rfl
         ·have e74 := H.g 16 74; have e9 := H.i 9; have q74 := a0a e74; clear H; go_wp2; exact sQ rfl
         ·have e74 := H.g 16 74; have e75 := H.r 17 75; have e76 := H.r 18 76; have q74 := a0a e74; clear H; go_wp2; exact sQ rfl
         ·have e74 := H.g 16 74; have e77 := H.r 19 77; have q74 := a0a e74; clear H; have hs1 := zh (HV.out.call hbx); have yf0 := hs1.out.cellE 0 rfl hbn; go_wp2; exact sQ rfl
         ·have e74 := H.g 16 74; have e4 := H.i 4; have q74 := a0a e74; clear H; go_wp2; exact sQ rfl
         ·have e74 := H.g 16 74; have e8 := H.i 8; have q74 := a0a e74; clear H; go_wp2; exact sQ rfl
         ·have e74 := H.g 16 74; have e79 := H.r 21 79; have e80 := H.r 22 80; have q74 := a0a e74; clear H; go_wp2; exact sQ rfl
         ·have e74 := H.g 16 74; have e81 := H.r 23 81; have q74 := a0a e74; clear H; have hs1 := zh (HV.out.call hbx); have yf0 := hs1.out.cellE 0 rfl han; go_wp2; exact sQ rfl
         ·have e74 := H.g 16 74; have e78 := H.r 20 78; have e82 := H.r 24 82; have q74 := a0a e74; clear H; go_wp2; exact sQ rfl
         intro xx w3 hb9 hv
         simp only [List.take, List.drop, a0g, Act.put]
         simp only [vQ hv 0, vQ hv 1, vQ hv 2, vQ hv 3, vQ hv 4, vQ hv 5, vQ hv 6, vQ hv 7, vQ hv 8, vQ hv 9, vQ hv 10, vQ hv 11, vQ hv 12, vQ hv 13, vQ hv 14, vQ hv 15, vQ hv 16, vQ hv 17, vQ hv 18, vQ hv 19, vQ hv 20, vQ hv 21, vQ hv 22, vQ hv 23, vQ hv 24, vQ hv 25]
         clear hv
         have HV3 := zh (HV.out.call hb9)
         clear hb9 HV
         have x1 := HV3.out.cellE 0 rfl hbn
         have x2 := HV3.out.cellE 0 rfl han
         have x3 := HV3.out.frozen 0 rfl a
         go_wp2
         have HV4 : Hid (St w [⟨w.heap.size, (rowE (.int .i64) n (putA c4 a (c4 b))), 3⟩] _) := zh (St.setE (HV3.out) 0 rfl a ((c4 b)))
         go_roundg (n - (b + 1))
         case measure => omega
         case rel => exact ⟨b + 1, putA c4 a (c4 b), true, by omega, by omega, rfl, by go_num, HL.out.new han hbn (HEE.out.1 (by first | rw [hm, hm2]; rfl | rw [hm]; rfl)) HLT.out, HV4.out⟩
        rw [hm] at HX2
        rw [hm2] at HX4
        have d1 : decide (c4 b < c4 a) = false := decide_eq_false hlt
        have HLT : Hid (c4 a <= c4 b) := zh (Int.not_lt.1 hlt)
        clear hlt
        go_wp2
        refine a0c 26 [.slice (some ⟨b0, o0, none⟩) n c', .int .i64 (a : Nat), .pointer (some ⟨b0, o0 + a, none⟩), .slice (some ⟨gi, 0, none⟩) n n, .int .i64 (b : Nat), .pointer (some ⟨gi, b, none⟩), .bool false, .bool false, .slice (some ⟨b0, o0, none⟩) n c', .int .i64 (b : Nat), .pointer (some ⟨b0, o0 + b, none⟩), .slice (some ⟨gj, 0, none⟩) n n, .int .i64 (a : Nat), .pointer (some ⟨gj, a, none⟩), .bool true, .bool true, .bool true, .slice (some ⟨w.heap.size, 0, none⟩) n n, .int .i64 (b : Nat), .pointer (some ⟨w.heap.size, b, none⟩), .int .i64 (c4 b), .slice (some ⟨w.heap.size, 0, none⟩) n n, .int .i64 (a : Nat), .pointer (some ⟨w.heap.size, a, none⟩), .int .i64 (c4 a), .bool false] rfl (by kernel_rfl) (by kernel_rfl) (by kernel_rfl) ?_ ?_
        refine ⟨?_, ?_, ?_, ?_, ?_, ?_, ?_, ?_, ?_, ?_, ?_, ?_, ?_, ?_, ?_, ?_, ?_, ?_, ?_, ?_, ?_, ?_, ?_, ?_, ?_, ?_, trivial⟩ <;> (intro xx af wv hbx hev hev0 hd; have H := SH.mk hev hev0 hd; clear hev hev0 hd)
        ·have e0 := H.i 0; clear H; go_wp2; exact sQ rfl
        ·have e8 := H.i 8; clear H; go_wp2; exact sQ rfl
        ·have e58 := H.r 0 58; have e59 := H.r 1 59; clear H; go_wp2; exact sQ rfl
        ·have e60 := H.r 2 60; clear H; have hs1 := zh (HV.out.call hbx); have y0 := HX1.out _ hs1.out.below 0 _ rfl; rw [Nat.add_zero] at y0; go_wp2; exact sQ rfl
        ·have e9 := H.i 9; clear H; go_wp2; exact sQ rfl
        ·have e61 := H.r 3 61; have e62 := H.r 4 62; clear H; go_wp2; exact sQ rfl
        ·have e63 := H.r 5 63; clear H; have hs1 := zh (HV.out.call hbx); have y0 := HX2.out _ hs1.out.below 0 _ rfl; rw [Nat.add_zero] at y0; go_wp2; exact sQ rfl
        ·have e64 := H.r 6 64; clear H; go_wp2; exact sQ rfl
        ·have e65 := H.g 7 65; have e0 := H.i 0; have q65 := a0a e65; clear H; go_wp2; exact sQ rfl
        ·have e65 := H.g 7 65; have e9 := H.i 9; have q65 := a0a e65; clear H; go_wp2; exact sQ rfl
        ·have e65 := H.g 7 65; have e66 := H.r 8 66; have e67 := H.r 9 67; have q65 := a0a e65; clear H; go_wp2; exact sQ rfl
        ·have e65 := H.g 7 65; have e68 := H.r 10 68; have q65 := a0a e65; clear H; have hs1 := zh (HV.out.call hbx); have y0 := HX3.out _ hs1.out.below 0 _ rfl; rw [Nat.add_zero] at y0; go_wp2; exact sQ rfl
        ·have e65 := H.g 7 65; have e8 := H.i 8; have q65 := a0a e65; clear H; go_wp2; exact sQ rfl
        ·have e65 := H.g 7 65; have e69 := H.r 11 69; have e70 := H.r 12 70; have q65 := a0a e65; clear H; go_wp2; exact sQ rfl
        ·have e65 := H.g 7 65; have e71 := H.r 13 71; have q65 := a0a e65; clear H; have hs1 := zh (HV.out.call hbx); have y0 := HX4.out _ hs1.out.below 0 _ rfl; rw [Nat.add_zero] at y0; go_wp2; exact sQ rfl
        ·have e65 := H.r 7 65; have e72 := H.r 14 72; clear H; go_wp2; exact sQ rfl
        ·have e73 := H.r 15 73; clear H; go_wp2; exact sQ rfl
        ·have e74 := H.g 16 74; have e4 := H.i 4; have q74 := a0a e74; clear H; go_wp2; exact sQ rfl
        ·have e74 := H.g 16 74; have e9 := H.i 9; have q74 := a0a e74; clear H; go_wp2; exact sQ rfl
        ·have e74 := H.g 16 74; have e75 := H.r 17 75; have e76 := H.r 18 76; have q74 := a0a e74; clear H; go_wp2; exact sQ rfl
        ·have e74 := H.g 16 74; have e77 := H.r 19 77; have q74 := a0a e74; clear H; have hs1 := zh (HV.out.call hbx); have yf0 := hs1.out.cellE 0 rfl hbn; go_wp2; exact sQ rfl
        ·have e74 := H.g 16 74; have e4 := H.i 4; have q74 := a0a e74; clear H; go_wp2; exact sQ rfl
        ·have e74 := H.g 16 74; have e8 := H.i 8; have q74 := a0a e74; clear H; go_wp2; exact sQ rfl
        ·have e74 := H.g 16 74; have e79 := H.r 21 79; have e80 := H.r 22 80; have q74 := a0a e74; clear H; go_wp2; exact sQ rfl
        ·have e74 := H.g 16 74; have e81 := H.r 23 81; have q74 := a0a e74; clear H; have hs1 := zh (HV.out.call hbx); have yf0 := hs1.out.cellE 0 rfl han; go_wp2; exact sQ rfl
        ·have e74 := H.g 16 74; have e78 := H.r 20 78; have e82 := H.r 24 82; have q74 := a0a e74; clear H; go_wp2; exact sQ rfl
        intro xx w3 hb9 hv
        simp only [List.take, List.drop, a0g, Act.put]
        simp only [vQ hv 0, vQ hv 1, vQ hv 2, vQ hv 3, vQ hv 4, vQ hv 5, vQ hv 6, vQ hv 7, vQ hv 8, vQ hv 9, vQ hv 10, vQ hv 11, vQ hv 12, vQ hv 13, vQ hv 14, vQ hv 15, vQ hv 16, vQ hv 17, vQ hv 18, vQ hv 19, vQ hv 20, vQ hv 21, vQ hv 22, vQ hv 23, vQ hv 24, vQ hv 25]
        clear hv
        have HV3 := zh (HV.out.call hb9)
        clear hb9 HV
        go_wp2
        go_roundg (n - (b + 1))
        case measure => omega
        case rel => exact ⟨b + 1, c4, mo, by omega, by omega, rfl, by go_num, HL.out.old (fun _ => HLT.out), HV3.out⟩
       by_cases hlt : c4 b < c4 a
       ·rw [hm] at HX2
        have d1 : decide (c4 b < c4 a) = true := decide_eq_true hlt
        have HLT := zh hlt
        clear hlt
        go_wp2
        refine a0c 26 [.slice (some ⟨b0, o0, none⟩) n c', .int .i64 (a : Nat), .pointer (some ⟨b0, o0 + a, none⟩), .slice (some ⟨gi, 0, none⟩) n n, .int .i64 (b : Nat), .pointer (some ⟨gi, b, none⟩), .bool true, .bool true, undef, undef, undef, undef, undef, undef, undef, .bool true, .bool true, .slice (some ⟨w.heap.size, 0, none⟩) n n, .int .i64 (b : Nat), .pointer (some ⟨w.heap.size, b, none⟩), .int .i64 (c4 b), .slice (some ⟨w.heap.size, 0, none⟩) n n, .int .i64 (a : Nat), .pointer (some ⟨w.heap.size, a, none⟩), .int .i64 (c4 a), .bool true] rfl (by kernel_rfl) (by kernel_rfl) (by kernel_rfl) ?_ ?_
        refine ⟨?_, ?_, ?_, ?_, ?_, ?_, ?_, ?_, ?_, ?_, ?_, ?_, ?_, ?_, ?_, ?_, ?_, ?_, ?_, ?_, ?_, ?_, ?_, ?_, ?_, ?_, trivial⟩ <;> (intro xx af wv hbx hev hev0 hd; have H := SH.mk hev hev0 hd; clear hev hev0 hd)
        ·have e0 := H.i 0; clear H; go_wp2; exact sQ rfl
        ·have e8 := H.i 8; clear H; go_wp2; exact sQ rfl
        ·have e58 := H.r 0 58; have e59 := H.r 1 59; clear H; go_wp2; exact sQ rfl
        ·have e60 := H.r 2 60; clear H; have hs1 := zh (HV.out.call hbx); have y0 := HX1.out _ hs1.out.below 0 _ rfl; rw [Nat.add_zero] at y0; go_wp2; exact sQ rfl
        ·have e9 := H.i 9; clear H; go_wp2; exact sQ rfl
        ·have e61 := H.r 3 61; have e62 := H.r 4 62; clear H; go_wp2; exact sQ rfl
        ·have e63 := H.r 5 63; clear H; have hs1 := zh (HV.out.call hbx); have y0 := HX2.out _ hs1.out.below 0 _ rfl; rw [Nat.add_zero] at y0; go_wp2; exact sQ rfl
        ·have e64 := H.r 6 64; clear H; go_wp2; exact sQ rfl
        ·have e65 := H.g 7 65; have q65 := a0a e65; clear H; go_wp2; exact sQ rfl
        ·have e65 := H.g 7 65; have q65 := a0a e65; clear H; go_wp2; exact sQ rfl
        ·have e65 := H.g 7 65; have q65 := a0a e65; clear H; go_wp2; exact sQ rfl
        ·have e65 := H.g 7 65; have q65 := a0a e65; clear H; go_wp2; exact sQ rfl
        ·have e65 := H.g 7 65; have q65 := a0a e65; clear H; go_wp2; exact sQ rfl
        ·have e65 := H.g 7 65; have q65 := a0a e65; clear H; go_wp2; exact sQ rfl
        ·have e65 := H.g 7 65; have q65 := a0a e65; clear H; go_wp2; exact sQ rfl
        ·have e65 := H.r 7 65; have e72 := H.r 14 72; clear H; go_wp2; exact sQ rfl
        ·have e73 := H.r 15 73; clear H; go_wp2; exact sQ rfl
        ·have e74 := H.g 16 74; have e4 := H.i 4; have q74 := a0a e74; clear H; go_wp2; exact sQ rfl
        ·have e74 := H.g 16 74; have e9 := H.i 9; have q74 := a0a e74; clear H; go_wp2; exact sQ rfl
        ·have e74 := H.g 16 74; have e75 := H.r 17 75; have e76 := H.r 18 76; have q74 := a0a e74; clear H; go_wp2; exact sQ rfl
        ·have e74 := H.g 16 74; have e77 := H.r 19 77; have q74 := a0a e74; clear H; have hs1 := zh (HV.out.call hbx); have yf0 := hs1.out.cellE 0 rfl hbn; go_wp2; exact sQ rfl
        ·have e74 := H.g 16 74; have e4 := H.i 4; have q74 := a0a e74; clear H; go_wp2; exact sQ rfl
        ·have e74 := H.g 16 74; have e8 := H.i 8; have q74 := a0a e74; clear H; go_wp2; exact sQ rfl
        ·have e74 := H.g 16 74; have e79 := H.r 21 79; have e80 := H.r 22 80; have q74 := a0a e74; clear H; go_wp2; exact sQ rfl
        ·have e74 := H.g 16 74; have e81 := H.r 23 81; have q74 := a0a e74; clear H; have hs1 := zh (HV.out.call hbx); have yf0 := hs1.out.cellE 0 rfl han; go_wp2; exact sQ rfl
        ·have e74 := H.g 16 74; have e78 := H.r 20 78; have e82 := H.r 24 82; have q74 := a0a e74; clear H; go_wp2; exact sQ rfl
        intro xx w3 hb9 hv
        simp only [List.take, List.drop, a0g, Act.put]
        simp only [vQ hv 0, vQ hv 1, vQ hv 2, vQ hv 3, vQ hv 4, vQ hv 5, vQ hv 6, vQ hv 7, vQ hv 8, vQ hv 9, vQ hv 10, vQ hv 11, vQ hv 12, vQ hv 13, vQ hv 14, vQ hv 15, vQ hv 16, vQ hv 17, vQ hv 18, vQ hv 19, vQ hv 20, vQ hv 21, vQ hv 22, vQ hv 23, vQ hv 24, vQ hv 25]
        clear hv
        have HV3 := zh (HV.out.call hb9)
        clear hb9 HV
        have x1 := HV3.out.cellE 0 rfl hbn
        have x2 := HV3.out.cellE 0 rfl han
        have x3 := HV3.out.frozen 0 rfl a
        go_wp2
        have HV4 : Hid (St w [⟨w.heap.size, (rowE (.int .i64) n (putA c4 a (c4 b))), 3⟩] _) := zh (St.setE (HV3.out) 0 rfl a ((c4 b)))
        go_roundg (n - (b + 1))
        case measure => omega
        case rel => exact ⟨b + 1, putA c4 a (c4 b), true, by omega, by omega, rfl, by go_num, HL.out.new han hbn (HEE.out.1 (by first | rw [hm, hm2]; rfl | rw [hm]; rfl)) HLT.out, HV4.out⟩
       rw [hm] at HX2
       have d1 : decide (c4 b < c4 a) = false := decide_eq_false hlt
       have HLT : Hid (c4 a <= c4 b) := zh (Int.not_lt.1 hlt)
       clear hlt
       go_wp2
       refine a0c 26 [.slice (some ⟨b0, o0, none⟩) n c', .int .i64 (a : Nat), .pointer (some ⟨b0, o0 + a, none⟩), .slice (some ⟨gi, 0, none⟩) n n, .int .i64 (b : Nat), .pointer (some ⟨gi, b, none⟩), .bool true, .bool true, undef, undef, undef, undef, undef, undef, undef, .bool true, .bool true, .slice (some ⟨w.heap.size, 0, none⟩) n n, .int .i64 (b : Nat), .pointer (some ⟨w.heap.size, b, none⟩), .int .i64 (c4 b), .slice (some ⟨w.heap.size, 0, none⟩) n n, .int .i64 (a : Nat), .pointer (some ⟨w.heap.size, a, none⟩), .int .i64 (c4 a), .bool false] rfl (by kernel_rfl) (by kernel_rfl) (by kernel_rfl) ?_ ?_
       refine ⟨?_, ?_, ?_, ?_, ?_, ?_, ?_, ?_, ?_, ?_, ?_, ?_, ?_, ?_, ?_, ?_, ?_, ?_, ?_, ?_, ?_, ?_, ?_, ?_, ?_, ?_, trivial⟩ <;> (intro xx af wv hbx hev hev0 hd; have H := SH.mk hev hev0 hd; clear hev hev0 hd)
       ·have e0 := H.i 0; clear H; go_wp2; exact sQ rfl
       ·have e8 := H.i 8; clear H; go_wp2; exact sQ rfl
       ·have e58 := H.r 0 58; have e59 := H.r 1 59; clear H; go_wp2; exact sQ rfl
       ·have e60 := H.r 2 60; clear H; have hs1 := zh (HV.out.call hbx); have y0 := HX1.out _ hs1.out.below 0 _ rfl; rw [Nat.add_zero] at y0; go_wp2; exact sQ rfl
       ·have e9 := H.i 9; clear H; go_wp2; exact sQ rfl
       ·have e61 := H.r 3 61; have e62 := H.r 4 62; clear H; go_wp2; exact sQ rfl
       ·have e63 := H.r 5 63; clear H; have hs1 := zh (HV.out.call hbx); have y0 := HX2.out _ hs1.out.below 0 _ rfl; rw [Nat.add_zero] at y0; go_wp2; exact sQ rfl
       ·have e64 := H.r 6 64; clear H; go_wp2; exact sQ rfl
       ·have e65 := H.g 7 65; have q65 := a0a e65; clear H; go_wp2; exact sQ rfl
       ·have e65 := H.g 7 65; have q65 := a0a e65; clear H; go_wp2; exact sQ rfl
       ·have e65 := H.g 7 65; have q65 := a0a e65; clear H; go_wp2; exact sQ rfl
       ·have e65 := H.g 7 65; have q65 := a0a e65; clear H; go_wp2; exact sQ rfl
       ·have e65 := H.g 7 65; have q65 := a0a e65; clear H; go_wp2; exact sQ rfl
       ·have e65 := H.g 7 65; have q65 := a0a e65; clear H; go_wp2; exact sQ rfl
       ·have e65 := H.g 7 65; have q65 := a0a e65; clear H; go_wp2; exact sQ rfl
       ·have e65 := H.r 7 65; have e72 := H.r 14 72; clear H; go_wp2; exact sQ rfl
       ·have e73 := H.r 15 73; clear H; go_wp2; exact sQ rfl
       ·have e74 := H.g 16 74; have e4 := H.i 4; have q74 := a0a e74; clear H; go_wp2; exact sQ rfl
       ·have e74 := H.g 16 74; have e9 := H.i 9; have q74 := a0a e74; clear H; go_wp2; exact sQ rfl
       ·have e74 := H.g 16 74; have e75 := H.r 17 75; have e76 := H.r 18 76; have q74 := a0a e74; clear H; go_wp2; exact sQ rfl
       ·have e74 := H.g 16 74; have e77 := H.r 19 77; have q74 := a0a e74; clear H; have hs1 := zh (HV.out.call hbx); have yf0 := hs1.out.cellE 0 rfl hbn; go_wp2; exact sQ rfl
       ·have e74 := H.g 16 74; have e4 := H.i 4; have q74 := a0a e74; clear H; go_wp2; exact sQ rfl
       ·have e74 := H.g 16 74; have e8 := H.i 8; have q74 := a0a e74; clear H; go_wp2; exact sQ rfl
       ·have e74 := H.g 16 74; have e79 := H.r 21 79; have e80 := H.r 22 80; have q74 := a0a e74; clear H; go_wp2; exact sQ rfl
       ·have e74 := H.g 16 74; have e81 := H.r 23 81; have q74 := a0a e74; clear H; have hs1 := zh (HV.out.call hbx); have yf0 := hs1.out.cellE 0 rfl han; go_wp2; exact sQ rfl
       ·have e74 := H.g 16 74; have e78 := H.r 20 78; have e82 := H.r 24 82; have q74 := a0a e74; clear H; go_wp2; exact sQ rfl
       intro xx w3 hb9 hv
       simp only [List.take, List.drop, a0g, Act.put]
       simp only [vQ hv 0, vQ hv 1, vQ hv 2, vQ hv 3, vQ hv 4, vQ hv 5, vQ hv 6, vQ hv 7, vQ hv 8, vQ hv 9, vQ hv 10, vQ hv 11, vQ hv 12, vQ hv 13, vQ hv 14, vQ hv 15, vQ hv 16, vQ hv 17, vQ hv 18, vQ hv 19, vQ hv 20, vQ hv 21, vQ hv 22, vQ hv 23, vQ hv 24, vQ hv 25]
       clear hv
       have HV3 := zh (HV.out.call hb9)
       clear hb9 HV
       go_wp2
       go_roundg (n - (b + 1))
       case measure => omega
       case rel => exact ⟨b + 1, c4, mo, by omega, by omega, rfl, by go_num, HL.out.old (fun _ => HLT.out), HV3.out⟩
      have hbe : b = n := by omega
      rw [hbe] at HL ⊢
      have e4 : decide (((n : Nat) : Int) < (n : Int)) = false := decide_eq_false (by omega)
      clear hbe hb hbn
      go_wp2
      go_roundg (n - (a + 1))
      case measure => omega
      case rel => exact ⟨a + 1, c4, mo, by omega, by omega, rfl, by go_num, HL.out.row HB.out, HV.out⟩
    have hae : a = n := by omega
    rw [hae] at HL ⊢
    have e1 : decide (((n : Nat) : Int) < (n : Int)) = false := decide_eq_false (by omega)
    clear hae ha han
    go_wp2
    have hGK := HGK.out
    have hys := HL.out.yes
    go_roundg (G1 - 1)
    case measure => omega
    case rel => exact ⟨c3, mo, rfl, HL.out.cmp, (fun h => by subst h; exact HL.out.still HB.out), (by cases mo with | true => rw [if_pos rfl]; have := hys rfl; omega | false => rw [if_neg (by decide)]; exact Nat.zero_le _), HS.out⟩
def upK (l : List Cls) (i : Nat) : Nat -> List Cls
 | 0 => []
 | k + 1 => upK l i k ++ (match l[k]? with | some c => if k <= i \/ c.kind ≠ 2 then [c] else [] | none => [])
theorem c7p {l : List Cls} {i k : Nat} {c : Cls} (hc : l[k]? = some c) (h : k <= i \/ c.kind ≠ 2) : upK l i (k + 1) = upK l i k ++ [c] := by
 rw [upK, hc]; dsimp only; rw [if_pos h]
theorem c7n {l : List Cls} {i k : Nat} {c : Cls} (hc : l[k]? = some c) (h : ¬ (k <= i \/ c.kind ≠ 2)) : upK l i (k + 1) = upK l i k := by
 rw [upK, hc]; dsimp only; rw [if_neg h, List.append_nil]
theorem b3d {l : List Cls} {i : Nat} : ∀ k, List.Sublist (upK l i k) (l.take k)
 | 0 => by rw [List.take_zero]; exact List.Sublist.refl _
 | k + 1 => by
  rw [List.take_add_one]
  cases hc : l[k]? with
  | none => rw [upK, hc]; dsimp only; exact (b3d k).append (List.Sublist.refl _)
  | some c =>
   by_cases h : k <= i \/ c.kind ≠ 2
   ·rw [c7p hc h]; exact (b3d k).append (List.Sublist.refl _)
   rw [c7n hc h]; exact (b3d k).trans (List.sublist_append_left _ _)
theorem b3e {l : List Cls} {i : Nat} {c : Cls} : ∀ k, c ∈ upK l i k ↔ ∃ j, j < k /\ l[j]? = some c /\ (j <= i \/ c.kind ≠ 2)
 | 0 => ⟨fun h => (by cases h), fun ⟨_, h, _⟩ => absurd h (Nat.not_lt_zero _)⟩
 | k + 1 => by
  rw [upK, List.mem_append, b3e k]
  constructor
  ·rintro (⟨j, h1, h2, h3⟩ | h)
   ·exact ⟨j, by omega, h2, h3⟩
   cases hc : l[k]? with
   | none => rw [hc] at h; cases h
   | some d =>
    rw [hc] at h
    dsimp only at h
    split at h
    ·rename_i hp
     obtain rfl : c = d := by simpa using h
     exact ⟨k, Nat.lt_succ_self _, hc, hp⟩
    cases h
  rintro ⟨j, h1, h2, h3⟩
  by_cases hj : j < k
  ·exact .inl ⟨j, hj, h2, h3⟩
  obtain rfl : j = k := by omega
  right
  rw [h2]
  dsimp only
  rw [if_pos h3]
  exact List.mem_singleton.2 rfl
theorem upK_ok {cl : List Nmd} {l : List Cls} {i k : Nat} (h : Ok1 cl l) : Ok1 cl (upK l i k) := by
 have hs : List.Sublist (upK l i k) l := (b3d k).trans (List.take_sublist ..)
 exact ⟨fun c hc => h.1 c (hs.subset hc), h.2.sublist hs⟩
theorem upK_memb {cl : List Nmd} {l : List Cls} {i : Nat} (h : Ok1 cl l) : Mem (upK l i l.length) = Mem l := by
 funext s m
 refine propext ?_
 rw [a2w (a1p (upK_ok h)), a2w (a1p h)]
 constructor
 ·rintro ⟨c, hc, h1⟩
  obtain ⟨j, _, hj, _⟩ := (b3e _).1 hc
  exact ⟨c, List.mem_of_getElem? hj, h1⟩
 rintro ⟨c, hc, h1, h2⟩
 obtain ⟨j, hj⟩ := List.mem_iff_getElem?.1 hc
 exact ⟨c, (b3e _).2 ⟨j, (List.getElem?_eq_some_iff.1 hj).1, hj, .inr (by omega)⟩, h1, h2⟩
theorem upK_den {cl : List Nmd} {l : List Cls} {i : Nat} (h : Ok1 cl l) : Den cl (upK l i l.length) = Den cl l := by
 funext s k
 unfold Den
 rw [upK_memb h]
theorem upK_rel {cl : List Nmd} {l : List Cls} {i : Nat} (h : Ok1 cl l) : Rel cl (upK l i l.length) (upK l i l.length).length = Rel cl l (i + 1) := by
 funext a b
 refine propext ?_
 rw [c2e, upK_den h]
 constructor
 ·rintro ⟨c, hc, hk, hd⟩
  obtain ⟨j, _, hj, h3⟩ := (b3e _).1 hc
  exact ⟨j, c, by omega, hj, hk, hd⟩
 rintro ⟨j, c, hj, hc, hk, hd⟩
 exact ⟨c, (b3e _).2 ⟨j, (List.getElem?_eq_some_iff.1 hc).1, hc, .inl (by omega)⟩, hk, hd⟩
theorem c5p {x : Cls} {A : Option Addr} {n c : Nat} : ∀ u ∈ (CRow.mk x (.slice A n c)).enc, u.oneCell' = true := by
 intro u hu
 simp only [CRow.enc, List.mem_cons, List.not_mem_nil, or_false] at hu
 rcases hu with rfl | rfl | rfl | rfl | rfl | rfl | rfl | rfl <;> rfl
theorem info_cls : (Tryz.prog.info? 61).map (fun i => (i.zero, i.size, i.bytes)) = some (some (.agg #[.int .i64 0, .string (bs []), .string (bs []), .slice none 0 0, .bool false, .string (bs []), .string (bs []), .int .i64 0]), 8, 112) := by kernel_rfl
theorem b2y : ∃ i, Tryz.prog.info? 61 = some i /\ i.zero = some (.agg #[.int .i64 0, .string (bs []), .string (bs []), .slice none 0 0, .bool false, .string (bs []), .string (bs []), .int .i64 0]) /\ i.size = 8 /\ i.bytes = 112 := by
 obtain ⟨i, hi, hzz⟩ := Option.map_eq_some_iff.1 info_cls
 simp only [Prod.mk.injEq] at hzz
 exact ⟨i, hi, hzz⟩
theorem c8j (v : Value) (l : List Cls) (i : Nat) (w : World) (h : ClsL w v l) (hl : l.length <= 1000000) :
  Calls Tryz.prog 106 #[v, .int .i64 (i : Nat)] w fun e w' => ∃ v', e = .returned v' /\ ClsL w' v' (upK l i l.length) /\ Below w.heap.size w w' := by
 obtain ⟨ii, hii, hz0, hz1, hz2⟩ := b2y
 obtain ⟨A2, c2, rfl, _, _⟩ := h.slice
 have HV := zh h
 have LN := zh hl
 have HZ0 := zh hz0
 clear h hl hz0
 go_enter Tryz.func106, Tryz.ntmps106
 have HS := zh (St.start w)
 go_wp2
 go_loopw [5, 6] (fun v_ k_ wr => ∃ (k : Nat) (rs : List CRow), k <= l.length /\ k_ = .int .i64 k /\ rs.length <= k /\ Hid (rs.map (·.c) = upK l i k) /\ Hid (∀ r, r ∈ rs -> a6d w r.v r.c.list) /\ Hid (Grows wr w.heap.size 61 8 v_ rs.length (flat CRow.enc rs)) /\ Hid (St w [] wr)) (fun _ k_ _ => l.length - (intOf k_).toNat)
 case atStart => exact ⟨0, [], Nat.zero_le _, rfl, Nat.le_refl _, rfl, (fun r h => by cases h), World.ownsRow_nil _ _ _ _, HS.out⟩
 case round =>
  obtain ⟨k, rs, hk, rfl, hrs, HR, HT, HG, HS⟩ := hrel
  rename_i u5 _
  have LR := zh hrs
  clear hrs
  by_cases hlt : k < l.length
  ·obtain ⟨b, o, x, u, rfl, hbb, hq, hu, hx⟩ := HV.out.at_ hlt
   obtain ⟨A5, c5, rfl, hl5, hl6⟩ := hu.slice
   unfold CRow.enc at hx
   dsimp only at hx
   have HX := zh hx
   have HQ := zh hq
   have HU := zh hu
   have e1 : (((k : Nat)) : Int) < (l.length : Int) := by omega
   have e2 : decide (((k : Nat) : Int) < (l.length : Int)) = true := decide_eq_true e1
   have e3 : (0 : Int) <= ((k : Nat) : Int) := by omega
   have i5 : IntKind.i64.wrap ((k : Int) + 1) = ((k + 1 : Nat) : Int) := by have := LN.out; rw [IntWalk.i64_in _ (by omega)]; rfl
   clear hq hu hx hl5 hl6
   by_cases hki : k <= i
   ·have d1 : decide (((k : Nat) : Int) <= ((i : Nat) : Int)) = true := decide_eq_true (by omega)
    have d2 : decide (k <= i) = true := decide_eq_true hki
    have HKI := zh hki
    clear hki
    have x1 : b < wr.heap.size := Nat.lt_of_lt_of_le hbb HS.out.below.size
    have x2 : ¬ b = wr.heap.size := by omega
    obtain ⟨x3, x4, x5⟩ := kE0 (HX.out _ HS.out.below) rfl rfl rfl
    have x6 := HX.out _ HS.out.below 3 _ rfl
    obtain ⟨x7, x8, x9⟩ := kE4 (HX.out _ HS.out.below) rfl rfl rfl
    have x10 := HX.out _ HS.out.below 7 _ rfl
    have HS2 := aL HS #[.int .i64 x.kind, .string (bs x.name), .string (bs x.other), .slice A5 x.list.length c5, .bool x.am.n, .string (bs x.am.a), .string (bs x.am.b), .int .i64 x.at_] 61 wr.heap.size
    have hsz := HS2.out.below.size
    have HB9 := zh HS2.out.below
    have hblk := HS2.out.blk 0 rfl
    have hgr : World.ownsRow _ w.heap.size 61 8 u5 rs.length (flat CRow.enc rs) := (HG.out.below (Ext.alloc (Below.refl wr.heap.size wr) (Obj.cells #[.int .i64 x.kind, .string (bs x.name), .string (bs x.other), .slice A5 x.list.length c5, .bool x.am.n, .string (bs x.am.a), .string (bs x.am.b), .int .i64 x.at_] 61)))
    go_wp2_with (at_builtin; refine a3a _ rfl _ _ 23 rfl w.heap.size 61 ii _ 8 112 Tryz.underlying23 hii HZ0.out hz1 hz2 rfl (by decide) a2x u5 rs.length rs (by simp [Act.eval]) hgr (CRow.mk x (.slice A5 x.list.length c5)) wr.heap.size _ hblk ?c1 (by simp [Act.eval]) c5p (by have := LR.out; have := LN.out; unfold maxLen; omega) (by have := LR.out; have := LN.out; omega) hsz ?_)
    case c1 => exact rfl
    intro v2 w2 hown2 hb2
    have HG2 := zh hown2
    have HS9 := zh (St.of (HB9.out.trans hb2))
    clear hown2 hb2 hblk hgr hsz HG HS HS2 x1 x2 x3 x4 x5 x6 x7 x8 x9 x10
    go_wp2
    go_roundw
    case rel => exact ⟨k + 1, rs ++ [CRow.mk x (.slice A5 x.list.length c5)], by omega, by go_num, (by have := LR.out; rw [List.length_append, List.length_singleton]; omega), (by rw [c7p HQ.out (.inl HKI.out), List.map_append, <- HR.out]; rfl), (fun r hr => by rcases List.mem_append.1 hr with hr | hr; exact HT.out r hr; obtain rfl := List.mem_singleton.1 hr; exact HU.out), (by rw [List.length_append, List.length_singleton]; exact HG2.out), HS9.out⟩
    case measure => simp [intOf]; omega
   by_cases h2 : x.kind = 2
   ·have d1 : decide (((k : Nat) : Int) <= ((i : Nat) : Int)) = false := decide_eq_false (by omega)
    have d2 : decide (k <= i) = false := decide_eq_false hki
    have d3 : (x.kind != 2) = false := by rw [h2]; rfl
    have HN := zh (show ¬ (k <= i \/ x.kind ≠ 2) from fun h => h.elim hki (fun h => h h2))
    clear hki h2
    have x1 := HX.out _ HS.out.below 0 _ rfl
    rw [Nat.add_zero] at x1
    go_wp2
    go_roundw
    case rel => exact ⟨k + 1, rs, by omega, by go_num, (by have := LR.out; omega), (by rw [c7n HQ.out HN.out]; exact HR.out), HT.out, HG.out, HS.out⟩
    case measure => simp [intOf]; omega
   have d1 : decide (((k : Nat) : Int) <= ((i : Nat) : Int)) = false := decide_eq_false (by omega)
   have d2 : decide (k <= i) = false := decide_eq_false hki
   have d3 : (x.kind != 2) = true := bne_iff_ne.2 h2
   have HN := zh h2
   clear hki h2
   have x1 : b < wr.heap.size := Nat.lt_of_lt_of_le hbb HS.out.below.size
   have x2 : ¬ b = wr.heap.size := by omega
   obtain ⟨x3, x4, x5⟩ := kE0 (HX.out _ HS.out.below) rfl rfl rfl
   have x6 := HX.out _ HS.out.below 3 _ rfl
   obtain ⟨x7, x8, x9⟩ := kE4 (HX.out _ HS.out.below) rfl rfl rfl
   have x10 := HX.out _ HS.out.below 7 _ rfl
   have HS2 := aL HS #[.int .i64 x.kind, .string (bs x.name), .string (bs x.other), .slice A5 x.list.length c5, .bool x.am.n, .string (bs x.am.a), .string (bs x.am.b), .int .i64 x.at_] 61 wr.heap.size
   have hsz := HS2.out.below.size
   have HB9 := zh HS2.out.below
   have hblk := HS2.out.blk 0 rfl
   have hgr : World.ownsRow _ w.heap.size 61 8 u5 rs.length (flat CRow.enc rs) := (HG.out.below (Ext.alloc (Below.refl wr.heap.size wr) (Obj.cells #[.int .i64 x.kind, .string (bs x.name), .string (bs x.other), .slice A5 x.list.length c5, .bool x.am.n, .string (bs x.am.a), .string (bs x.am.b), .int .i64 x.at_] 61)))
   go_wp2_with (at_builtin; refine a3a _ rfl _ _ 23 rfl w.heap.size 61 ii _ 8 112 Tryz.underlying23 hii HZ0.out hz1 hz2 rfl (by decide) a2x u5 rs.length rs (by simp [Act.eval]) hgr (CRow.mk x (.slice A5 x.list.length c5)) wr.heap.size _ hblk ?c1 (by simp [Act.eval]) c5p (by have := LR.out; have := LN.out; unfold maxLen; omega) (by have := LR.out; have := LN.out; omega) hsz ?_)
   case c1 => exact rfl
   intro v2 w2 hown2 hb2
   have HG2 := zh hown2
   have HS9 := zh (St.of (HB9.out.trans hb2))
   clear hown2 hb2 hblk hgr hsz HG HS HS2 x1 x2 x3 x4 x5 x6 x7 x8 x9 x10
   go_wp2
   go_roundw
   case rel => exact ⟨k + 1, rs ++ [CRow.mk x (.slice A5 x.list.length c5)], by omega, by go_num, (by have := LR.out; rw [List.length_append, List.length_singleton]; omega), (by rw [c7p HQ.out (.inr HN.out), List.map_append, <- HR.out]; rfl), (fun r hr => by rcases List.mem_append.1 hr with hr | hr; exact HT.out r hr; obtain rfl := List.mem_singleton.1 hr; exact HU.out), (by rw [List.length_append, List.length_singleton]; exact HG2.out), HS9.out⟩
   case measure => simp [intOf]; omega
  have hke : k = l.length := by omega
  rw [hke] at HR ⊢
  have e2 : decide (((l.length : Nat) : Int) < (l.length : Int)) = false := decide_eq_false (by omega)
  clear hke hk hlt
  go_wp2
  go_ret
  exact ⟨u5, rfl, ⟨rs, Slc.of_own a2x HG.out rfl, HR.out, fun r hr => (HT.out r hr).below HS.out.below⟩, HS.out.below⟩
theorem c0b (v v2 : Value) (cl : List Nmd) (l : List Cls) (s : List UInt8) (w : World) (h : NmdL w v cl) (h2 : ClsL w v2 l) (hC : a7y cl l) (hl : cl.length <= 1000) (hl2 : l.length <= 1000) (hbig : ∀ c ∈ l, c.kind = 1 -> c.list.length <= 1000) :
  Calls Tryz.prog 105 #[v, v2, .string (bs s)] w fun e w' => ∃ r, e = .returned (.bool r) /\ (r = true ↔ Stat cl l s) /\ Below w.heap.size w w' := by
 have d1 := fun W (hb : Below w.heap.size w W) R (hS : St w R W) => a6k v v2 cl l s W (h.below hb) (h2.below hb) hC hl hl2 hbig hS
 obtain ⟨A1, c1, rfl, _, _⟩ := Slc.slice h
 have HH := zh h
 have D1 := zh d1
 have LN := zh hl
 clear h h2 hC hl hl2 hbig d1
 go_enter Tryz.func105, Tryz.ntmps105
 have HS := zh (St.start w)
 go_wp2_with fail
 refine (D1.out _ HS.out.below _ HS.out).mono ?_
 rintro e w2 ⟨g2, D2, rfl, hst2, HD2, hb2⟩
 clear hb2
 have HS2 : Hid (St w [⟨g2, (rowE (.bool) cl.length D2), 4⟩] w2) := zh hst2
 clear hst2 HS
 go_wp2
 go_loopw [8] (fun k_ wr => ∃ k : Nat, k <= cl.length /\ k_ = .int .i64 k /\ Hid (∀ (j : Nat) x, j < k -> cl[j]? = some x -> ¬ (D2 j = true /\ x.rank <= 1)) /\ Hid (St w [⟨g2, rowE .bool cl.length D2, 4⟩] wr)) (fun k_ _ => cl.length - (intOf k_).toNat)
 case atStart => exact ⟨0, Nat.zero_le _, rfl, (fun j x h => absurd h (Nat.not_lt_zero _)), HS2.out⟩
 case round =>
  clear HS2 D1
  obtain ⟨k, hk, rfl, HN, HS⟩ := hrel
  by_cases hlt : k < cl.length
  ·obtain ⟨b, o, x, rfl, hbb, hq, hx⟩ := HH.out.at_ hlt
   have HX := zh hx
   have HQ := zh hq
   have e1 : (((k : Nat)) : Int) < (cl.length : Int) := by omega
   have e2 : decide (((k : Nat) : Int) < (cl.length : Int)) = true := decide_eq_true e1
   have e3 : (0 : Int) <= ((k : Nat) : Int) := by omega
   have i5 : IntKind.i64.wrap ((k : Int) + 1) = ((k + 1 : Nat) : Int) := by have := LN.out; rw [IntWalk.i64_in _ (by omega)]; rfl
   have hstep : ¬ (D2 k = true /\ x.rank <= 1) -> ∀ (j : Nat) y, j < k + 1 -> cl[j]? = some y -> ¬ (D2 j = true /\ y.rank <= 1) := fun hn j y hj hy => by
    by_cases hjk : j < k
    ·exact HN.out j y hjk hy
    obtain rfl : j = k := by omega
    rw [HQ.out] at hy
    obtain rfl : x = y := Option.some.inj hy
    exact hn
   have HSP := zh hstep
   clear hq hx hstep
   cases hd : D2 k
   ·have x1 := HS.out.cellE 0 rfl hlt
    rw [hd] at x1
    go_wp2
    go_roundw
    case rel => exact ⟨k + 1, by omega, by go_num, HSP.out (fun h => by rw [hd] at h; cases h.1), HS.out⟩
    case measure => simp [intOf]; omega
   by_cases hr : x.rank <= 1
   ·have d1 : decide (x.rank <= 1) = true := decide_eq_true hr
    have HRK := zh hr
    clear hr
    have x1 := HS.out.cellE 0 rfl hlt
    rw [hd] at x1
    have x2 := HX.out _ HS.out.below 1 _ rfl
    go_wp2
    go_ret
    exact ⟨true, rfl, ⟨fun _ => ⟨k, x, (HD2.out k).1 hd, HQ.out, HRK.out⟩, fun _ => rfl⟩, HS.out.below⟩
   have d1 : decide (x.rank <= 1) = false := decide_eq_false hr
   have HRK : Hid (x.rank <= 1 -> False) := zh hr
   clear hr
   have x1 := HS.out.cellE 0 rfl hlt
   rw [hd] at x1
   have x2 := HX.out _ HS.out.below 1 _ rfl
   go_wp2
   go_roundw
   case rel => exact ⟨k + 1, by omega, by go_num, HSP.out (fun h => HRK.out h.2), HS.out⟩
   case measure => simp [intOf]; omega
  have hke : k = cl.length := by omega
  rw [hke] at HN ⊢
  have e2 : decide (((cl.length : Nat) : Int) < (cl.length : Int)) = false := decide_eq_false (by omega)
  clear hke hk hlt
  go_wp2
  go_ret
  exact ⟨false, rfl, ⟨fun h => (by cases h), fun ⟨j, x, h1, h2, h3⟩ => absurd ⟨(HD2.out j).2 h1, h3⟩ (HN.out j x h1.lt h2)⟩, HS.out.below⟩
end Go.Proofs.YtgdhpghfojccaaaGreatDoor
