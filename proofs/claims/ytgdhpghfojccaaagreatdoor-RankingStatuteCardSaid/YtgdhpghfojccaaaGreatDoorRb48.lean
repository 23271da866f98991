/-
Part 48 of the base.
-/
import Derived.Test.YtgdhpghfojccaaaGreatDoorRb43
import Derived.Test.YtgdhpghfojccaaaGreatDoorRb46
namespace Go.Proofs.YtgdhpghfojccaaaGreatDoor
open Go.RowKit
theorem b7x (v v2 : Value) (cl : List Nmd) (l : List Cls) (w : World) (h : NmdL w v cl) (h2 : ClsL w v2 l) (hO : Okay cl l /\ ∀ c ∈ l, c.list.length <= 1000) (hl : cl.length <= 1000) (hl2 : l.length <= 1000) :
  Calls Tryz.prog 16 #[v, v2] w fun e w' => ∃ v' M, e = .returned v' /\ MatB w' v' cl.length M /\ (∀ a b, a < cl.length -> b < cl.length -> (M a b = true ↔ Rel cl l l.length a b)) /\ Below w.heap.size w w' := by
 have D := zh (fun W (hb : Below w.heap.size w W) => a6j v v2 cl l W (h.below hb) (h2.below hb) (a1p hO.1.one) hl hl2 (fun c hc _ => hO.2 c hc))
 obtain ⟨A1, c1, rfl, _, _⟩ := Slc.slice h
 obtain ⟨A2, c2, rfl, _, _⟩ := h2.slice
 clear h h2 hO hl hl2
 go_enter Tryz.func16, Tryz.ntmps16
 have HS := zh (St.start w)
 go_wp2_with fail
 refine (D.out _ HS.out.below).mono ?_
 rintro e w2 ⟨vm, M, rfl, hM, hMr, hb2⟩
 obtain ⟨Am, cm, rfl, _, _⟩ := MatB.slice hM
 have HMR := zh hMr
 clear hMr
 have HS2 := zh (HS.out.call hb2)
 have M_2 := zh hM
 clear hM hb2 HS
 go_wp2
 go_ret
 exact ⟨_, M, rfl, M_2.out, HMR.out, HS2.out.below⟩
set_option maxRecDepth 100000
set_option maxHeartbeats 4000000
theorem a9u (v1 : Value) (ts : List Duo) (v2 : Value) (xs : List Qua) (w : World) (h1 : Duos w v1 ts) (k1 : ∀ t ∈ ts, t.ok) (h2 : Quas w v2 xs) (k2 : ∀ t ∈ xs, t.ok) : Calls Tryz.prog 7 #[v1, v2] w fun e w' => e = .returned (.bool true) /\ Below w.heap.size w w' := by
 have dN := fun W (hb : Below w.heap.size w W) => b1g v1 ts W (h1.below hb) k1
 have dL := fun W (hb : Below w.heap.size w W) => a7q v2 xs W (h2.below hb) k2
 have hF := b5p k1 k2
 have dA := fun W => a6p W
 obtain ⟨A1, c1, rfl, _, _⟩ := Slc.slice h1
 obtain ⟨A2, c2, rfl, _, _⟩ := Slc.slice h2
 have hcl := a9r ts
 have hll := a6u xs
 generalize a5r ts = cl at *
 generalize a3c xs = l at *
 have dC := fun a b W (ha : NmdL W a cl) (hb : ClsL W b l) => a1v a b cl l W ha hb hF
 have DC := zh dC
 have DN := zh dN
 have DL := zh dL
 have DA := zh dA
 have LC := zh hcl
 have LL := zh hll
 have HFL := zh (fun c hc => (hF.cls c hc).2.2.1)
 clear h1 k1 h2 k2 dN dL hF dA dC hcl hll
 go_enter Tryz.func7, Tryz.ntmps7
 have HS := zh (St.start w)
 go_wp2_with fail
 refine (DN.out _ HS.out.below).mono ?_
 rintro e w2 ⟨vn, rfl, hN, hb2⟩
 obtain ⟨An, cn, rfl, _, _⟩ := Slc.slice hN
 have HS2 := zh (HS.out.call hb2)
 have N_2 := zh hN
 clear hN hb2 HS
 go_wp2_with fail
 refine (DL.out _ HS2.out.below).mono ?_
 rintro e w3 ⟨vl, rfl, hL, hb3⟩
 obtain ⟨Al, dn, rfl, _, _⟩ := ClsL.slice hL
 have HS3 := zh (HS2.out.call hb3)
 have N_3 := zh (N_2.out.below hb3)
 clear N_2
 have L_3 := zh hL
 clear hL hb3 HS2
 go_wp2_with fail
 refine (((DC.out _ _ _ N_3.out L_3.out).mono fun _ _ h => h.open)).mono ?_
 rintro e w4 ⟨Ap, cp, Bp, dp, Rp, Gp, ip, ep, rfl, hPp, hCp, hb4⟩
 have HCp := zh hCp
 clear hCp
 have HS4 := zh (HS3.out.call hb4)
 obtain ⟨q, hq⟩ : ∃ q, q = (ep != 0) := ⟨_, rfl⟩
 have hq1 : (ep != 0) = q := hq.symm
 have HEQ := zh hq1
 clear hq
 have N_4 := zh (N_3.out.below hb4)
 clear N_3
 have L_4 := zh (L_3.out.below hb4)
 clear L_3
 have Pp_4 := zh hPp
 clear hPp hb4 HS3
 go_upto_if 25 with fail
 cases q
 ·have he0 : ep = 0 := by have h0 := HEQ.out; rwa [bne_eq_false_iff_eq] at h0
  subst he0
  obtain ⟨_, _, hO, hR, _⟩ := (HCp.out).okay
  have hrl := hR.1
  have d0 : ((Rp.length : Int) != (cl.length : Int)) = false := by rw [hrl]; simp
  have d0' : (Rp.length != cl.length) = false := by rw [hrl]; simp
  have HRL := zh hrl
  have HO := zh hO
  have HR := zh hR
  clear hrl hO hR HEQ
  go_wp2_with fail
  have HS5 := aL HS4 #[.slice Ap Rp.length cp, .slice Bp Gp.length dp] 29 w4.heap.size
  refine (b7x _ _ cl l _ (N_4.out.below (Ext.alloc (Below.refl w4.heap.size w4) (Obj.cells #[.slice Ap Rp.length cp, .slice Bp Gp.length dp] 29))) (L_4.out.below (Ext.alloc (Below.refl w4.heap.size w4) (Obj.cells #[.slice Ap Rp.length cp, .slice Bp Gp.length dp] 29))) ⟨HO.out, HFL.out⟩ (by have := LC.out; omega) (by have := LL.out; omega)).mono ?_
  rintro e w6 ⟨vm, M, rfl, hM, hMr, hb6⟩
  obtain ⟨Am, cm, rfl, _, _⟩ := MatB.slice hM
  have HMR := zh hMr
  clear hMr
  have HS6 := zh (HS5.out.call hb6)
  have N_6 := zh (N_4.out.below (Ext.trans (Ext.alloc (Below.refl w4.heap.size w4) (Obj.cells #[.slice Ap Rp.length cp, .slice Bp Gp.length dp] 29)) hb6))
  clear N_4
  have L_6 := zh (L_4.out.below (Ext.trans (Ext.alloc (Below.refl w4.heap.size w4) (Obj.cells #[.slice Ap Rp.length cp, .slice Bp Gp.length dp] 29)) hb6))
  clear L_4
  have Pp_6 := zh (Pp_4.out.below (Ext.trans (Ext.alloc (Below.refl w4.heap.size w4) (Obj.cells #[.slice Ap Rp.length cp, .slice Bp Gp.length dp] 29)) hb6))
  clear Pp_4
  have M_6 := zh hM
  clear hM hb6 HS4 HS5
  have HP7 := zh (fun (W : World) (hb : Below w6.heap.size w6 W) (j : Nat) (v : Value) (hv : (#[.slice Ap Rp.length cp, .slice Bp Gp.length dp] : Array Value)[j]? = some v) => ((HS6.out.blk 0 rfl).below hb (HS6.out.blk 0 rfl).lt).cell j v hv)
  have HP7L := zh (HS6.out.lt 0 rfl)
  have HB0 := zh HS6.out.below
  have HT := zh (St.start w6)
  clear HS6
  go_wp2
  go_loopw [38] (fun i_ wr => ∃ i : Nat, i <= cl.length /\ i_ = .int .i64 i /\ Hid (St w6 [] wr)) (fun i_ _ => cl.length - (intOf i_).toNat)
  case atStart => exact ⟨0, Nat.zero_le _, rfl, HT.out⟩
  case round =>
   clear HT
   obtain ⟨i, hi, rfl, HS⟩ := hrel
   by_cases hin : i < cl.length
   ·obtain ⟨b1, o1, x, rfl, hb1, hqx, hx1⟩ := Slc.at_ N_6.out hin
    obtain ⟨b2, o2, r, rfl, hb2, hqr, hx2⟩ := Slc.at_ Pp_6.out.1 (j := i) (by have := HRL.out; omega)
    have hst := b9s HO.out HR.out hqx hqr
    have hsr := fun j k => c2b (j := j) (k := k) HO.out hqx
    unfold Nmd.enc at hx1
    unfold zE at hx2
    simp only [Nat.mul_one] at hx2
    obtain ⟨ρ, hρ⟩ : ∃ ρ, ρ = x.rank := ⟨_, rfl⟩
    rw [<- hρ] at hx1 hst hsr
    have HSR := zh hsr
    have HX1 := zh hx1
    have hx2 : ∀ w', Below w6.heap.size w6 w' -> ∀ (j : Nat) (y : Value), [Value.int .i64 r][j]? = some y -> w'.cell? ⟨b2, o2 + i + j, none⟩ = some y := hx2
    have HX2 := zh hx2
    have e0 : (0 : Int) <= ((i : Nat) : Int) := by omega
    have e1 : ((i : Nat) : Int) < (cl.length : Int) := by omega
    have e2 : decide (((i : Nat) : Int) < (cl.length : Int)) = true := decide_eq_true e1
    have e5 : IntKind.i64.wrap ((i : Int) + 1) = ((i + 1 : Nat) : Int) := by have := LC.out; rw [IntWalk.i64_in _ (by omega)]; rfl
    have e6 : ((i : Nat) : Int) < (Rp.length : Int) := by have := HRL.out; omega
    clear hqx hqr hx1 hx2 hρ hsr
    by_cases hrr : r = ρ
    ·rw [hrr] at HX2
     clear hrr hst
     by_cases h1 : 1 < ρ
     ·have d1 : decide ((1 : Int) < ρ) = true := decide_eq_true h1
      clear h1 HSR
      go_wp2
      refine a0c 31 [.pointer (some ⟨w4.heap.size, 0, none⟩), .slice (some ⟨b2, o2, none⟩) Rp.length cp, .int .i64 (i : Nat), .pointer (some ⟨b2, o2 + i, none⟩), .int .i64 ρ, .slice (some ⟨b1, o1, none⟩) cl.length cn, .int .i64 (i : Nat), .pointer (some ⟨b1, o1 + i * 5, none⟩), .pointer (some ⟨b1, o1 + i * 5 + 1, none⟩), .int .i64 ρ, .bool false, .bool false, undef, undef, undef, undef, undef, undef, .bool false, .bool false, .pointer (some ⟨w4.heap.size, 0, none⟩), .slice (some ⟨b2, o2, none⟩) Rp.length cp, .int .i64 (i : Nat), .pointer (some ⟨b2, o2 + i, none⟩), .int .i64 ρ, .slice (some ⟨b1, o1, none⟩) cl.length cn, .int .i64 (i : Nat), .pointer (some ⟨b1, o1 + i * 5, none⟩), .pointer (some ⟨b1, o1 + i * 5 + 1, none⟩), .int .i64 ρ, .bool false] rfl (by kernel_rfl) (by kernel_rfl) (by kernel_rfl) ?_ ?_
      refine ⟨?_, ?_, ?_, ?_, ?_, ?_, ?_, ?_, ?_, ?_, ?_, ?_, ?_, ?_, ?_, ?_, ?_, ?_, ?_, ?_, ?_, ?_, ?_, ?_, ?_, ?_, ?_, ?_, ?_, ?_, ?_, trivial⟩ <;> (intro xx af wv hbx hev hev0 hd; have H := SH.mk hev hev0 hd; clear hev hev0 hd)
      ·have e7 := H.i 7; clear H; go_wp2; exact sQ rfl
      ·have e41 := H.r 0 41; clear H; have hs1 := zh (HS.out.call hbx); have y0 := HP7.out _ hs1.out.below 0 _ rfl; go_wp2; exact sQ rfl
      ·have e11 := H.i 11; clear H; go_wp2; exact sQ rfl
      ·have e42 := H.r 1 42; have e43 := H.r 2 43; clear H; go_wp2; exact sQ rfl
      ·have e44 := H.r 3 44; clear H; have hs1 := zh (HS.out.call hbx); have y0 := HX2.out _ hs1.out.below 0 _ rfl; rw [Nat.add_zero] at y0; go_wp2; exact sQ rfl
      ·have e5 := H.i 5; clear H; go_wp2; exact sQ rfl
      ·have e11 := H.i 11; clear H; go_wp2; exact sQ rfl
      ·have e46 := H.r 5 46; have e47 := H.r 6 47; clear H; go_wp2; exact sQ rfl
      ·have e48 := H.r 7 48; clear H; go_wp2; exact sQ rfl
      ·have e49 := H.r 8 49; clear H; have hs1 := zh (HS.out.call hbx); have y0 := HX1.out _ hs1.out.below 1 _ rfl; go_wp2; exact sQ rfl
      ·have e45 := H.r 4 45; have e50 := H.r 9 50; clear H; go_wp2; exact sQ rfl
      ·have e51 := H.r 10 51; clear H; go_wp2; exact sQ rfl
      ·have e52 := H.g 11 52; have q52 := a0a e52; clear H; go_wp2; exact sQ rfl
      ·have e52 := H.g 11 52; have q52 := a0a e52; clear H; go_wp2; exact sQ rfl
      ·have e52 := H.g 11 52; have q52 := a0a e52; clear H; go_wp2; exact sQ rfl
      ·have e52 := H.g 11 52; have q52 := a0a e52; clear H; go_wp2; exact sQ rfl
      ·have e52 := H.g 11 52; have q52 := a0a e52; clear H; go_wp2; exact sQ rfl
      ·have e52 := H.g 11 52; have q52 := a0a e52; clear H; go_wp2; exact sQ rfl
      ·have e52 := H.r 11 52; have e58 := H.r 17 58; clear H; go_wp2; exact sQ rfl
      ·have e59 := H.r 18 59; clear H; go_wp2; exact sQ rfl
      ·have e60 := H.g 19 60; have e7 := H.i 7; have q60 := a0a e60; clear H; go_wp2; exact sQ rfl
      ·have e60 := H.g 19 60; have e61 := H.r 20 61; have q60 := a0a e60; clear H; have hs1 := zh (HS.out.call hbx); have y0 := HP7.out _ hs1.out.below 0 _ rfl; go_wp2; exact sQ rfl
      ·have e60 := H.g 19 60; have e11 := H.i 11; have q60 := a0a e60; clear H; go_wp2; exact sQ rfl
      ·have e60 := H.g 19 60; have e62 := H.r 21 62; have e63 := H.r 22 63; have q60 := a0a e60; clear H; go_wp2; exact sQ rfl
      ·have e60 := H.g 19 60; have e64 := H.r 23 64; have q60 := a0a e60; clear H; have hs1 := zh (HS.out.call hbx); have y0 := HX2.out _ hs1.out.below 0 _ rfl; rw [Nat.add_zero] at y0; go_wp2; exact sQ rfl
      ·have e60 := H.g 19 60; have e5 := H.i 5; have q60 := a0a e60; clear H; go_wp2; exact sQ rfl
      ·have e60 := H.g 19 60; have e11 := H.i 11; have q60 := a0a e60; clear H; go_wp2; exact sQ rfl
      ·have e60 := H.g 19 60; have e66 := H.r 25 66; have e67 := H.r 26 67; have q60 := a0a e60; clear H; go_wp2; exact sQ rfl
      ·have e60 := H.g 19 60; have e68 := H.r 27 68; have q60 := a0a e60; clear H; go_wp2; exact sQ rfl
      ·have e60 := H.g 19 60; have e69 := H.r 28 69; have q60 := a0a e60; clear H; have hs1 := zh (HS.out.call hbx); have y0 := HX1.out _ hs1.out.below 1 _ rfl; go_wp2; exact sQ rfl
      ·have e60 := H.g 19 60; have e65 := H.r 24 65; have e70 := H.r 29 70; have q60 := a0a e60; clear H; go_wp2; exact sQ rfl
      intro xx w7 hb9 hv
      simp only [List.take, List.drop, a0g, Act.put]
      simp only [vQ hv 0, vQ hv 1, vQ hv 2, vQ hv 3, vQ hv 4, vQ hv 5, vQ hv 6, vQ hv 7, vQ hv 8, vQ hv 9, vQ hv 10, vQ hv 11, vQ hv 12, vQ hv 13, vQ hv 14, vQ hv 15, vQ hv 16, vQ hv 17, vQ hv 18, vQ hv 19, vQ hv 20, vQ hv 21, vQ hv 22, vQ hv 23, vQ hv 24, vQ hv 25, vQ hv 26, vQ hv 27, vQ hv 28, vQ hv 29, vQ hv 30]
      clear hv
      have HS7 := zh (HS.out.call hb9)
      clear hb9 HS
      have x1 := HX1.out _ HS7.out.below 1 _ rfl
      go_wp2
      go_roundw
      case rel => exact ⟨i + 1, by omega, by go_num, HS7.out⟩
      case measure => simp [intOf]; omega
     have d1 : decide ((1 : Int) < ρ) = false := decide_eq_false h1
     have HS1 := zh (fun j k => HSR.out j k (by omega))
     clear h1 HSR
     go_wp2
     refine a0c 31 [.pointer (some ⟨w4.heap.size, 0, none⟩), .slice (some ⟨b2, o2, none⟩) Rp.length cp, .int .i64 (i : Nat), .pointer (some ⟨b2, o2 + i, none⟩), .int .i64 ρ, .slice (some ⟨b1, o1, none⟩) cl.length cn, .int .i64 (i : Nat), .pointer (some ⟨b1, o1 + i * 5, none⟩), .pointer (some ⟨b1, o1 + i * 5 + 1, none⟩), .int .i64 ρ, .bool false, .bool false, undef, undef, undef, undef, undef, undef, .bool false, .bool false, .pointer (some ⟨w4.heap.size, 0, none⟩), .slice (some ⟨b2, o2, none⟩) Rp.length cp, .int .i64 (i : Nat), .pointer (some ⟨b2, o2 + i, none⟩), .int .i64 ρ, .slice (some ⟨b1, o1, none⟩) cl.length cn, .int .i64 (i : Nat), .pointer (some ⟨b1, o1 + i * 5, none⟩), .pointer (some ⟨b1, o1 + i * 5 + 1, none⟩), .int .i64 ρ, .bool false] rfl (by kernel_rfl) (by kernel_rfl) (by kernel_rfl) ?_ ?_
     refine ⟨?_, ?_, ?_, ?_, ?_, ?_, ?_, ?_, ?_, ?_, ?_, ?_, ?_, ?_, ?_, ?_, ?_, ?_, ?_, ?_, ?_, ?_, ?_, ?_, ?_, ?_, ?_, ?_, ?_, ?_, ?_, trivial⟩ <;> (intro xx af wv hbx hev hev0 hd; have H := SH.mk hev hev0 hd; clear hev hev0 hd)
     ·have e7 := H.i 7; clear H; go_wp2; exact sQ rfl
     ·have e41 := H.r 0 41; clear H; have hs1 := zh (HS.out.call hbx); have y0 := HP7.out _ hs1.out.below 0 _ rfl; go_wp2; exact sQ rfl
     ·have e11 := H.i 11; clear H; go_wp2; exact sQ rfl
     ·have e42 := H.r 1 42; have e43 := H.r 2 43; clear H; go_wp2; exact sQ rfl
     ·have e44 := H.r 3 44; clear H; have hs1 := zh (HS.out.call hbx); have y0 := HX2.out _ hs1.out.below 0 _ rfl; rw [Nat.add_zero] at y0; go_wp2; exact sQ rfl
     ·have e5 := H.i 5; clear H; go_wp2; exact sQ rfl
     ·have e11 := H.i 11; clear H; go_wp2; exact sQ rfl
     ·have e46 := H.r 5 46; have e47 := H.r 6 47; clear H; go_wp2; exact sQ rfl
     ·have e48 := H.r 7 48; clear H; go_wp2; exact sQ rfl
     ·have e49 := H.r 8 49; clear H; have hs1 := zh (HS.out.call hbx); have y0 := HX1.out _ hs1.out.below 1 _ rfl; go_wp2; exact sQ rfl
     ·have e45 := H.r 4 45; have e50 := H.r 9 50; clear H; go_wp2; exact sQ rfl
     ·have e51 := H.r 10 51; clear H; go_wp2; exact sQ rfl
     ·have e52 := H.g 11 52; have q52 := a0a e52; clear H; go_wp2; exact sQ rfl
     ·have e52 := H.g 11 52; have q52 := a0a e52; clear H; go_wp2; exact sQ rfl
     ·have e52 := H.g 11 52; have q52 := a0a e52; clear H; go_wp2; exact sQ rfl
     ·have e52 := H.g 11 52; have q52 := a0a e52; clear H; go_wp2; exact sQ rfl
     ·have e52 := H.g 11 52; have q52 := a0a e52; clear H; go_wp2; exact sQ rfl
     ·have e52 := H.g 11 52; have q52 := a0a e52; clear H; go_wp2; exact sQ rfl
     ·have e52 := H.r 11 52; have e58 := H.r 17 58; clear H; go_wp2; exact sQ rfl
     ·have e59 := H.r 18 59; clear H; go_wp2; exact sQ rfl
     ·have e60 := H.g 19 60; have e7 := H.i 7; have q60 := a0a e60; clear H; go_wp2; exact sQ rfl
     ·have e60 := H.g 19 60; have e61 := H.r 20 61; have q60 := a0a e60; clear H; have hs1 := zh (HS.out.call hbx); have y0 := HP7.out _ hs1.out.below 0 _ rfl; go_wp2; exact sQ rfl
     ·have e60 := H.g 19 60; have e11 := H.i 11; have q60 := a0a e60; clear H; go_wp2; exact sQ rfl
     ·have e60 := H.g 19 60; have e62 := H.r 21 62; have e63 := H.r 22 63; have q60 := a0a e60; clear H; go_wp2; exact sQ rfl
     ·have e60 := H.g 19 60; have e64 := H.r 23 64; have q60 := a0a e60; clear H; have hs1 := zh (HS.out.call hbx); have y0 := HX2.out _ hs1.out.below 0 _ rfl; rw [Nat.add_zero] at y0; go_wp2; exact sQ rfl
     ·have e60 := H.g 19 60; have e5 := H.i 5; have q60 := a0a e60; clear H; go_wp2; exact sQ rfl
     ·have e60 := H.g 19 60; have e11 := H.i 11; have q60 := a0a e60; clear H; go_wp2; exact sQ rfl
     ·have e60 := H.g 19 60; have e66 := H.r 25 66; have e67 := H.r 26 67; have q60 := a0a e60; clear H; go_wp2; exact sQ rfl
     ·have e60 := H.g 19 60; have e68 := H.r 27 68; have q60 := a0a e60; clear H; go_wp2; exact sQ rfl
     ·have e60 := H.g 19 60; have e69 := H.r 28 69; have q60 := a0a e60; clear H; have hs1 := zh (HS.out.call hbx); have y0 := HX1.out _ hs1.out.below 1 _ rfl; go_wp2; exact sQ rfl
     ·have e60 := H.g 19 60; have e65 := H.r 24 65; have e70 := H.r 29 70; have q60 := a0a e60; clear H; go_wp2; exact sQ rfl
     intro xx w7 hb9 hv
     simp only [List.take, List.drop, a0g, Act.put]
     simp only [vQ hv 0, vQ hv 1, vQ hv 2, vQ hv 3, vQ hv 4, vQ hv 5, vQ hv 6, vQ hv 7, vQ hv 8, vQ hv 9, vQ hv 10, vQ hv 11, vQ hv 12, vQ hv 13, vQ hv 14, vQ hv 15, vQ hv 16, vQ hv 17, vQ hv 18, vQ hv 19, vQ hv 20, vQ hv 21, vQ hv 22, vQ hv 23, vQ hv 24, vQ hv 25, vQ hv 26, vQ hv 27, vQ hv 28, vQ hv 29, vQ hv 30]
     clear hv
     have HS7 := zh (HS.out.call hb9)
     clear hb9 HS
     have x1 := HX1.out _ HS7.out.below 1 _ rfl
     go_wp2
     clear x1
     refine a0c 10 [.pointer (some ⟨w4.heap.size, 0, none⟩), .slice (some ⟨b2, o2, none⟩) Rp.length cp, .int .i64 (i : Nat), .pointer (some ⟨b2, o2 + i, none⟩), .int .i64 ρ, .slice (some ⟨b1, o1, none⟩) cl.length cn, .int .i64 (i : Nat), .pointer (some ⟨b1, o1 + i * 5, none⟩), .pointer (some ⟨b1, o1 + i * 5 + 1, none⟩), .int .i64 ρ] rfl (by kernel_rfl) (by kernel_rfl) (by kernel_rfl) ?_ ?_
     refine ⟨?_, ?_, ?_, ?_, ?_, ?_, ?_, ?_, ?_, ?_, trivial⟩ <;> (intro xx af wv hbx hev hev0 hd; have H := SH.mk hev hev0 hd; clear hev hev0 hd)
     ·have e7 := H.i 7; clear H; go_wp2; exact sQ rfl
     ·have e79 := H.r 0 79; clear H; have hs1 := zh (HS7.out.call hbx); have y0 := HP7.out _ hs1.out.below 0 _ rfl; go_wp2; exact sQ rfl
     ·have e11 := H.i 11; clear H; go_wp2; exact sQ rfl
     ·have e80 := H.r 1 80; have e81 := H.r 2 81; clear H; go_wp2; exact sQ rfl
     ·have e82 := H.r 3 82; clear H; have hs1 := zh (HS7.out.call hbx); have y0 := HX2.out _ hs1.out.below 0 _ rfl; rw [Nat.add_zero] at y0; go_wp2; exact sQ rfl
     ·have e5 := H.i 5; clear H; go_wp2; exact sQ rfl
     ·have e11 := H.i 11; clear H; go_wp2; exact sQ rfl
     ·have e84 := H.r 5 84; have e85 := H.r 6 85; clear H; go_wp2; exact sQ rfl
     ·have e86 := H.r 7 86; clear H; go_wp2; exact sQ rfl
     ·have e87 := H.r 8 87; clear H; have hs1 := zh (HS7.out.call hbx); have y0 := HX1.out _ hs1.out.below 1 _ rfl; go_wp2; exact sQ rfl
     intro xx w8 hb9 hv
     simp only [List.take, List.drop, a0g, Act.put]
     simp only [vQ hv 0, vQ hv 1, vQ hv 2, vQ hv 3, vQ hv 4, vQ hv 5, vQ hv 6, vQ hv 7, vQ hv 8, vQ hv 9]
     clear hv
     have HS8 := zh (HS7.out.call hb9)
     clear hb9 HS7
     go_wp2
     go_loopw [92] (fun j_ wr => ∃ j : Nat, j <= cl.length /\ j_ = .int .i64 j /\ Hid (St w6 [] wr)) (fun j_ _ => cl.length - (intOf j_).toNat)
     case atStart => exact ⟨0, Nat.zero_le _, rfl, HS8.out⟩
     case round =>
      clear HS8
      obtain ⟨j, hj, rfl, HV⟩ := hrel
      by_cases hjn : j < cl.length
      ·obtain ⟨b0, o0, gr, rfl, hb0, hgr, h1, h2⟩ := M_6.out.at_ hjn
       have HX := zh (a2n h1)
       have hmf : M j i = false := by cases hm : M j i with | false => rfl | true => exact absurd ((HMR.out j i hjn hin).1 hm) (HS1.out j _)
       have hy := a2n (fun w' hw => h2 w' hw i hin)
       rw [hmf] at hy
       have HY := zh hy
       clear h1 h2 hy hmf
       have g0 : (0 : Int) <= ((j : Nat) : Int) := by omega
       have g1 : ((j : Nat) : Int) < (cl.length : Int) := by omega
       have g2 : decide (((j : Nat) : Int) < (cl.length : Int)) = true := decide_eq_true g1
       have g5 : IntKind.i64.wrap ((j : Int) + 1) = ((j + 1 : Nat) : Int) := by have := LC.out; rw [IntWalk.i64_in _ (by omega)]; rfl
       have x2 := HX.out _ HV.out.below 0 _ rfl
       rw [Nat.add_zero] at x2
       have x3 := HY.out _ HV.out.below 0 _ rfl
       rw [Nat.add_zero] at x3
       go_wp2
       go_roundw
       case rel => exact ⟨j + 1, by omega, by go_num, HV.out⟩
       case measure => simp [intOf]; omega
      have hje : j = cl.length := by omega
      rw [hje]
      have g2 : decide (((cl.length : Nat) : Int) < (cl.length : Int)) = false := decide_eq_false (by omega)
      clear hje hj hjn
      go_wp2
      go_roundw
      case rel => exact ⟨i + 1, by omega, by go_num, HV.out⟩
      case measure => simp [intOf]; omega
    obtain ⟨h4, h5, h6⟩ := hst
    have hr4 : r = 4 := by omega
    have h1 : 1 < ρ := by omega
    have hne : (4 : Int) ≠ ρ := by omega
    rw [hr4] at HX2
    have d1 : decide ((1 : Int) < ρ) = true := decide_eq_true h1
    have d2 : ((4 : Int) != ρ) = true := bne_iff_ne.2 hne
    have d3 : decide ((4 : Int) < ρ) = false := decide_eq_false (by omega)
    clear h1 hne hr4 h4 h5 h6 hrr HSR
    go_wp2
    refine a0c 31 [.pointer (some ⟨w4.heap.size, 0, none⟩), .slice (some ⟨b2, o2, none⟩) Rp.length cp, .int .i64 (i : Nat), .pointer (some ⟨b2, o2 + i, none⟩), .int .i64 4, .slice (some ⟨b1, o1, none⟩) cl.length cn, .int .i64 (i : Nat), .pointer (some ⟨b1, o1 + i * 5, none⟩), .pointer (some ⟨b1, o1 + i * 5 + 1, none⟩), .int .i64 ρ, .bool true, .bool true, .pointer (some ⟨w4.heap.size, 0, none⟩), .slice (some ⟨b2, o2, none⟩) Rp.length cp, .int .i64 (i : Nat), .pointer (some ⟨b2, o2 + i, none⟩), .int .i64 4, .bool false, .bool false, .bool false, .pointer (some ⟨w4.heap.size, 0, none⟩), .slice (some ⟨b2, o2, none⟩) Rp.length cp, .int .i64 (i : Nat), .pointer (some ⟨b2, o2 + i, none⟩), .int .i64 4, .slice (some ⟨b1, o1, none⟩) cl.length cn, .int .i64 (i : Nat), .pointer (some ⟨b1, o1 + i * 5, none⟩), .pointer (some ⟨b1, o1 + i * 5 + 1, none⟩), .int .i64 ρ, .bool false] rfl (by kernel_rfl) (by kernel_rfl) (by kernel_rfl) ?_ ?_
    refine ⟨?_, ?_, ?_, ?_, ?_, ?_, ?_, ?_, ?_, ?_, ?_, ?_, ?_, ?_, ?_, ?_, ?_, ?_, ?_, ?_, ?_, ?_, ?_, ?_, ?_, ?_, ?_, ?_, ?_, ?_, ?_, trivial⟩ <;> (intro xx af wv hbx hev hev0 hd; have H := SH.mk hev hev0 hd; clear hev hev0 hd)
    ·have e7 := H.i 7; clear H; go_wp2; exact sQ rfl
    ·have e41 := H.r 0 41; clear H; have hs1 := zh (HS.out.call hbx); have y0 := HP7.out _ hs1.out.below 0 _ rfl; go_wp2; exact sQ rfl
    ·have e11 := H.i 11; clear H; go_wp2; exact sQ rfl
    ·have e42 := H.r 1 42; have e43 := H.r 2 43; clear H; go_wp2; exact sQ rfl
    ·have e44 := H.r 3 44; clear H; have hs1 := zh (HS.out.call hbx); have y0 := HX2.out _ hs1.out.below 0 _ rfl; rw [Nat.add_zero] at y0; go_wp2; exact sQ rfl
    ·have e5 := H.i 5; clear H; go_wp2; exact sQ rfl
    ·have e11 := H.i 11; clear H; go_wp2; exact sQ rfl
    ·have e46 := H.r 5 46; have e47 := H.r 6 47; clear H; go_wp2; exact sQ rfl
    ·have e48 := H.r 7 48; clear H; go_wp2; exact sQ rfl
    ·have e49 := H.r 8 49; clear H; have hs1 := zh (HS.out.call hbx); have y0 := HX1.out _ hs1.out.below 1 _ rfl; go_wp2; exact sQ rfl
    ·have e45 := H.r 4 45; have e50 := H.r 9 50; clear H; go_wp2; exact sQ rfl
    ·have e51 := H.r 10 51; clear H; go_wp2; exact sQ rfl
    ·have e52 := H.g 11 52; have e7 := H.i 7; have q52 := a0a e52; clear H; go_wp2; exact sQ rfl
    ·have e52 := H.g 11 52; have e53 := H.r 12 53; have q52 := a0a e52; clear H; have hs1 := zh (HS.out.call hbx); have y0 := HP7.out _ hs1.out.below 0 _ rfl; go_wp2; exact sQ rfl
    ·have e52 := H.g 11 52; have e11 := H.i 11; have q52 := a0a e52; clear H; go_wp2; exact sQ rfl
    ·have e52 := H.g 11 52; have e54 := H.r 13 54; have e55 := H.r 14 55; have q52 := a0a e52; clear H; go_wp2; exact sQ rfl
    ·have e52 := H.g 11 52; have e56 := H.r 15 56; have q52 := a0a e52; clear H; have hs1 := zh (HS.out.call hbx); have y0 := HX2.out _ hs1.out.below 0 _ rfl; rw [Nat.add_zero] at y0; go_wp2; exact sQ rfl
    ·have e52 := H.g 11 52; have e57 := H.r 16 57; have q52 := a0a e52; clear H; go_wp2; exact sQ rfl
    ·have e52 := H.r 11 52; have e58 := H.r 17 58; clear H; go_wp2; exact sQ rfl
    ·have e59 := H.r 18 59; clear H; go_wp2; exact sQ rfl
    ·have e60 := H.g 19 60; have e7 := H.i 7; have q60 := a0a e60; clear H; go_wp2; exact sQ rfl
    ·have e60 := H.g 19 60; have e61 := H.r 20 61; have q60 := a0a e60; clear H; have hs1 := zh (HS.out.call hbx); have y0 := HP7.out _ hs1.out.below 0 _ rfl; go_wp2; exact sQ rfl
    ·have e60 := H.g 19 60; have e11 := H.i 11; have q60 := a0a e60; clear H; go_wp2; exact sQ rfl
    ·have e60 := H.g 19 60; have e62 := H.r 21 62; have e63 := H.r 22 63; have q60 := a0a e60; clear H; go_wp2; exact sQ rfl
    ·have e60 := H.g 19 60; have e64 := H.r 23 64; have q60 := a0a e60; clear H; have hs1 := zh (HS.out.call hbx); have y0 := HX2.out _ hs1.out.below 0 _ rfl; rw [Nat.add_zero] at y0; go_wp2; exact sQ rfl
    ·have e60 := H.g 19 60; have e5 := H.i 5; have q60 := a0a e60; clear H; go_wp2; exact sQ rfl
    ·have e60 := H.g 19 60; have e11 := H.i 11; have q60 := a0a e60; clear H; go_wp2; exact sQ rfl
    ·have e60 := H.g 19 60; have e66 := H.r 25 66; have e67 := H.r 26 67; have q60 := a0a e60; clear H; go_wp2; exact sQ rfl
    ·have e60 := H.g 19 60; have e68 := H.r 27 68; have q60 := a0a e60; clear H; go_wp2; exact sQ rfl
    ·have e60 := H.g 19 60; have e69 := H.r 28 69; have q60 := a0a e60; clear H; have hs1 := zh (HS.out.call hbx); have y0 := HX1.out _ hs1.out.below 1 _ rfl; go_wp2; exact sQ rfl
    ·have e60 := H.g 19 60; have e65 := H.r 24 65; have e70 := H.r 29 70; have q60 := a0a e60; clear H; go_wp2; exact sQ rfl
    intro xx w7 hb9 hv
    simp only [List.take, List.drop, a0g, Act.put]
    simp only [vQ hv 0, vQ hv 1, vQ hv 2, vQ hv 3, vQ hv 4, vQ hv 5, vQ hv 6, vQ hv 7, vQ hv 8, vQ hv 9, vQ hv 10, vQ hv 11, vQ hv 12, vQ hv 13, vQ hv 14, vQ hv 15, vQ hv 16, vQ hv 17, vQ hv 18, vQ hv 19, vQ hv 20, vQ hv 21, vQ hv 22, vQ hv 23, vQ hv 24, vQ hv 25, vQ hv 26, vQ hv 27, vQ hv 28, vQ hv 29, vQ hv 30]
    clear hv
    have HS7 := zh (HS.out.call hb9)
    clear hb9 HS
    have x1 := HX1.out _ HS7.out.below 1 _ rfl
    go_wp2
    go_roundw
    case rel => exact ⟨i + 1, by omega, by go_num, HS7.out⟩
    case measure => simp [intOf]; omega
   have hie : i = cl.length := by omega
   rw [hie]
   have e2 : decide (((cl.length : Nat) : Int) < (cl.length : Int)) = false := decide_eq_false (by omega)
   clear hie hi hin
   go_wp2_with fail
   refine cL (DA.out _) HS fun w7 HS7 => ?_
   clear HS
   go_wp2
   go_ret
   exact ⟨rfl, HB0.out.trans (HS7.out.below.mono HB0.out.size)⟩
 go_wp2_with fail
 have HS5 := aL HS4 #[.slice Ap Rp.length cp, .slice Bp Gp.length dp] 29 w4.heap.size
 refine (DA.out _).mono ?_
 rintro e w6 ⟨rfl, hb6⟩
 have HS6 := zh (HS5.out.call hb6)
 have N_6 := zh (N_4.out.below (Ext.trans (Ext.alloc (Below.refl w4.heap.size w4) (Obj.cells #[.slice Ap Rp.length cp, .slice Bp Gp.length dp] 29)) hb6))
 clear N_4
 have L_6 := zh (L_4.out.below (Ext.trans (Ext.alloc (Below.refl w4.heap.size w4) (Obj.cells #[.slice Ap Rp.length cp, .slice Bp Gp.length dp] 29)) hb6))
 clear L_4
 have Pp_6 := zh (Pp_4.out.below (Ext.trans (Ext.alloc (Below.refl w4.heap.size w4) (Obj.cells #[.slice Ap Rp.length cp, .slice Bp Gp.length dp] 29)) hb6))
 clear Pp_4 hb6 HS4 HS5
 go_wp2
 go_ret
 exact ⟨rfl, HS6.out.below⟩
end Go.Proofs.YtgdhpghfojccaaaGreatDoor
