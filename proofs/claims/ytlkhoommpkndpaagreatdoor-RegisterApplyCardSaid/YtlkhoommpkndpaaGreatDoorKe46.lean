/-
Part 46 of the base.
-/
import Derived.Test.YtlkhoommpkndpaaGreatDoorKe45
set_option maxRecDepth 100000
set_option maxHeartbeats 8000000
namespace Go.Proofs.YtlkhoommpkndpaaGreatDoor
open Go.RowKit
theorem b2x (n0 n1 : Int) (v : Value) (acts : List ActN) (v2 : Value) (ts : List Tri) (w : World) (h0 : 0 <= n0 /\ n0 <= 255) (h1 : 0 <= n1 /\ n1 <= 255) (hA : ActsL w v acts) (hok : ∀ a ∈ acts, a.ok) (hT : Tris w v2 ts) (htok : ∀ t ∈ ts, t.ok) :
  Calls Tryz.prog 6 #[.int .u8 n0, .int .u8 n1, v, v2] w fun e w' => e = .returned (.bool true) /\ Below w.heap.size w w' := by
 obtain ⟨cut, rfl⟩ : ∃ k : Nat, n0 = k := ⟨n0.toNat, by omega⟩
 obtain ⟨bar, rfl⟩ : ∃ k : Nat, n1 = k := ⟨n1.toNat, by omega⟩
 have hW := fun W => c4f W
 have lo := c3q htok
 have ok := c7h htok
 have hQ := fun W (hb : Below w.heap.size w W) => c2d v2 ts W (hT.below hb) htok
 have hN := fun W => b3e ((cut % 60 : Nat) : Int) ((bar % 90 : Nat) : Int) W
 have hn0 : newR ((cut % 60 : Nat) : Int) ((bar % 90 : Nat) : Int) = (⟨(cut % 60 : Nat), (bar % 90 : Nat), 0, []⟩, 0) := by
  unfold newR
  rw [if_neg]
  have h1 : dayB ((cut % 60 : Nat) : Int) = true := by unfold dayB; rw [decide_eq_true (show (0 : Int) <= ((cut % 60 : Nat) : Int) by omega), decide_eq_true (show ((cut % 60 : Nat) : Int) <= 1048576 by omega)]; rfl
  have h2 : dayB ((bar % 90 : Nat) : Int) = true := by unfold dayB; rw [decide_eq_true (show (0 : Int) <= ((bar % 90 : Nat) : Int) by omega), decide_eq_true (show ((bar % 90 : Nat) : Int) <= 1048576 by omega)]; rfl
  rw [h1, h2]
  simp
 have hg0 := new_good ((cut % 60 : Nat) : Int) ((bar % 90 : Nat) : Int)
 rw [hn0] at hN hg0
 dsimp only at hN hg0
 have hE := fun (a : ActN) (ha : a.ok) d W => c4e a d W ha
 have hM := fun (a : ActN) (ha : a.ok) d => evOf_mid ha d
 have hAp := fun (r : Rgs) (e : Evt) (hr : r.good) (hl : r.es.length <= 1000) (he : e.mid) (sl q : Value) W (hs : a6x W sl r.es) (hq : a3h W q (a6q ts)) => c8a (v := sl) (qv := q) hr hl he ok lo W hs hq
 have hRp := fun (r : Rgs) (e : Evt) (hr : r.good) (hl : r.es.length <= 1000) (he : e.mid) (sl q : Value) W (hs : a6x W sl r.es) (hq : a3h W q (a6q ts)) => b6z (v := sl) (qv := q) hr hl he ok lo W hs hq
 have hGd := fun (r : Rgs) (e : Evt) (hr : r.good) (he : e.mid) (h : (a0q r e (a6q ts)).2 = 0) => c7y hr he lo h
 have hMy := fun (r : Rgs) (e : Evt) (hr : r.good) (he : e.mid) => c3b (e := e) hr.2 he lo
 have hLn := fun (r : Rgs) (e : Evt) => @d0y r e (a6q ts)
 have hSm := fun (r : Rgs) (e : Evt) (h : (a0q r e (a6q ts)).2 = 0) => c7x h
 have hDy := fun (r : Rgs) (e : Evt) (h : (a0q r e (a6q ts)).2 = 0) => a5a (a5t h).1.2.1
 generalize a6q ts = qs at *
 rw [Int.natCast_emod, Int.natCast_emod] at hN hg0
 have t1 : Int.tmod (cut : Int) 60 = (cut : Int) % 60 := Int.tmod_eq_emod_of_nonneg (by omega)
 have t2 : Int.tmod (bar : Int) 90 = (bar : Int) % 90 := Int.tmod_eq_emod_of_nonneg (by omega)
 have u1 : IntKind.u8.wrap ((cut : Int) % 60) = (cut : Int) % 60 := by rw [IntKind.wrap_u8]; omega
 have u2 : IntKind.u8.wrap ((bar : Int) % 90) = (bar : Int) % 90 := by rw [IntKind.wrap_u8]; omega
 have i1 : IntKind.i64.wrap ((cut : Int) % 60) = (cut : Int) % 60 := IntWalk.i64_in _ (by omega)
 have i2 : IntKind.i64.wrap ((bar : Int) % 90) = (bar : Int) % 90 := IntWalk.i64_in _ (by omega)
 have H := zh hA
 have HOK := zh hok
 obtain ⟨AA, cA, rfl, hl, hcc⟩ := hA.slice
 have HWx := zh hW
 have HQx := zh hQ
 have HNx := zh hN
 have HG0x := zh hg0
 have HEx := zh hE
 have HMx := zh hM
 have HAPx := zh hAp
 have HRPx := zh hRp
 have HGDx := zh hGd
 have HMYx := zh hMy
 have HLNx := zh hLn
 have HSMx := zh hSm
 have HDYx := zh hDy
 clear hn0 hA hok hT htok lo ok hl hcc h0 h1 hW hQ hN hg0 hE hM hAp hRp hGd hMy hLn hSm hDy
 go_enter Tryz.func6, Tryz.ntmps6
 have HS := zh (St.start w)
 go_wp2_with fail
 refine (HQx.out _ HS.out.below).mono ?_
 rintro e w2 ⟨v2, rfl, hl2, hb2⟩
 have HS2 := zh (HS.out.call hb2)
 have Z_2 := zh hl2
 clear hl2 hb2 HS
 have HB0 := zh HS2.out.below
 clear HS2
 have HT2 := zh (St.start w2)
 have HZ := Z_2.out
 have HZ := zh HZ
 clear Z_2
 go_wp2_with fail
 refine (HNx.out _).mono ?_
 rintro e w3 ⟨rfl, hb3⟩
 have HT3 := zh (HT2.out.call hb3)
 clear hb3 HT2
 go_wp2
 have HA2 := zh (H.out.below HB0.out)
 clear H
 go_loopw [12, 13] (fun d i wr => ∃ (k : Nat) (s : Rgs) (A : Option Addr) (c : Nat), k <= acts.length /\ k <= 40 /\ i = .int .i64 k /\ d = .int .i64 s.day /\ Hid (s.good /\ s.es.length <= k /\ 0 <= s.day /\ s.day <= 1048576) /\ Hid (Grows wr w2.heap.size 63 30 (.slice A s.es.length c) s.es.length (flat Ent.enc s.es)) /\ Hid (St w2 [⟨w3.heap.size, #[.int .i64 s.cut, .int .i64 s.bar, .int .i64 s.day, .slice A s.es.length c], 24⟩] wr)) (fun _ i _ => acts.length - (intOf i).toNat)
 case atStart => exact ⟨0, ⟨(cut : Int) % 60, (bar : Int) % 90, 0, []⟩, none, 0, Nat.zero_le _, Nat.zero_le _, rfl, rfl, zh ⟨HG0x.out, Nat.le_refl _, Int.le_refl _, show (0 : Int) <= 1048576 by decide⟩, ⟨rfl, .inl ⟨rfl, rfl⟩⟩, (St.alloc (HT3.out) #[.int .i64 ((cut : Int) % 60), .int .i64 ((bar : Int) % 90), .int .i64 0, .slice none 0 0] 24 (w3.heap.size) (by simp))⟩
 case round =>
  obtain ⟨k, s, A, c, hk, hk4, rfl, rfl, HGD, HG, HS⟩ := hrel
  by_cases hlt : k < acts.length
  ·by_cases hlt4 : k < 40
   ·obtain ⟨b, o, a, rfl, hbb, hq, hx⟩ := HA2.out.at_ hlt
    have hao := HOK.out a (List.mem_of_getElem? hq)
    obtain ⟨g1, g2, g3, g4⟩ := HGD.out
    obtain ⟨d, hd⟩ : ∃ d, d = s.day + ((a.pass : Int) % 4 - (a.pass : Int) / 64) := ⟨_, rfl⟩
    have hpa : (a.pass : Int) <= 255 := by have := hao.1.2.1; omega
    have hEv := fun W => HEx.out a hao d W
    have hmd := HMx.out a hao d
    have hed : (evOf a d).day = d := rfl
    generalize evOf a d = e at *
    change ∀ W, Calls Tryz.prog _ _ W (fun q w' => q = .returned (.agg #[.int .i64 e.kind, .int .i64 e.day, .string (bs e.id), .bool e.am.n, .string (bs e.am.a), .string (bs e.am.b), .int .i64 e.cre, .string (bs e.p.id), .int .i64 e.p.est, .int .i64 e.p.cre, .string (bs e.p.code), .bool e.p.an, .string (bs e.p.aa), .string (bs e.p.ab), .int .i64 e.p.inc, .int .i64 e.p.rank, .bool e.p.rn, .string (bs e.p.ra), .string (bs e.p.rb), .int .i64 e.p.rf, .int .i64 e.p.sec]) /\ _) at hEv
    have hap := fun sl q W hs hq => HAPx.out s e g1 (by omega) hmd sl q W hs hq
    have hrp := fun sl q W hs hq => HRPx.out s e g1 (by omega) hmd sl q W hs hq
    have hgd := fun h => HGDx.out s e g1 hmd h
    have hmy := HMYx.out s e g1 hmd
    have hln := HLNx.out s e
    have hsm := fun h => HSMx.out s e h
    have hdy := fun h => HDYx.out s e h
    generalize a0q s e qs = ans at *
    have hsr := fun s1 s2 W h1 h2 => b2n ans.1.cut ans.1.bar ans.1.day s1 s2 ans.1.es W h1 h2 (fun x hx => (hmy x hx).1)
    have HX := zh hx
    have HEV := zh hEv
    have HAP := zh hap
    have HRP := zh hrp
    have HSR := zh hsr
    have HNX := zh (fun h : ans.2 = 0 => show ans.1.day = d /\ ans.1.good /\ ans.1.es.length <= k + 1 /\ 0 <= ans.1.day /\ ans.1.day <= 1048576 from by
     obtain ⟨_, _, q3⟩ := hsm h
     have q4 := hdy h
     rw [<- q3] at q4
     exact ⟨q3.trans hed, hgd h, by omega, q4.1, q4.2⟩)
    have i3 : IntKind.i64.wrap ((a.pass : Int) % 4) = (a.pass : Int) % 4 := IntWalk.i64_in _ (by omega)
    have t3 : Int.tmod (a.pass : Int) 4 = (a.pass : Int) % 4 := Int.tmod_eq_emod_of_nonneg (by omega)
    have u3 : IntKind.u8.wrap ((a.pass : Int) % 4) = (a.pass : Int) % 4 := by rw [IntKind.wrap_u8]; omega
    have i5 : IntKind.i64.wrap ((a.pass : Int) / 64) = (a.pass : Int) / 64 := IntWalk.i64_in _ (by omega)
    have t5 : Int.tdiv (a.pass : Int) 64 = (a.pass : Int) / 64 := Int.tdiv_eq_ediv_of_nonneg (by omega)
    have u5 : IntKind.u8.wrap ((a.pass : Int) / 64) = (a.pass : Int) / 64 := by rw [IntKind.wrap_u8]; omega
    have i6 : IntKind.i64.wrap ((a.pass : Int) % 4 - (a.pass : Int) / 64) = (a.pass : Int) % 4 - (a.pass : Int) / 64 := IntWalk.i64_in _ (by omega)
    have i4 : IntKind.i64.wrap (s.day + ((a.pass : Int) % 4 - (a.pass : Int) / 64)) = d := by rw [<- hd]; exact IntWalk.i64_in _ (by omega)
    have e0 : (0 : Int) <= ((k : Nat) : Int) := by omega
    have e1 : ((k : Nat) : Int) < (acts.length : Int) := by omega
    have e2 : decide (((k : Nat) : Int) < (acts.length : Int)) = true := decide_eq_true e1
    have e3 : decide (((k : Nat) : Int) < 40) = true := decide_eq_true (by omega)
    have q1 : (ans.2 != ans.2) = false := by simp
    have HGE := zh (show s.good /\ s.es.length <= k + 1 /\ 0 <= s.day /\ s.day <= 1048576 from ⟨g1, by omega, g3, g4⟩)
    clear hx hq hao g1 g2 g3 g4 hd hpa hEv hmd hed hap hrp hgd hmy hln hsm hdy hsr HGD
    have hb9 := HS.out.blk 0 rfl
    have HG10 := zh (fun w' (hb : Below wr.heap.size wr w') i u (hu : ([.int .i64 s.cut, .int .i64 s.bar, .int .i64 s.day, .slice A s.es.length c] : List Value)[i]? = some u) => (hb9.below hb hb9.lt).cell i u (by rw [<- Array.getElem?_toList]; exact hu))
    have lHG10 := hb9.lt
    clear hb9
    have HE1 := zh (Slc.of_own a1p HG.out rfl)
    have HZ1 := zh (HZ.out.below HS.out.below)
    have HT0 := zh (St.start wr)
    go_wp2
    refine a1t 17 [.int .i64 s.day, .slice (some ⟨b, o, none⟩) acts.length cA, .int .i64 (k : Nat), .pointer (some ⟨b, o + k * 10, none⟩), .pointer (some ⟨b, o + k * 10 + 1, none⟩), .int .u8 (a.pass : Nat), .int .u8 ((a.pass : Int) % 4), .int .i64 ((a.pass : Int) % 4), .slice (some ⟨b, o, none⟩) acts.length cA, .int .i64 (k : Nat), .pointer (some ⟨b, o + k * 10, none⟩), .pointer (some ⟨b, o + k * 10 + 1, none⟩), .int .u8 (a.pass : Nat), .int .u8 ((a.pass : Int) / 64), .int .i64 ((a.pass : Int) / 64), .int .i64 ((a.pass : Int) % 4 - (a.pass : Int) / 64), .int .i64 d] rfl (by kernel_rfl) (by kernel_rfl) (by kernel_rfl) ?_ ?_
    refine ⟨?_, ?_, ?_, ?_, ?_, ?_, ?_, ?_, ?_, ?_, ?_, ?_, ?_, ?_, ?_, ?_, ?_, trivial⟩ <;> (intro xx af wv hbx hev hev0 hd; have H := SH.mk hev hev0 hd; clear hev hev0 hd)
    ·have e12 := H.i 12; clear H; go_wp2; exact sQ rfl
    ·have e2 := H.i 2; clear H; go_wp2; exact sQ rfl
    ·have e13 := H.i 13; clear H; go_wp2; exact sQ rfl
    ·have e42 := H.r 1 42; have e43 := H.r 2 43; clear H; go_wp2; exact sQ rfl
    ·have e44 := H.r 3 44; clear H; go_wp2; exact sQ rfl
    ·have e45 := H.r 4 45; clear H; have hs1 := zh (HT0.out.call hbx); have y0 := (fun (W : World) (hb : Below wr.heap.size wr W) => HX.out W (Ext.trans HS.out.below hb)) _ hs1.out.below 1 _ rfl; go_wp2; exact sQ rfl
    ·have e46 := H.r 5 46; clear H; go_wp2; exact sQ rfl
    ·have e47 := H.r 6 47; clear H; go_wp2; exact sQ rfl
    ·have e2 := H.i 2; clear H; go_wp2; exact sQ rfl
    ·have e13 := H.i 13; clear H; go_wp2; exact sQ rfl
    ·have e49 := H.r 8 49; have e50 := H.r 9 50; clear H; go_wp2; exact sQ rfl
    ·have e51 := H.r 10 51; clear H; go_wp2; exact sQ rfl
    ·have e52 := H.r 11 52; clear H; have hs1 := zh (HT0.out.call hbx); have y0 := (fun (W : World) (hb : Below wr.heap.size wr W) => HX.out W (Ext.trans HS.out.below hb)) _ hs1.out.below 1 _ rfl; go_wp2; exact sQ rfl
    ·have e53 := H.r 12 53; clear H; go_wp2; exact sQ rfl
    ·have e54 := H.r 13 54; clear H; go_wp2; exact sQ rfl
    ·have e48 := H.r 7 48; have e55 := H.r 14 55; clear H; go_wp2; exact sQ rfl
    ·have e41 := H.r 0 41; have e56 := H.r 15 56; clear H; go_wp2; exact sQ rfl
    intro xx w4 hb9 hv
    simp only [List.take, List.drop, a0r, Act.put]
    simp only [vQ hv 0, vQ hv 1, vQ hv 2, vQ hv 3, vQ hv 4, vQ hv 5, vQ hv 6, vQ hv 7, vQ hv 8, vQ hv 9, vQ hv 10, vQ hv 11, vQ hv 12, vQ hv 13, vQ hv 14, vQ hv 15, vQ hv 16]
    clear hv
    have HT4 := zh (HT0.out.call hb9)
    clear hb9 HT0
    obtain ⟨x1, x2, x3⟩ := kE0 ((fun (W : World) (hb : Below wr.heap.size wr W) => HX.out W (Ext.trans HS.out.below hb)) _ HT4.out.below) rfl rfl rfl
    have x4 := (fun (W : World) (hb : Below wr.heap.size wr W) => HX.out W (Ext.trans HS.out.below hb)) _ HT4.out.below 3 _ rfl
    obtain ⟨x5, x6, x7⟩ := kE4 ((fun (W : World) (hb : Below wr.heap.size wr W) => HX.out W (Ext.trans HS.out.below hb)) _ HT4.out.below) rfl rfl rfl
    obtain ⟨x8, x9, x10⟩ := kE7 ((fun (W : World) (hb : Below wr.heap.size wr W) => HX.out W (Ext.trans HS.out.below hb)) _ HT4.out.below) rfl rfl rfl
    go_wp2_with fail
    refine (HEV.out _).mono ?_
    rintro e w5 ⟨rfl, hb5⟩
    have HT5 := zh (HT4.out.call hb5)
    clear hb5 HT4 x1 x2 x3 x4 x5 x6 x7 x8 x9 x10
    go_wp2_with (refine a0e rfl _ _ _ rfl (St.alloc (HT5.out) #[.int .i64 0, .int .i64 0, .string (bs []), .bool false, .string (bs []), .string (bs []), .int .i64 0, .string (bs []), .int .i64 0, .int .i64 0, .string (bs []), .bool false, .string (bs []), .string (bs []), .int .i64 0, .int .i64 0, .bool false, .string (bs []), .string (bs []), .int .i64 0, .int .i64 0] 56 (w5.heap.size) (by simp)) 0 rfl [.int .i64 e.kind, .int .i64 e.day, .string (bs e.id), .bool e.am.n, .string (bs e.am.a), .string (bs e.am.b), .int .i64 e.cre, .string (bs e.p.id), .int .i64 e.p.est, .int .i64 e.p.cre, .string (bs e.p.code), .bool e.p.an, .string (bs e.p.aa), .string (bs e.p.ab), .int .i64 e.p.inc, .int .i64 e.p.rank, .bool e.p.rn, .string (bs e.p.ra), .string (bs e.p.rb), .int .i64 e.p.rf, .int .i64 e.p.sec] rfl rfl rfl a2y rfl ?_)
    intro w6 hS6
    have HT6 : Hid (St wr [⟨w5.heap.size, (evC e.kind e.day e.id e.am e.cre e.p), 56⟩] w6) := zh hS6
    clear hS6 HT5
    have x11 := HG10.out _ HT6.out.below 0 _ rfl
    have x12 := HG10.out _ HT6.out.below 1 _ rfl
    have x13 := HG10.out _ HT6.out.below 2 _ rfl
    have x14 := HG10.out _ HT6.out.below 3 _ rfl
    go_wp2_with (refine wpList_load_mid rfl _ _ rfl (w5.heap.size) (0) rfl (evC e.kind e.day e.id e.am e.cre e.p).toList _ (St.whole HT6.out 0 rfl) Tryz.underlying56 rfl a2y ?_)
    refine (HAP.out _ _ _ (HE1.out.below HT6.out.below) (HZ1.out.below HT6.out.below)).mono ?_
    rintro e w7 ⟨v7, rfl, hG7, hb7⟩
    obtain ⟨A7, c7, hv7, _, _⟩ := (Slc.of_own a1p hG7 rfl).slice
    subst hv7
    have hN7 := Grows.base hG7 HT6.out.below.size
    have HT7 := zh (HT6.out.call hb7)
    have N_7 := zh hN7
    clear hN7 hb7 HT6 x11 x12 x13 x14
    have x15 : w3.heap.size < w7.heap.size := Nat.lt_of_lt_of_le lHG10 HT7.out.below.size
    have x16 : ¬ w3.heap.size = w7.heap.size := by omega
    have x17 := HG10.out _ HT7.out.below 0 _ rfl
    have x18 := HG10.out _ HT7.out.below 1 _ rfl
    have x19 := HG10.out _ HT7.out.below 2 _ rfl
    have x20 := HG10.out _ HT7.out.below 3 _ rfl
    go_wp2_with (refine wpList_load_mid rfl _ _ rfl (w5.heap.size) (0) rfl (evC e.kind e.day e.id e.am e.cre e.p).toList _ (St.whole (St.alloc (HT7.out) #[.int .i64 ans.1.cut, .int .i64 ans.1.bar, .int .i64 ans.1.day, .slice A7 ans.1.es.length c7] 24 (w7.heap.size) (by simp)) 1 rfl) Tryz.underlying56 rfl a2y ?_)
    have HT8 := aL HT7 #[.int .i64 ans.1.cut, .int .i64 ans.1.bar, .int .i64 ans.1.day, .slice A7 ans.1.es.length c7] 24 w7.heap.size
    refine (HRP.out _ _ _ (HE1.out.below HT8.out.below) (HZ1.out.below HT8.out.below)).mono ?_
    rintro e w9 ⟨v9, rfl, hG9, hb9⟩
    obtain ⟨A9, c9, hv9, _, _⟩ := (Slc.of_own a1p hG9 rfl).slice
    subst hv9
    have hN9 := Grows.base hG9 HT8.out.below.size
    have HT9 := zh (HT8.out.call hb9)
    have N_9 := zh ((N_7.out.below (Ext.alloc (Below.refl w7.heap.size w7) (Obj.cells #[.int .i64 ans.1.cut, .int .i64 ans.1.bar, .int .i64 ans.1.day, .slice A7 ans.1.es.length c7] 24))).below hb9)
    clear N_7
    have O_9 := zh hN9
    clear hN9 hb9 HT7 HT8 x15 x16 x17 x18 x19 x20
    obtain ⟨x21, x22, x23⟩ := HT9.out.k0 0 rfl rfl rfl rfl
    have x24 := cC HT9 0 3
    have x25 := HT9.out.lt 0 rfl
    have x26 : ¬ w7.heap.size = w9.heap.size := by omega
    have x27 : ¬ w9.heap.size = w7.heap.size := by omega
    go_wp2_with fail
    have HT10 := aL HT9 #[.int .i64 ans.1.cut, .int .i64 ans.1.bar, .int .i64 ans.1.day, .slice A9 ans.1.es.length c9] 24 w9.heap.size
    refine (HSR.out _ _ _ (Slc.of_own a1p (N_9.out.below (Ext.alloc (Below.refl w9.heap.size w9) (Obj.cells #[.int .i64 ans.1.cut, .int .i64 ans.1.bar, .int .i64 ans.1.day, .slice A9 ans.1.es.length c9] 24))) rfl) (Slc.of_own a1p (O_9.out.below (Ext.alloc (Below.refl w9.heap.size w9) (Obj.cells #[.int .i64 ans.1.cut, .int .i64 ans.1.bar, .int .i64 ans.1.day, .slice A9 ans.1.es.length c9] 24))) rfl)).mono ?_
    rintro e w11 ⟨rfl, hb11⟩
    have HT11 := zh (HT10.out.call hb11)
    have N_11 := zh ((N_9.out.below (Ext.alloc (Below.refl w9.heap.size w9) (Obj.cells #[.int .i64 ans.1.cut, .int .i64 ans.1.bar, .int .i64 ans.1.day, .slice A9 ans.1.es.length c9] 24))).below hb11)
    clear N_9
    have O_11 := zh ((O_9.out.below (Ext.alloc (Below.refl w9.heap.size w9) (Obj.cells #[.int .i64 ans.1.cut, .int .i64 ans.1.bar, .int .i64 ans.1.day, .slice A9 ans.1.es.length c9] 24))).below hb11)
    clear O_9 hb11 HT9 HT10 x21 x22 x23 x24 x25 x26 x27
    go_upto_if 88 with fail
    by_cases hn : ans.2 = 0
    ·have z1 : (ans.2 == 0) = true := by rw [hn]; rfl
     obtain ⟨hdn, hnx⟩ := HNX.out hn
     have HNY := zh hnx
     have HDN := zh hdn
     clear hnx hdn hn HGE HNX
     have hb9 := HT11.out.blk 1 rfl
     have HB15 := zh (fun w' (hb : Below w11.heap.size w11 w') i u (hu : ([.int .i64 ans.1.cut, .int .i64 ans.1.bar, .int .i64 ans.1.day, .slice A7 ans.1.es.length c7] : List Value)[i]? = some u) => (hb9.below hb hb9.lt).cell i u (by rw [<- Array.getElem?_toList]; exact hu))
     have lHB15 := hb9.lt
     clear hb9
     have HC15 := zh (fun (W : World) (_ : Below w2.heap.size w2 W) => HB15.out w11 (Below.refl _ _))
     have HSW := zh (HS.out.call HT11.out.below)
     have GN := zh (Grows.base N_11.out HS.out.below.size)
     clear HS HG HT11 N_11 O_11 HE1 HZ1 HG10 lHG10
     obtain ⟨x28, x29, x30⟩ := HSW.out.k0 0 rfl rfl rfl rfl
     have x31 := cC HSW 0 3
     obtain ⟨x32, x33, x34⟩ := HSW.out.f0 0 rfl
     have x35 := cF HSW 0 3
     have x36 := HC15.out _ HSW.out.below 0 _ rfl
     have x37 := HC15.out _ HSW.out.below 1 _ rfl
     have x38 := HC15.out _ HSW.out.below 2 _ rfl
     have x39 := HC15.out _ HSW.out.below 3 _ rfl
     go_wp2
     have HSW12 : Hid (St w2 [⟨w3.heap.size, #[.int .i64 ans.1.cut, .int .i64 ans.1.bar, .int .i64 ans.1.day, .slice A7 ans.1.es.length c7], 24⟩] _) := zh (St.set (St.set (St.set (St.set (HSW.out) 0 rfl 0 _) 0 rfl 1 _) 0 rfl 2 _) 0 rfl 3 _)
     go_roundw
     case rel => exact ⟨k + 1, ans.1, A7, c7, by omega, by omega, by go_num, by rw [HDN.out], HNY, (Grows.setCell (j := 3) (Grows.setCell (j := 2) (Grows.setCell (j := 1) (Grows.setCell (j := 0) GN.out (HSW.out.blk 0 rfl) (.int .i64 ans.1.cut)) ((St.set (HSW.out) 0 rfl 0 (.int .i64 ans.1.cut)).blk 0 rfl) (.int .i64 ans.1.bar)) ((St.set ((St.set (HSW.out) 0 rfl 0 (.int .i64 ans.1.cut))) 0 rfl 1 (.int .i64 ans.1.bar)).blk 0 rfl) (.int .i64 ans.1.day)) ((St.set ((St.set ((St.set (HSW.out) 0 rfl 0 (.int .i64 ans.1.cut))) 0 rfl 1 (.int .i64 ans.1.bar))) 0 rfl 2 (.int .i64 ans.1.day)).blk 0 rfl) (.slice A7 ans.1.es.length c7)), HSW12.out.sub (List.Sublist.refl _)⟩
     case measure => simp [intOf]; omega
    have z1 : (ans.2 == 0) = false := by rw [beq_eq_false_iff_ne]; exact hn
    clear hn HNX
    have HSW := zh (HS.out.call HT11.out.below)
    have GN := zh (Grows.below HG.out HT11.out.below)
    clear HS HG HT11 N_11 O_11 HE1 HZ1 HG10 lHG10
    have x28 := cC HSW 0 2
    go_wp2
    have HSW12 := zh HSW.out
    go_roundw
    case rel => exact ⟨k + 1, s, A, c, by omega, by omega, by go_num, rfl, HGE, GN.out, HSW12.out.sub (List.Sublist.refl _)⟩
    case measure => simp [intOf]; omega
   have e1 : decide (((k : Nat) : Int) < (acts.length : Int)) = true := decide_eq_true (by omega)
   have e2 : decide (((k : Nat) : Int) < 40) = false := decide_eq_false (by omega)
   have e4 : decide (k < 40) = false := decide_eq_false (by omega)
   clear HGD HG
   go_wp2_with fail
   refine cL (HWx.out _) HS fun w4 HS4 => ?_
   clear HS
   go_wp2
   go_ret
   have HS5 := zh HS4.out
   exact ⟨rfl, Ext.trans HB0.out HS5.out.below⟩
  have e2 : decide (((k : Nat) : Int) < (acts.length : Int)) = false := decide_eq_false (by omega)
  have e3 : decide (k < acts.length) = false := decide_eq_false (by omega)
  clear HGD HG
  go_wp2_with fail
  refine cL (HWx.out _) HS fun w4 HS4 => ?_
  clear HS
  go_wp2
  go_ret
  have HS5 := zh HS4.out
  exact ⟨rfl, Ext.trans HB0.out HS5.out.below⟩
end Go.Proofs.YtlkhoommpkndpaaGreatDoor
