/-
Part 39 of the base.
-/
import Derived.Test.YtbkbiokgfoomfaaGreatDoorRa38
namespace Go.Proofs.YtbkbiokgfoomfaaGreatDoor
open Go.RowKit

theorem c1u : decR false [] [] = 0 := by decide +kernel
theorem AppI.lim3 {w0 : World} {cl : List Nmd} {l : List Cls} {i i7 : Nat} {x : Cls} {C : CCo} (h : AppI w0 cl l i C) (hi : l[i]? = some x) (k3 : x.kind = 3) (hc : a0b cl x.name = some i7) (hs : C.Sl (i7 : Int) = false) :
  AppI w0 cl l (i + 1) { C with nl := C.nl + 1, Sl := putK C.Sl (i7 : Int), fl := putV C.fl (i7 : Int) (.agg #[.bool (enc3 x.am.val).n, .string (bs (enc3 x.am.val).a), .string (bs (enc3 x.am.val).b)]) } :=
 ⟨⟨h.full.has, h.full.val⟩, h.rk.skip hi (by omega), by rw [a4s hi (by omega)]; exact h.pr, by rw [a4s hi (by omega)]; exact h.bf, h.lim.put hi k3 hc hs, Nat.succ_le_succ h.nl, fun hc => h.circ ((b1c hi (by omega)).1 hc)⟩
theorem Lim.val {cl : List Nmd} {l : List Cls} {k i : Nat} {S : Int -> Bool} {f : Int -> Value} (h : Lim cl l k S f) (hs : S (i : Int) = true) : ∃ y : Raw3, f (i : Int) = .agg #[.bool y.n, .string (bs y.a), .string (bs y.b)] := by
 obtain ⟨i', j, x, h1, h2, h3, h4, h5⟩ := (h.1 _).1 hs
 obtain rfl : i = i' := by omega
 exact ⟨_, h.2 i j x h2 h3 h4 h5⟩
theorem c1a {n : Nat} (h : n <= 1000000) : (Lit.int .i64 (n : Int)).wf = true := by
 have h1 : IntKind.i64.min = -9223372036854775808 := by decide
 have h2 : IntKind.i64.max = 9223372036854775807 := by decide
 show (decide (IntKind.i64.min <= (n : Int)) && decide ((n : Int) <= IntKind.i64.max)) = true
 rw [h1, h2, Bool.and_eq_true, decide_eq_true_eq, decide_eq_true_eq]
 omega

set_option maxRecDepth 100000 in
set_option maxHeartbeats 4000000 in
theorem b0z {w0 : World} {cl : List Nmd} {l : List Cls} {A : CAd} {C : CCo} (i : Nat) (x : Cls) (u : Value) (w : World) (h : Cst w0 cl l A C w) (hI : AppI w0 cl l i C) (hi : l[i]? = some x) (hu : a6d w0 u x.list) (hcl : cl.length <= 1000) (k3 : x.kind = 3) (hs : x.name.length <= maxLen) (hne : ∃ k, a0b cl x.name = some k) (hfit : x.am.a.length <= 17179869184 /\ x.am.b.length <= 17179869184) (hl : i <= 1000000) :
  Calls Tryz.prog 38 #[.pointer (some ⟨A.g, 0, none⟩), .agg #[.int .i64 3, .string (bs x.name), .string (bs x.other), u, .bool x.am.n, .string (bs x.am.a), .string (bs x.am.b), .int .i64 x.at_]] w (AppR w0 cl l A i x) := by
 obtain ⟨i7, h7⟩ := hne
 have dS := fun W => a7h x.am.n x.am.a x.am.b W (by omega) (by omega)
 change ∀ W, Calls Tryz.prog _ _ W (fun e w' => e = .returned (.int .i64 (sgn x.am.val.num)) /\ _) at dS
 have dA := fun W => b4n x.am.n x.am.a x.am.b false [] [] W hfit.1 hfit.2 (by simp) (by simp)
 simp only [c1u, Rat.add_zero] at dA
 change ∀ W, Calls Tryz.prog _ _ W (fun e w' => e = .returned (.agg #[.bool (enc3 x.am.val).n, .string (bs (enc3 x.am.val).a), .string (bs (enc3 x.am.val).b)]) /\ _) at dA
 have hput := fun hs => hI.lim3 hi k3 h7 hs
 have hsk : C.Sl (i7 : Int) = limB l i x.name := hI.lim.seen h7
 have hval := fun hs => hI.lim.val (i := i7) hs
 have r7 := fun (h : sgn x.am.val.num < 0) => b6n (cl := cl) (l := l) (i := i) k3 (if_pos h).symm
 have r12 := fun (h : ¬ sgn x.am.val.num < 0) (h2 : limB l i x.name = true) => b6n (cl := cl) (l := l) (i := i) k3 ((if_neg h).trans (if_pos h2)).symm
 have r0 := fun (h : ¬ sgn x.am.val.num < 0) (h2 : ¬ limB l i x.name = true) => b6n (cl := cl) (l := l) (i := i) k3 ((if_neg h).trans (if_neg h2)).symm
 have hil : i7 < cl.length := a6a h7
 have hkw := c1a (show i7 <= 1000000 by omega)
 have hnl : C.nl < maxLen := by have := hI.nl; unfold maxLen; omega
 unfold raw at dS dA
 obtain ⟨sg, hsg⟩ : ∃ z, z = sgn x.am.val.num := ⟨_, rfl⟩
 rw [<- hsg] at dS r7 r12 r0
 obtain ⟨y, hy⟩ : ∃ z, z = enc3 x.am.val := ⟨_, rfl⟩
 rw [<- hy] at dA hput
 rw [<- hsk] at r12 r0
 obtain ⟨A5, c5, rfl, _, _⟩ := hu.slice
 obtain ⟨g, v1, v2, mc, mk, ml, nc, vb, vp, vr, gsb, gsp, ex⟩ := A
 have HC := zh h
 have HD := zh (show ∀ w', Below w.heap.size w w' -> ∀ (j : Nat) (v : Value), [v1, v2, .map (some mc), .map (some mk), vb, vp, .map (some ml), vr][j]? = some v -> w'.cell? ⟨g, j, none⟩ = some v from fun w' hb => Cst.rd (Cst.below h hb))
 have HM := zh h.mc
 have HL := zh h.ml
 have H7 := zh h7
 have DS := zh dS
 have DA := zh dA
 have HPU := zh hput
 have HVL := zh hval
 have R7 := zh r7
 have R12 := zh r12
 have R0 := zh r0
 have HKW := zh hkw
 have HNL := zh hnl
 have HXL := zh hs
 clear h hI hi hu hcl k3 hs h7 hfit hl dS dA hput hsk hval r7 r12 r0 hkw hnl hsg hy hil
 dsimp only at HM HL ⊢
 by_cases hng : sg < 0
 ·have d1 : decide (sg < 0) = true := decide_eq_true hng
  have HNG := zh hng
  clear hng
  go_enter Tryz.func38, Tryz.ntmps38
  have HS := zh (St.start w)
  go_wp2
  have HS2 := zh (St.alloc (HS.out) #[.int .i64 3, .string (bs x.name), .string (bs x.other), .slice A5 x.list.length c5, .bool x.am.n, .string (bs x.am.a), .string (bs x.am.b), .int .i64 x.at_] 64 (w.heap.size) (by simp))
  clear HS
  have C_2 := zh (HC.out.below (Ext.alloc (Below.refl w.heap.size w) (Obj.cells #[.int .i64 3, .string (bs x.name), .string (bs x.other), .slice A5 x.list.length c5, .bool x.am.n, .string (bs x.am.a), .string (bs x.am.b), .int .i64 x.at_] 64)))
  clear HC
  have M_2 := zh (HM.out.below (Ext.alloc (Below.refl w.heap.size w) (Obj.cells #[.int .i64 3, .string (bs x.name), .string (bs x.other), .slice A5 x.list.length c5, .bool x.am.n, .string (bs x.am.a), .string (bs x.am.b), .int .i64 x.at_] 64)))
  clear HM
  have L_2 := zh (HL.out.below (Ext.alloc (Below.refl w.heap.size w) (Obj.cells #[.int .i64 3, .string (bs x.name), .string (bs x.other), .slice A5 x.list.length c5, .bool x.am.n, .string (bs x.am.a), .string (bs x.am.b), .int .i64 x.at_] 64)))
  clear HL
  refine a0n 7 [.pointer (some ⟨g, 0, none⟩), .pointer (some ⟨g, 0, none⟩), .pointer (some ⟨g, 2, none⟩), .map (some mc), .pointer (some ⟨w.heap.size, 1, none⟩), .string (bs x.name), .int .i64 (i7 : Nat)] rfl (by kernel_rfl) (by kernel_rfl) (by kernel_rfl) ?_ ?_
  refine ⟨?_, ?_, ?_, ?_, ?_, ?_, ?_, trivial⟩
  ·intro xx af wv hbx hev hev0 hd; have e0 : af.tmps[0]?.getD undef = .pointer (some ⟨g, 0, none⟩) := hev0 0 rfl; clear hev hev0 hd; go_wp2; exact sQ rfl
  ·intro xx af wv hbx hev hev0 hd; have e80 := (hev 0 _ 80 rfl rfl).trans (hd ⟨0, .data⟩ (by simp) rfl); clear hev hev0 hd; go_wp2; exact sQ rfl
  ·intro xx af wv hbx hev hev0 hd; have e81 := (hev 1 _ 81 rfl rfl).trans (hd ⟨1, .data⟩ (by simp) rfl); clear hev hev0 hd; go_wp2; exact sQ rfl
  ·intro xx af wv hbx hev hev0 hd; have e82 := (hev 2 _ 82 rfl rfl).trans (hd ⟨2, .data⟩ (by simp) rfl); clear hev hev0 hd; have hs1 := zh (HS2.out.call hbx); have y0 := HD.out _ hs1.out.below 2 _ rfl; go_wp2; exact sQ rfl
  ·intro xx af wv hbx hev hev0 hd; have e3 : af.tmps[3]?.getD undef = .pointer (some ⟨w.heap.size, 0, none⟩) := hev0 3 rfl; clear hev hev0 hd; go_wp2; exact sQ rfl
  ·intro xx af wv hbx hev hev0 hd; have e84 := (hev 4 _ 84 rfl rfl).trans (hd ⟨4, .data⟩ (by simp) rfl); clear hev hev0 hd; have hs1 := zh (HS2.out.call hbx); have y0 := hs1.out.cell 0 rfl 1 rfl; go_wp2; exact sQ rfl
  ·intro xx af wv hbx hev hev0 hd
   have e83 := (hev 3 _ 83 rfl rfl).trans (hd ⟨3, .data⟩ (by simp) rfl)
   have e85 := (hev 5 _ 85 rfl rfl).trans (hd ⟨5, .data⟩ (by simp) rfl)
   clear hev hev0 hd
   go_wp2_with (at_lookup; refine a1e rfl _ _ 83 rfl 9 3 a1n Tryz.underlying83 (a2j _) (M_2.out.below hbx) (by simp [Act.eval]; assumption) (x.name) (by simp [Act.eval, strV]; assumption) HXL.out (.int .i64 (i7 : Nat)) (by rw [H7.out]; rfl) ?_)
   exact sQ rfl
  intro xx w4 hb9 hv
  simp only [List.take, List.drop, a0j, Act.put]
  simp only [show xx 0 = _ from hv 0 (by decide), show xx 1 = _ from hv 1 (by decide), show xx 2 = _ from hv 2 (by decide), show xx 3 = _ from hv 3 (by decide), show xx 4 = _ from hv 4 (by decide), show xx 5 = _ from hv 5 (by decide), show xx 6 = _ from hv 6 (by decide)]
  clear hv
  have HS4 := zh (HS2.out.call hb9)
  have C_4 := zh (C_2.out.below hb9)
  clear C_2
  have M_4 := zh (M_2.out.below hb9)
  clear M_2
  have L_4 := zh (L_2.out.below hb9)
  clear L_2
  clear hb9 HS2
  obtain ⟨x1, x2, x3⟩ := HS4.out.k4 0 rfl rfl rfl rfl
  go_wp2_with fail
  refine (DS.out _).mono ?_
  rintro e w5 ⟨rfl, hb5⟩
  have HS5 := zh (HS4.out.call hb5)
  have C_5 := zh (C_4.out.below hb5)
  clear C_4
  have M_5 := zh (M_4.out.below hb5)
  clear M_4
  have L_5 := zh (L_4.out.below hb5)
  clear L_4
  clear hb5 HS4
  clear x1 x2 x3
  go_wp2
  go_ret
  exact ⟨7, C, rfl, C_5.out, R7.out HNG.out, fun h => absurd h (by decide)⟩
 ·have d1 : decide (sg < 0) = false := decide_eq_false hng
  have HNG := zh hng
  clear hng
  by_cases hsn : C.Sl ((i7 : Nat) : Int) = true
  ·have HSN := zh hsn
   obtain ⟨y2, hy2⟩ := HVL.out hsn
   have HY2 := zh hy2
   clear hsn hy2
   go_enter Tryz.func38, Tryz.ntmps38
   have HS := zh (St.start w)
   go_wp2
   have HS2 := zh (St.alloc (HS.out) #[.int .i64 3, .string (bs x.name), .string (bs x.other), .slice A5 x.list.length c5, .bool x.am.n, .string (bs x.am.a), .string (bs x.am.b), .int .i64 x.at_] 64 (w.heap.size) (by simp))
   clear HS
   have C_2 := zh (HC.out.below (Ext.alloc (Below.refl w.heap.size w) (Obj.cells #[.int .i64 3, .string (bs x.name), .string (bs x.other), .slice A5 x.list.length c5, .bool x.am.n, .string (bs x.am.a), .string (bs x.am.b), .int .i64 x.at_] 64)))
   clear HC
   have M_2 := zh (HM.out.below (Ext.alloc (Below.refl w.heap.size w) (Obj.cells #[.int .i64 3, .string (bs x.name), .string (bs x.other), .slice A5 x.list.length c5, .bool x.am.n, .string (bs x.am.a), .string (bs x.am.b), .int .i64 x.at_] 64)))
   clear HM
   have L_2 := zh (HL.out.below (Ext.alloc (Below.refl w.heap.size w) (Obj.cells #[.int .i64 3, .string (bs x.name), .string (bs x.other), .slice A5 x.list.length c5, .bool x.am.n, .string (bs x.am.a), .string (bs x.am.b), .int .i64 x.at_] 64)))
   clear HL
   refine a0n 7 [.pointer (some ⟨g, 0, none⟩), .pointer (some ⟨g, 0, none⟩), .pointer (some ⟨g, 2, none⟩), .map (some mc), .pointer (some ⟨w.heap.size, 1, none⟩), .string (bs x.name), .int .i64 (i7 : Nat)] rfl (by kernel_rfl) (by kernel_rfl) (by kernel_rfl) ?_ ?_
   refine ⟨?_, ?_, ?_, ?_, ?_, ?_, ?_, trivial⟩
   ·intro xx af wv hbx hev hev0 hd; have e0 : af.tmps[0]?.getD undef = .pointer (some ⟨g, 0, none⟩) := hev0 0 rfl; clear hev hev0 hd; go_wp2; exact sQ rfl
   ·intro xx af wv hbx hev hev0 hd; have e80 := (hev 0 _ 80 rfl rfl).trans (hd ⟨0, .data⟩ (by simp) rfl); clear hev hev0 hd; go_wp2; exact sQ rfl
   ·intro xx af wv hbx hev hev0 hd; have e81 := (hev 1 _ 81 rfl rfl).trans (hd ⟨1, .data⟩ (by simp) rfl); clear hev hev0 hd; go_wp2; exact sQ rfl
   ·intro xx af wv hbx hev hev0 hd; have e82 := (hev 2 _ 82 rfl rfl).trans (hd ⟨2, .data⟩ (by simp) rfl); clear hev hev0 hd; have hs1 := zh (HS2.out.call hbx); have y0 := HD.out _ hs1.out.below 2 _ rfl; go_wp2; exact sQ rfl
   ·intro xx af wv hbx hev hev0 hd; have e3 : af.tmps[3]?.getD undef = .pointer (some ⟨w.heap.size, 0, none⟩) := hev0 3 rfl; clear hev hev0 hd; go_wp2; exact sQ rfl
   ·intro xx af wv hbx hev hev0 hd; have e84 := (hev 4 _ 84 rfl rfl).trans (hd ⟨4, .data⟩ (by simp) rfl); clear hev hev0 hd; have hs1 := zh (HS2.out.call hbx); have y0 := hs1.out.cell 0 rfl 1 rfl; go_wp2; exact sQ rfl
   ·intro xx af wv hbx hev hev0 hd
    have e83 := (hev 3 _ 83 rfl rfl).trans (hd ⟨3, .data⟩ (by simp) rfl)
    have e85 := (hev 5 _ 85 rfl rfl).trans (hd ⟨5, .data⟩ (by simp) rfl)
    clear hev hev0 hd
    go_wp2_with (at_lookup; refine a1e rfl _ _ 83 rfl 9 3 a1n Tryz.underlying83 (a2j _) (M_2.out.below hbx) (by simp [Act.eval]; assumption) (x.name) (by simp [Act.eval, strV]; assumption) HXL.out (.int .i64 (i7 : Nat)) (by rw [H7.out]; rfl) ?_)
    exact sQ rfl
   intro xx w4 hb9 hv
   simp only [List.take, List.drop, a0j, Act.put]
   simp only [show xx 0 = _ from hv 0 (by decide), show xx 1 = _ from hv 1 (by decide), show xx 2 = _ from hv 2 (by decide), show xx 3 = _ from hv 3 (by decide), show xx 4 = _ from hv 4 (by decide), show xx 5 = _ from hv 5 (by decide), show xx 6 = _ from hv 6 (by decide)]
   clear hv
   have HS4 := zh (HS2.out.call hb9)
   have C_4 := zh (C_2.out.below hb9)
   clear C_2
   have M_4 := zh (M_2.out.below hb9)
   clear M_2
   have L_4 := zh (L_2.out.below hb9)
   clear L_2
   clear hb9 HS2
   obtain ⟨x1, x2, x3⟩ := HS4.out.k4 0 rfl rfl rfl rfl
   go_wp2_with fail
   refine (DS.out _).mono ?_
   rintro e w5 ⟨rfl, hb5⟩
   have HS5 := zh (HS4.out.call hb5)
   have C_5 := zh (C_4.out.below hb5)
   clear C_4
   have M_5 := zh (M_4.out.below hb5)
   clear M_4
   have L_5 := zh (L_4.out.below hb5)
   clear L_4
   clear hb5 HS4
   clear x1 x2 x3
   have x4 := HD.out _ HS5.out.below 6 _ rfl
   go_wp2_with (at_lookup; refine a0k rfl _ _ 85 rfl 3 51 b8a Tryz.underlying85 (b2v _) L_5.out (by simp [Act.eval]) (((i7 : Nat) : Int)) (by simp [Act.eval, intV]) HKW.out (.agg #[.bool y2.n, .string (bs y2.a), .string (bs y2.b)]) true (by rw [HSN.out, if_pos rfl]; exact HY2.out) (HSN.out) ?_)
   clear x4
   go_wp2
   go_ret
   exact ⟨12, C, rfl, (C_5.out.below (Ext.alloc (Below.refl w5.heap.size w5) (Obj.cells #[.bool y2.n, .string (bs y2.a), .string (bs y2.b)] 51))), R12.out HNG.out HSN.out, fun h => absurd h (by decide)⟩
  ·have HSN := zh (Bool.eq_false_iff.2 hsn)
   clear hsn
   go_enter Tryz.func38, Tryz.ntmps38
   have HS := zh (St.start w)
   go_wp2
   have HS2 := zh (St.alloc (HS.out) #[.int .i64 3, .string (bs x.name), .string (bs x.other), .slice A5 x.list.length c5, .bool x.am.n, .string (bs x.am.a), .string (bs x.am.b), .int .i64 x.at_] 64 (w.heap.size) (by simp))
   clear HS
   have C_2 := zh (HC.out.below (Ext.alloc (Below.refl w.heap.size w) (Obj.cells #[.int .i64 3, .string (bs x.name), .string (bs x.other), .slice A5 x.list.length c5, .bool x.am.n, .string (bs x.am.a), .string (bs x.am.b), .int .i64 x.at_] 64)))
   clear HC
   have M_2 := zh (HM.out.below (Ext.alloc (Below.refl w.heap.size w) (Obj.cells #[.int .i64 3, .string (bs x.name), .string (bs x.other), .slice A5 x.list.length c5, .bool x.am.n, .string (bs x.am.a), .string (bs x.am.b), .int .i64 x.at_] 64)))
   clear HM
   have L_2 := zh (HL.out.below (Ext.alloc (Below.refl w.heap.size w) (Obj.cells #[.int .i64 3, .string (bs x.name), .string (bs x.other), .slice A5 x.list.length c5, .bool x.am.n, .string (bs x.am.a), .string (bs x.am.b), .int .i64 x.at_] 64)))
   clear HL
   refine a0n 7 [.pointer (some ⟨g, 0, none⟩), .pointer (some ⟨g, 0, none⟩), .pointer (some ⟨g, 2, none⟩), .map (some mc), .pointer (some ⟨w.heap.size, 1, none⟩), .string (bs x.name), .int .i64 (i7 : Nat)] rfl (by kernel_rfl) (by kernel_rfl) (by kernel_rfl) ?_ ?_
   refine ⟨?_, ?_, ?_, ?_, ?_, ?_, ?_, trivial⟩
   ·intro xx af wv hbx hev hev0 hd; have e0 : af.tmps[0]?.getD undef = .pointer (some ⟨g, 0, none⟩) := hev0 0 rfl; clear hev hev0 hd; go_wp2; exact sQ rfl
   ·intro xx af wv hbx hev hev0 hd; have e80 := (hev 0 _ 80 rfl rfl).trans (hd ⟨0, .data⟩ (by simp) rfl); clear hev hev0 hd; go_wp2; exact sQ rfl
   ·intro xx af wv hbx hev hev0 hd; have e81 := (hev 1 _ 81 rfl rfl).trans (hd ⟨1, .data⟩ (by simp) rfl); clear hev hev0 hd; go_wp2; exact sQ rfl
   ·intro xx af wv hbx hev hev0 hd; have e82 := (hev 2 _ 82 rfl rfl).trans (hd ⟨2, .data⟩ (by simp) rfl); clear hev hev0 hd; have hs1 := zh (HS2.out.call hbx); have y0 := HD.out _ hs1.out.below 2 _ rfl; go_wp2; exact sQ rfl
   ·intro xx af wv hbx hev hev0 hd; have e3 : af.tmps[3]?.getD undef = .pointer (some ⟨w.heap.size, 0, none⟩) := hev0 3 rfl; clear hev hev0 hd; go_wp2; exact sQ rfl
   ·intro xx af wv hbx hev hev0 hd; have e84 := (hev 4 _ 84 rfl rfl).trans (hd ⟨4, .data⟩ (by simp) rfl); clear hev hev0 hd; have hs1 := zh (HS2.out.call hbx); have y0 := hs1.out.cell 0 rfl 1 rfl; go_wp2; exact sQ rfl
   ·intro xx af wv hbx hev hev0 hd
    have e83 := (hev 3 _ 83 rfl rfl).trans (hd ⟨3, .data⟩ (by simp) rfl)
    have e85 := (hev 5 _ 85 rfl rfl).trans (hd ⟨5, .data⟩ (by simp) rfl)
    clear hev hev0 hd
    go_wp2_with (at_lookup; refine a1e rfl _ _ 83 rfl 9 3 a1n Tryz.underlying83 (a2j _) (M_2.out.below hbx) (by simp [Act.eval]; assumption) (x.name) (by simp [Act.eval, strV]; assumption) HXL.out (.int .i64 (i7 : Nat)) (by rw [H7.out]; rfl) ?_)
    exact sQ rfl
   intro xx w4 hb9 hv
   simp only [List.take, List.drop, a0j, Act.put]
   simp only [show xx 0 = _ from hv 0 (by decide), show xx 1 = _ from hv 1 (by decide), show xx 2 = _ from hv 2 (by decide), show xx 3 = _ from hv 3 (by decide), show xx 4 = _ from hv 4 (by decide), show xx 5 = _ from hv 5 (by decide), show xx 6 = _ from hv 6 (by decide)]
   clear hv
   have HS4 := zh (HS2.out.call hb9)
   have C_4 := zh (C_2.out.below hb9)
   clear C_2
   have M_4 := zh (M_2.out.below hb9)
   clear M_2
   have L_4 := zh (L_2.out.below hb9)
   clear L_2
   clear hb9 HS2
   obtain ⟨x1, x2, x3⟩ := HS4.out.k4 0 rfl rfl rfl rfl
   go_wp2_with fail
   refine (DS.out _).mono ?_
   rintro e w5 ⟨rfl, hb5⟩
   have HS5 := zh (HS4.out.call hb5)
   have C_5 := zh (C_4.out.below hb5)
   clear C_4
   have M_5 := zh (M_4.out.below hb5)
   clear M_4
   have L_5 := zh (L_4.out.below hb5)
   clear L_4
   clear hb5 HS4
   clear x1 x2 x3
   have x4 := HD.out _ HS5.out.below 6 _ rfl
   go_wp2_with (at_lookup; refine a0k rfl _ _ 85 rfl 3 51 b8a Tryz.underlying85 (b2v _) L_5.out (by simp [Act.eval]) (((i7 : Nat) : Int)) (by simp [Act.eval, intV]) HKW.out (.agg #[.bool false, .string (bs []), .string (bs [])]) false (by rw [HSN.out]; rfl) (HSN.out) ?_)
   clear x4
   go_wp2
   have HS6 := zh (St.alloc (HS5.out) #[.bool false, .string (bs []), .string (bs [])] 51 (w5.heap.size) (by simp))
   clear HS5
   have C_6 := zh (C_5.out.below (Ext.alloc (Below.refl w5.heap.size w5) (Obj.cells #[.bool false, .string (bs []), .string (bs [])] 51)))
   clear C_5
   have M_6 := zh (M_5.out.below (Ext.alloc (Below.refl w5.heap.size w5) (Obj.cells #[.bool false, .string (bs []), .string (bs [])] 51)))
   clear M_5
   have L_6 := zh (L_5.out.below (Ext.alloc (Below.refl w5.heap.size w5) (Obj.cells #[.bool false, .string (bs []), .string (bs [])] 51)))
   clear L_5
   refine a0n 9 [.pointer (some ⟨g, 0, none⟩), .pointer (some ⟨g, 0, none⟩), .pointer (some ⟨g, 6, none⟩), .map (some ml), .int .i64 (i7 : Nat), .pointer (some ⟨w.heap.size, 4, none⟩), .agg #[.bool x.am.n, .string (bs x.am.a), .string (bs x.am.b)], .agg #[.bool false, .string (bs []), .string (bs [])], .agg #[.bool y.n, .string (bs y.a), .string (bs y.b)]] rfl (by kernel_rfl) (by kernel_rfl) (by kernel_rfl) ?_ ?_
   refine ⟨?_, ?_, ?_, ?_, ?_, ?_, ?_, ?_, ?_, trivial⟩
   ·intro xx af wv hbx hev hev0 hd; have e0 : af.tmps[0]?.getD undef = .pointer (some ⟨g, 0, none⟩) := hev0 0 rfl; clear hev hev0 hd; go_wp2; exact sQ rfl
   ·intro xx af wv hbx hev hev0 hd; have e101 := (hev 0 _ 101 rfl rfl).trans (hd ⟨0, .data⟩ (by simp) rfl); clear hev hev0 hd; go_wp2; exact sQ rfl
   ·intro xx af wv hbx hev hev0 hd; have e102 := (hev 1 _ 102 rfl rfl).trans (hd ⟨1, .data⟩ (by simp) rfl); clear hev hev0 hd; go_wp2; exact sQ rfl
   ·intro xx af wv hbx hev hev0 hd; have e103 := (hev 2 _ 103 rfl rfl).trans (hd ⟨2, .data⟩ (by simp) rfl); clear hev hev0 hd; have hs1 := zh (HS6.out.call hbx); have y0 := HD.out _ hs1.out.below 6 _ rfl; go_wp2; exact sQ rfl
   ·intro xx af wv hbx hev hev0 hd; have e12 : af.tmps[12]?.getD undef = .int .i64 (i7 : Nat) := hev0 12 rfl; clear hev hev0 hd; go_wp2; exact sQ rfl
   ·intro xx af wv hbx hev hev0 hd; have e3 : af.tmps[3]?.getD undef = .pointer (some ⟨w.heap.size, 0, none⟩) := hev0 3 rfl; clear hev hev0 hd; go_wp2; exact sQ rfl
   ·intro xx af wv hbx hev hev0 hd; have e106 := (hev 5 _ 106 rfl rfl).trans (hd ⟨5, .data⟩ (by simp) rfl); clear hev hev0 hd; have hs1 := zh (HS6.out.call hbx); obtain ⟨y0, y1, y2⟩ := hs1.out.k4 1 rfl rfl rfl rfl; go_wp2; exact sQ rfl
   ·intro xx af wv hbx hev hev0 hd; clear hev hev0 hd; go_wp2; exact sQ rfl
   ·intro xx af wv hbx hev hev0 hd
    have e107 := (hev 6 _ 107 rfl rfl).trans (hd ⟨6, .data⟩ (by simp) rfl)
    have e108 := (hev 7 _ 108 rfl rfl).trans (hd ⟨7, .data⟩ (by simp) rfl)
    clear hev hev0 hd
    go_wp2_with fail
    refine (DA.out _).mono ?_
    rintro e w8 ⟨rfl, hb8⟩
    go_wp2
    exact StepQ.mk _ hb8 rfl
   intro xx w8 hb9 hv
   simp only [List.take, List.drop, a0j, Act.put]
   simp only [show xx 0 = _ from hv 0 (by decide), show xx 1 = _ from hv 1 (by decide), show xx 2 = _ from hv 2 (by decide), show xx 3 = _ from hv 3 (by decide), show xx 4 = _ from hv 4 (by decide), show xx 5 = _ from hv 5 (by decide), show xx 6 = _ from hv 6 (by decide), show xx 7 = _ from hv 7 (by decide), show xx 8 = _ from hv 8 (by decide)]
   clear hv
   have HS8 := zh (HS6.out.call hb9)
   have C_8 := zh (C_6.out.below hb9)
   clear C_6
   have M_8 := zh (M_6.out.below hb9)
   clear M_6
   have L_8 := zh (L_6.out.below hb9)
   clear L_6
   clear hb9 HS6
   go_wp2_with (at_mapUpdate; refine a2d rfl _ _ _ 85 rfl 3 51 b8a Tryz.underlying85 L_8.out (HNL.out) (by simp [Act.eval]) (((i7 : Nat) : Int)) (by simp [Act.eval, intV]) HKW.out (.agg #[.bool y.n, .string (bs y.a), .string (bs y.b)]) (by simp [Act.eval]) ?_)
   intro w9 hown9 hg9
   have HC9 := zh (Cst.putLim C_8.out hown9 hg9)
   clear hown9 hg9
   go_wp2
   go_ret
   exact ⟨0, _, rfl, HC9.out, R0.out HNG.out (by rw [HSN.out]; exact Bool.false_ne_true), fun _ => HPU.out HSN.out⟩
end Go.Proofs.YtbkbiokgfoomfaaGreatDoor
