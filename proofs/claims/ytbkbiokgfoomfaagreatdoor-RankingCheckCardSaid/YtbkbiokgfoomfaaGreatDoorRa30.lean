/-
Part 30 of the base.
-/
import Derived.Test.YtbkbiokgfoomfaaGreatDoorRa26
import Derived.Test.YtbkbiokgfoomfaaGreatDoorRa28
namespace Go.Proofs.YtbkbiokgfoomfaaGreatDoor
open Go.RowKit

theorem memb_add {pre : List Cls} {x : Cls} (h1 : x.kind = 1) (h : (a0h pre x.name).isSome = false) (s : List UInt8) : memb (pre ++ [x]) s = if s = x.name then x.list else memb pre s := by
 unfold memb
 rw [a5q]
 by_cases hs : s = x.name
 ·rw [if_pos hs]
  cases hc : a0h pre s with
  | some i => rw [<- hs, hc] at h; cases h
  | none =>
   dsimp only
   rw [if_pos ⟨h1, hs.symm⟩]
   dsimp only
   rw [List.getElem?_append_right (Nat.le_refl _), Nat.sub_self]
   rfl
 ·rw [if_neg hs]
  cases hc : a0h pre s with
  | some i =>
   dsimp only
   rw [List.getElem?_append_left (b3q hc)]
  | none =>
   dsimp only
   rw [if_neg (fun e => hs e.2.symm)]
theorem b4y {pre : List Cls} {x : Cls} (h1 : x.kind ≠ 1) (s : List UInt8) : memb (pre ++ [x]) s = memb pre s /\ a0h (pre ++ [x]) s = a0h pre s := by
 have e : a0h (pre ++ [x]) s = a0h pre s := by
  rw [a5q]
  cases a0h pre s with
  | some i => rfl
  | none => dsimp only; rw [if_neg (fun h => h1 h.1)]
 refine ⟨?_, e⟩
 unfold memb
 rw [e]
 cases hc : a0h pre s with
 | none => rfl
 | some i => dsimp only; rw [List.getElem?_append_left (b3q hc)]
def DefI (w0 : World) (l : List Cls) (i : Nat) (C : CCo) : Prop := Full w0 (l.take i) C /\ C.nk <= i
theorem DefI.skip {w0 : World} {l : List Cls} {i : Nat} {x : Cls} {C : CCo} (h : DefI w0 l i C) (hx : l[i]? = some x) (h1 : x.kind ≠ 1) : DefI w0 l (i + 1) C := by
 refine ⟨?_, Nat.le_succ_of_le h.2⟩
 rw [a6m hx]
 refine ⟨fun s => ?_, fun s hs => ?_⟩
 ·rw [(b4y h1 s).2]; exact h.1.has s
 ·rw [(b4y h1 s).1]; exact h.1.val s hs
theorem DefI.put {w0 : World} {l : List Cls} {i : Nat} {x : Cls} {C : CCo} {u : Value} (h : DefI w0 l i C) (hx : l[i]? = some x) (h1 : x.kind = 1) (h2 : (a0h (l.take i) x.name).isSome = false) (hu : a6d w0 u x.list) : DefI w0 l (i + 1) { C with nk := C.nk + 1, Sk := putK C.Sk x.name, fk := putV C.fk x.name u } := by
 refine ⟨?_, Nat.succ_le_succ h.2⟩
 rw [a6m hx]
 refine ⟨fun s => ?_, fun s hs => ?_⟩
 ·show putK C.Sk x.name s = _
  unfold putK
  rw [h.1.has s, a5q]
  cases hc : a0h (l.take i) s with
  | some _ => rfl
  | none =>
   dsimp only
   by_cases hs : s = x.name
   ·rw [if_pos ⟨h1, hs.symm⟩, decide_eq_true hs]; rfl
   ·rw [if_neg (fun e => hs e.2.symm), decide_eq_false hs]; rfl
 ·have hs' : putK C.Sk x.name s = true := hs
  show a6d w0 (putV C.fk x.name u s) _
  rw [memb_add h1 h2 s]
  unfold putV
  by_cases he : s = x.name
  ·rw [if_pos he, if_pos he]; exact hu
  ·rw [if_neg he, if_neg he]
   refine h.1.val s ?_
   unfold putK at hs'
   rw [decide_eq_false he, Bool.or_false] at hs'
   exact hs'
def DefR (w0 : World) (cl : List Nmd) (l : List Cls) (A : CAd) (C : CCo) (i : Nat) (er0 : Int) (e : Ending) (w' : World) : Prop := ∃ (er : Int) (C' : CCo), e = .returned (.int .i64 er) /\ Cst w0 cl l A C' w' /\ er = er0 /\ (er = 0 -> DefI w0 l (i + 1) C') /\ (C'.R = C.R /\ C'.B = C.B /\ C'.P = C.P /\ C'.nl = C.nl /\ C'.Sl = C.Sl)

set_option maxRecDepth 100000 in
set_option maxHeartbeats 4000000 in
theorem b0x {w0 : World} {cl : List Nmd} {l : List Cls} {A : CAd} {C : CCo} (i : Nat) (x : Cls) (u : Value) (w : World) (h : Cst w0 cl l A C w) (hD : DefI w0 l i C) (hi : l[i]? = some x) (hu : a6d w0 u x.list) (hx : x.name.length <= 9223372036854775807) (hl : i <= 1000000) :
  Calls Tryz.prog 35 #[.pointer (some ⟨A.g, 0, none⟩), .agg #[.int .i64 x.kind, .string (bs x.name), .string (bs x.other), u, .bool x.am.n, .string (bs x.am.a), .string (bs x.am.b), .int .i64 x.at_]] w (DefR w0 cl l A C i (err1 cl (l.take i) x)) := by
 have hskip := fun h => hD.skip hi h
 have hput := fun h1 h2 => hD.put hi h1 h2 hu
 have hhas := hD.1.has x.name
 have hnk : C.nk < maxLen := by have := hD.2; unfold maxLen; omega
 have n1 := fun h => er1_kind (cl := cl) (pre := l.take i) (c := x) h
 have n2 := fun h h2 => er1_no (cl := cl) (pre := l.take i) (c := x) h h2
 have n3 := fun h h2 => c1s (cl := cl) (pre := l.take i) (c := x) h h2
 have n4 := fun h h2 h3 => er1_new (cl := cl) (pre := l.take i) (c := x) h h2 h3
 have c1 := fun W => a6e x.name W hx
 have hxl : x.name.length <= maxLen := by unfold maxLen; exact hx
 obtain ⟨A5, c5, rfl, hl5, hl6⟩ := hu.slice
 obtain ⟨g, v1, v2, mc, mk, ml, nc, vb, vp, vr, gsb, gsp, ex⟩ := A
 dsimp only
 obtain ⟨er, her⟩ : ∃ er, er = err1 cl (l.take i) x := ⟨_, rfl⟩
 obtain ⟨q1, hq1⟩ : ∃ q, q = (a0b cl x.name).isSome := ⟨_, rfl⟩
 obtain ⟨q2, hq2⟩ : ∃ q, q = (a0h (l.take i) x.name).isSome := ⟨_, rfl⟩
 obtain ⟨p, hp⟩ : ∃ p, p = a3e x.name := ⟨_, rfl⟩
 obtain ⟨k, hk⟩ : ∃ k, k = x.kind := ⟨_, rfl⟩
 obtain ⟨z1, hz1⟩ : ∃ z : Value, z = if q1 then .int .i64 (optI (a0b cl x.name)) else .int .i64 0 := ⟨_, rfl⟩
 obtain ⟨z2, hz2⟩ : ∃ z : Value, z = if q2 then C.fk x.name else .slice none 0 0 := ⟨_, rfl⟩
 rw [<- hq2] at hhas n3 n4 hput
 rw [<- hq1] at n3 n4
 rw [<- hp] at c1 n4
 rw [<- hk] at n1 n2 n3 n4 hskip hput ⊢
 rw [<- her] at n1 n2 n3 n4 ⊢
 have Q1 : Hid ((a0b cl x.name).isSome = q1) := hq1.symm
 have Q2 : Hid (C.Sk x.name = q2) := hhas
 have Z1 : Hid ((if (a0b cl x.name).isSome then .int .i64 (optI (a0b cl x.name)) else .int .i64 0) = z1) := by rw [Q1.out]; exact hz1.symm
 have Z2 : Hid ((if C.Sk x.name then C.fk x.name else .slice none 0 0) = z2) := by rw [Q2.out]; exact hz2.symm
 have HC := zh h
 have HM := zh h.mc
 have HK := zh h.mkb
 have HD := zh (show ∀ w', Below w.heap.size w w' -> ∀ (j : Nat) (v : Value), [v1, v2, .map (some mc), .map (some mk), vb, vp, .map (some ml), vr][j]? = some v -> w'.cell? ⟨g, j, none⟩ = some v from fun w' hb => Cst.rd (Cst.below h hb))
 have HSK := zh hskip
 have HPU := zh hput
 have HNK := zh hnk
 have HXL := zh hxl
 have H1 := zh c1
 have N1 := zh n1
 have N2 := zh n2
 have N3 := zh n3
 have N4 := zh n4
 have L6 := zh hl5
 clear h hD hi hu hx hl hskip hput hhas hnk n1 n2 n3 n4 c1 hxl her hq1 hq2 hp hk hz1 hz2 hl5 hl6
 dsimp only at HM HK
 by_cases k1 : k < 1
 ·have R := zh (N1.out (.inl k1)).symm
  have d1 : decide (k < 1) = true := decide_eq_true k1
  clear k1
  go_enter Tryz.func35, Tryz.ntmps35
  have HS := zh (St.start w)
  go_wp2
  go_ret
  exact ⟨_, C, rfl, (HC.out.below (Ext.alloc (Below.refl w.heap.size w) (Obj.cells #[.int .i64 k, .string (bs x.name), .string (bs x.other), .slice A5 x.list.length c5, .bool x.am.n, .string (bs x.am.a), .string (bs x.am.b), .int .i64 x.at_] 64))), R.out, fun h => absurd h (by decide), ⟨rfl, rfl, rfl, rfl, rfl⟩⟩
 ·by_cases k2 : 4 < k
  ·have R := zh (N1.out (.inr k2)).symm
   have d1 : decide (k < 1) = false := decide_eq_false k1
   have d2 : decide (4 < k) = true := decide_eq_true k2
   clear k1 k2
   go_enter Tryz.func35, Tryz.ntmps35
   have HS := zh (St.start w)
   go_wp2
   go_ret
   exact ⟨_, C, rfl, (HC.out.below (Ext.alloc (Below.refl w.heap.size w) (Obj.cells #[.int .i64 k, .string (bs x.name), .string (bs x.other), .slice A5 x.list.length c5, .bool x.am.n, .string (bs x.am.a), .string (bs x.am.b), .int .i64 x.at_] 64))), R.out, fun h => absurd h (by decide), ⟨rfl, rfl, rfl, rfl, rfl⟩⟩
  ·by_cases k3 : k = 1
   ·subst k3
    clear k1 k2
    go_enter Tryz.func35, Tryz.ntmps35
    have HS := zh (St.start w)
    go_wp2
    have HS2 := zh (St.alloc (HS.out) #[.int .i64 1, .string (bs x.name), .string (bs x.other), .slice A5 x.list.length c5, .bool x.am.n, .string (bs x.am.a), .string (bs x.am.b), .int .i64 x.at_] 64 (w.heap.size) (by simp))
    clear HS
    have C_2 := zh (HC.out.below (Ext.alloc (Below.refl w.heap.size w) (Obj.cells #[.int .i64 1, .string (bs x.name), .string (bs x.other), .slice A5 x.list.length c5, .bool x.am.n, .string (bs x.am.a), .string (bs x.am.b), .int .i64 x.at_] 64)))
    clear HC
    have M_2 := zh (HM.out.below (Ext.alloc (Below.refl w.heap.size w) (Obj.cells #[.int .i64 1, .string (bs x.name), .string (bs x.other), .slice A5 x.list.length c5, .bool x.am.n, .string (bs x.am.a), .string (bs x.am.b), .int .i64 x.at_] 64)))
    clear HM
    have K_2 := zh (HK.out.below (Ext.alloc (Below.refl w.heap.size w) (Obj.cells #[.int .i64 1, .string (bs x.name), .string (bs x.other), .slice A5 x.list.length c5, .bool x.am.n, .string (bs x.am.a), .string (bs x.am.b), .int .i64 x.at_] 64)))
    clear HK
    refine a0n 11 [.pointer (some ⟨g, 0, none⟩), .pointer (some ⟨g, 0, none⟩), .pointer (some ⟨g, 2, none⟩), .map (some mc), .pointer (some ⟨w.heap.size, 1, none⟩), .string (bs x.name), .tuple #[z1, .bool q1], .tuple #[z1, .bool q1], z1, .bool q1, z1] rfl (by kernel_rfl) (by kernel_rfl) (by kernel_rfl) ?_ ?_
    refine ⟨?_, ?_, ?_, ?_, ?_, ?_, ?_, ?_, ?_, ?_, ?_, trivial⟩
    ·intro xx af wv hbx hev hev0 hd; have e0 : af.tmps[0]?.getD undef = .pointer (some ⟨g, 0, none⟩) := hev0 0 rfl; clear hev hev0 hd; go_wp2; exact sQ rfl
    ·intro xx af wv hbx hev hev0 hd; have e21 := (hev 0 _ 21 rfl rfl).trans (hd ⟨0, .data⟩ (by simp) rfl); clear hev hev0 hd; go_wp2; exact sQ rfl
    ·intro xx af wv hbx hev hev0 hd; have e22 := (hev 1 _ 22 rfl rfl).trans (hd ⟨1, .data⟩ (by simp) rfl); clear hev hev0 hd; go_wp2; exact sQ rfl
    ·intro xx af wv hbx hev hev0 hd; have e23 := (hev 2 _ 23 rfl rfl).trans (hd ⟨2, .data⟩ (by simp) rfl); clear hev hev0 hd; have hs1 := zh (HS2.out.call hbx); have y0 := HD.out _ hs1.out.below 2 _ rfl; go_wp2; exact sQ rfl
    ·intro xx af wv hbx hev hev0 hd; have e3 : af.tmps[3]?.getD undef = .pointer (some ⟨w.heap.size, 0, none⟩) := hev0 3 rfl; clear hev hev0 hd; go_wp2; exact sQ rfl
    ·intro xx af wv hbx hev hev0 hd; have e25 := (hev 4 _ 25 rfl rfl).trans (hd ⟨4, .data⟩ (by simp) rfl); clear hev hev0 hd; have hs1 := zh (HS2.out.call hbx); have y0 := hs1.out.cell 0 rfl 1 rfl; go_wp2; exact sQ rfl
    ·intro xx af wv hbx hev hev0 hd
     have e24 := (hev 3 _ 24 rfl rfl).trans (hd ⟨3, .data⟩ (by simp) rfl)
     have e26 := (hev 5 _ 26 rfl rfl).trans (hd ⟨5, .data⟩ (by simp) rfl)
     clear hev hev0 hd
     go_wp2_with (at_lookup; refine a0k rfl _ _ 83 rfl 9 3 a1n Tryz.underlying83 (a2j _) (M_2.out.below hbx) (by simp [Act.eval]; assumption) (x.name) (by simp [Act.eval, strV]; assumption) HXL.out (z1) q1 (Z1.out) (Q1.out) ?_)
     exact sQ rfl
    ·intro xx af wv hbx hev hev0 hd; have e27 := (hev 6 _ 27 rfl rfl).trans (hd ⟨6, .data⟩ (by simp) rfl); clear hev hev0 hd; go_wp2; exact sQ rfl
    ·intro xx af wv hbx hev hev0 hd; have e20 := (hev 7 _ 20 rfl rfl).trans (hd ⟨7, .data⟩ (by simp) rfl); clear hev hev0 hd; go_wp2; exact sQ rfl
    ·intro xx af wv hbx hev hev0 hd; have e20 := (hev 7 _ 20 rfl rfl).trans (hd ⟨7, .data⟩ (by simp) rfl); clear hev hev0 hd; go_wp2; exact sQ rfl
    ·intro xx af wv hbx hev hev0 hd; have e28 := (hev 8 _ 28 rfl rfl).trans (hd ⟨8, .data⟩ (by simp) rfl); clear hev hev0 hd; go_wp2; exact sQ rfl
    intro xx w4 hb9 hv
    simp only [List.take, List.drop, a0j, Act.put]
    simp only [show xx 0 = _ from hv 0 (by decide), show xx 1 = _ from hv 1 (by decide), show xx 2 = _ from hv 2 (by decide), show xx 3 = _ from hv 3 (by decide), show xx 4 = _ from hv 4 (by decide), show xx 5 = _ from hv 5 (by decide), show xx 6 = _ from hv 6 (by decide), show xx 7 = _ from hv 7 (by decide), show xx 8 = _ from hv 8 (by decide), show xx 9 = _ from hv 9 (by decide), show xx 10 = _ from hv 10 (by decide)]
    clear hv
    have HS4 := zh (HS2.out.call hb9)
    have C_4 := zh (C_2.out.below hb9)
    clear C_2
    have M_4 := zh (M_2.out.below hb9)
    clear M_2
    have K_4 := zh (K_2.out.below hb9)
    clear K_2
    clear hb9 HS2
    go_wp2
    refine a0n 11 [.pointer (some ⟨g, 0, none⟩), .pointer (some ⟨g, 0, none⟩), .pointer (some ⟨g, 3, none⟩), .map (some mk), .pointer (some ⟨w.heap.size, 1, none⟩), .string (bs x.name), .tuple #[z2, .bool q2], .tuple #[z2, .bool q2], z2, .bool q2, z2] rfl (by kernel_rfl) (by kernel_rfl) (by kernel_rfl) ?_ ?_
    refine ⟨?_, ?_, ?_, ?_, ?_, ?_, ?_, ?_, ?_, ?_, ?_, trivial⟩
    ·intro xx af wv hbx hev hev0 hd; have e0 : af.tmps[0]?.getD undef = .pointer (some ⟨g, 0, none⟩) := hev0 0 rfl; clear hev hev0 hd; go_wp2; exact sQ rfl
    ·intro xx af wv hbx hev hev0 hd; have e31 := (hev 0 _ 31 rfl rfl).trans (hd ⟨0, .data⟩ (by simp) rfl); clear hev hev0 hd; go_wp2; exact sQ rfl
    ·intro xx af wv hbx hev hev0 hd; have e32 := (hev 1 _ 32 rfl rfl).trans (hd ⟨1, .data⟩ (by simp) rfl); clear hev hev0 hd; go_wp2; exact sQ rfl
    ·intro xx af wv hbx hev hev0 hd; have e33 := (hev 2 _ 33 rfl rfl).trans (hd ⟨2, .data⟩ (by simp) rfl); clear hev hev0 hd; have hs1 := zh (HS4.out.call hbx); have y0 := HD.out _ hs1.out.below 3 _ rfl; go_wp2; exact sQ rfl
    ·intro xx af wv hbx hev hev0 hd; have e3 : af.tmps[3]?.getD undef = .pointer (some ⟨w.heap.size, 0, none⟩) := hev0 3 rfl; clear hev hev0 hd; go_wp2; exact sQ rfl
    ·intro xx af wv hbx hev hev0 hd; have e35 := (hev 4 _ 35 rfl rfl).trans (hd ⟨4, .data⟩ (by simp) rfl); clear hev hev0 hd; have hs1 := zh (HS4.out.call hbx); have y0 := hs1.out.cell 0 rfl 1 rfl; go_wp2; exact sQ rfl
    ·intro xx af wv hbx hev hev0 hd
     have e34 := (hev 3 _ 34 rfl rfl).trans (hd ⟨3, .data⟩ (by simp) rfl)
     have e36 := (hev 5 _ 36 rfl rfl).trans (hd ⟨5, .data⟩ (by simp) rfl)
     clear hev hev0 hd
     go_wp2_with (at_lookup; refine a0k rfl _ _ 84 rfl 9 62 a1n Tryz.underlying84 (a6x _) (K_4.out.below hbx) (by simp [Act.eval]; assumption) (x.name) (by simp [Act.eval, strV]; assumption) HXL.out (z2) q2 (Z2.out) (Q2.out) ?_)
     exact sQ rfl
    ·intro xx af wv hbx hev hev0 hd; have e37 := (hev 6 _ 37 rfl rfl).trans (hd ⟨6, .data⟩ (by simp) rfl); clear hev hev0 hd; go_wp2; exact sQ rfl
    ·intro xx af wv hbx hev hev0 hd; have e30 := (hev 7 _ 30 rfl rfl).trans (hd ⟨7, .data⟩ (by simp) rfl); clear hev hev0 hd; go_wp2; exact sQ rfl
    ·intro xx af wv hbx hev hev0 hd; have e30 := (hev 7 _ 30 rfl rfl).trans (hd ⟨7, .data⟩ (by simp) rfl); clear hev hev0 hd; go_wp2; exact sQ rfl
    ·intro xx af wv hbx hev hev0 hd; have e38 := (hev 8 _ 38 rfl rfl).trans (hd ⟨8, .data⟩ (by simp) rfl); clear hev hev0 hd; go_wp2; exact sQ rfl
    intro xx w5 hb9 hv
    simp only [List.take, List.drop, a0j, Act.put]
    simp only [show xx 0 = _ from hv 0 (by decide), show xx 1 = _ from hv 1 (by decide), show xx 2 = _ from hv 2 (by decide), show xx 3 = _ from hv 3 (by decide), show xx 4 = _ from hv 4 (by decide), show xx 5 = _ from hv 5 (by decide), show xx 6 = _ from hv 6 (by decide), show xx 7 = _ from hv 7 (by decide), show xx 8 = _ from hv 8 (by decide), show xx 9 = _ from hv 9 (by decide), show xx 10 = _ from hv 10 (by decide)]
    clear hv
    have HS5 := zh (HS4.out.call hb9)
    have C_5 := zh (C_4.out.below hb9)
    clear C_4
    have M_5 := zh (M_4.out.below hb9)
    clear M_4
    have K_5 := zh (K_4.out.below hb9)
    clear K_4
    clear hb9 HS4
    clear Z1 Z2 Q1 Q2
    cases q1
    ·cases q2
     ·have N5 := zh (by first | exact N4.out rfl rfl rfl | exact N4.out trivial rfl rfl | exact N4.out rfl trivial trivial | exact N4.out trivial trivial trivial | exact N4.out)
      clear N4
      cases p
      ·have R := zh (N5.out.trans (if_pos rfl)).symm
       have x1 := HS5.out.cell 0 rfl 1 rfl
       go_wp2_with fail
       refine (H1.out _).mono ?_
       rintro e w' ⟨rfl, rfl⟩
       clear x1
       go_wp2
       go_ret
       exact ⟨_, C, rfl, C_5.out, R.out, fun h => absurd h (by decide), ⟨rfl, rfl, rfl, rfl, rfl⟩⟩
      ·by_cases m1 : x.list.length = 0
       ·have R := zh (N5.out.trans ((if_neg (by simp)).trans (if_pos m1))).symm
        have d3 : ((x.list.length : Int) == 0) = true := by rw [m1]; rfl
        have d4 : (x.list.length == 0) = true := by rw [m1]; rfl
        clear m1
        have x1 := HS5.out.cell 0 rfl 1 rfl
        go_wp2_with fail
        refine (H1.out _).mono ?_
        rintro e w' ⟨rfl, rfl⟩
        clear x1
        have x2 := HS5.out.cell 0 rfl 3 rfl
        go_wp2
        go_ret
        exact ⟨_, C, rfl, C_5.out, R.out, fun h => absurd h (by decide), ⟨rfl, rfl, rfl, rfl, rfl⟩⟩
       ·by_cases m2 : 32 < x.list.length
        ·have R := zh (N5.out.trans ((if_neg (by simp)).trans ((if_neg m1).trans (if_pos m2)))).symm
         have d3 : ((x.list.length : Int) == 0) = false := by rw [beq_eq_false_iff_ne]; omega
         have d4 : (x.list.length == 0) = false := by rw [beq_eq_false_iff_ne]; exact m1
         have d5 : decide ((32 : Int) < (x.list.length : Int)) = true := decide_eq_true (by omega)
         have d6 : decide (32 < x.list.length) = true := decide_eq_true m2
         clear m1 m2
         have x1 := HS5.out.cell 0 rfl 1 rfl
         go_wp2_with fail
         refine (H1.out _).mono ?_
         rintro e w' ⟨rfl, rfl⟩
         clear x1
         have x2 := HS5.out.cell 0 rfl 3 rfl
         go_wp2
         go_ret
         exact ⟨_, C, rfl, C_5.out, R.out, fun h => absurd h (by decide), ⟨rfl, rfl, rfl, rfl, rfl⟩⟩
        ·have R := zh (N5.out.trans ((if_neg (by simp)).trans ((if_neg m1).trans (if_neg m2)))).symm
         have d3 : ((x.list.length : Int) == 0) = false := by rw [beq_eq_false_iff_ne]; omega
         have d4 : (x.list.length == 0) = false := by rw [beq_eq_false_iff_ne]; exact m1
         have d5 : decide ((32 : Int) < (x.list.length : Int)) = false := decide_eq_false (by omega)
         have d6 : decide (32 < x.list.length) = false := decide_eq_false m2
         clear m1 m2
         have x1 := HS5.out.cell 0 rfl 1 rfl
         go_wp2_with fail
         refine (H1.out _).mono ?_
         rintro e w' ⟨rfl, rfl⟩
         clear x1
         have x2 := HS5.out.cell 0 rfl 3 rfl
         go_wp2
         clear x2
         refine a0n 8 [.pointer (some ⟨g, 0, none⟩), .pointer (some ⟨g, 0, none⟩), .pointer (some ⟨g, 3, none⟩), .map (some mk), .pointer (some ⟨w.heap.size, 1, none⟩), .string (bs x.name), .pointer (some ⟨w.heap.size, 3, none⟩), .slice A5 x.list.length c5] rfl (by kernel_rfl) (by kernel_rfl) (by kernel_rfl) ?_ ?_
         refine ⟨?_, ?_, ?_, ?_, ?_, ?_, ?_, ?_, trivial⟩
         ·intro xx af wv hbx hev hev0 hd; have e0 : af.tmps[0]?.getD undef = .pointer (some ⟨g, 0, none⟩) := hev0 0 rfl; clear hev hev0 hd; go_wp2; exact sQ rfl
         ·intro xx af wv hbx hev hev0 hd; have e60 := (hev 0 _ 60 rfl rfl).trans (hd ⟨0, .data⟩ (by simp) rfl); clear hev hev0 hd; go_wp2; exact sQ rfl
         ·intro xx af wv hbx hev hev0 hd; have e61 := (hev 1 _ 61 rfl rfl).trans (hd ⟨1, .data⟩ (by simp) rfl); clear hev hev0 hd; go_wp2; exact sQ rfl
         ·intro xx af wv hbx hev hev0 hd; have e62 := (hev 2 _ 62 rfl rfl).trans (hd ⟨2, .data⟩ (by simp) rfl); clear hev hev0 hd; have hs1 := zh (HS5.out.call hbx); have y0 := HD.out _ hs1.out.below 3 _ rfl; go_wp2; exact sQ rfl
         ·intro xx af wv hbx hev hev0 hd; have e3 : af.tmps[3]?.getD undef = .pointer (some ⟨w.heap.size, 0, none⟩) := hev0 3 rfl; clear hev hev0 hd; go_wp2; exact sQ rfl
         ·intro xx af wv hbx hev hev0 hd; have e64 := (hev 4 _ 64 rfl rfl).trans (hd ⟨4, .data⟩ (by simp) rfl); clear hev hev0 hd; have hs1 := zh (HS5.out.call hbx); have y0 := hs1.out.cell 0 rfl 1 rfl; go_wp2; exact sQ rfl
         ·intro xx af wv hbx hev hev0 hd; have e3 : af.tmps[3]?.getD undef = .pointer (some ⟨w.heap.size, 0, none⟩) := hev0 3 rfl; clear hev hev0 hd; go_wp2; exact sQ rfl
         ·intro xx af wv hbx hev hev0 hd; have e66 := (hev 6 _ 66 rfl rfl).trans (hd ⟨6, .data⟩ (by simp) rfl); clear hev hev0 hd; have hs1 := zh (HS5.out.call hbx); have y0 := hs1.out.cell 0 rfl 3 rfl; go_wp2; exact sQ rfl
         intro xx w6 hb9 hv
         simp only [List.take, List.drop, a0j, Act.put]
         simp only [show xx 0 = _ from hv 0 (by decide), show xx 1 = _ from hv 1 (by decide), show xx 2 = _ from hv 2 (by decide), show xx 3 = _ from hv 3 (by decide), show xx 4 = _ from hv 4 (by decide), show xx 5 = _ from hv 5 (by decide), show xx 6 = _ from hv 6 (by decide), show xx 7 = _ from hv 7 (by decide)]
         clear hv
         have HS6 := zh (HS5.out.call hb9)
         have C_6 := zh (C_5.out.below hb9)
         clear C_5
         have M_6 := zh (M_5.out.below hb9)
         clear M_5
         have K_6 := zh (K_5.out.below hb9)
         clear K_5
         clear hb9 HS5
         go_wp2_with (at_mapUpdate; refine a2d rfl _ _ _ 84 rfl 9 62 a1n Tryz.underlying84 K_6.out (HNK.out) (by simp [Act.eval]) (x.name) (by simp [Act.eval, strV]) HXL.out (.slice A5 x.list.length c5) (by simp [Act.eval]) ?_)
         intro w9 hown9 hg9
         have HC9 := zh (Cst.putClass C_6.out hown9 hg9)
         clear hown9 hg9
         go_wp2
         go_ret
         exact ⟨0, _, rfl, HC9.out, R.out, fun _ => (by first | exact HPU.out rfl rfl | exact HPU.out trivial rfl | exact HPU.out rfl trivial | exact HPU.out trivial trivial | exact HPU.out rfl | exact HPU.out trivial | exact HPU.out), ⟨rfl, rfl, rfl, rfl, rfl⟩⟩
     ·have R := zh (by first | exact (N3.out rfl (.inr rfl)).symm | exact (N3.out trivial (.inr rfl)).symm | exact (N3.out (by simp) (by simp)).symm | exact (N3.out rfl (by simp)).symm | exact (N3.out (by simp)).symm | simpa using N3.out.symm)
      go_wp2
      go_ret
      exact ⟨_, C, rfl, C_5.out, R.out, fun h => absurd h (by decide), ⟨rfl, rfl, rfl, rfl, rfl⟩⟩
    ·have R := zh (by first | exact (N3.out rfl (.inl rfl)).symm | exact (N3.out trivial (.inl rfl)).symm | exact (N3.out (by simp) (by simp)).symm | exact (N3.out rfl (by simp)).symm | exact (N3.out (by simp)).symm | simpa using N3.out.symm)
     go_wp2
     go_ret
     exact ⟨_, C, rfl, C_5.out, R.out, fun h => absurd h (by decide), ⟨rfl, rfl, rfl, rfl, rfl⟩⟩
   ·have R := zh (N2.out (fun h => h.elim k1 k2) k3).symm
    have R2 := zh (HSK.out k3)
    have d1 : decide (k < 1) = false := decide_eq_false k1
    have d2 : decide (4 < k) = false := decide_eq_false k2
    have d7 : (k != 1) = true := bne_iff_ne.2 k3
    clear k1 k2 k3
    go_enter Tryz.func35, Tryz.ntmps35
    have HS := zh (St.start w)
    go_wp2
    go_ret
    exact ⟨0, C, rfl, (HC.out.below (Ext.alloc (Below.refl w.heap.size w) (Obj.cells #[.int .i64 k, .string (bs x.name), .string (bs x.other), .slice A5 x.list.length c5, .bool x.am.n, .string (bs x.am.a), .string (bs x.am.b), .int .i64 x.at_] 64))), R.out, fun _ => R2.out, ⟨rfl, rfl, rfl, rfl, rfl⟩⟩
end Go.Proofs.YtbkbiokgfoomfaaGreatDoor
