/-
Part 47 of the base.
-/
import Derived.Test.YtlkhoommpkndpaaGreatDoorKb46
import Derived.Test.YtlkhoommpkndpaaGreatDoorKb49
import Derived.Test.YtlkhoommpkndpaaGreatDoorKb50
set_option maxRecDepth 100000
set_option maxHeartbeats 4000000
namespace Go.Proofs.YtlkhoommpkndpaaGreatDoor
open Go.RowKit
theorem change_cl {x : Ent} {e : Evt} (h : (changeE x e).2 = 0) : (changeE x e).1.cl = x.cl := by
 obtain ⟨_, hw⟩ := changeE_cases h
 rcases hw with ⟨_, hq⟩ | ⟨_, _, hq⟩ | ⟨_, _, hq⟩ | ⟨_, hq⟩ | ⟨_, _, hq⟩ | ⟨_, hq⟩ | ⟨_, hq⟩ | ⟨_, hq⟩ <;> rw [hq]
theorem apply_cl {r : Rgs} {e : Evt} {qs : List Quo} (hr : ∀ x ∈ r.es, x.cl.le 10000) (he : e.mid) (hq : ∀ q ∈ qs, q.low) : ∀ x ∈ (applyR r e qs).1.es, x.cl.le 10000 := by
 by_cases h : (applyR r e qs).2 = 0
 ·obtain ⟨_, hw⟩ := applyR_cases h
  rcases hw with ⟨_, _, hf, _, hq'⟩ | ⟨i, x, _, hf, hx, hc, hq'⟩
  ·rw [hq']
   intro y hy
   rcases List.mem_append.1 hy with hy | hy
   ·exact hr y hy
   ·obtain rfl : y = _ := by simpa using hy
    exact enc3_le (valueOfP_sized he.2.2 hq)
  ·rw [hq']
   intro y hy
   rcases List.mem_or_eq_of_mem_set hy with hy | rfl
   ·exact hr y hy
   ·show (changeE x e).1.cl.le 10000
    rw [change_cl hc]
    exact hr x (List.mem_of_getElem? hx)
 ·rw [applyR_err h]
  intro x hx
  exact absurd hx (by simp [rgs0])
theorem foldA_cl {qs : List Quo} (hq : ∀ q ∈ qs, q.low) : ∀ (acts : List ActN), (∀ a ∈ acts, a.ok) → ∀ (s : Rgs × Int), (∀ x ∈ s.1.es, x.cl.le 10000) → ∀ x ∈ (acts.foldl (stepA qs) s).1.es, x.cl.le 10000
 | [], _, _, hs => hs
 | a :: t, ha, s, hs => by
  rw [List.foldl_cons]
  refine foldA_cl hq t (fun b hb => ha b (List.mem_cons_of_mem _ hb)) _ ?_
  unfold stepA
  split
  ·exact hs
  ·exact apply_cl hs (evOf_mid (ha a (List.mem_cons_self ..)) _) hq
theorem runA_cl {cut bar : Nat} {acts : List ActN} {qs : List Quo} (ha : ∀ a ∈ acts, a.ok) (hq : ∀ q ∈ qs, q.low) : ∀ x ∈ (runA cut bar acts qs).es, x.cl.le 10000 := by
 unfold runA
 refine foldA_cl hq _ (fun a h => ha a (List.mem_of_mem_take h)) _ ?_
 intro x hx
 have h0 : (newR (cut % 60 : Nat) (bar % 90 : Nat)).1.es = [] := by unfold newR; split <;> rfl
 rw [h0] at hx
 cases hx
theorem law_RegisterBounds (n0 n1 : Int) (v : Value) (acts : List ActN) (v2 : Value) (ts : List Tri) (w : World) (h0 : 0 ≤ n0 ∧ n0 ≤ 255) (h1 : 0 ≤ n1 ∧ n1 ≤ 255) (hA : ActsL w v acts) (hok : ∀ a ∈ acts, a.ok) (hT : Tris w v2 ts) (htok : ∀ t ∈ ts, t.ok) :
  Calls Tryz.prog 7 #[.int .u8 n0, .int .u8 n1, v, v2] w fun e w' => e = .returned (.bool true) ∧ Below w.heap.size w w' := by
 obtain ⟨cut, rfl⟩ : ∃ k : Nat, n0 = k := ⟨n0.toNat, by omega⟩
 obtain ⟨bar, rfl⟩ : ∃ k : Nat, n1 = k := ⟨n1.toNat, by omega⟩
 have hW := fun W => law10_awake W
 have lo := quotesR_low htok
 have ok := quotesR_ok htok
 have hQ := fun W (hb : Below w.heap.size w W) => law10_quotes v2 ts W (hT.below hb) htok
 have hR := fun q W (hb : Below w.heap.size w W) (hq : Quotes W q (quotesR ts)) => law10_run cut bar v q acts (quotesR ts) W (by omega) (by omega) (hA.below hb) hok hq ok lo
 have hcl := runA_cl (cut := cut) (bar := bar) hok lo
 have hgood : (runA cut bar acts (quotesR ts)).good ∧ (runA cut bar acts (quotesR ts)).es.length ≤ 40 := by
  by_cases h40 : acts.length ≤ 40
  ·rw [← runK_end (k := acts.length) (.inl ⟨rfl, h40⟩)]
   obtain ⟨g1, g2, _⟩ := runK_good (cut := cut) (bar := bar) hok lo acts.length h40
   exact ⟨g1, g2⟩
  ·rw [← runK_end (k := 40) (.inr rfl)]
   obtain ⟨g1, g2, _⟩ := runK_good (cut := cut) (bar := bar) hok lo 40 (by omega)
   exact ⟨g1, g2⟩
 generalize runA cut bar acts (quotesR ts) = r at *
 generalize quotesR ts = qs at *
 have HW := Lib.hid hW
 have HQ := Lib.hid hQ
 have HR := Lib.hid hR
 have HGOOD := Lib.hid hgood.1
 have HCL := Lib.hid hcl
 clear hW hQ hR hgood hcl lo ok hA hok hT htok h0 h1
 go_enter Tryz.func7, Tryz.ntmps7
 have HS := Lib.hid (St.start w)
 go_wp2_with fail
 refine (HQ.out _ HS.out.below).mono ?_
 rintro e w2 ⟨v2, rfl, hl2, hb2⟩
 have HS2 := Lib.hid (HS.out.call hb2)
 have Q_2 := Lib.hid hl2
 clear hl2 hb2 HS
 go_wp2_with fail
 refine (HR.out _ _ HS2.out.below Q_2.out).mono ?_
 rintro e w3 ⟨v3, m3, rfl, hG3, hb3⟩
 obtain ⟨A3, c3, hv3, _, _⟩ := (Slc.of_own ent_len hG3 rfl).slice
 subst hv3
 have hE3 := Slc.of_own ent_len hG3 rfl
 have HS3 := Lib.hid (HS2.out.call hb3)
 have Q_3 := Lib.hid (Q_2.out.below hb3)
 clear Q_2
 have E_3 := Lib.hid hE3
 clear hE3 hb3 HS2
 have HB0 := Lib.hid HS3.out.below
 clear HS3
 have HT3 := Lib.hid (St.start w3)
 have HQ := Q_3.out
 have HQ := Lib.hid HQ
 clear Q_3
 have HE := E_3.out
 have HE := Lib.hid HE
 clear E_3
 go_wp2
 go_loopw [27] (fun i wr => ∃ k : Nat, k ≤ r.es.length ∧ i = .int .i64 k ∧ Hid (St w3 [⟨w3.heap.size, #[.int .i64 r.cut, .int .i64 r.bar, .int .i64 r.day, .slice A3 r.es.length c3], 24⟩] wr)) (fun i _ => r.es.length - (intOf i).toNat)
 case atStart => exact ⟨0, Nat.zero_le _, rfl, (St.alloc (HT3.out) #[.int .i64 r.cut, .int .i64 r.bar, .int .i64 r.day, .slice A3 r.es.length c3] 24 (w3.heap.size) (by simp))⟩
 case round =>
  obtain ⟨k, hk, rfl, HS⟩ := hrel
  by_cases hlt : k < r.es.length
  ·have hEL := HE.out
   obtain ⟨b, o, x, rfl, hbb, hq, hx⟩ := HE.out.at_ hlt
   obtain ⟨f1, f2, f3, f4, f5, _⟩ := HGOOD.out.1.1 x (List.mem_of_getElem? hq)
   obtain ⟨⟨_, ⟨c1, c2⟩, _⟩, ⟨l1, l2⟩, ⟨l3, l4⟩, l5, l6⟩ := HGOOD.out.2 x (List.mem_of_getElem? hq)
   obtain ⟨l7, l8⟩ := HCL.out x (List.mem_of_getElem? hq)
   have k1 := fun W => rational_Compare x.fl.n x.fl.a x.fl.b x.ad.n x.ad.a x.ad.b W (by omega) (by omega) (by omega) (by omega)
   have k2 := fun W => rational_Compare x.ad.n x.ad.a x.ad.b x.ce.n x.ce.a x.ce.b W (by omega) (by omega) (by omega) (by omega)
   have k3 := fun W => rational_Compare x.ce.n x.ce.a x.ce.b x.cl.n x.cl.a x.cl.b W (by omega) (by omega) (by omega) (by omega)
   have k4 := fun W => rational_Sign x.fl.n x.fl.a x.fl.b W (by omega) (by omega)
   change ∀ W, Calls Tryz.prog _ _ W (fun e w' => e = .returned (.int .i64 (sgn (x.fl.val - x.ad.val).num)) ∧ _) at k1
   change ∀ W, Calls Tryz.prog _ _ W (fun e w' => e = .returned (.int .i64 (sgn (x.ad.val - x.ce.val).num)) ∧ _) at k2
   change ∀ W, Calls Tryz.prog _ _ W (fun e w' => e = .returned (.int .i64 (sgn (x.ce.val - x.cl.val).num)) ∧ _) at k3
   change ∀ W, Calls Tryz.prog _ _ W (fun e w' => e = .returned (.int .i64 (sgn x.fl.val.num)) ∧ _) at k4
   have d1 : decide (0 < sgn (x.fl.val - x.ad.val).num) = false := decide_eq_false (by have := le_sgnR.2 f2; omega)
   have d2 : decide (0 < sgn (x.ad.val - x.ce.val).num) = false := decide_eq_false (by have := le_sgnR.2 f3; omega)
   have d3 : decide (0 < sgn (x.ce.val - x.cl.val).num) = false := decide_eq_false (by have := le_sgnR.2 f4; omega)
   have d4 : decide (sgn x.fl.val.num < 0) = false := decide_eq_false (sgn_nonneg f1)
   have d5 : decide (r.day < x.chg) = false := decide_eq_false (by omega)
   have d6 : ((k : Int) != (k : Int)) = false := by simp
   have hfi := fun W (hb : Below w3.heap.size w3 W) => register_Find r.cut r.bar r.day _ r.es x.p.id W (hEL.below hb)
   rw [find_self HGOOD.out.1 hq] at hfi
   dsimp only [Option.getD, Option.isSome] at hfi
   generalize sgn (x.fl.val - x.ad.val).num = s1 at *
   generalize sgn (x.ad.val - x.ce.val).num = s2 at *
   generalize sgn (x.ce.val - x.cl.val).num = s3 at *
   generalize sgn x.fl.val.num = s4 at *
   unfold raw at k1 k2 k3 k4
   have HX := Lib.hid hx
   have K1 := Lib.hid k1
   have K2 := Lib.hid k2
   have K3 := Lib.hid k3
   have K4 := Lib.hid k4
   have HFI := Lib.hid hfi
   have e0 : (0 : Int) ≤ ((k : Nat) : Int) := by omega
   have e1 : ((k : Nat) : Int) < (r.es.length : Int) := by omega
   have e2 : decide (((k : Nat) : Int) < (r.es.length : Int)) = true := decide_eq_true e1
   clear hx hq k1 k2 k3 k4 hfi hEL f1 f2 f3 f4 f5 c1 c2 l1 l2 l3 l4 l5 l6 l7 l8
   go_wp2_with (first | (refine wpList_load_mid rfl _ _ rfl (b) (o + k * 30) rfl [.string (bs x.p.id), .int .i64 x.p.est, .int .i64 x.p.cre, .string (bs x.p.code), .bool x.p.an, .string (bs x.p.aa), .string (bs x.p.ab), .int .i64 x.p.inc, .int .i64 x.p.rank, .bool x.p.rn, .string (bs x.p.ra), .string (bs x.p.rb), .int .i64 x.p.rf, .int .i64 x.p.sec, .int .i64 x.st, .bool x.late, .bool x.cl.n, .string (bs x.cl.a), .string (bs x.cl.b), .bool x.fl.n, .string (bs x.fl.a), .string (bs x.fl.b), .bool x.ad.n, .string (bs x.ad.a), .string (bs x.ad.b), .bool x.ce.n, .string (bs x.ce.a), .string (bs x.ce.b), .int .i64 x.acq, .int .i64 x.chg] _ (fun j v hv => HX.out _ (HS.out).below j v hv) Tryz.underlying63 rfl ent_size ?_) | (refine wpList_store_own rfl _ _ _ rfl (St.alloc (HS.out) entO 63 (wr.heap.size) (by simp)) 0 rfl [.string (bs x.p.id), .int .i64 x.p.est, .int .i64 x.p.cre, .string (bs x.p.code), .bool x.p.an, .string (bs x.p.aa), .string (bs x.p.ab), .int .i64 x.p.inc, .int .i64 x.p.rank, .bool x.p.rn, .string (bs x.p.ra), .string (bs x.p.rb), .int .i64 x.p.rf, .int .i64 x.p.sec, .int .i64 x.st, .bool x.late, .bool x.cl.n, .string (bs x.cl.a), .string (bs x.cl.b), .bool x.fl.n, .string (bs x.fl.a), .string (bs x.fl.b), .bool x.ad.n, .string (bs x.ad.a), .string (bs x.ad.b), .bool x.ce.n, .string (bs x.ce.a), .string (bs x.ce.b), .int .i64 x.acq, .int .i64 x.chg] rfl rfl rfl ent_size rfl ?_))
   intro w4 hS4
   have HS4 : Hid (St w3 [⟨wr.heap.size, (entC x), 63⟩, ⟨w3.heap.size, #[.int .i64 r.cut, .int .i64 r.bar, .int .i64 r.day, .slice (some ⟨b, o, none⟩) r.es.length c3], 24⟩] w4) := Lib.hid hS4
   clear hS4 HS
   have x1 := cC HS4 0 19
   have x2 := cC HS4 0 20
   have x3 := cC HS4 0 21
   have x4 := cC HS4 0 22
   have x5 := cC HS4 0 23
   have x6 := cC HS4 0 24
   go_wp2_with fail
   refine cL (K1.out _) HS4 fun w5 HS5 => ?_
   clear HS4 x1 x2 x3 x4 x5 x6
   have x7 := cC HS5 0 22
   have x8 := cC HS5 0 23
   have x9 := cC HS5 0 24
   have x10 := cC HS5 0 25
   have x11 := cC HS5 0 26
   have x12 := cC HS5 0 27
   go_wp2_with fail
   refine cL (K2.out _) HS5 fun w6 HS6 => ?_
   clear HS5 x7 x8 x9 x10 x11 x12
   have x13 := cC HS6 0 25
   have x14 := cC HS6 0 26
   have x15 := cC HS6 0 27
   have x16 := cC HS6 0 16
   have x17 := cC HS6 0 17
   have x18 := cC HS6 0 18
   go_wp2_with fail
   refine cL (K3.out _) HS6 fun w7 HS7 => ?_
   clear HS6 x13 x14 x15 x16 x17 x18
   have x19 := cC HS7 0 19
   have x20 := cC HS7 0 20
   have x21 := cC HS7 0 21
   go_wp2_with fail
   refine cL (K4.out _) HS7 fun w8 HS8 => ?_
   clear HS7 x19 x20 x21
   obtain ⟨x22, x23, x24⟩ := HS8.out.k0 1 rfl rfl rfl rfl
   have x25 := cC HS8 1 3
   have x26 := cC HS8 0 0
   go_wp2_with fail
   refine cL (HFI.out _ HS8.out.below) HS8 fun w9 HS9 => ?_
   clear HS8 x22 x23 x24 x25 x26
   have x27 := cC HS9 0 29
   have x28 := cC HS9 1 2
   go_wp2
   have HS10 := Lib.hid HS9.out
   go_roundw
   case rel => exact ⟨k + 1, by omega, by go_num, HS10.out.sub (List.Sublist.cons _ (List.Sublist.refl _))⟩
   case measure => simp [intOf]; omega
  ·obtain rfl : k = r.es.length := by omega
   have e2 : decide (((r.es.length : Nat) : Int) < (r.es.length : Int)) = false := decide_eq_false (by omega)
   go_wp2_with fail
   refine cL (HW.out _) HS fun w4 HS4 => ?_
   clear HS
   go_wp2
   go_ret
   have HS5 := Lib.hid HS4.out
   exact ⟨rfl, Ext.trans HB0.out HS5.out.below⟩
end Go.Proofs.YtlkhoommpkndpaaGreatDoor
