/-
Part 44 of the base.
-/
import Derived.Test.YtoighiepglclkaaGreatDoorKf42
set_option maxRecDepth 100000
set_option maxHeartbeats 20000000
namespace Go.Proofs.YtoighiepglclkaaGreatDoor
open Go.RowKit
theorem b7k (x : Ent) (e : Evt) (w : World) (h1 : (e.am.a.length <= 1000000 /\ e.am.b.length <= 1000000)) (h2 : (x.ce.a.length <= 1000000 /\ x.ce.b.length <= 1000000)) (h3 : (x.fl.a.length <= 1000000 /\ x.fl.b.length <= 1000000)) (h4 : (x.ad.a.length <= 1000000 /\ x.ad.b.length <= 1000000)) (hk : 2 <= e.kind /\ e.kind <= 9) :
  Calls Tryz.prog 26 #[.agg #[.string (bs x.p.id), .int .i64 x.p.est, .int .i64 x.p.cre, .string (bs x.p.code), .bool x.p.an, .string (bs x.p.aa), .string (bs x.p.ab), .int .i64 x.p.inc, .int .i64 x.p.rank, .bool x.p.rn, .string (bs x.p.ra), .string (bs x.p.rb), .int .i64 x.p.rf, .int .i64 x.p.sec, .int .i64 x.st, .bool x.late, .bool x.cl.n, .string (bs x.cl.a), .string (bs x.cl.b), .bool x.fl.n, .string (bs x.fl.a), .string (bs x.fl.b), .bool x.ad.n, .string (bs x.ad.a), .string (bs x.ad.b), .bool x.ce.n, .string (bs x.ce.a), .string (bs x.ce.b), .int .i64 x.acq, .int .i64 x.chg], .agg #[.int .i64 e.kind, .int .i64 e.day, .string (bs e.id), .bool e.am.n, .string (bs e.am.a), .string (bs e.am.b), .int .i64 e.cre, .string (bs e.p.id), .int .i64 e.p.est, .int .i64 e.p.cre, .string (bs e.p.code), .bool e.p.an, .string (bs e.p.aa), .string (bs e.p.ab), .int .i64 e.p.inc, .int .i64 e.p.rank, .bool e.p.rn, .string (bs e.p.ra), .string (bs e.p.rb), .int .i64 e.p.rf, .int .i64 e.p.sec]] w fun r w' => r = .returned (.tuple #[.agg #[.string (bs (chgR x e).1.p.id), .int .i64 (chgR x e).1.p.est, .int .i64 (chgR x e).1.p.cre, .string (bs (chgR x e).1.p.code), .bool (chgR x e).1.p.an, .string (bs (chgR x e).1.p.aa), .string (bs (chgR x e).1.p.ab), .int .i64 (chgR x e).1.p.inc, .int .i64 (chgR x e).1.p.rank, .bool (chgR x e).1.p.rn, .string (bs (chgR x e).1.p.ra), .string (bs (chgR x e).1.p.rb), .int .i64 (chgR x e).1.p.rf, .int .i64 (chgR x e).1.p.sec, .int .i64 (chgR x e).1.st, .bool (chgR x e).1.late, .bool (chgR x e).1.cl.n, .string (bs (chgR x e).1.cl.a), .string (bs (chgR x e).1.cl.b), .bool (chgR x e).1.fl.n, .string (bs (chgR x e).1.fl.a), .string (bs (chgR x e).1.fl.b), .bool (chgR x e).1.ad.n, .string (bs (chgR x e).1.ad.a), .string (bs (chgR x e).1.ad.b), .bool (chgR x e).1.ce.n, .string (bs (chgR x e).1.ce.a), .string (bs (chgR x e).1.ce.b), .int .i64 (chgR x e).1.acq, .int .i64 (chgR x e).1.chg], .int .i64 (chgR x e).2]) /\ Below w.heap.size w w' :=
 a9e x e w h1 h2 h3 h4 hk
theorem b7n (cut bar day : Int) (v qv : Value) (l : List Ent) (e : Evt) (qs : List Quo) (w : World) (hv : a5d w v l) (hl : l.length <= 1000) (h0 : 0 < l.length) (hm : ∀ x ∈ l, (x.fl.a.length <= 1000000 /\ x.fl.b.length <= 1000000) /\ (x.ad.a.length <= 1000000 /\ x.ad.b.length <= 1000000) /\ (x.ce.a.length <= 1000000 /\ x.ce.b.length <= 1000000)) (ham : e.am.a.length <= 1000000 /\ e.am.b.length <= 1000000) (hq : a3f w qv qs) (hok : ∀ q ∈ qs, q.ok) (hqs : ∀ q ∈ qs, q.num.length <= 100 /\ q.den.length <= 100) (hid : e.p.id.length <= 9223372036854775807 /\ e.p.code.length <= 9223372036854775807) (hsz : (e.p.aa.length <= 100 /\ e.p.ab.length <= 100) /\ e.p.ra.length <= 100 /\ e.p.rb.length <= 100) (h1 : ¬ e.kind < 1) (h2 : ¬ 9 < e.kind) (hdb : dayB e.day = true) (h3 : ¬ e.day < day) (h4 : ¬ e.kind = 1) (i : Nat) (x : Ent) (hfo : a3k l e.id = some i) (hx : l[i]? = some x) :
  Calls Tryz.prog 9 #[.agg #[.int .i64 cut, .int .i64 bar, .int .i64 day, v], .agg (evC e.kind e.day e.id e.am e.cre e.p), qv] w fun r w' => ∃ v', r = .returned (.tuple #[.agg #[.int .i64 (a0q ⟨cut, bar, day, l⟩ e qs).1.cut, .int .i64 (a0q ⟨cut, bar, day, l⟩ e qs).1.bar, .int .i64 (a0q ⟨cut, bar, day, l⟩ e qs).1.day, v'], .int .i64 (a0q ⟨cut, bar, day, l⟩ e qs).2]) /\ Grows w' w.heap.size 57 30 v' (a0q ⟨cut, bar, day, l⟩ e qs).1.es.length (flat Ent.enc (a0q ⟨cut, bar, day, l⟩ e qs).1.es) /\ Below w.heap.size w w' := by
 unfold evC
 obtain ⟨i0, hi0, hz0, hz1, hz2⟩ := info_parts a4g
 have HI := zh hi0
 clear hi0
 have hD := fun W => a3p e.day W
 have a1 := @b2k ⟨cut, bar, day, l⟩ e qs
 have a2 := @b2m ⟨cut, bar, day, l⟩ e qs
 have a3 := @b7b ⟨cut, bar, day, l⟩ e qs
 have a4 := @b7a ⟨cut, bar, day, l⟩ e qs
 have a5 := fun i x => @a9w ⟨cut, bar, day, l⟩ e qs i x
 generalize a0q ⟨cut, bar, day, l⟩ e qs = ans at *
 dsimp only at a1 a2 a3 a4 a5
 have hC := fun W (hb : Below w.heap.size w W) => a8g cut bar day v l W (hv.below hb) hl h0
 have hF := fun W (hb : Below w.heap.size w W) => a9f cut bar day v l e.id W (hv.below hb)
 have hN := fun W (hb : Below w.heap.size w W) => b0b cut bar day v qv l e qs W (hv.below hb) (hq.below hb) hok hqs hid hsz
 have hX := fun (i : Nat) (x : Ent) (hx : l[i]? = some x) (W : World) hk => b7k x e W ham (hm x (List.mem_of_getElem? hx)).2.2 (hm x (List.mem_of_getElem? hx)).1 (hm x (List.mem_of_getElem? hx)).2.1 hk
 have HL := zh hl
 have H0 := zh h0
 have H := zh hv
 obtain ⟨A, c, rfl, hll, hcc⟩ := hv.slice
 obtain ⟨dB, hdB⟩ : ∃ y, y = dayB e.day := ⟨_, rfl⟩
 rw [<- hdB] at hD a1 a2 a3 a4 a5
 obtain rfl : dB = true := hdB.trans hdb
 clear hdb
 have HDx := zh hD
 have A1x := zh a1
 have A2x := zh a2
 have A3x := zh a3
 have A4x := zh a4
 have A5x := zh a5
 have HCx := zh hC
 have HFx := zh hF
 have HNx := zh hN
 have HXx := zh hX
 clear hdB hv hl hm ham hq hok hqs hid hsz h0 hll hcc hD a1 a2 a3 a4 a5 hC hF hN hX
 have d1 : decide (e.kind < 1) = false := decide_eq_false h1
 have d2 : decide (9 < e.kind) = false := decide_eq_false h2
 have NR := zh (show ¬ (e.kind < 1 \/ 9 < e.kind \/ true = false) from (fun k => k.elim h1 (fun k => k.elim h2 (fun k => absurd k (by decide)))))
 have HKL := zh (show 1 <= e.kind /\ e.kind <= 9 by omega)
 clear h1 h2
 have d3 : decide (e.day < day) = false := decide_eq_false h3
 have H3 := zh h3
 clear h3
 have d4 : (e.kind == 1) = false := by rw [beq_eq_false_iff_ne]; exact h4
 have HK := zh (show 2 <= e.kind /\ e.kind <= 9 by have := HKL.out; omega)
 have H4 := zh h4
 clear h4
 have HF2 := HFx.out
 rw [hfo] at HF2
 clear HFx
 have HFx := zh HF2
 clear HF2
 obtain ⟨b1, b2⟩ := A5x.out i x NR.out H3.out H4.out hfo hx
 have HXI := zh hx
 have hX2 := HXx.out i x hx
 have hi : i < l.length := (List.getElem?_eq_some_iff.1 hx).1
 clear hfo HXx
 have hcr : (chgR x e).2 = (a0f x e).2 := by unfold chgR; split <;> rfl
 have hfe : (a0f x e).2 = 0 -> finE x e = { (chgR x e).1 with chg := e.day } := fun h => by unfold finE chgR; rw [if_pos h, if_pos h]
 rw [hcr] at hX2
 generalize (chgR x e).1 = y at *
 generalize (a0f x e).2 = cn at *
 have HX2 := zh hX2
 obtain ⟨b, o, x', hA, hbb, hq, hx'⟩ := H.out.at_ hi
 obtain rfl : x = x' := by rw [hx] at hq; exact Option.some.inj hq
 subst hA
 have HX := zh hx'
 have e0 : (0 : Int) <= ((i : Nat) : Int) := by omega
 have e1 : ((i : Nat) : Int) < (l.length : Int) := by omega
 clear hX2 hcr hx hx' hq hi
 by_cases h5 : cn = 0
 ·have HFE := zh (hfe h5)
  have R := zh (b2 h5)
  subst h5
  clear b1 b2 hfe
  go_enter Tryz.func9, Tryz.ntmps9
  have HS := zh (St.start w)
  have hra := fun rs => (b2t a1g (rest := rs) HXI.out).1
  have HRO := zh (b2t a1g (rest := []) HXI.out).2
  have hra := zh hra
  go_wp2_with fail
  refine (HDx.out _).mono ?_
  rintro e w' ⟨rfl, rfl⟩
  go_wp2_with fail
  have HS2 := aL (aL (aL HS #[.int .i64 cut, .int .i64 bar, .int .i64 day, .slice (some ⟨b, o, none⟩) l.length c] 32 w.heap.size) (evC e.kind e.day e.id e.am e.cre e.p) 44 (w.heap.size + 1)) #[.int .i64 0, .int .i64 0, .int .i64 0, .slice none 0 0] 32 (w.heap.size + 1 + 1)
  refine (HCx.out _ HS2.out.below).mono ?_
  rintro e w3 ⟨gr, cap, rs, rfl, hgr3, hBk3, hcn3, hcm3, hrr3, hb3⟩
  have hst3 := St.fill HS2.out hb3 hgr3 hBk3
  have HCN := zh hcn3
  have HCM := zh hcm3
  have HRR := zh hrr3
  clear hb3 hgr3 hBk3 hcn3 hcm3 hrr3
  rw [hra.out rs] at hst3
  have HS3 : Hid (St w [⟨gr, (offA (flat Ent.enc (l.take i)) x.enc (flat Ent.enc (l.drop (i + 1)) ++ rs)), 57⟩, ⟨w.heap.size + 1 + 1, #[.int .i64 0, .int .i64 0, .int .i64 0, .slice none 0 0], 32⟩, ⟨w.heap.size + 1, e.enc.toArray, 44⟩, ⟨w.heap.size, #[.int .i64 cut, .int .i64 bar, .int .i64 day, .slice (some ⟨b, o, none⟩) l.length c], 32⟩] w3) := zh hst3
  clear hst3 HS HS2
  have x1 := cC (v := .int .i64 e.day) HS3 2 1
  have x2 := cC (v := .int .i64 e.kind) HS3 2 0
  obtain ⟨x3, x4, x5⟩ := HS3.out.k0 3 rfl rfl rfl rfl
  have x6 := cC HS3 3 3
  have x7 := cC (v := .string (bs e.id)) HS3 2 2
  have x8 := HS3.out.lt 2 rfl
  have x9 : ¬ w.heap.size + 1 = w3.heap.size := by omega
  have x10 : ¬ w3.heap.size = w.heap.size + 1 := by omega
  have x11 := HS3.out.lt 3 rfl
  have x12 : ¬ w.heap.size = w3.heap.size := by omega
  have x13 : ¬ w3.heap.size = w.heap.size := by omega
  go_wp2_with fail
  have HS4 := aL HS3 #[.int .i64 cut, .int .i64 bar, .int .i64 e.day, .slice (some ⟨gr, 0, none⟩) l.length cap] 32 w3.heap.size
  refine cL (HFx.out _ HS4.out.below) HS4 fun w5 HS5 => ?_
  clear HS3 HS4 x1 x2 x3 x4 x5 x6 x7 x8 x9 x10 x11 x12 x13
  go_wp2
  refine a6c 12 10 11 [.pointer (some ⟨w.heap.size, 3, none⟩), .slice (some ⟨b, o, none⟩) l.length c, .int .i64 (i : Nat), .pointer (some ⟨b, o + i * 30, none⟩), .agg #[.string (bs x.p.id), .int .i64 x.p.est, .int .i64 x.p.cre, .string (bs x.p.code), .bool x.p.an, .string (bs x.p.aa), .string (bs x.p.ab), .int .i64 x.p.inc, .int .i64 x.p.rank, .bool x.p.rn, .string (bs x.p.ra), .string (bs x.p.rb), .int .i64 x.p.rf, .int .i64 x.p.sec, .int .i64 x.st, .bool x.late, .bool x.cl.n, .string (bs x.cl.a), .string (bs x.cl.b), .bool x.fl.n, .string (bs x.fl.a), .string (bs x.fl.b), .bool x.ad.n, .string (bs x.ad.a), .string (bs x.ad.b), .bool x.ce.n, .string (bs x.ce.a), .string (bs x.ce.b), .int .i64 x.acq, .int .i64 x.chg], .agg #[.int .i64 e.kind, .int .i64 e.day, .string (bs e.id), .bool e.am.n, .string (bs e.am.a), .string (bs e.am.b), .int .i64 e.cre, .string (bs e.p.id), .int .i64 e.p.est, .int .i64 e.p.cre, .string (bs e.p.code), .bool e.p.an, .string (bs e.p.aa), .string (bs e.p.ab), .int .i64 e.p.inc, .int .i64 e.p.rank, .bool e.p.rn, .string (bs e.p.ra), .string (bs e.p.rb), .int .i64 e.p.rf, .int .i64 e.p.sec], .tuple #[.agg #[.string (bs y.p.id), .int .i64 y.p.est, .int .i64 y.p.cre, .string (bs y.p.code), .bool y.p.an, .string (bs y.p.aa), .string (bs y.p.ab), .int .i64 y.p.inc, .int .i64 y.p.rank, .bool y.p.rn, .string (bs y.p.ra), .string (bs y.p.rb), .int .i64 y.p.rf, .int .i64 y.p.sec, .int .i64 y.st, .bool y.late, .bool y.cl.n, .string (bs y.cl.a), .string (bs y.cl.b), .bool y.fl.n, .string (bs y.fl.a), .string (bs y.fl.b), .bool y.ad.n, .string (bs y.ad.a), .string (bs y.ad.b), .bool y.ce.n, .string (bs y.ce.a), .string (bs y.ce.b), .int .i64 y.acq, .int .i64 y.chg], .int .i64 0], .tuple #[.agg #[.string (bs y.p.id), .int .i64 y.p.est, .int .i64 y.p.cre, .string (bs y.p.code), .bool y.p.an, .string (bs y.p.aa), .string (bs y.p.ab), .int .i64 y.p.inc, .int .i64 y.p.rank, .bool y.p.rn, .string (bs y.p.ra), .string (bs y.p.rb), .int .i64 y.p.rf, .int .i64 y.p.sec, .int .i64 y.st, .bool y.late, .bool y.cl.n, .string (bs y.cl.a), .string (bs y.cl.b), .bool y.fl.n, .string (bs y.fl.a), .string (bs y.fl.b), .bool y.ad.n, .string (bs y.ad.a), .string (bs y.ad.b), .bool y.ce.n, .string (bs y.ce.a), .string (bs y.ce.b), .int .i64 y.acq, .int .i64 y.chg], .int .i64 0], .agg #[.string (bs y.p.id), .int .i64 y.p.est, .int .i64 y.p.cre, .string (bs y.p.code), .bool y.p.an, .string (bs y.p.aa), .string (bs y.p.ab), .int .i64 y.p.inc, .int .i64 y.p.rank, .bool y.p.rn, .string (bs y.p.ra), .string (bs y.p.rb), .int .i64 y.p.rf, .int .i64 y.p.sec, .int .i64 y.st, .bool y.late, .bool y.cl.n, .string (bs y.cl.a), .string (bs y.cl.b), .bool y.fl.n, .string (bs y.fl.a), .string (bs y.fl.b), .bool y.ad.n, .string (bs y.ad.a), .string (bs y.ad.b), .bool y.ce.n, .string (bs y.ce.a), .string (bs y.ce.b), .int .i64 y.acq, .int .i64 y.chg], .int .i64 0, undef, undef] #[.string (bs []), .int .i64 0, .int .i64 0, .string (bs []), .bool false, .string (bs []), .string (bs []), .int .i64 0, .int .i64 0, .bool false, .string (bs []), .string (bs []), .int .i64 0, .int .i64 0, .int .i64 0, .bool false, .bool false, .string (bs []), .string (bs []), .bool false, .string (bs []), .string (bs []), .bool false, .string (bs []), .string (bs []), .bool false, .string (bs []), .string (bs []), .int .i64 0, .int .i64 0] #[.string (bs y.p.id), .int .i64 y.p.est, .int .i64 y.p.cre, .string (bs y.p.code), .bool y.p.an, .string (bs y.p.aa), .string (bs y.p.ab), .int .i64 y.p.inc, .int .i64 y.p.rank, .bool y.p.rn, .string (bs y.p.ra), .string (bs y.p.rb), .int .i64 y.p.rf, .int .i64 y.p.sec, .int .i64 y.st, .bool y.late, .bool y.cl.n, .string (bs y.cl.a), .string (bs y.cl.b), .bool y.fl.n, .string (bs y.fl.a), .string (bs y.fl.b), .bool y.ad.n, .string (bs y.ad.a), .string (bs y.ad.b), .bool y.ce.n, .string (bs y.ce.a), .string (bs y.ce.b), .int .i64 y.acq, .int .i64 y.chg] 57 rfl (by kernel_rfl) (by kernel_rfl) (by kernel_rfl) (by kernel_rfl) (by decide) (by decide) (by decide) ?_ ?_
  refine ⟨?_, ?_, ?_, ?_, ?_, ?_, ?_, ?_, ?_, ?_, ?_, ?_, trivial⟩ <;> (intro xx af wv hbx hev hev0 hd; have H := SH.mk hev hev0 hd; clear hev hev0 hd)
  ·have e3 := H.i 3; clear H; rw [if_neg (by decide), if_neg (by decide)]; go_wp2; exact sQ rfl
  ·have e73 := H.ev 0 _ 73 rfl rfl; have d0 : xx 0 = .pointer (some ⟨w.heap.size, 3, none⟩) := H.hd ⟨0, .data⟩ (by simp) rfl (by decide) (by decide); rw [d0] at e73; clear d0; clear H; rw [if_neg (by decide), if_neg (by decide)]; have hs1 := zh (HS5.out.call hbx); have y0 := cC hs1 4 3; go_wp2; exact sQ rfl
  ·have e11 := H.i 11; clear H; rw [if_neg (by decide), if_neg (by decide)]; go_wp2; exact sQ rfl
  ·have e74 := H.ev 1 _ 74 rfl rfl; have d1 : xx 1 = .slice (some ⟨b, o, none⟩) l.length c := H.hd ⟨1, .data⟩ (by simp) rfl (by decide) (by decide); rw [d1] at e74; clear d1; have e75 := H.ev 2 _ 75 rfl rfl; have d2 : xx 2 = .int .i64 (i : Nat) := H.hd ⟨2, .data⟩ (by simp) rfl (by decide) (by decide); rw [d2] at e75; clear d2; clear H; rw [if_neg (by decide), if_neg (by decide)]; go_wp2; exact sQ rfl
  ·have e76 := H.ev 3 _ 76 rfl rfl; have d3 : xx 3 = .pointer (some ⟨b, o + i * 30, none⟩) := H.hd ⟨3, .data⟩ (by simp) rfl (by decide) (by decide); rw [d3] at e76; clear d3; clear H; rw [if_neg (by decide), if_neg (by decide)]; have hs1 := zh (HS5.out.call hbx)
   refine wpList_load_mid rfl _ _ rfl (b) (o + i * 30) ((a1p _ _).trans e76) (entM x.p x.st x.late x.cl x.fl x.ad x.ce x.acq x.chg) _ (fun j v hv => HX.out _ (hs1.out).below j v hv) Tryz.underlying57 rfl a0n ?_
   go_wp2; exact sQ rfl
  ·have e4 := H.i 4; clear H; rw [if_neg (by decide), if_neg (by decide)]; have hs1 := zh (HS5.out.call hbx)
   refine wpList_load_mid rfl _ _ rfl (w.heap.size + 1) (0) ((a1p _ _).trans e4) (evC e.kind e.day e.id e.am e.cre e.p).toList _ (St.whole hs1.out 3 rfl) Tryz.underlying44 rfl a3m ?_
   go_wp2; exact sQ rfl
  ·have e77 := H.ev 4 _ 77 rfl rfl; have d4 : xx 4 = .agg #[.string (bs x.p.id), .int .i64 x.p.est, .int .i64 x.p.cre, .string (bs x.p.code), .bool x.p.an, .string (bs x.p.aa), .string (bs x.p.ab), .int .i64 x.p.inc, .int .i64 x.p.rank, .bool x.p.rn, .string (bs x.p.ra), .string (bs x.p.rb), .int .i64 x.p.rf, .int .i64 x.p.sec, .int .i64 x.st, .bool x.late, .bool x.cl.n, .string (bs x.cl.a), .string (bs x.cl.b), .bool x.fl.n, .string (bs x.fl.a), .string (bs x.fl.b), .bool x.ad.n, .string (bs x.ad.a), .string (bs x.ad.b), .bool x.ce.n, .string (bs x.ce.a), .string (bs x.ce.b), .int .i64 x.acq, .int .i64 x.chg] := H.hd ⟨4, .data⟩ (by simp) rfl (by decide) (by decide); rw [d4] at e77; clear d4; have e78 := H.ev 5 _ 78 rfl rfl; have d5 : xx 5 = .agg #[.int .i64 e.kind, .int .i64 e.day, .string (bs e.id), .bool e.am.n, .string (bs e.am.a), .string (bs e.am.b), .int .i64 e.cre, .string (bs e.p.id), .int .i64 e.p.est, .int .i64 e.p.cre, .string (bs e.p.code), .bool e.p.an, .string (bs e.p.aa), .string (bs e.p.ab), .int .i64 e.p.inc, .int .i64 e.p.rank, .bool e.p.rn, .string (bs e.p.ra), .string (bs e.p.rb), .int .i64 e.p.rf, .int .i64 e.p.sec] := H.hd ⟨5, .data⟩ (by simp) rfl (by decide) (by decide); rw [d5] at e78; clear d5; clear H; rw [if_neg (by decide), if_neg (by decide)]
   go_wp2_with fail
   refine (HX2.out _ HK.out).mono ?_
   rintro e w8 ⟨rfl, hb8⟩; go_wp2; exact StepQ.mk _ hb8 rfl
  ·have e79 := H.ev 6 _ 79 rfl rfl; have d6 : xx 6 = .tuple #[.agg #[.string (bs y.p.id), .int .i64 y.p.est, .int .i64 y.p.cre, .string (bs y.p.code), .bool y.p.an, .string (bs y.p.aa), .string (bs y.p.ab), .int .i64 y.p.inc, .int .i64 y.p.rank, .bool y.p.rn, .string (bs y.p.ra), .string (bs y.p.rb), .int .i64 y.p.rf, .int .i64 y.p.sec, .int .i64 y.st, .bool y.late, .bool y.cl.n, .string (bs y.cl.a), .string (bs y.cl.b), .bool y.fl.n, .string (bs y.fl.a), .string (bs y.fl.b), .bool y.ad.n, .string (bs y.ad.a), .string (bs y.ad.b), .bool y.ce.n, .string (bs y.ce.a), .string (bs y.ce.b), .int .i64 y.acq, .int .i64 y.chg], .int .i64 0] := H.hd ⟨6, .data⟩ (by simp) rfl (by decide) (by decide); rw [d6] at e79; clear d6; clear H; rw [if_neg (by decide), if_neg (by decide)]; go_wp2; exact sQ rfl
  ·have e72 := H.ev 7 _ 72 rfl rfl; have d7 : xx 7 = .tuple #[.agg #[.string (bs y.p.id), .int .i64 y.p.est, .int .i64 y.p.cre, .string (bs y.p.code), .bool y.p.an, .string (bs y.p.aa), .string (bs y.p.ab), .int .i64 y.p.inc, .int .i64 y.p.rank, .bool y.p.rn, .string (bs y.p.ra), .string (bs y.p.rb), .int .i64 y.p.rf, .int .i64 y.p.sec, .int .i64 y.st, .bool y.late, .bool y.cl.n, .string (bs y.cl.a), .string (bs y.cl.b), .bool y.fl.n, .string (bs y.fl.a), .string (bs y.fl.b), .bool y.ad.n, .string (bs y.ad.a), .string (bs y.ad.b), .bool y.ce.n, .string (bs y.ce.a), .string (bs y.ce.b), .int .i64 y.acq, .int .i64 y.chg], .int .i64 0] := H.hd ⟨7, .data⟩ (by simp) rfl (by decide) (by decide); rw [d7] at e72; clear d7; clear H; rw [if_neg (by decide), if_neg (by decide)]; go_wp2; exact sQ rfl
  ·have e72 := H.ev 7 _ 72 rfl rfl; have d7 : xx 7 = .tuple #[.agg #[.string (bs y.p.id), .int .i64 y.p.est, .int .i64 y.p.cre, .string (bs y.p.code), .bool y.p.an, .string (bs y.p.aa), .string (bs y.p.ab), .int .i64 y.p.inc, .int .i64 y.p.rank, .bool y.p.rn, .string (bs y.p.ra), .string (bs y.p.rb), .int .i64 y.p.rf, .int .i64 y.p.sec, .int .i64 y.st, .bool y.late, .bool y.cl.n, .string (bs y.cl.a), .string (bs y.cl.b), .bool y.fl.n, .string (bs y.fl.a), .string (bs y.fl.b), .bool y.ad.n, .string (bs y.ad.a), .string (bs y.ad.b), .bool y.ce.n, .string (bs y.ce.a), .string (bs y.ce.b), .int .i64 y.acq, .int .i64 y.chg], .int .i64 0] := H.hd ⟨7, .data⟩ (by simp) rfl (by decide) (by decide); rw [d7] at e72; clear d7; clear H; rw [if_neg (by decide), if_neg (by decide)]; go_wp2; exact sQ rfl
  ·clear H; rw [if_pos rfl]; go_wp2; exact StepQ.mk _ (Ext.alloc (Below.refl _ _) _) ⟨_, rfl, Nat.le_refl _, Blk.new _ _ _⟩
  ·have e13 := H.ev 10 _ 13 rfl rfl; have e80 := H.ev 8 _ 80 rfl rfl; have d8 : xx 8 = .agg #[.string (bs y.p.id), .int .i64 y.p.est, .int .i64 y.p.cre, .string (bs y.p.code), .bool y.p.an, .string (bs y.p.aa), .string (bs y.p.ab), .int .i64 y.p.inc, .int .i64 y.p.rank, .bool y.p.rn, .string (bs y.p.ra), .string (bs y.p.rb), .int .i64 y.p.rf, .int .i64 y.p.sec, .int .i64 y.st, .bool y.late, .bool y.cl.n, .string (bs y.cl.a), .string (bs y.cl.b), .bool y.fl.n, .string (bs y.fl.a), .string (bs y.fl.b), .bool y.ad.n, .string (bs y.ad.a), .string (bs y.ad.b), .bool y.ce.n, .string (bs y.ce.a), .string (bs y.ce.b), .int .i64 y.acq, .int .i64 y.chg] := H.hd ⟨8, .data⟩ (by simp) rfl (by decide) (by decide); rw [d8] at e80; clear d8; clear H; rw [if_neg (by decide), if_pos rfl]; intro g hxg hlg hBl; rw [hxg] at e13; clear hxg
   refine c9k rfl _ _ _ rfl rfl hBl hlg [.string (bs y.p.id), .int .i64 y.p.est, .int .i64 y.p.cre, .string (bs y.p.code), .bool y.p.an, .string (bs y.p.aa), .string (bs y.p.ab), .int .i64 y.p.inc, .int .i64 y.p.rank, .bool y.p.rn, .string (bs y.p.ra), .string (bs y.p.rb), .int .i64 y.p.rf, .int .i64 y.p.sec, .int .i64 y.st, .bool y.late, .bool y.cl.n, .string (bs y.cl.a), .string (bs y.cl.b), .bool y.fl.n, .string (bs y.fl.a), .string (bs y.fl.b), .bool y.ad.n, .string (bs y.ad.a), .string (bs y.ad.b), .bool y.ce.n, .string (bs y.ce.a), .string (bs y.ce.b), .int .i64 y.acq, .int .i64 y.chg] rfl ((a1p _ _).trans e13) ((a1p _ _).trans e80) a0n rfl
  intro xx w6 g6 hb9 hv hxg hlg hBl
  have hv0 : xx 0 = .pointer (some ⟨w.heap.size, 3, none⟩) := hv 0 (by decide) (by decide) (by decide)
  have hv1 : xx 1 = .slice (some ⟨b, o, none⟩) l.length c := hv 1 (by decide) (by decide) (by decide)
  have hv2 : xx 2 = .int .i64 (i : Nat) := hv 2 (by decide) (by decide) (by decide)
  have hv3 : xx 3 = .pointer (some ⟨b, o + i * 30, none⟩) := hv 3 (by decide) (by decide) (by decide)
  have hv4 : xx 4 = .agg #[.string (bs x.p.id), .int .i64 x.p.est, .int .i64 x.p.cre, .string (bs x.p.code), .bool x.p.an, .string (bs x.p.aa), .string (bs x.p.ab), .int .i64 x.p.inc, .int .i64 x.p.rank, .bool x.p.rn, .string (bs x.p.ra), .string (bs x.p.rb), .int .i64 x.p.rf, .int .i64 x.p.sec, .int .i64 x.st, .bool x.late, .bool x.cl.n, .string (bs x.cl.a), .string (bs x.cl.b), .bool x.fl.n, .string (bs x.fl.a), .string (bs x.fl.b), .bool x.ad.n, .string (bs x.ad.a), .string (bs x.ad.b), .bool x.ce.n, .string (bs x.ce.a), .string (bs x.ce.b), .int .i64 x.acq, .int .i64 x.chg] := hv 4 (by decide) (by decide) (by decide)
  have hv5 : xx 5 = .agg #[.int .i64 e.kind, .int .i64 e.day, .string (bs e.id), .bool e.am.n, .string (bs e.am.a), .string (bs e.am.b), .int .i64 e.cre, .string (bs e.p.id), .int .i64 e.p.est, .int .i64 e.p.cre, .string (bs e.p.code), .bool e.p.an, .string (bs e.p.aa), .string (bs e.p.ab), .int .i64 e.p.inc, .int .i64 e.p.rank, .bool e.p.rn, .string (bs e.p.ra), .string (bs e.p.rb), .int .i64 e.p.rf, .int .i64 e.p.sec] := hv 5 (by decide) (by decide) (by decide)
  have hv6 : xx 6 = .tuple #[.agg #[.string (bs y.p.id), .int .i64 y.p.est, .int .i64 y.p.cre, .string (bs y.p.code), .bool y.p.an, .string (bs y.p.aa), .string (bs y.p.ab), .int .i64 y.p.inc, .int .i64 y.p.rank, .bool y.p.rn, .string (bs y.p.ra), .string (bs y.p.rb), .int .i64 y.p.rf, .int .i64 y.p.sec, .int .i64 y.st, .bool y.late, .bool y.cl.n, .string (bs y.cl.a), .string (bs y.cl.b), .bool y.fl.n, .string (bs y.fl.a), .string (bs y.fl.b), .bool y.ad.n, .string (bs y.ad.a), .string (bs y.ad.b), .bool y.ce.n, .string (bs y.ce.a), .string (bs y.ce.b), .int .i64 y.acq, .int .i64 y.chg], .int .i64 0] := hv 6 (by decide) (by decide) (by decide)
  have hv7 : xx 7 = .tuple #[.agg #[.string (bs y.p.id), .int .i64 y.p.est, .int .i64 y.p.cre, .string (bs y.p.code), .bool y.p.an, .string (bs y.p.aa), .string (bs y.p.ab), .int .i64 y.p.inc, .int .i64 y.p.rank, .bool y.p.rn, .string (bs y.p.ra), .string (bs y.p.rb), .int .i64 y.p.rf, .int .i64 y.p.sec, .int .i64 y.st, .bool y.late, .bool y.cl.n, .string (bs y.cl.a), .string (bs y.cl.b), .bool y.fl.n, .string (bs y.fl.a), .string (bs y.fl.b), .bool y.ad.n, .string (bs y.ad.a), .string (bs y.ad.b), .bool y.ce.n, .string (bs y.ce.a), .string (bs y.ce.b), .int .i64 y.acq, .int .i64 y.chg], .int .i64 0] := hv 7 (by decide) (by decide) (by decide)
  have hv8 : xx 8 = .agg #[.string (bs y.p.id), .int .i64 y.p.est, .int .i64 y.p.cre, .string (bs y.p.code), .bool y.p.an, .string (bs y.p.aa), .string (bs y.p.ab), .int .i64 y.p.inc, .int .i64 y.p.rank, .bool y.p.rn, .string (bs y.p.ra), .string (bs y.p.rb), .int .i64 y.p.rf, .int .i64 y.p.sec, .int .i64 y.st, .bool y.late, .bool y.cl.n, .string (bs y.cl.a), .string (bs y.cl.b), .bool y.fl.n, .string (bs y.fl.a), .string (bs y.fl.b), .bool y.ad.n, .string (bs y.ad.a), .string (bs y.ad.b), .bool y.ce.n, .string (bs y.ce.a), .string (bs y.ce.b), .int .i64 y.acq, .int .i64 y.chg] := hv 8 (by decide) (by decide) (by decide)
  have hv9 : xx 9 = .int .i64 0 := hv 9 (by decide) (by decide) (by decide)
  clear hv
  simp only [List.take, List.drop, a0r, Act.put]
  simp only [hxg, hv0, hv1, hv2, hv3, hv4, hv5, hv6, hv7, hv8, hv9]
  clear hxg hv0 hv1 hv2 hv3 hv4 hv5 hv6 hv7 hv8 hv9
  have HS6 := zh (HS5.out.fill hb9 hlg hBl)
  clear hb9 hlg hBl HS5
  have x14 := cC (v := .int .i64 e.day) HS6 4 1
  have x15 := cC HS6 0 29
  have x16 := cF HS6 0 29
  have x17 := cN HS6 0 1
  have x18 := cN HS6 1 0
  have x19 := cN HS6 0 2
  have x20 := cN HS6 2 0
  have x21 := cN HS6 0 3
  have x22 := cN HS6 3 0
  have x23 := cN HS6 0 4
  have x24 := cN HS6 4 0
  have x25 := cN HS6 0 5
  have x26 := cN HS6 5 0
  go_upto_region 20 with fail
  clear x14 x15 x16 x17 x18 x19 x20 x21 x22 x23 x24 x25 x26
  refine a3u (R := [⟨g6, (entM y.p y.st y.late y.cl y.fl y.ad y.ce y.acq e.day).toArray, 57⟩, _, _, _, _, _]) (St.set (HS6.out) 0 rfl 29 _) ?_
  intro wg7 hb
  have HS7 := zh hb
  clear hb HS6
  have x27 := cC HS7 1 3
  go_wp2_with (first | (refine wpList_load_mid rfl _ _ rfl (g6) (0) rfl (entM y.p y.st y.late y.cl y.fl y.ad y.ce y.acq e.day) _ (St.whole HS7.out 0 rfl) Tryz.underlying57 rfl a0n ?_) | (refine a8s rfl _ _ _ rfl HS7.out 2 rfl HRO.out [.string (bs y.p.id), .int .i64 y.p.est, .int .i64 y.p.cre, .string (bs y.p.code), .bool y.p.an, .string (bs y.p.aa), .string (bs y.p.ab), .int .i64 y.p.inc, .int .i64 y.p.rank, .bool y.p.rn, .string (bs y.p.ra), .string (bs y.p.rb), .int .i64 y.p.rf, .int .i64 y.p.sec, .int .i64 y.st, .bool y.late, .bool y.cl.n, .string (bs y.cl.a), .string (bs y.cl.b), .bool y.fl.n, .string (bs y.fl.a), .string (bs y.fl.b), .bool y.ad.n, .string (bs y.ad.a), .string (bs y.ad.b), .bool y.ce.n, .string (bs y.ce.a), .string (bs y.ce.b), .int .i64 y.acq, .int .i64 e.day] rfl rfl rfl a0n rfl ?_))
  intro w8 hS8
  have HS8 : Hid (St w [_, _, ⟨gr, (offA (flat Ent.enc (l.take i)) ({ y with chg := e.day } : Ent).enc (flat Ent.enc (l.drop (i + 1)) ++ rs)), 57⟩, _, _, _] w8) := zh hS8
  clear hS8 HS7 x27
  obtain ⟨x28, x29, x30⟩ := HS8.out.k0 1 rfl rfl rfl rfl
  have x31 := cC HS8 1 3
  obtain ⟨x32, x33, x34⟩ := HS8.out.k0 3 rfl rfl rfl rfl
  have x35 := cC HS8 3 3
  obtain ⟨x36, x37, x38⟩ := HS8.out.f0 3 rfl
  have x39 := cF HS8 3 3
  have x40 := cN HS8 3 0
  have x41 := cN HS8 0 3
  have x42 := cN HS8 3 1
  have x43 := cN HS8 1 3
  have x44 := cN HS8 3 2
  have x45 := cN HS8 2 3
  have x46 := cN HS8 3 4
  have x47 := cN HS8 4 3
  have x48 := cN HS8 3 5
  have x49 := cN HS8 5 3
  go_wp2
  have HS9 : Hid (St w [_, _, _, ⟨w.heap.size + 1 + 1, #[.int .i64 cut, .int .i64 bar, .int .i64 e.day, .slice (some ⟨gr, 0, none⟩) l.length cap], 32⟩, _, _] _) := zh (St.set (St.set (St.set (St.set (HS8.out) 3 rfl 0 _) 3 rfl 1 _) 3 rfl 2 _) 3 rfl 3 _)
  refine bodyPost_ret (a0v rfl _ _ _ rfl (HS9.out.blk 3 rfl)) rfl ?_
  rw [R.out]
  have hBk := HS9.out.blk 2 rfl
  rw [c1k HXI.out] at hBk
  exact ⟨_, rfl, by rw [HFE.out]; simpa only [List.length_set] using a5f a1g hBk (HS9.out.ge 2 rfl) (by rw [List.length_set]; exact HCN.out) HCM.out (by rw [List.length_set]; exact HRR.out), HS9.out.below⟩
 have R := zh (b1 h5)
 have z5 : (cn != 0) = true := by rw [bne_iff_ne]; exact h5
 clear b1 b2 h5 hfe
 go_enter Tryz.func9, Tryz.ntmps9
 have HS := zh (St.start w)
 have hra := fun rs => (b2t a1g (rest := rs) HXI.out).1
 have HRO := zh (b2t a1g (rest := []) HXI.out).2
 have hra := zh hra
 go_wp2_with fail
 refine (HDx.out _).mono ?_
 rintro e w' ⟨rfl, rfl⟩
 go_wp2_with fail
 have HS2 := aL (aL (aL HS #[.int .i64 cut, .int .i64 bar, .int .i64 day, .slice (some ⟨b, o, none⟩) l.length c] 32 w.heap.size) (evC e.kind e.day e.id e.am e.cre e.p) 44 (w.heap.size + 1)) #[.int .i64 0, .int .i64 0, .int .i64 0, .slice none 0 0] 32 (w.heap.size + 1 + 1)
 refine (HCx.out _ HS2.out.below).mono ?_
 rintro e w3 ⟨gr, cap, rs, rfl, hgr3, hBk3, hcn3, hcm3, hrr3, hb3⟩
 have hst3 := St.fill HS2.out hb3 hgr3 hBk3
 have HCN := zh hcn3
 have HCM := zh hcm3
 have HRR := zh hrr3
 clear hb3 hgr3 hBk3 hcn3 hcm3 hrr3
 rw [hra.out rs] at hst3
 have HS3 : Hid (St w [⟨gr, (offA (flat Ent.enc (l.take i)) x.enc (flat Ent.enc (l.drop (i + 1)) ++ rs)), 57⟩, ⟨w.heap.size + 1 + 1, #[.int .i64 0, .int .i64 0, .int .i64 0, .slice none 0 0], 32⟩, ⟨w.heap.size + 1, e.enc.toArray, 44⟩, ⟨w.heap.size, #[.int .i64 cut, .int .i64 bar, .int .i64 day, .slice (some ⟨b, o, none⟩) l.length c], 32⟩] w3) := zh hst3
 clear hst3 HS HS2
 have x1 := cC (v := .int .i64 e.day) HS3 2 1
 have x2 := cC (v := .int .i64 e.kind) HS3 2 0
 obtain ⟨x3, x4, x5⟩ := HS3.out.k0 3 rfl rfl rfl rfl
 have x6 := cC HS3 3 3
 have x7 := cC (v := .string (bs e.id)) HS3 2 2
 have x8 := HS3.out.lt 2 rfl
 have x9 : ¬ w.heap.size + 1 = w3.heap.size := by omega
 have x10 : ¬ w3.heap.size = w.heap.size + 1 := by omega
 have x11 := HS3.out.lt 3 rfl
 have x12 : ¬ w.heap.size = w3.heap.size := by omega
 have x13 : ¬ w3.heap.size = w.heap.size := by omega
 go_wp2_with fail
 have HS4 := aL HS3 #[.int .i64 cut, .int .i64 bar, .int .i64 e.day, .slice (some ⟨gr, 0, none⟩) l.length cap] 32 w3.heap.size
 refine cL (HFx.out _ HS4.out.below) HS4 fun w5 HS5 => ?_
 clear HS3 HS4 x1 x2 x3 x4 x5 x6 x7 x8 x9 x10 x11 x12 x13
 go_wp2
 refine a6c 12 10 11 [.pointer (some ⟨w.heap.size, 3, none⟩), .slice (some ⟨b, o, none⟩) l.length c, .int .i64 (i : Nat), .pointer (some ⟨b, o + i * 30, none⟩), .agg #[.string (bs x.p.id), .int .i64 x.p.est, .int .i64 x.p.cre, .string (bs x.p.code), .bool x.p.an, .string (bs x.p.aa), .string (bs x.p.ab), .int .i64 x.p.inc, .int .i64 x.p.rank, .bool x.p.rn, .string (bs x.p.ra), .string (bs x.p.rb), .int .i64 x.p.rf, .int .i64 x.p.sec, .int .i64 x.st, .bool x.late, .bool x.cl.n, .string (bs x.cl.a), .string (bs x.cl.b), .bool x.fl.n, .string (bs x.fl.a), .string (bs x.fl.b), .bool x.ad.n, .string (bs x.ad.a), .string (bs x.ad.b), .bool x.ce.n, .string (bs x.ce.a), .string (bs x.ce.b), .int .i64 x.acq, .int .i64 x.chg], .agg #[.int .i64 e.kind, .int .i64 e.day, .string (bs e.id), .bool e.am.n, .string (bs e.am.a), .string (bs e.am.b), .int .i64 e.cre, .string (bs e.p.id), .int .i64 e.p.est, .int .i64 e.p.cre, .string (bs e.p.code), .bool e.p.an, .string (bs e.p.aa), .string (bs e.p.ab), .int .i64 e.p.inc, .int .i64 e.p.rank, .bool e.p.rn, .string (bs e.p.ra), .string (bs e.p.rb), .int .i64 e.p.rf, .int .i64 e.p.sec], .tuple #[.agg #[.string (bs y.p.id), .int .i64 y.p.est, .int .i64 y.p.cre, .string (bs y.p.code), .bool y.p.an, .string (bs y.p.aa), .string (bs y.p.ab), .int .i64 y.p.inc, .int .i64 y.p.rank, .bool y.p.rn, .string (bs y.p.ra), .string (bs y.p.rb), .int .i64 y.p.rf, .int .i64 y.p.sec, .int .i64 y.st, .bool y.late, .bool y.cl.n, .string (bs y.cl.a), .string (bs y.cl.b), .bool y.fl.n, .string (bs y.fl.a), .string (bs y.fl.b), .bool y.ad.n, .string (bs y.ad.a), .string (bs y.ad.b), .bool y.ce.n, .string (bs y.ce.a), .string (bs y.ce.b), .int .i64 y.acq, .int .i64 y.chg], .int .i64 cn], .tuple #[.agg #[.string (bs y.p.id), .int .i64 y.p.est, .int .i64 y.p.cre, .string (bs y.p.code), .bool y.p.an, .string (bs y.p.aa), .string (bs y.p.ab), .int .i64 y.p.inc, .int .i64 y.p.rank, .bool y.p.rn, .string (bs y.p.ra), .string (bs y.p.rb), .int .i64 y.p.rf, .int .i64 y.p.sec, .int .i64 y.st, .bool y.late, .bool y.cl.n, .string (bs y.cl.a), .string (bs y.cl.b), .bool y.fl.n, .string (bs y.fl.a), .string (bs y.fl.b), .bool y.ad.n, .string (bs y.ad.a), .string (bs y.ad.b), .bool y.ce.n, .string (bs y.ce.a), .string (bs y.ce.b), .int .i64 y.acq, .int .i64 y.chg], .int .i64 cn], .agg #[.string (bs y.p.id), .int .i64 y.p.est, .int .i64 y.p.cre, .string (bs y.p.code), .bool y.p.an, .string (bs y.p.aa), .string (bs y.p.ab), .int .i64 y.p.inc, .int .i64 y.p.rank, .bool y.p.rn, .string (bs y.p.ra), .string (bs y.p.rb), .int .i64 y.p.rf, .int .i64 y.p.sec, .int .i64 y.st, .bool y.late, .bool y.cl.n, .string (bs y.cl.a), .string (bs y.cl.b), .bool y.fl.n, .string (bs y.fl.a), .string (bs y.fl.b), .bool y.ad.n, .string (bs y.ad.a), .string (bs y.ad.b), .bool y.ce.n, .string (bs y.ce.a), .string (bs y.ce.b), .int .i64 y.acq, .int .i64 y.chg], .int .i64 cn, undef, undef] #[.string (bs []), .int .i64 0, .int .i64 0, .string (bs []), .bool false, .string (bs []), .string (bs []), .int .i64 0, .int .i64 0, .bool false, .string (bs []), .string (bs []), .int .i64 0, .int .i64 0, .int .i64 0, .bool false, .bool false, .string (bs []), .string (bs []), .bool false, .string (bs []), .string (bs []), .bool false, .string (bs []), .string (bs []), .bool false, .string (bs []), .string (bs []), .int .i64 0, .int .i64 0] #[.string (bs y.p.id), .int .i64 y.p.est, .int .i64 y.p.cre, .string (bs y.p.code), .bool y.p.an, .string (bs y.p.aa), .string (bs y.p.ab), .int .i64 y.p.inc, .int .i64 y.p.rank, .bool y.p.rn, .string (bs y.p.ra), .string (bs y.p.rb), .int .i64 y.p.rf, .int .i64 y.p.sec, .int .i64 y.st, .bool y.late, .bool y.cl.n, .string (bs y.cl.a), .string (bs y.cl.b), .bool y.fl.n, .string (bs y.fl.a), .string (bs y.fl.b), .bool y.ad.n, .string (bs y.ad.a), .string (bs y.ad.b), .bool y.ce.n, .string (bs y.ce.a), .string (bs y.ce.b), .int .i64 y.acq, .int .i64 y.chg] 57 rfl (by kernel_rfl) (by kernel_rfl) (by kernel_rfl) (by kernel_rfl) (by decide) (by decide) (by decide) ?_ ?_
 refine ⟨?_, ?_, ?_, ?_, ?_, ?_, ?_, ?_, ?_, ?_, ?_, ?_, trivial⟩ <;> (intro xx af wv hbx hev hev0 hd; have H := SH.mk hev hev0 hd; clear hev hev0 hd)
 ·have e3 := H.i 3; clear H; rw [if_neg (by decide), if_neg (by decide)]; go_wp2; exact sQ rfl
 ·have e73 := H.ev 0 _ 73 rfl rfl; have d0 : xx 0 = .pointer (some ⟨w.heap.size, 3, none⟩) := H.hd ⟨0, .data⟩ (by simp) rfl (by decide) (by decide); rw [d0] at e73; clear d0; clear H; rw [if_neg (by decide), if_neg (by decide)]; have hs1 := zh (HS5.out.call hbx); have y0 := cC hs1 4 3; go_wp2; exact sQ rfl
 ·have e11 := H.i 11; clear H; rw [if_neg (by decide), if_neg (by decide)]; go_wp2; exact sQ rfl
 ·have e74 := H.ev 1 _ 74 rfl rfl; have d1 : xx 1 = .slice (some ⟨b, o, none⟩) l.length c := H.hd ⟨1, .data⟩ (by simp) rfl (by decide) (by decide); rw [d1] at e74; clear d1; have e75 := H.ev 2 _ 75 rfl rfl; have d2 : xx 2 = .int .i64 (i : Nat) := H.hd ⟨2, .data⟩ (by simp) rfl (by decide) (by decide); rw [d2] at e75; clear d2; clear H; rw [if_neg (by decide), if_neg (by decide)]; go_wp2; exact sQ rfl
 ·have e76 := H.ev 3 _ 76 rfl rfl; have d3 : xx 3 = .pointer (some ⟨b, o + i * 30, none⟩) := H.hd ⟨3, .data⟩ (by simp) rfl (by decide) (by decide); rw [d3] at e76; clear d3; clear H; rw [if_neg (by decide), if_neg (by decide)]; have hs1 := zh (HS5.out.call hbx)
  refine wpList_load_mid rfl _ _ rfl (b) (o + i * 30) ((a1p _ _).trans e76) (entM x.p x.st x.late x.cl x.fl x.ad x.ce x.acq x.chg) _ (fun j v hv => HX.out _ (hs1.out).below j v hv) Tryz.underlying57 rfl a0n ?_
  go_wp2; exact sQ rfl
 ·have e4 := H.i 4; clear H; rw [if_neg (by decide), if_neg (by decide)]; have hs1 := zh (HS5.out.call hbx)
  refine wpList_load_mid rfl _ _ rfl (w.heap.size + 1) (0) ((a1p _ _).trans e4) (evC e.kind e.day e.id e.am e.cre e.p).toList _ (St.whole hs1.out 3 rfl) Tryz.underlying44 rfl a3m ?_
  go_wp2; exact sQ rfl
 ·have e77 := H.ev 4 _ 77 rfl rfl; have d4 : xx 4 = .agg #[.string (bs x.p.id), .int .i64 x.p.est, .int .i64 x.p.cre, .string (bs x.p.code), .bool x.p.an, .string (bs x.p.aa), .string (bs x.p.ab), .int .i64 x.p.inc, .int .i64 x.p.rank, .bool x.p.rn, .string (bs x.p.ra), .string (bs x.p.rb), .int .i64 x.p.rf, .int .i64 x.p.sec, .int .i64 x.st, .bool x.late, .bool x.cl.n, .string (bs x.cl.a), .string (bs x.cl.b), .bool x.fl.n, .string (bs x.fl.a), .string (bs x.fl.b), .bool x.ad.n, .string (bs x.ad.a), .string (bs x.ad.b), .bool x.ce.n, .string (bs x.ce.a), .string (bs x.ce.b), .int .i64 x.acq, .int .i64 x.chg] := H.hd ⟨4, .data⟩ (by simp) rfl (by decide) (by decide); rw [d4] at e77; clear d4; have e78 := H.ev 5 _ 78 rfl rfl; have d5 : xx 5 = .agg #[.int .i64 e.kind, .int .i64 e.day, .string (bs e.id), .bool e.am.n, .string (bs e.am.a), .string (bs e.am.b), .int .i64 e.cre, .string (bs e.p.id), .int .i64 e.p.est, .int .i64 e.p.cre, .string (bs e.p.code), .bool e.p.an, .string (bs e.p.aa), .string (bs e.p.ab), .int .i64 e.p.inc, .int .i64 e.p.rank, .bool e.p.rn, .string (bs e.p.ra), .string (bs e.p.rb), .int .i64 e.p.rf, .int .i64 e.p.sec] := H.hd ⟨5, .data⟩ (by simp) rfl (by decide) (by decide); rw [d5] at e78; clear d5; clear H; rw [if_neg (by decide), if_neg (by decide)]
  go_wp2_with fail
  refine (HX2.out _ HK.out).mono ?_
  rintro e w8 ⟨rfl, hb8⟩; go_wp2; exact StepQ.mk _ hb8 rfl
 ·have e79 := H.ev 6 _ 79 rfl rfl; have d6 : xx 6 = .tuple #[.agg #[.string (bs y.p.id), .int .i64 y.p.est, .int .i64 y.p.cre, .string (bs y.p.code), .bool y.p.an, .string (bs y.p.aa), .string (bs y.p.ab), .int .i64 y.p.inc, .int .i64 y.p.rank, .bool y.p.rn, .string (bs y.p.ra), .string (bs y.p.rb), .int .i64 y.p.rf, .int .i64 y.p.sec, .int .i64 y.st, .bool y.late, .bool y.cl.n, .string (bs y.cl.a), .string (bs y.cl.b), .bool y.fl.n, .string (bs y.fl.a), .string (bs y.fl.b), .bool y.ad.n, .string (bs y.ad.a), .string (bs y.ad.b), .bool y.ce.n, .string (bs y.ce.a), .string (bs y.ce.b), .int .i64 y.acq, .int .i64 y.chg], .int .i64 cn] := H.hd ⟨6, .data⟩ (by simp) rfl (by decide) (by decide); rw [d6] at e79; clear d6; clear H; rw [if_neg (by decide), if_neg (by decide)]; go_wp2; exact sQ rfl
 ·have e72 := H.ev 7 _ 72 rfl rfl; have d7 : xx 7 = .tuple #[.agg #[.string (bs y.p.id), .int .i64 y.p.est, .int .i64 y.p.cre, .string (bs y.p.code), .bool y.p.an, .string (bs y.p.aa), .string (bs y.p.ab), .int .i64 y.p.inc, .int .i64 y.p.rank, .bool y.p.rn, .string (bs y.p.ra), .string (bs y.p.rb), .int .i64 y.p.rf, .int .i64 y.p.sec, .int .i64 y.st, .bool y.late, .bool y.cl.n, .string (bs y.cl.a), .string (bs y.cl.b), .bool y.fl.n, .string (bs y.fl.a), .string (bs y.fl.b), .bool y.ad.n, .string (bs y.ad.a), .string (bs y.ad.b), .bool y.ce.n, .string (bs y.ce.a), .string (bs y.ce.b), .int .i64 y.acq, .int .i64 y.chg], .int .i64 cn] := H.hd ⟨7, .data⟩ (by simp) rfl (by decide) (by decide); rw [d7] at e72; clear d7; clear H; rw [if_neg (by decide), if_neg (by decide)]; go_wp2; exact sQ rfl
 ·have e72 := H.ev 7 _ 72 rfl rfl; have d7 : xx 7 = .tuple #[.agg #[.string (bs y.p.id), .int .i64 y.p.est, .int .i64 y.p.cre, .string (bs y.p.code), .bool y.p.an, .string (bs y.p.aa), .string (bs y.p.ab), .int .i64 y.p.inc, .int .i64 y.p.rank, .bool y.p.rn, .string (bs y.p.ra), .string (bs y.p.rb), .int .i64 y.p.rf, .int .i64 y.p.sec, .int .i64 y.st, .bool y.late, .bool y.cl.n, .string (bs y.cl.a), .string (bs y.cl.b), .bool y.fl.n, .string (bs y.fl.a), .string (bs y.fl.b), .bool y.ad.n, .string (bs y.ad.a), .string (bs y.ad.b), .bool y.ce.n, .string (bs y.ce.a), .string (bs y.ce.b), .int .i64 y.acq, .int .i64 y.chg], .int .i64 cn] := H.hd ⟨7, .data⟩ (by simp) rfl (by decide) (by decide); rw [d7] at e72; clear d7; clear H; rw [if_neg (by decide), if_neg (by decide)]; go_wp2; exact sQ rfl
 ·clear H; rw [if_pos rfl]; go_wp2; exact StepQ.mk _ (Ext.alloc (Below.refl _ _) _) ⟨_, rfl, Nat.le_refl _, Blk.new _ _ _⟩
 ·have e13 := H.ev 10 _ 13 rfl rfl; have e80 := H.ev 8 _ 80 rfl rfl; have d8 : xx 8 = .agg #[.string (bs y.p.id), .int .i64 y.p.est, .int .i64 y.p.cre, .string (bs y.p.code), .bool y.p.an, .string (bs y.p.aa), .string (bs y.p.ab), .int .i64 y.p.inc, .int .i64 y.p.rank, .bool y.p.rn, .string (bs y.p.ra), .string (bs y.p.rb), .int .i64 y.p.rf, .int .i64 y.p.sec, .int .i64 y.st, .bool y.late, .bool y.cl.n, .string (bs y.cl.a), .string (bs y.cl.b), .bool y.fl.n, .string (bs y.fl.a), .string (bs y.fl.b), .bool y.ad.n, .string (bs y.ad.a), .string (bs y.ad.b), .bool y.ce.n, .string (bs y.ce.a), .string (bs y.ce.b), .int .i64 y.acq, .int .i64 y.chg] := H.hd ⟨8, .data⟩ (by simp) rfl (by decide) (by decide); rw [d8] at e80; clear d8; clear H; rw [if_neg (by decide), if_pos rfl]; intro g hxg hlg hBl; rw [hxg] at e13; clear hxg
  refine c9k rfl _ _ _ rfl rfl hBl hlg [.string (bs y.p.id), .int .i64 y.p.est, .int .i64 y.p.cre, .string (bs y.p.code), .bool y.p.an, .string (bs y.p.aa), .string (bs y.p.ab), .int .i64 y.p.inc, .int .i64 y.p.rank, .bool y.p.rn, .string (bs y.p.ra), .string (bs y.p.rb), .int .i64 y.p.rf, .int .i64 y.p.sec, .int .i64 y.st, .bool y.late, .bool y.cl.n, .string (bs y.cl.a), .string (bs y.cl.b), .bool y.fl.n, .string (bs y.fl.a), .string (bs y.fl.b), .bool y.ad.n, .string (bs y.ad.a), .string (bs y.ad.b), .bool y.ce.n, .string (bs y.ce.a), .string (bs y.ce.b), .int .i64 y.acq, .int .i64 y.chg] rfl ((a1p _ _).trans e13) ((a1p _ _).trans e80) a0n rfl
 intro xx w6 g6 hb9 hv hxg hlg hBl
 have hv0 : xx 0 = .pointer (some ⟨w.heap.size, 3, none⟩) := hv 0 (by decide) (by decide) (by decide)
 have hv1 : xx 1 = .slice (some ⟨b, o, none⟩) l.length c := hv 1 (by decide) (by decide) (by decide)
 have hv2 : xx 2 = .int .i64 (i : Nat) := hv 2 (by decide) (by decide) (by decide)
 have hv3 : xx 3 = .pointer (some ⟨b, o + i * 30, none⟩) := hv 3 (by decide) (by decide) (by decide)
 have hv4 : xx 4 = .agg #[.string (bs x.p.id), .int .i64 x.p.est, .int .i64 x.p.cre, .string (bs x.p.code), .bool x.p.an, .string (bs x.p.aa), .string (bs x.p.ab), .int .i64 x.p.inc, .int .i64 x.p.rank, .bool x.p.rn, .string (bs x.p.ra), .string (bs x.p.rb), .int .i64 x.p.rf, .int .i64 x.p.sec, .int .i64 x.st, .bool x.late, .bool x.cl.n, .string (bs x.cl.a), .string (bs x.cl.b), .bool x.fl.n, .string (bs x.fl.a), .string (bs x.fl.b), .bool x.ad.n, .string (bs x.ad.a), .string (bs x.ad.b), .bool x.ce.n, .string (bs x.ce.a), .string (bs x.ce.b), .int .i64 x.acq, .int .i64 x.chg] := hv 4 (by decide) (by decide) (by decide)
 have hv5 : xx 5 = .agg #[.int .i64 e.kind, .int .i64 e.day, .string (bs e.id), .bool e.am.n, .string (bs e.am.a), .string (bs e.am.b), .int .i64 e.cre, .string (bs e.p.id), .int .i64 e.p.est, .int .i64 e.p.cre, .string (bs e.p.code), .bool e.p.an, .string (bs e.p.aa), .string (bs e.p.ab), .int .i64 e.p.inc, .int .i64 e.p.rank, .bool e.p.rn, .string (bs e.p.ra), .string (bs e.p.rb), .int .i64 e.p.rf, .int .i64 e.p.sec] := hv 5 (by decide) (by decide) (by decide)
 have hv6 : xx 6 = .tuple #[.agg #[.string (bs y.p.id), .int .i64 y.p.est, .int .i64 y.p.cre, .string (bs y.p.code), .bool y.p.an, .string (bs y.p.aa), .string (bs y.p.ab), .int .i64 y.p.inc, .int .i64 y.p.rank, .bool y.p.rn, .string (bs y.p.ra), .string (bs y.p.rb), .int .i64 y.p.rf, .int .i64 y.p.sec, .int .i64 y.st, .bool y.late, .bool y.cl.n, .string (bs y.cl.a), .string (bs y.cl.b), .bool y.fl.n, .string (bs y.fl.a), .string (bs y.fl.b), .bool y.ad.n, .string (bs y.ad.a), .string (bs y.ad.b), .bool y.ce.n, .string (bs y.ce.a), .string (bs y.ce.b), .int .i64 y.acq, .int .i64 y.chg], .int .i64 cn] := hv 6 (by decide) (by decide) (by decide)
 have hv7 : xx 7 = .tuple #[.agg #[.string (bs y.p.id), .int .i64 y.p.est, .int .i64 y.p.cre, .string (bs y.p.code), .bool y.p.an, .string (bs y.p.aa), .string (bs y.p.ab), .int .i64 y.p.inc, .int .i64 y.p.rank, .bool y.p.rn, .string (bs y.p.ra), .string (bs y.p.rb), .int .i64 y.p.rf, .int .i64 y.p.sec, .int .i64 y.st, .bool y.late, .bool y.cl.n, .string (bs y.cl.a), .string (bs y.cl.b), .bool y.fl.n, .string (bs y.fl.a), .string (bs y.fl.b), .bool y.ad.n, .string (bs y.ad.a), .string (bs y.ad.b), .bool y.ce.n, .string (bs y.ce.a), .string (bs y.ce.b), .int .i64 y.acq, .int .i64 y.chg], .int .i64 cn] := hv 7 (by decide) (by decide) (by decide)
 have hv8 : xx 8 = .agg #[.string (bs y.p.id), .int .i64 y.p.est, .int .i64 y.p.cre, .string (bs y.p.code), .bool y.p.an, .string (bs y.p.aa), .string (bs y.p.ab), .int .i64 y.p.inc, .int .i64 y.p.rank, .bool y.p.rn, .string (bs y.p.ra), .string (bs y.p.rb), .int .i64 y.p.rf, .int .i64 y.p.sec, .int .i64 y.st, .bool y.late, .bool y.cl.n, .string (bs y.cl.a), .string (bs y.cl.b), .bool y.fl.n, .string (bs y.fl.a), .string (bs y.fl.b), .bool y.ad.n, .string (bs y.ad.a), .string (bs y.ad.b), .bool y.ce.n, .string (bs y.ce.a), .string (bs y.ce.b), .int .i64 y.acq, .int .i64 y.chg] := hv 8 (by decide) (by decide) (by decide)
 have hv9 : xx 9 = .int .i64 cn := hv 9 (by decide) (by decide) (by decide)
 clear hv
 simp only [List.take, List.drop, a0r, Act.put]
 simp only [hxg, hv0, hv1, hv2, hv3, hv4, hv5, hv6, hv7, hv8, hv9]
 clear hxg hv0 hv1 hv2 hv3 hv4 hv5 hv6 hv7 hv8 hv9
 have HS6 := zh (HS5.out.fill hb9 hlg hBl)
 clear hb9 hlg hBl HS5
 obtain ⟨x14, x15, x16⟩ := HS6.out.k0 3 rfl rfl rfl rfl
 have x17 := cC HS6 3 3
 obtain ⟨x18, x19, x20⟩ := HS6.out.f0 3 rfl
 have x21 := cF HS6 3 3
 have x22 := cN HS6 3 0
 have x23 := cN HS6 0 3
 have x24 := cN HS6 3 1
 have x25 := cN HS6 1 3
 have x26 := cN HS6 3 2
 have x27 := cN HS6 2 3
 have x28 := cN HS6 3 4
 have x29 := cN HS6 4 3
 have x30 := cN HS6 3 5
 have x31 := cN HS6 5 3
 go_wp2
 have HS7 : Hid (St w [_, _, _, ⟨w.heap.size + 1 + 1, #[.int .i64 0, .int .i64 0, .int .i64 0, .slice none 0 0], 32⟩, _, _] _) := zh (St.set (St.set (St.set (St.set (HS6.out) 3 rfl 0 _) 3 rfl 1 _) 3 rfl 2 _) 3 rfl 3 _)
 refine bodyPost_ret (a0v rfl _ _ _ rfl (HS7.out.blk 3 rfl)) rfl ?_
 rw [R.out]
 exact ⟨.slice none 0 0, rfl, ⟨rfl, .inl ⟨rfl, rfl⟩⟩, HS7.out.below⟩
end Go.Proofs.YtoighiepglclkaaGreatDoor
