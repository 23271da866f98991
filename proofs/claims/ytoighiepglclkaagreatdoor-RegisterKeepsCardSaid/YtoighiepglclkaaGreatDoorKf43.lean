/-
Part 43 of the base.
-/
import Derived.Test.YtoighiepglclkaaGreatDoorKf42
set_option maxRecDepth 100000
set_option maxHeartbeats 20000000
namespace Go.Proofs.YtoighiepglclkaaGreatDoor
open Go.RowKit
theorem b5z (cut bar day : Int) (v qv : Value) (l : List Ent) (e : Evt) (qs : List Quo) (w : World) (hv : a5d w v l) (hl : l.length <= 1000) (h0 : 0 < l.length) (hm : ∀ x ∈ l, (x.fl.a.length <= 1000000 /\ x.fl.b.length <= 1000000) /\ (x.ad.a.length <= 1000000 /\ x.ad.b.length <= 1000000) /\ (x.ce.a.length <= 1000000 /\ x.ce.b.length <= 1000000)) (ham : e.am.a.length <= 1000000 /\ e.am.b.length <= 1000000) (hq : a3f w qv qs) (hok : ∀ q ∈ qs, q.ok) (hqs : ∀ q ∈ qs, q.num.length <= 100 /\ q.den.length <= 100) (hid : e.p.id.length <= 9223372036854775807 /\ e.p.code.length <= 9223372036854775807) (hsz : (e.p.aa.length <= 100 /\ e.p.ab.length <= 100) /\ e.p.ra.length <= 100 /\ e.p.rb.length <= 100) (h1 : ¬ e.kind < 1) (h2 : ¬ 9 < e.kind) (hdb : dayB e.day = true) (h3 : ¬ e.day < day) (h4 : e.kind = 1) :
  Calls Tryz.prog 9 #[.agg #[.int .i64 cut, .int .i64 bar, .int .i64 day, v], .agg (evC e.kind e.day e.id e.am e.cre e.p), qv] w fun r w' => ∃ v', r = .returned (.tuple #[.agg #[.int .i64 (a0q ⟨cut, bar, day, l⟩ e qs).1.cut, .int .i64 (a0q ⟨cut, bar, day, l⟩ e qs).1.bar, .int .i64 (a0q ⟨cut, bar, day, l⟩ e qs).1.day, v'], .int .i64 (a0q ⟨cut, bar, day, l⟩ e qs).2]) /\ Grows w' w.heap.size 57 30 v' (a0q ⟨cut, bar, day, l⟩ e qs).1.es.length (flat Ent.enc (a0q ⟨cut, bar, day, l⟩ e qs).1.es) /\ Below w.heap.size w w' := by
 unfold evC
 obtain ⟨i0, hi0, hz0, hz1, hz2⟩ := info_parts a4g
 have HI := zh hi0
 clear hi0
 have hD := fun W => a3p e.day W
 have a1 := @b2k ⟨cut, bar, day, l⟩ e qs
 have a2 := @b2m ⟨cut, bar, day, l⟩ e qs
 have a3 := @b7b ⟨cut, bar, day, l⟩ e qs
 have a4 := @b7a ⟨cut, bar, day, l⟩ e qs
 have a5 := fun i x => @a9w ⟨cut, bar, day, l⟩ e qs i x
 generalize a0q ⟨cut, bar, day, l⟩ e qs = ans at *
 dsimp only at a1 a2 a3 a4 a5
 have hC := fun W (hb : Below w.heap.size w W) => a8g cut bar day v l W (hv.below hb) hl h0
 have hF := fun W (hb : Below w.heap.size w W) => a9f cut bar day v l e.id W (hv.below hb)
 have hN := fun W (hb : Below w.heap.size w W) => b0b cut bar day v qv l e qs W (hv.below hb) (hq.below hb) hok hqs hid hsz
 have hX := fun (i : Nat) (x : Ent) (hx : l[i]? = some x) (W : World) hk => a9e x e W ham (hm x (List.mem_of_getElem? hx)).2.2 (hm x (List.mem_of_getElem? hx)).1 (hm x (List.mem_of_getElem? hx)).2.1 hk
 have HL := zh hl
 have H0 := zh h0
 have H := zh hv
 obtain ⟨A, c, rfl, hll, hcc⟩ := hv.slice
 obtain ⟨dB, hdB⟩ : ∃ y, y = dayB e.day := ⟨_, rfl⟩
 rw [<- hdB] at hD a1 a2 a3 a4 a5
 obtain rfl : dB = true := hdB.trans hdb
 clear hdb
 have HDx := zh hD
 have A1x := zh a1
 have A2x := zh a2
 have A3x := zh a3
 have A4x := zh a4
 have A5x := zh a5
 have HCx := zh hC
 have HFx := zh hF
 have HNx := zh hN
 have HXx := zh hX
 clear hdB hv hl hm ham hq hok hqs hid hsz h0 hll hcc hD a1 a2 a3 a4 a5 hC hF hN hX
 have d1 : decide (e.kind < 1) = false := decide_eq_false h1
 have d2 : decide (9 < e.kind) = false := decide_eq_false h2
 have NR := zh (show ¬ (e.kind < 1 \/ 9 < e.kind \/ true = false) from (fun k => k.elim h1 (fun k => k.elim h2 (fun k => absurd k (by decide)))))
 have HKL := zh (show 1 <= e.kind /\ e.kind <= 9 by omega)
 clear h1 h2
 have d3 : decide (e.day < day) = false := decide_eq_false h3
 have H3 := zh h3
 clear h3
 have d4 : (e.kind == 1) = true := by rw [h4]; rfl
 obtain ⟨b1, b2⟩ := A3x.out NR.out H3.out h4
 clear h4
 have hr1 := fun h => @c4w l cut bar e qs h
 have hr2 := fun n h k => @c0t l cut bar e qs n h k
 have hfl : a6m l cut e qs = 0 -> b8a l cut bar e qs = l ++ [newE e.p e.day bar (a0u e.p cut qs).1] := fun h => if_pos h
 have hN3 := HNx.out
 clear HNx
 generalize a6m l cut e qs = fc at *
 generalize (a0u e.p cut qs).1 = q at *
 by_cases h5 : fc = 0
 rw [hr1 h5] at hN3
 rw [hfl h5] at b2
 have HNx := zh hN3
 have R := zh (b2 h5)
 subst h5
 clear b1 b2 hr1 hr2 hfl hN3
 rotate_left
 rw [hr2 fc rfl h5] at hN3
 have HNx := zh hN3
 have R := zh (b1 h5)
 have z5 : (fc != 0) = true := by rw [bne_iff_ne]; exact h5
 clear b1 b2 h5 hr1 hr2 hfl hN3
 rotate_left
 all_goals
   go_enter Tryz.func9, Tryz.ntmps9
   have HS := zh (St.start w)
   go_wp2_with fail
   refine (HDx.out _).mono ?_
   rintro e w' ⟨rfl, rfl⟩
   go_wp2_with fail
   have HS2 := aL (aL (aL HS #[.int .i64 cut, .int .i64 bar, .int .i64 day, .slice A l.length c] 32 w.heap.size) (evC e.kind e.day e.id e.am e.cre e.p) 44 (w.heap.size + 1)) #[.int .i64 0, .int .i64 0, .int .i64 0, .slice none 0 0] 32 (w.heap.size + 1 + 1)
   refine (HCx.out _ HS2.out.below).mono ?_
   rintro e w3 ⟨gr, cap, rs, rfl, hgr3, hBk3, hcn3, hcm3, hrr3, hb3⟩
   have hst3 := St.fill HS2.out hb3 hgr3 hBk3
   have HCN := zh hcn3
   have HCM := zh hcm3
   have HRR := zh hrr3
   clear hb3 hgr3 hBk3 hcn3 hcm3 hrr3
   have HS3 : Hid (St w [⟨gr, rowG Ent.enc l rs, 57⟩, ⟨w.heap.size + 1 + 1, #[.int .i64 0, .int .i64 0, .int .i64 0, .slice none 0 0], 32⟩, ⟨w.heap.size + 1, e.enc.toArray, 44⟩, ⟨w.heap.size, #[.int .i64 cut, .int .i64 bar, .int .i64 day, .slice A l.length c], 32⟩] w3) := zh hst3
   clear hst3 HS HS2
   have x1 := cC (v := .int .i64 e.day) HS3 2 1
   have x2 := cC (v := .int .i64 e.kind) HS3 2 0
   have x3 := HS3.out.lt 2 rfl
   have x4 : ¬ w.heap.size + 1 = w3.heap.size := by omega
   have x5 : ¬ w3.heap.size = w.heap.size + 1 := by omega
   go_upto_region 8 with fail
   clear x1 x2 x3 x4 x5
   refine a3u (aL HS3 #[.int .i64 cut, .int .i64 bar, .int .i64 e.day, .slice (some ⟨gr, 0, none⟩) l.length cap] 32 w3.heap.size).out ?_
   intro wg4 hb
   have HS4 := zh hb
   clear hb HS3
   obtain ⟨x6, x7, x8⟩ := HS4.out.k0 4 rfl rfl rfl rfl
   have x9 := cC HS4 4 3
   go_wp2_with (refine wpList_load_mid rfl _ _ rfl (w.heap.size + 1) (0) rfl (evC e.kind e.day e.id e.am e.cre e.p).toList _ (St.whole HS4.out 3 rfl) Tryz.underlying44 rfl a3m ?_)
   refine cL (HNx.out _ HS4.out.below) HS4 fun w5 HS5 => ?_
   clear HS4 x6 x7 x8 x9
 ·go_wp2_with (refine a0e rfl _ _ _ rfl (St.alloc (HS5.out) entO 57 (w5.heap.size) (by simp)) 0 rfl (entM e.p 1 (decide (bar < e.day)) ⟨(negB (q)), (numB (q)), (a0a (q))⟩ ⟨false, [], []⟩ ⟨false, [], []⟩ ⟨(negB (q)), (numB (q)), (a0a (q))⟩ e.p.inc e.day) rfl rfl rfl a0n rfl ?_)
  intro w6 hS6
  have HS6 : Hid (St w [⟨w5.heap.size, (entM e.p 1 (decide (bar < e.day)) ⟨(negB (q)), (numB (q)), (a0a (q))⟩ ⟨false, [], []⟩ ⟨false, [], []⟩ ⟨(negB (q)), (numB (q)), (a0a (q))⟩ e.p.inc e.day).toArray, 57⟩, _, _, _, _, _] w6) := zh hS6
  clear hS6 HS5
  have x10 := cC HS6 1 3
  have x11 := HS6.out.lt 1 rfl
  have x12 : ¬ w3.heap.size = w6.heap.size := by omega
  have x13 : ¬ w6.heap.size = w3.heap.size := by omega
  have hfr := St.front ((St.alloc (HS6.out) (entM e.p 1 (decide (bar < e.day)) ⟨(negB (q)), (numB (q)), (a0a (q))⟩ ⟨false, [], []⟩ ⟨false, [], []⟩ ⟨(negB (q)), (numB (q)), (a0a (q))⟩ e.p.inc e.day).toArray 57 (w6.heap.size) (by simp))) 3 rfl
  have hgw := a5f a1g (hfr.blk 0 rfl) (hfr.ge 0 rfl) HCN.out HCM.out HRR.out
  have HFR := zh hfr
  have HGW := zh hgw
  clear hfr hgw
  go_wp2_with (first | (refine wpList_load_mid rfl _ _ rfl (w5.heap.size) (0) rfl (entM e.p 1 (decide (bar < e.day)) ⟨(negB (q)), (numB (q)), (a0a (q))⟩ ⟨false, [], []⟩ ⟨false, [], []⟩ ⟨(negB (q)), (numB (q)), (a0a (q))⟩ e.p.inc e.day) _ (St.whole HS6.out 0 rfl) Tryz.underlying57 rfl a0n ?_) | (at_builtin; refine a7n _ rfl _ _ 30 rfl w.heap.size 57 i0 _ 30 352 Tryz.underlying30 HI.out hz0 hz1 hz2 rfl (by decide) a1g _ l.length l (by simp [Act.eval]) HGW.out (newE e.p e.day bar q) _ _ ((St.alloc (HS6.out) (entM e.p 1 (decide (bar < e.day)) ⟨(negB (q)), (numB (q)), (a0a (q))⟩ ⟨false, [], []⟩ ⟨false, [], []⟩ ⟨(negB (q)), (numB (q)), (a0a (q))⟩ e.p.inc e.day).toArray 57 (w6.heap.size) (by simp)).blk 0 rfl) rfl (by simp [Act.eval]) (a9p _) (by have := HL.out; unfold maxLen; omega) (by have := HL.out; omega) ((St.alloc (HS6.out) (entM e.p 1 (decide (bar < e.day)) ⟨(negB (q)), (numB (q)), (a0a (q))⟩ ⟨false, [], []⟩ ⟨false, [], []⟩ ⟨(negB (q)), (numB (q)), (a0a (q))⟩ e.p.inc e.day).toArray 57 (w6.heap.size) (by simp)).below.size) ?_))
  intro v2 w20 hown2 hgb2
  have hst := St.grownApart HFR.out hgb2
  have HSA : Hid (St w [⟨w3.heap.size, #[.int .i64 cut, .int .i64 bar, .int .i64 e.day, .slice (some ⟨gr, 0, none⟩) l.length cap], 32⟩, ⟨w.heap.size + 1 + 1, #[.int .i64 0, .int .i64 0, .int .i64 0, .slice none 0 0], 32⟩, ⟨w.heap.size + 1, e.enc.toArray, 44⟩, ⟨w.heap.size, #[.int .i64 cut, .int .i64 bar, .int .i64 day, .slice A l.length c], 32⟩] w20) := zh (hst.sub (List.Sublist.cons _ (List.Sublist.cons _ (List.Sublist.refl _))))
  obtain ⟨ll, hll⟩ : ∃ y, y = l ++ [newE e.p e.day bar q] := ⟨_, rfl⟩
  have hll0 : 0 < ll.length := by rw [hll]; simp
  rw [show l.length + 1 = (l ++ [newE e.p e.day bar q]).length by simp, <- hll] at hown2
  have R2 := R.out
  rw [<- hll] at R2
  clear R hll
  have R := zh R2
  clear R2
  obtain ⟨gr2, cap2, rs2, hv2, hge2, hc1, hc2, hc3, hBk2⟩ := (show Grows w20 w.heap.size 57 30 v2 ll.length (flat Ent.enc ll) from hown2).toG hll0
  subst hv2
  have HC1 := zh hc1
  have HC2 := zh hc2
  have HC3 := zh hc3
  have HSB := zh (St.addT HSA.out (a3c (show (32 : TypeId) ≠ 57 by decide) (a3c (show (32 : TypeId) ≠ 57 by decide) (a3c (show (44 : TypeId) ≠ 57 by decide) (a3c (show (32 : TypeId) ≠ 57 by decide) (fun r hr => absurd hr (by simp)))))) hBk2 hge2)
  clear hll0 hst hown2 hgb2 hge2 hc1 hc2 hc3 hBk2 HSA HFR HGW HCN HCM HRR HS6
  have x14 := cC HSB 1 3
  obtain ⟨x15, x16, x17⟩ := HSB.out.k0 1 rfl rfl rfl rfl
  obtain ⟨x18, x19, x20⟩ := HSB.out.k0 2 rfl rfl rfl rfl
  have x21 := cC HSB 2 3
  have x22 := cF HSB 1 3
  obtain ⟨x23, x24, x25⟩ := HSB.out.f0 2 rfl
  have x26 := cF HSB 2 3
  have x27 := cN HSB 1 0
  have x28 := cN HSB 0 1
  have x29 := cN HSB 1 2
  have x30 := cN HSB 2 1
  have x31 := cN HSB 1 3
  have x32 := cN HSB 3 1
  have x33 := cN HSB 1 4
  have x34 := cN HSB 4 1
  have x35 := cN HSB 2 0
  have x36 := cN HSB 0 2
  have x37 := cN HSB 2 1
  have x38 := cN HSB 1 2
  have x39 := cN HSB 2 3
  have x40 := cN HSB 3 2
  have x41 := cN HSB 2 4
  have x42 := cN HSB 4 2
  go_wp2
  have HP8 : Hid (St w [_, ⟨w3.heap.size, #[.int .i64 cut, .int .i64 bar, .int .i64 e.day, .slice (some ⟨gr2, 0, none⟩) ll.length cap2], 32⟩, ⟨w.heap.size + 1 + 1, #[.int .i64 cut, .int .i64 bar, .int .i64 0, .slice none 0 0], 32⟩, _, _] _) := zh (St.set (St.set (St.set (HSB.out) 1 rfl 3 _) 2 rfl 0 _) 2 rfl 1 _)
  have HSB7 : Hid (St w [_, _, ⟨w.heap.size + 1 + 1, #[.int .i64 cut, .int .i64 bar, .int .i64 e.day, .slice (some ⟨gr2, 0, none⟩) ll.length cap2], 32⟩, _, _] _) := zh (St.set (St.set (HP8.out) 2 rfl 2 _) 2 rfl 3 _)
  refine bodyPost_ret (a0v rfl _ _ _ rfl (HSB7.out.blk 2 rfl)) rfl ?_
  rw [R.out]
  exact ⟨_, rfl, a5f a1g (HSB7.out.blk 0 rfl) (HSB7.out.ge 0 rfl) HC1.out HC2.out HC3.out, HSB7.out.below⟩
 go_wp2_with (refine a0e rfl _ _ _ rfl (St.alloc (HS5.out) entO 57 (w5.heap.size) (by simp)) 0 rfl (entO.toList) rfl rfl rfl a0n rfl ?_)
 intro w6 hS6
 have HS6 : Hid (St w [_, _, _, _, _, _] w6) := zh hS6
 clear hS6 HS5
 obtain ⟨x10, x11, x12⟩ := HS6.out.k0 3 rfl rfl rfl rfl
 have x13 := cC HS6 3 3
 obtain ⟨x14, x15, x16⟩ := HS6.out.f0 3 rfl
 have x17 := cF HS6 3 3
 have x18 := cN HS6 3 0
 have x19 := cN HS6 0 3
 have x20 := cN HS6 3 1
 have x21 := cN HS6 1 3
 have x22 := cN HS6 3 2
 have x23 := cN HS6 2 3
 have x24 := cN HS6 3 4
 have x25 := cN HS6 4 3
 have x26 := cN HS6 3 5
 have x27 := cN HS6 5 3
 go_wp2
 have HS7 : Hid (St w [_, _, _, ⟨w.heap.size + 1 + 1, #[.int .i64 0, .int .i64 0, .int .i64 0, .slice none 0 0], 32⟩, _, _] _) := zh (St.set (St.set (St.set (St.set (HS6.out) 3 rfl 0 _) 3 rfl 1 _) 3 rfl 2 _) 3 rfl 3 _)
 refine bodyPost_ret (a0v rfl _ _ _ rfl (HS7.out.blk 3 rfl)) rfl ?_
 rw [R.out]
 exact ⟨.slice none 0 0, rfl, ⟨rfl, .inl ⟨rfl, rfl⟩⟩, HS7.out.below⟩
end Go.Proofs.YtoighiepglclkaaGreatDoor
