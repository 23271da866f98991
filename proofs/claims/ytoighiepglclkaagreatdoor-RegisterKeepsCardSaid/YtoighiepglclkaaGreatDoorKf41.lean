/-
Part 41 of the base.
-/
import Derived.Test.YtoighiepglclkaaGreatDoorKf40
set_option maxRecDepth 100000
set_option maxHeartbeats 20000000
namespace Go.Proofs.YtoighiepglclkaaGreatDoor
open Go.RowKit
theorem a0t {fn : Func} {p u : Tmp} (h : fn.results = #[.cell p 57, .tmp u]) (tmps : Array Value) (w : World) (g : Nat) {cs : Array Value}
  (hp : tmps.getD p undef = .pointer (some ⟨g, 0, none⟩)) (hg : Blk w g cs 57) (hcs : cs.size = 30) : (results fn tmps).run Tryz.prog w = .ok (.tuple #[.agg cs, tmps.getD u undef]) w := by
 rw [results_cell_tmp h, hp]
 have hl : (loadVar 57 ⟨g, 0, none⟩).run Tryz.prog w = .ok (.agg cs) w := run_loadVar_row w g _ _ _ _ _ hg Tryz.underlying57 rfl (by rw [hcs]; exact a0n)
 simp only [asAddr, Sem.run_pure, Result.andThen, hl]
def entZ : Ent := ⟨⟨[], 0, 0, [], false, [], [], 0, 0, false, [], [], 0, 0⟩, 0, false, zero3, zero3, zero3, zero3, 0, 0⟩
def chgR (x : Ent) (e : Evt) : Ent × Int := if (a0f x e).2 = 0 then a0f x e else (entZ, (a0f x e).2)
theorem a2q {x : Ent} {e : Evt} {n : Int} (h : a0f x e = (x, n)) (hn : n ≠ 0) : chgR x e = (entZ, n) := by unfold chgR; rw [h]; exact if_neg hn
theorem a9r {x y : Ent} {e : Evt} (h : a0f x e = (y, 0)) : chgR x e = (y, 0) := by unfold chgR; rw [h]; exact if_pos rfl
theorem al2 {st : Int} : a1b 2 st = decide (st = 1) := by unfold a1b; rw [if_pos (by decide)]
theorem al3 {st : Int} : a1b 3 st = decide (st = 1) := by unfold a1b; rw [if_pos (by decide)]
theorem al4 {st : Int} : a1b 4 st = decide (st = 3) := by unfold a1b; rw [if_neg (by decide), if_pos rfl]
theorem al5 {st : Int} : a1b 5 st = decide (st = 4) := by unfold a1b; rw [if_neg (by decide), if_neg (by decide), if_pos (by decide)]
theorem al9 {st : Int} : a1b 9 st = decide (st = 4) := by unfold a1b; rw [if_neg (by decide), if_neg (by decide), if_pos (by decide)]
theorem al6 {st : Int} : a1b 6 st = decide (st = 5) := by unfold a1b; rw [if_neg (by decide), if_neg (by decide), if_neg (by decide), if_pos rfl]
theorem al7 {st : Int} : a1b 7 st = (decide (1 <= st) && decide (st < 6)) := by unfold a1b; rw [if_neg (by decide), if_neg (by decide), if_neg (by decide), if_neg (by decide), if_pos rfl]
theorem al8 {st : Int} : a1b 8 st = (decide (1 <= st) && decide (st < 7)) := by unfold a1b; rw [if_neg (by decide), if_neg (by decide), if_neg (by decide), if_neg (by decide), if_neg (by decide)]
theorem b7j (x : Ent) (k d : Int) (id : List UInt8) (am : Raw3) (cr : Int) (p : Prf) (w : World) (h1 : (am.a.length <= 1000000 /\ am.b.length <= 1000000)) (h2 : (x.ce.a.length <= 1000000 /\ x.ce.b.length <= 1000000)) (h3 : (x.fl.a.length <= 1000000 /\ x.fl.b.length <= 1000000)) (h4 : (x.ad.a.length <= 1000000 /\ x.ad.b.length <= 1000000)) (hk : k = 2 \/ k = 3 \/ k = 4 \/ k = 5 \/ k = 6 \/ k = 7 \/ k = 8 \/ k = 9) :
  Calls Tryz.prog 26 #[.agg (entC x), .agg (evC k d id am cr p)] w fun r w' => r = .returned (.tuple #[.agg (chgR x ⟨k, d, id, am, cr, p⟩).1.enc.toArray, .int .i64 (chgR x ⟨k, d, id, am, cr, p⟩).2]) /\ Below w.heap.size w w' := by
 unfold entC evC
 have hfa := fun W => a8f am.n am.a am.b W (by omega) (by omega)
 have hfc := fun W => a8f x.ce.n x.ce.a x.ce.b W (by omega) (by omega)
 have hfd := fun W => a8f x.ad.n x.ad.a x.ad.b W (by omega) (by omega)
 change ∀ W, Calls Tryz.prog _ _ W (fun e w' => e = .returned (rat am.val) /\ _) at hfa
 change ∀ W, Calls Tryz.prog _ _ W (fun e w' => e = .returned (rat x.ce.val) /\ _) at hfc
 change ∀ W, Calls Tryz.prog _ _ W (fun e w' => e = .returned (rat x.ad.val) /\ _) at hfd
 have hb3 := fun W => b3q (enc3 am.val) zero3 x.ce W (b2b h1) (by decide) h2
 have hb4 := fun W => b3q (enc3 am.val) x.fl x.ce W (b2b h1) h3 h2
 rw [b4x] at hb3 hb4
 rw [show zero3.val = 0 from b2c] at hb3
 unfold rat at hfa hfc hfd
 unfold raw at hfa hfc hfd hb3 hb4
 dsimp only [enc3, zero3] at hb3 hb4
 obtain ⟨i3, hi3⟩ : ∃ y, y = inB am.val 0 x.ce.val := ⟨_, rfl⟩
 obtain ⟨i4, hi4⟩ : ∃ y, y = inB am.val x.fl.val x.ce.val := ⟨_, rfl⟩
 rw [<- hi3] at hb3
 rw [<- hi4] at hb4
 have HFA := zh hfa
 have HFC := zh hfc
 have HFD := zh hfd
 have HB3 := zh hb3
 have HB4 := zh hb4
 have HI3 := zh hi3
 have HI4 := zh hi4
 clear h1 h2 h3 h4 hfa hfc hfd hb3 hb4 hi3 hi4
 go_enter Tryz.func26, Tryz.ntmps26
 have HS := zh (St.start w)
 go_wp2_with fail
 have HS2 := aL (aL (aL HS (entC x) 57 w.heap.size) (evC k d id am cr p) 44 (w.heap.size + 1)) entO 57 (w.heap.size + 1 + 1)
 refine cL (HFA.out _) HS2 fun w3 HS3 => ?_
 clear HS HS2
 go_upto_region 2 with fail
 refine a3u (aL HS3 #[.bool (negB (am.val)), .string (bs (numB (am.val))), .string (bs (a0a (am.val)))] 40 w3.heap.size).out ?_
 intro wg4 hb
 have HS4 := zh hb
 clear hb HS3
 rcases hk with rfl | rfl | rfl | rfl | rfl | rfl | rfl | rfl
 ·have x1 := cC (v := .int .i64 2) HS4 2 0
  have x2 := HS4.out.lt 2 rfl
  have x3 : ¬ w.heap.size + 1 = wg4.heap.size := by omega
  have x4 : ¬ wg4.heap.size = w.heap.size + 1 := by omega
  go_upto_region 3 with fail
  clear x1 x2 x3 x4
  by_cases hs : x.st = 1
  ·have s1 : (x.st != 1) = false := by rw [hs]; rfl
   have s2 : (x.st == 7) = false := by rw [hs]; rfl
   have s3 : decide (x.st < 1) = false := by rw [hs]; rfl
   have s4 : decide (7 < x.st) = false := by rw [hs]; rfl
   have R := zh (a9r (show a0f x ⟨2, d, id, am, cr, p⟩ = ({ x with st := 2, fl := enc3 x.ce.val, ad := enc3 x.ce.val }, 0) by unfold a0f; rw [if_neg (by show ¬ a1b 2 x.st = false; rw [al2, decide_eq_true hs]; decide), if_pos rfl]))
   clear hs
   have x5 := cC (v := .int .i64 x.st) HS4 3 14
   have x6 := cC (v := .int .i64 2) HS4 2 0
   have x7 := cC (v := .bool x.ce.n) HS4 3 25
   have x8 := cC (v := .string (bs x.ce.a)) HS4 3 26
   have x9 := cC (v := .string (bs x.ce.b)) HS4 3 27
   have x10 := cF HS4 3 14
   have x11 := cN HS4 3 0
   have x12 := cN HS4 0 3
   have x13 := cN HS4 3 1
   have x14 := cN HS4 1 3
   have x15 := cN HS4 3 2
   have x16 := cN HS4 2 3
   have x17 := HS4.out.lt 3 rfl
   have x18 : ¬ w.heap.size = wg4.heap.size := by omega
   have x19 : ¬ wg4.heap.size = w.heap.size := by omega
   have x20 := HS4.out.lt 2 rfl
   have x21 : ¬ w.heap.size + 1 = wg4.heap.size := by omega
   have x22 : ¬ wg4.heap.size = w.heap.size + 1 := by omega
   go_wp2_with fail
   have HS5 : Hid (St w [_, _, _, _, ⟨w.heap.size, (entM x.p 2 x.late x.cl x.fl x.ad x.ce x.acq x.chg).toArray, 57⟩] _) := zh (St.alloc (St.set (HS4.out) 3 rfl 14 _) #[.int .i64 0, .int .i64 0, .int .i64 1, .int .i64 1, .int .i64 3, .int .i64 4, .int .i64 5, .int .i64 0, .int .i64 0, .int .i64 4] 3 (wg4.heap.size) (by simp))
   refine cL (HFC.out _) HS5 fun w6 HS6 => ?_
   clear HS4 HS5 x5 x6 x7 x8 x9 x10 x11 x12 x13 x14 x15 x16 x17 x18 x19 x20 x21 x22
   have x23 := cC HS6 4 19
   have x24 := cC HS6 4 20
   have x25 := cC HS6 4 21
   have x26 := cC HS6 4 22
   have x27 := cC HS6 4 23
   have x28 := cC HS6 4 24
   have x29 := cF HS6 4 19
   have x30 := cF HS6 4 20
   have x31 := cF HS6 4 21
   have x32 := cF HS6 4 22
   have x33 := cF HS6 4 23
   have x34 := cF HS6 4 24
   have x35 := cN HS6 4 0
   have x36 := cN HS6 0 4
   have x37 := cN HS6 4 1
   have x38 := cN HS6 1 4
   have x39 := cN HS6 4 2
   have x40 := cN HS6 2 4
   have x41 := cN HS6 4 3
   have x42 := cN HS6 3 4
   go_upto_region 43 with fail
   clear x23 x24 x25 x26 x27 x28 x29 x30 x31 x32 x33 x34 x35 x36 x37 x38 x39 x40 x41 x42
   have HP7 : Hid (St w [_, _, _, _, ⟨w.heap.size, (entM x.p 2 x.late x.cl ⟨(negB (x.ce.val)), (numB (x.ce.val)), (a0a (x.ce.val))⟩ x.ad x.ce x.acq x.chg).toArray, 57⟩] _) := zh (St.set (St.set (St.set (HS6.out) 4 rfl 19 _) 4 rfl 20 _) 4 rfl 21 _)
   have HP8 : Hid (St w [_, _, _, _, ⟨w.heap.size, (entM x.p 2 x.late x.cl ⟨(negB (x.ce.val)), (numB (x.ce.val)), (a0a (x.ce.val))⟩ ⟨(negB (x.ce.val)), (numB (x.ce.val)), (a0a (x.ce.val))⟩ x.ce x.acq x.chg).toArray, 57⟩] _) := zh (St.set (St.set (St.set (HP7.out) 4 rfl 22 _) 4 rfl 23 _) 4 rfl 24 _)
   refine a3u HP8.out ?_
   intro wg9 hb
   have HS9 := zh hb
   clear hb HS6
   go_wp2_with (first | (refine wpList_load_mid rfl _ _ rfl (w.heap.size) (0) rfl (entM x.p 2 x.late x.cl ⟨(negB (x.ce.val)), (numB (x.ce.val)), (a0a (x.ce.val))⟩ ⟨(negB (x.ce.val)), (numB (x.ce.val)), (a0a (x.ce.val))⟩ x.ce x.acq x.chg) _ (St.whole HS9.out 4 rfl) Tryz.underlying57 rfl a0n ?_) | (refine a0e rfl _ _ _ rfl HS9.out 2 rfl (entM x.p 2 x.late x.cl ⟨(negB (x.ce.val)), (numB (x.ce.val)), (a0a (x.ce.val))⟩ ⟨(negB (x.ce.val)), (numB (x.ce.val)), (a0a (x.ce.val))⟩ x.ce x.acq x.chg) rfl rfl rfl a0n rfl ?_))
   intro w10 hS10
   have HS10 : Hid (St w [_, _, ⟨w.heap.size + 1 + 1, (entM x.p 2 x.late x.cl ⟨(negB (x.ce.val)), (numB (x.ce.val)), (a0a (x.ce.val))⟩ ⟨(negB (x.ce.val)), (numB (x.ce.val)), (a0a (x.ce.val))⟩ x.ce x.acq x.chg).toArray, 57⟩, _, _] w10) := zh hS10
   clear hS10 HS9 HP7 HP8
   go_wp2
   refine bodyPost_ret (a0t rfl _ _ _ rfl (HS10.out.blk 2 rfl) rfl) rfl ?_
   rw [R.out]
   exact ⟨rfl, HS10.out.below⟩
  have s1 : (x.st != 1) = true := by rw [bne_iff_ne]; exact hs
  have R := zh (a2q (show a0f x ⟨2, d, id, am, cr, p⟩ = (x, 13) by unfold a0f; rw [if_pos (by show a1b 2 x.st = false; rw [al2]; exact decide_eq_false hs)]) (by decide))
  clear hs
  have x5 := cC (v := .int .i64 x.st) HS4 3 14
  have x6 := HS4.out.lt 3 rfl
  have x7 : ¬ w.heap.size = wg4.heap.size := by omega
  have x8 : ¬ wg4.heap.size = w.heap.size := by omega
  go_upto_region 4 with fail
  clear x5 x6 x7 x8
  refine a3u (aL HS4 #[.int .i64 0, .int .i64 0, .int .i64 1, .int .i64 1, .int .i64 3, .int .i64 4, .int .i64 5, .int .i64 0, .int .i64 0, .int .i64 4] 3 wg4.heap.size).out ?_
  intro wg5 hb
  have HS5 := zh hb
  clear hb HS4
  go_wp2_with (refine a0e rfl _ _ _ rfl HS5.out 2 rfl (entO.toList) rfl rfl rfl a0n rfl ?_)
  intro w6 hS6
  have HS6 : Hid (St w [_, _, _, _, _] w6) := zh hS6
  clear hS6 HS5
  go_wp2
  refine bodyPost_ret (a0t rfl _ _ _ rfl (HS6.out.blk 2 rfl) rfl) rfl ?_
  rw [R.out]
  exact ⟨rfl, HS6.out.below⟩
 ·have x1 := cC (v := .int .i64 3) HS4 2 0
  have x2 := HS4.out.lt 2 rfl
  have x3 : ¬ w.heap.size + 1 = wg4.heap.size := by omega
  have x4 : ¬ wg4.heap.size = w.heap.size + 1 := by omega
  go_upto_region 3 with fail
  clear x1 x2 x3 x4
  by_cases hs : x.st = 1
  ·have s1 : (x.st != 1) = false := by rw [hs]; rfl
   have s2 : (x.st == 7) = false := by rw [hs]; rfl
   have s3 : decide (x.st < 1) = false := by rw [hs]; rfl
   have s4 : decide (7 < x.st) = false := by rw [hs]; rfl
   have HSX := zh hs
   clear hs
   have x5 := cC (v := .int .i64 x.st) HS4 3 14
   have x6 := cC (v := .int .i64 3) HS4 2 0
   have x7 := HS4.out.lt 3 rfl
   have x8 : ¬ w.heap.size = wg4.heap.size := by omega
   have x9 : ¬ wg4.heap.size = w.heap.size := by omega
   have x10 := HS4.out.lt 2 rfl
   have x11 : ¬ w.heap.size + 1 = wg4.heap.size := by omega
   have x12 : ¬ wg4.heap.size = w.heap.size + 1 := by omega
   go_upto_region 15 with fail
   clear x5 x6 x7 x8 x9 x10 x11 x12
   cases i3
   ·have R := zh (a2q (show a0f x ⟨3, d, id, am, cr, p⟩ = (x, 1) by unfold a0f; rw [if_neg (by show ¬ a1b 3 x.st = false; rw [al3, decide_eq_true HSX.out]; decide), if_neg (show ¬ (3 : Int) = 2 by decide), if_pos rfl, if_neg (by rw [<- HI3.out]; decide)]) (by decide))
    obtain ⟨x13, x14, x15⟩ := HS4.out.k0 0 rfl rfl rfl rfl
    have x16 := cC (v := .bool x.ce.n) HS4 3 25
    have x17 := cC (v := .string (bs x.ce.a)) HS4 3 26
    have x18 := cC (v := .string (bs x.ce.b)) HS4 3 27
    have x19 := HS4.out.lt 0 rfl
    have x20 : ¬ w3.heap.size = wg4.heap.size := by omega
    have x21 : ¬ wg4.heap.size = w3.heap.size := by omega
    have x22 := HS4.out.lt 3 rfl
    have x23 : ¬ w.heap.size = wg4.heap.size := by omega
    have x24 : ¬ wg4.heap.size = w.heap.size := by omega
    go_wp2_with fail
    have HS5 := aL HS4 #[.int .i64 0, .int .i64 0, .int .i64 1, .int .i64 1, .int .i64 3, .int .i64 4, .int .i64 5, .int .i64 0, .int .i64 0, .int .i64 4] 3 wg4.heap.size
    refine cL (HB3.out _) HS5 fun w6 HS6 => ?_
    clear HS4 HS5 x13 x14 x15 x16 x17 x18 x19 x20 x21 x22 x23 x24
    go_wp2_with (refine a0e rfl _ _ _ rfl HS6.out 2 rfl (entO.toList) rfl rfl rfl a0n rfl ?_)
    intro w7 hS7
    have HS7 : Hid (St w [_, _, _, ⟨w.heap.size + 1, (Evt.enc ⟨3, d, id, am, cr, p⟩).toArray, 44⟩, _] w7) := zh hS7
    clear hS7 HS6
    go_wp2
    refine bodyPost_ret (a0t rfl _ _ _ rfl (HS7.out.blk 2 rfl) rfl) rfl ?_
    rw [R.out]
    exact ⟨rfl, HS7.out.below⟩
   have R := zh (a9r (show a0f x ⟨3, d, id, am, cr, p⟩ = ({ x with st := 3, fl := enc3 am.val, ad := enc3 am.val }, 0) by unfold a0f; rw [if_neg (by show ¬ a1b 3 x.st = false; rw [al3, decide_eq_true HSX.out]; decide), if_neg (show ¬ (3 : Int) = 2 by decide), if_pos rfl, if_pos HI3.out.symm]))
   obtain ⟨x13, x14, x15⟩ := HS4.out.k0 0 rfl rfl rfl rfl
   have x16 := cC (v := .bool x.ce.n) HS4 3 25
   have x17 := cC (v := .string (bs x.ce.a)) HS4 3 26
   have x18 := cC (v := .string (bs x.ce.b)) HS4 3 27
   have x19 := HS4.out.lt 0 rfl
   have x20 : ¬ w3.heap.size = wg4.heap.size := by omega
   have x21 : ¬ wg4.heap.size = w3.heap.size := by omega
   have x22 := HS4.out.lt 3 rfl
   have x23 : ¬ w.heap.size = wg4.heap.size := by omega
   have x24 : ¬ wg4.heap.size = w.heap.size := by omega
   go_wp2_with fail
   have HS5 := aL HS4 #[.int .i64 0, .int .i64 0, .int .i64 1, .int .i64 1, .int .i64 3, .int .i64 4, .int .i64 5, .int .i64 0, .int .i64 0, .int .i64 4] 3 wg4.heap.size
   refine cL (HB3.out _) HS5 fun w6 HS6 => ?_
   clear HS4 HS5 x13 x14 x15 x16 x17 x18 x19 x20 x21 x22 x23 x24
   have x25 := cC (v := .int .i64 x.st) HS6 4 14
   obtain ⟨x26, x27, x28⟩ := HS6.out.k0 1 rfl rfl rfl rfl
   have x29 := cC (v := .bool x.fl.n) HS6 4 19
   have x30 := cC (v := .string (bs x.fl.a)) HS6 4 20
   have x31 := cC (v := .string (bs x.fl.b)) HS6 4 21
   have x32 := cC (v := .bool x.ad.n) HS6 4 22
   have x33 := cC (v := .string (bs x.ad.a)) HS6 4 23
   have x34 := cC (v := .string (bs x.ad.b)) HS6 4 24
   have x35 := cF HS6 4 14
   have x36 := cF HS6 4 19
   have x37 := cF HS6 4 20
   have x38 := cF HS6 4 21
   have x39 := cF HS6 4 22
   have x40 := cF HS6 4 23
   have x41 := cF HS6 4 24
   have x42 := cN HS6 4 0
   have x43 := cN HS6 0 4
   have x44 := cN HS6 4 1
   have x45 := cN HS6 1 4
   have x46 := cN HS6 4 2
   have x47 := cN HS6 2 4
   have x48 := cN HS6 4 3
   have x49 := cN HS6 3 4
   go_upto_region 43 with fail
   clear x25 x26 x27 x28 x29 x30 x31 x32 x33 x34 x35 x36 x37 x38 x39 x40 x41 x42 x43 x44 x45 x46 x47 x48 x49
   have HP7 : Hid (St w [_, _, _, _, ⟨w.heap.size, (entM x.p 3 x.late x.cl ⟨(negB (am.val)), (numB (am.val)), x.fl.b⟩ x.ad x.ce x.acq x.chg).toArray, 57⟩] _) := zh (St.set (St.set (St.set (HS6.out) 4 rfl 14 _) 4 rfl 19 _) 4 rfl 20 _)
   have HP8 : Hid (St w [_, _, _, _, ⟨w.heap.size, (entM x.p 3 x.late x.cl ⟨(negB (am.val)), (numB (am.val)), (a0a (am.val))⟩ ⟨(negB (am.val)), (numB (am.val)), x.ad.b⟩ x.ce x.acq x.chg).toArray, 57⟩] _) := zh (St.set (St.set (St.set (HP7.out) 4 rfl 21 _) 4 rfl 22 _) 4 rfl 23 _)
   refine a3u (R := [_, _, _, _, ⟨w.heap.size, (entM x.p 3 x.late x.cl ⟨(negB (am.val)), (numB (am.val)), (a0a (am.val))⟩ ⟨(negB (am.val)), (numB (am.val)), (a0a (am.val))⟩ x.ce x.acq x.chg).toArray, 57⟩]) (St.set (HP8.out) 4 rfl 24 _) ?_
   intro wg9 hb
   have HS9 := zh hb
   clear hb HS6
   go_wp2_with (first | (refine wpList_load_mid rfl _ _ rfl (w.heap.size) (0) rfl (entM x.p 3 x.late x.cl ⟨(negB (am.val)), (numB (am.val)), (a0a (am.val))⟩ ⟨(negB (am.val)), (numB (am.val)), (a0a (am.val))⟩ x.ce x.acq x.chg) _ (St.whole HS9.out 4 rfl) Tryz.underlying57 rfl a0n ?_) | (refine a0e rfl _ _ _ rfl HS9.out 2 rfl (entM x.p 3 x.late x.cl ⟨(negB (am.val)), (numB (am.val)), (a0a (am.val))⟩ ⟨(negB (am.val)), (numB (am.val)), (a0a (am.val))⟩ x.ce x.acq x.chg) rfl rfl rfl a0n rfl ?_))
   intro w10 hS10
   have HS10 : Hid (St w [_, _, ⟨w.heap.size + 1 + 1, (entM x.p 3 x.late x.cl ⟨(negB (am.val)), (numB (am.val)), (a0a (am.val))⟩ ⟨(negB (am.val)), (numB (am.val)), (a0a (am.val))⟩ x.ce x.acq x.chg).toArray, 57⟩, _, _] w10) := zh hS10
   clear hS10 HS9 HP7 HP8
   go_wp2
   refine bodyPost_ret (a0t rfl _ _ _ rfl (HS10.out.blk 2 rfl) rfl) rfl ?_
   rw [R.out]
   exact ⟨rfl, HS10.out.below⟩
  have s1 : (x.st != 1) = true := by rw [bne_iff_ne]; exact hs
  have R := zh (a2q (show a0f x ⟨3, d, id, am, cr, p⟩ = (x, 13) by unfold a0f; rw [if_pos (by show a1b 3 x.st = false; rw [al3]; exact decide_eq_false hs)]) (by decide))
  clear hs
  have x5 := cC (v := .int .i64 x.st) HS4 3 14
  have x6 := HS4.out.lt 3 rfl
  have x7 : ¬ w.heap.size = wg4.heap.size := by omega
  have x8 : ¬ wg4.heap.size = w.heap.size := by omega
  go_upto_region 4 with fail
  clear x5 x6 x7 x8
  refine a3u (aL HS4 #[.int .i64 0, .int .i64 0, .int .i64 1, .int .i64 1, .int .i64 3, .int .i64 4, .int .i64 5, .int .i64 0, .int .i64 0, .int .i64 4] 3 wg4.heap.size).out ?_
  intro wg5 hb
  have HS5 := zh hb
  clear hb HS4
  go_wp2_with (refine a0e rfl _ _ _ rfl HS5.out 2 rfl (entO.toList) rfl rfl rfl a0n rfl ?_)
  intro w6 hS6
  have HS6 : Hid (St w [_, _, _, _, _] w6) := zh hS6
  clear hS6 HS5
  go_wp2
  refine bodyPost_ret (a0t rfl _ _ _ rfl (HS6.out.blk 2 rfl) rfl) rfl ?_
  rw [R.out]
  exact ⟨rfl, HS6.out.below⟩
 ·have x1 := cC (v := .int .i64 4) HS4 2 0
  have x2 := HS4.out.lt 2 rfl
  have x3 : ¬ w.heap.size + 1 = wg4.heap.size := by omega
  have x4 : ¬ wg4.heap.size = w.heap.size + 1 := by omega
  go_upto_region 3 with fail
  clear x1 x2 x3 x4
  by_cases hs : x.st = 3
  ·have s1 : (x.st != 3) = false := by rw [hs]; rfl
   have s2 : (x.st == 7) = false := by rw [hs]; rfl
   have s3 : decide (x.st < 1) = false := by rw [hs]; rfl
   have s4 : decide (7 < x.st) = false := by rw [hs]; rfl
   have HSX := zh hs
   clear hs
   have x5 := cC (v := .int .i64 x.st) HS4 3 14
   have x6 := cC (v := .int .i64 4) HS4 2 0
   have x7 := HS4.out.lt 3 rfl
   have x8 : ¬ w.heap.size = wg4.heap.size := by omega
   have x9 : ¬ wg4.heap.size = w.heap.size := by omega
   have x10 := HS4.out.lt 2 rfl
   have x11 : ¬ w.heap.size + 1 = wg4.heap.size := by omega
   have x12 : ¬ wg4.heap.size = w.heap.size + 1 := by omega
   go_upto_region 21 with fail
   clear x5 x6 x7 x8 x9 x10 x11 x12
   cases i4
   ·have R := zh (a2q (show a0f x ⟨4, d, id, am, cr, p⟩ = (x, 1) by unfold a0f; rw [if_neg (by show ¬ a1b 4 x.st = false; rw [al4, decide_eq_true HSX.out]; decide), if_neg (show ¬ (4 : Int) = 2 by decide), if_neg (show ¬ (4 : Int) = 3 by decide), if_pos rfl, if_neg (by rw [<- HI4.out]; decide)]) (by decide))
    obtain ⟨x13, x14, x15⟩ := HS4.out.k0 0 rfl rfl rfl rfl
    have x16 := cC (v := .bool x.fl.n) HS4 3 19
    have x17 := cC (v := .string (bs x.fl.a)) HS4 3 20
    have x18 := cC (v := .string (bs x.fl.b)) HS4 3 21
    have x19 := cC (v := .bool x.ce.n) HS4 3 25
    have x20 := cC (v := .string (bs x.ce.a)) HS4 3 26
    have x21 := cC (v := .string (bs x.ce.b)) HS4 3 27
    have x22 := HS4.out.lt 0 rfl
    have x23 : ¬ w3.heap.size = wg4.heap.size := by omega
    have x24 : ¬ wg4.heap.size = w3.heap.size := by omega
    have x25 := HS4.out.lt 3 rfl
    have x26 : ¬ w.heap.size = wg4.heap.size := by omega
    have x27 : ¬ wg4.heap.size = w.heap.size := by omega
    go_wp2_with fail
    have HS5 := aL HS4 #[.int .i64 0, .int .i64 0, .int .i64 1, .int .i64 1, .int .i64 3, .int .i64 4, .int .i64 5, .int .i64 0, .int .i64 0, .int .i64 4] 3 wg4.heap.size
    refine cL (HB4.out _) HS5 fun w6 HS6 => ?_
    clear HS4 HS5 x13 x14 x15 x16 x17 x18 x19 x20 x21 x22 x23 x24 x25 x26 x27
    go_wp2_with (refine a0e rfl _ _ _ rfl HS6.out 2 rfl (entO.toList) rfl rfl rfl a0n rfl ?_)
    intro w7 hS7
    have HS7 : Hid (St w [_, _, _, ⟨w.heap.size + 1, (Evt.enc ⟨4, d, id, am, cr, p⟩).toArray, 44⟩, _] w7) := zh hS7
    clear hS7 HS6
    go_wp2
    refine bodyPost_ret (a0t rfl _ _ _ rfl (HS7.out.blk 2 rfl) rfl) rfl ?_
    rw [R.out]
    exact ⟨rfl, HS7.out.below⟩
   have R := zh (a9r (show a0f x ⟨4, d, id, am, cr, p⟩ = ({ x with st := 4, ad := enc3 am.val }, 0) by unfold a0f; rw [if_neg (by show ¬ a1b 4 x.st = false; rw [al4, decide_eq_true HSX.out]; decide), if_neg (show ¬ (4 : Int) = 2 by decide), if_neg (show ¬ (4 : Int) = 3 by decide), if_pos rfl, if_pos HI4.out.symm]))
   obtain ⟨x13, x14, x15⟩ := HS4.out.k0 0 rfl rfl rfl rfl
   have x16 := cC (v := .bool x.fl.n) HS4 3 19
   have x17 := cC (v := .string (bs x.fl.a)) HS4 3 20
   have x18 := cC (v := .string (bs x.fl.b)) HS4 3 21
   have x19 := cC (v := .bool x.ce.n) HS4 3 25
   have x20 := cC (v := .string (bs x.ce.a)) HS4 3 26
   have x21 := cC (v := .string (bs x.ce.b)) HS4 3 27
   have x22 := HS4.out.lt 0 rfl
   have x23 : ¬ w3.heap.size = wg4.heap.size := by omega
   have x24 : ¬ wg4.heap.size = w3.heap.size := by omega
   have x25 := HS4.out.lt 3 rfl
   have x26 : ¬ w.heap.size = wg4.heap.size := by omega
   have x27 : ¬ wg4.heap.size = w.heap.size := by omega
   go_wp2_with fail
   have HS5 := aL HS4 #[.int .i64 0, .int .i64 0, .int .i64 1, .int .i64 1, .int .i64 3, .int .i64 4, .int .i64 5, .int .i64 0, .int .i64 0, .int .i64 4] 3 wg4.heap.size
   refine cL (HB4.out _) HS5 fun w6 HS6 => ?_
   clear HS4 HS5 x13 x14 x15 x16 x17 x18 x19 x20 x21 x22 x23 x24 x25 x26 x27
   have x28 := cC (v := .int .i64 x.st) HS6 4 14
   obtain ⟨x29, x30, x31⟩ := HS6.out.k0 1 rfl rfl rfl rfl
   have x32 := cC (v := .bool x.ad.n) HS6 4 22
   have x33 := cC (v := .string (bs x.ad.a)) HS6 4 23
   have x34 := cC (v := .string (bs x.ad.b)) HS6 4 24
   have x35 := cF HS6 4 14
   have x36 := cF HS6 4 22
   have x37 := cF HS6 4 23
   have x38 := cF HS6 4 24
   have x39 := cN HS6 4 0
   have x40 := cN HS6 0 4
   have x41 := cN HS6 4 1
   have x42 := cN HS6 1 4
   have x43 := cN HS6 4 2
   have x44 := cN HS6 2 4
   have x45 := cN HS6 4 3
   have x46 := cN HS6 3 4
   go_upto_region 43 with fail
   clear x28 x29 x30 x31 x32 x33 x34 x35 x36 x37 x38 x39 x40 x41 x42 x43 x44 x45 x46
   refine a3u (R := [_, _, _, _, ⟨w.heap.size, (entM x.p 4 x.late x.cl x.fl ⟨(negB (am.val)), (numB (am.val)), (a0a (am.val))⟩ x.ce x.acq x.chg).toArray, 57⟩]) (St.set (St.set (St.set (St.set (HS6.out) 4 rfl 14 _) 4 rfl 22 _) 4 rfl 23 _) 4 rfl 24 _) ?_
   intro wg7 hb
   have HS7 := zh hb
   clear hb HS6
   go_wp2_with (first | (refine wpList_load_mid rfl _ _ rfl (w.heap.size) (0) rfl (entM x.p 4 x.late x.cl x.fl ⟨(negB (am.val)), (numB (am.val)), (a0a (am.val))⟩ x.ce x.acq x.chg) _ (St.whole HS7.out 4 rfl) Tryz.underlying57 rfl a0n ?_) | (refine a0e rfl _ _ _ rfl HS7.out 2 rfl (entM x.p 4 x.late x.cl x.fl ⟨(negB (am.val)), (numB (am.val)), (a0a (am.val))⟩ x.ce x.acq x.chg) rfl rfl rfl a0n rfl ?_))
   intro w8 hS8
   have HS8 : Hid (St w [_, _, ⟨w.heap.size + 1 + 1, (entM x.p 4 x.late x.cl x.fl ⟨(negB (am.val)), (numB (am.val)), (a0a (am.val))⟩ x.ce x.acq x.chg).toArray, 57⟩, _, _] w8) := zh hS8
   clear hS8 HS7
   go_wp2
   refine bodyPost_ret (a0t rfl _ _ _ rfl (HS8.out.blk 2 rfl) rfl) rfl ?_
   rw [R.out]
   exact ⟨rfl, HS8.out.below⟩
  have s1 : (x.st != 3) = true := by rw [bne_iff_ne]; exact hs
  have R := zh (a2q (show a0f x ⟨4, d, id, am, cr, p⟩ = (x, 13) by unfold a0f; rw [if_pos (by show a1b 4 x.st = false; rw [al4]; exact decide_eq_false hs)]) (by decide))
  clear hs
  have x5 := cC (v := .int .i64 x.st) HS4 3 14
  have x6 := HS4.out.lt 3 rfl
  have x7 : ¬ w.heap.size = wg4.heap.size := by omega
  have x8 : ¬ wg4.heap.size = w.heap.size := by omega
  go_upto_region 4 with fail
  clear x5 x6 x7 x8
  refine a3u (aL HS4 #[.int .i64 0, .int .i64 0, .int .i64 1, .int .i64 1, .int .i64 3, .int .i64 4, .int .i64 5, .int .i64 0, .int .i64 0, .int .i64 4] 3 wg4.heap.size).out ?_
  intro wg5 hb
  have HS5 := zh hb
  clear hb HS4
  go_wp2_with (refine a0e rfl _ _ _ rfl HS5.out 2 rfl (entO.toList) rfl rfl rfl a0n rfl ?_)
  intro w6 hS6
  have HS6 : Hid (St w [_, _, _, _, _] w6) := zh hS6
  clear hS6 HS5
  go_wp2
  refine bodyPost_ret (a0t rfl _ _ _ rfl (HS6.out.blk 2 rfl) rfl) rfl ?_
  rw [R.out]
  exact ⟨rfl, HS6.out.below⟩
 ·have x1 := cC (v := .int .i64 5) HS4 2 0
  have x2 := HS4.out.lt 2 rfl
  have x3 : ¬ w.heap.size + 1 = wg4.heap.size := by omega
  have x4 : ¬ wg4.heap.size = w.heap.size + 1 := by omega
  go_upto_region 3 with fail
  clear x1 x2 x3 x4
  by_cases hs : x.st = 4
  ·have s1 : (x.st != 4) = false := by rw [hs]; rfl
   have s2 : (x.st == 7) = false := by rw [hs]; rfl
   have s3 : decide (x.st < 1) = false := by rw [hs]; rfl
   have s4 : decide (7 < x.st) = false := by rw [hs]; rfl
   have R := zh (a9r (show a0f x ⟨5, d, id, am, cr, p⟩ = ({ x with st := 5 }, 0) by unfold a0f; rw [if_neg (by show ¬ a1b 5 x.st = false; rw [al5, decide_eq_true hs]; decide), if_neg (show ¬ (5 : Int) = 2 by decide), if_neg (show ¬ (5 : Int) = 3 by decide), if_neg (show ¬ (5 : Int) = 4 by decide), if_pos rfl]))
   clear hs
   have x5 := cC (v := .int .i64 x.st) HS4 3 14
   have x6 := cC (v := .int .i64 5) HS4 2 0
   have x7 := cF HS4 3 14
   have x8 := cN HS4 3 0
   have x9 := cN HS4 0 3
   have x10 := cN HS4 3 1
   have x11 := cN HS4 1 3
   have x12 := cN HS4 3 2
   have x13 := cN HS4 2 3
   have x14 := HS4.out.lt 3 rfl
   have x15 : ¬ w.heap.size = wg4.heap.size := by omega
   have x16 : ¬ wg4.heap.size = w.heap.size := by omega
   have x17 := HS4.out.lt 2 rfl
   have x18 : ¬ w.heap.size + 1 = wg4.heap.size := by omega
   have x19 : ¬ wg4.heap.size = w.heap.size + 1 := by omega
   go_upto_region 43 with fail
   clear x5 x6 x7 x8 x9 x10 x11 x12 x13 x14 x15 x16 x17 x18 x19
   refine a3u (R := [_, _, _, _, ⟨w.heap.size, (entM x.p 5 x.late x.cl x.fl x.ad x.ce x.acq x.chg).toArray, 57⟩]) (St.alloc (St.set (HS4.out) 3 rfl 14 _) #[.int .i64 0, .int .i64 0, .int .i64 1, .int .i64 1, .int .i64 3, .int .i64 4, .int .i64 5, .int .i64 0, .int .i64 0, .int .i64 4] 3 (wg4.heap.size) (by simp)) ?_
   intro wg5 hb
   have HS5 := zh hb
   clear hb HS4
   go_wp2_with (first | (refine wpList_load_mid rfl _ _ rfl (w.heap.size) (0) rfl (entM x.p 5 x.late x.cl x.fl x.ad x.ce x.acq x.chg) _ (St.whole HS5.out 4 rfl) Tryz.underlying57 rfl a0n ?_) | (refine a0e rfl _ _ _ rfl HS5.out 2 rfl (entM x.p 5 x.late x.cl x.fl x.ad x.ce x.acq x.chg) rfl rfl rfl a0n rfl ?_))
   intro w6 hS6
   have HS6 : Hid (St w [_, _, ⟨w.heap.size + 1 + 1, (entM x.p 5 x.late x.cl x.fl x.ad x.ce x.acq x.chg).toArray, 57⟩, _, _] w6) := zh hS6
   clear hS6 HS5
   go_wp2
   refine bodyPost_ret (a0t rfl _ _ _ rfl (HS6.out.blk 2 rfl) rfl) rfl ?_
   rw [R.out]
   exact ⟨rfl, HS6.out.below⟩
  have s1 : (x.st != 4) = true := by rw [bne_iff_ne]; exact hs
  have R := zh (a2q (show a0f x ⟨5, d, id, am, cr, p⟩ = (x, 13) by unfold a0f; rw [if_pos (by show a1b 5 x.st = false; rw [al5]; exact decide_eq_false hs)]) (by decide))
  clear hs
  have x5 := cC (v := .int .i64 x.st) HS4 3 14
  have x6 := HS4.out.lt 3 rfl
  have x7 : ¬ w.heap.size = wg4.heap.size := by omega
  have x8 : ¬ wg4.heap.size = w.heap.size := by omega
  go_upto_region 4 with fail
  clear x5 x6 x7 x8
  refine a3u (aL HS4 #[.int .i64 0, .int .i64 0, .int .i64 1, .int .i64 1, .int .i64 3, .int .i64 4, .int .i64 5, .int .i64 0, .int .i64 0, .int .i64 4] 3 wg4.heap.size).out ?_
  intro wg5 hb
  have HS5 := zh hb
  clear hb HS4
  go_wp2_with (refine a0e rfl _ _ _ rfl HS5.out 2 rfl (entO.toList) rfl rfl rfl a0n rfl ?_)
  intro w6 hS6
  have HS6 : Hid (St w [_, _, _, _, _] w6) := zh hS6
  clear hS6 HS5
  go_wp2
  refine bodyPost_ret (a0t rfl _ _ _ rfl (HS6.out.blk 2 rfl) rfl) rfl ?_
  rw [R.out]
  exact ⟨rfl, HS6.out.below⟩
 ·have x1 := cC (v := .int .i64 6) HS4 2 0
  have x2 := HS4.out.lt 2 rfl
  have x3 : ¬ w.heap.size + 1 = wg4.heap.size := by omega
  have x4 : ¬ wg4.heap.size = w.heap.size + 1 := by omega
  go_upto_region 3 with fail
  clear x1 x2 x3 x4
  by_cases hs : x.st = 5
  ·have s1 : (x.st != 5) = false := by rw [hs]; rfl
   have s2 : (x.st == 7) = false := by rw [hs]; rfl
   have s3 : decide (x.st < 1) = false := by rw [hs]; rfl
   have s4 : decide (7 < x.st) = false := by rw [hs]; rfl
   have HSX := zh hs
   clear hs
   have x5 := cC (v := .int .i64 x.st) HS4 3 14
   have x6 := cC (v := .int .i64 6) HS4 2 0
   have x7 := HS4.out.lt 3 rfl
   have x8 : ¬ w.heap.size = wg4.heap.size := by omega
   have x9 : ¬ wg4.heap.size = w.heap.size := by omega
   have x10 := HS4.out.lt 2 rfl
   have x11 : ¬ w.heap.size + 1 = wg4.heap.size := by omega
   have x12 : ¬ wg4.heap.size = w.heap.size + 1 := by omega
   go_upto_region 28 with fail
   clear x5 x6 x7 x8 x9 x10 x11 x12
   cases i4
   ·have R := zh (a2q (show a0f x ⟨6, d, id, am, cr, p⟩ = (x, 1) by unfold a0f; rw [if_neg (by show ¬ a1b 6 x.st = false; rw [al6, decide_eq_true HSX.out]; decide), if_neg (show ¬ (6 : Int) = 2 by decide), if_neg (show ¬ (6 : Int) = 3 by decide), if_neg (show ¬ (6 : Int) = 4 by decide), if_neg (show ¬ (6 : Int) = 5 by decide), if_pos rfl, if_neg (by rw [<- HI4.out]; decide)]) (by decide))
    obtain ⟨x13, x14, x15⟩ := HS4.out.k0 0 rfl rfl rfl rfl
    have x16 := cC (v := .bool x.fl.n) HS4 3 19
    have x17 := cC (v := .string (bs x.fl.a)) HS4 3 20
    have x18 := cC (v := .string (bs x.fl.b)) HS4 3 21
    have x19 := cC (v := .bool x.ce.n) HS4 3 25
    have x20 := cC (v := .string (bs x.ce.a)) HS4 3 26
    have x21 := cC (v := .string (bs x.ce.b)) HS4 3 27
    have x22 := HS4.out.lt 0 rfl
    have x23 : ¬ w3.heap.size = wg4.heap.size := by omega
    have x24 : ¬ wg4.heap.size = w3.heap.size := by omega
    have x25 := HS4.out.lt 3 rfl
    have x26 : ¬ w.heap.size = wg4.heap.size := by omega
    have x27 : ¬ wg4.heap.size = w.heap.size := by omega
    go_wp2_with fail
    have HS5 := aL HS4 #[.int .i64 0, .int .i64 0, .int .i64 1, .int .i64 1, .int .i64 3, .int .i64 4, .int .i64 5, .int .i64 0, .int .i64 0, .int .i64 4] 3 wg4.heap.size
    refine cL (HB4.out _) HS5 fun w6 HS6 => ?_
    clear HS4 HS5 x13 x14 x15 x16 x17 x18 x19 x20 x21 x22 x23 x24 x25 x26 x27
    go_wp2_with (refine a0e rfl _ _ _ rfl HS6.out 2 rfl (entO.toList) rfl rfl rfl a0n rfl ?_)
    intro w7 hS7
    have HS7 : Hid (St w [_, _, _, ⟨w.heap.size + 1, (Evt.enc ⟨6, d, id, am, cr, p⟩).toArray, 44⟩, _] w7) := zh hS7
    clear hS7 HS6
    go_wp2
    refine bodyPost_ret (a0t rfl _ _ _ rfl (HS7.out.blk 2 rfl) rfl) rfl ?_
    rw [R.out]
    exact ⟨rfl, HS7.out.below⟩
   have R := zh (a9r (show a0f x ⟨6, d, id, am, cr, p⟩ = ({ x with st := 6, fl := enc3 am.val, ad := enc3 am.val, ce := enc3 am.val }, 0) by unfold a0f; rw [if_neg (by show ¬ a1b 6 x.st = false; rw [al6, decide_eq_true HSX.out]; decide), if_neg (show ¬ (6 : Int) = 2 by decide), if_neg (show ¬ (6 : Int) = 3 by decide), if_neg (show ¬ (6 : Int) = 4 by decide), if_neg (show ¬ (6 : Int) = 5 by decide), if_pos rfl, if_pos HI4.out.symm]))
   obtain ⟨x13, x14, x15⟩ := HS4.out.k0 0 rfl rfl rfl rfl
   have x16 := cC (v := .bool x.fl.n) HS4 3 19
   have x17 := cC (v := .string (bs x.fl.a)) HS4 3 20
   have x18 := cC (v := .string (bs x.fl.b)) HS4 3 21
   have x19 := cC (v := .bool x.ce.n) HS4 3 25
   have x20 := cC (v := .string (bs x.ce.a)) HS4 3 26
   have x21 := cC (v := .string (bs x.ce.b)) HS4 3 27
   have x22 := HS4.out.lt 0 rfl
   have x23 : ¬ w3.heap.size = wg4.heap.size := by omega
   have x24 : ¬ wg4.heap.size = w3.heap.size := by omega
   have x25 := HS4.out.lt 3 rfl
   have x26 : ¬ w.heap.size = wg4.heap.size := by omega
   have x27 : ¬ wg4.heap.size = w.heap.size := by omega
   go_wp2_with fail
   have HS5 := aL HS4 #[.int .i64 0, .int .i64 0, .int .i64 1, .int .i64 1, .int .i64 3, .int .i64 4, .int .i64 5, .int .i64 0, .int .i64 0, .int .i64 4] 3 wg4.heap.size
   refine cL (HB4.out _) HS5 fun w6 HS6 => ?_
   clear HS4 HS5 x13 x14 x15 x16 x17 x18 x19 x20 x21 x22 x23 x24 x25 x26 x27
   have x28 := cC (v := .int .i64 x.st) HS6 4 14
   obtain ⟨x29, x30, x31⟩ := HS6.out.k0 1 rfl rfl rfl rfl
   have x32 := cC (v := .bool x.fl.n) HS6 4 19
   have x33 := cC (v := .string (bs x.fl.a)) HS6 4 20
   have x34 := cC (v := .string (bs x.fl.b)) HS6 4 21
   have x35 := cC (v := .bool x.ad.n) HS6 4 22
   have x36 := cC (v := .string (bs x.ad.a)) HS6 4 23
   have x37 := cC (v := .string (bs x.ad.b)) HS6 4 24
   have x38 := cC (v := .bool x.ce.n) HS6 4 25
   have x39 := cC (v := .string (bs x.ce.a)) HS6 4 26
   have x40 := cC (v := .string (bs x.ce.b)) HS6 4 27
   have x41 := cF HS6 4 14
   have x42 := cF HS6 4 19
   have x43 := cF HS6 4 20
   have x44 := cF HS6 4 21
   have x45 := cF HS6 4 22
   have x46 := cF HS6 4 23
   have x47 := cF HS6 4 24
   have x48 := cF HS6 4 25
   have x49 := cF HS6 4 26
   have x50 := cF HS6 4 27
   have x51 := cN HS6 4 0
   have x52 := cN HS6 0 4
   have x53 := cN HS6 4 1
   have x54 := cN HS6 1 4
   have x55 := cN HS6 4 2
   have x56 := cN HS6 2 4
   have x57 := cN HS6 4 3
   have x58 := cN HS6 3 4
   go_upto_region 43 with fail
   clear x28 x29 x30 x31 x32 x33 x34 x35 x36 x37 x38 x39 x40 x41 x42 x43 x44 x45 x46 x47 x48 x49 x50 x51 x52 x53 x54 x55 x56 x57 x58
   have HP7 : Hid (St w [_, _, _, _, ⟨w.heap.size, (entM x.p 6 x.late x.cl ⟨(negB (am.val)), (numB (am.val)), x.fl.b⟩ x.ad x.ce x.acq x.chg).toArray, 57⟩] _) := zh (St.set (St.set (St.set (HS6.out) 4 rfl 14 _) 4 rfl 19 _) 4 rfl 20 _)
   have HP8 : Hid (St w [_, _, _, _, ⟨w.heap.size, (entM x.p 6 x.late x.cl ⟨(negB (am.val)), (numB (am.val)), (a0a (am.val))⟩ ⟨(negB (am.val)), (numB (am.val)), x.ad.b⟩ x.ce x.acq x.chg).toArray, 57⟩] _) := zh (St.set (St.set (St.set (HP7.out) 4 rfl 21 _) 4 rfl 22 _) 4 rfl 23 _)
   have HP9 : Hid (St w [_, _, _, _, ⟨w.heap.size, (entM x.p 6 x.late x.cl ⟨(negB (am.val)), (numB (am.val)), (a0a (am.val))⟩ ⟨(negB (am.val)), (numB (am.val)), (a0a (am.val))⟩ ⟨(negB (am.val)), (numB (am.val)), x.ce.b⟩ x.acq x.chg).toArray, 57⟩] _) := zh (St.set (St.set (St.set (HP8.out) 4 rfl 24 _) 4 rfl 25 _) 4 rfl 26 _)
   refine a3u (R := [_, _, _, _, ⟨w.heap.size, (entM x.p 6 x.late x.cl ⟨(negB (am.val)), (numB (am.val)), (a0a (am.val))⟩ ⟨(negB (am.val)), (numB (am.val)), (a0a (am.val))⟩ ⟨(negB (am.val)), (numB (am.val)), (a0a (am.val))⟩ x.acq x.chg).toArray, 57⟩]) (St.set (HP9.out) 4 rfl 27 _) ?_
   intro wg10 hb
   have HS10 := zh hb
   clear hb HS6
   go_wp2_with (first | (refine wpList_load_mid rfl _ _ rfl (w.heap.size) (0) rfl (entM x.p 6 x.late x.cl ⟨(negB (am.val)), (numB (am.val)), (a0a (am.val))⟩ ⟨(negB (am.val)), (numB (am.val)), (a0a (am.val))⟩ ⟨(negB (am.val)), (numB (am.val)), (a0a (am.val))⟩ x.acq x.chg) _ (St.whole HS10.out 4 rfl) Tryz.underlying57 rfl a0n ?_) | (refine a0e rfl _ _ _ rfl HS10.out 2 rfl (entM x.p 6 x.late x.cl ⟨(negB (am.val)), (numB (am.val)), (a0a (am.val))⟩ ⟨(negB (am.val)), (numB (am.val)), (a0a (am.val))⟩ ⟨(negB (am.val)), (numB (am.val)), (a0a (am.val))⟩ x.acq x.chg) rfl rfl rfl a0n rfl ?_))
   intro w11 hS11
   have HS11 : Hid (St w [_, _, ⟨w.heap.size + 1 + 1, (entM x.p 6 x.late x.cl ⟨(negB (am.val)), (numB (am.val)), (a0a (am.val))⟩ ⟨(negB (am.val)), (numB (am.val)), (a0a (am.val))⟩ ⟨(negB (am.val)), (numB (am.val)), (a0a (am.val))⟩ x.acq x.chg).toArray, 57⟩, _, _] w11) := zh hS11
   clear hS11 HS10 HP7 HP8 HP9
   go_wp2
   refine bodyPost_ret (a0t rfl _ _ _ rfl (HS11.out.blk 2 rfl) rfl) rfl ?_
   rw [R.out]
   exact ⟨rfl, HS11.out.below⟩
  have s1 : (x.st != 5) = true := by rw [bne_iff_ne]; exact hs
  have R := zh (a2q (show a0f x ⟨6, d, id, am, cr, p⟩ = (x, 13) by unfold a0f; rw [if_pos (by show a1b 6 x.st = false; rw [al6]; exact decide_eq_false hs)]) (by decide))
  clear hs
  have x5 := cC (v := .int .i64 x.st) HS4 3 14
  have x6 := HS4.out.lt 3 rfl
  have x7 : ¬ w.heap.size = wg4.heap.size := by omega
  have x8 : ¬ wg4.heap.size = w.heap.size := by omega
  go_upto_region 4 with fail
  clear x5 x6 x7 x8
  refine a3u (aL HS4 #[.int .i64 0, .int .i64 0, .int .i64 1, .int .i64 1, .int .i64 3, .int .i64 4, .int .i64 5, .int .i64 0, .int .i64 0, .int .i64 4] 3 wg4.heap.size).out ?_
  intro wg5 hb
  have HS5 := zh hb
  clear hb HS4
  go_wp2_with (refine a0e rfl _ _ _ rfl HS5.out 2 rfl (entO.toList) rfl rfl rfl a0n rfl ?_)
  intro w6 hS6
  have HS6 : Hid (St w [_, _, _, _, _] w6) := zh hS6
  clear hS6 HS5
  go_wp2
  refine bodyPost_ret (a0t rfl _ _ _ rfl (HS6.out.blk 2 rfl) rfl) rfl ?_
  rw [R.out]
  exact ⟨rfl, HS6.out.below⟩
 ·have x1 := cC (v := .int .i64 7) HS4 2 0
  have x2 := HS4.out.lt 2 rfl
  have x3 : ¬ w.heap.size + 1 = wg4.heap.size := by omega
  have x4 : ¬ wg4.heap.size = w.heap.size + 1 := by omega
  go_upto_region 3 with fail
  clear x1 x2 x3 x4
  by_cases t6 : x.st = 6
  ·have s31 : (x.st == 6) = true := by rw [beq_iff_eq]; exact t6
   have R := zh (a2q (show a0f x ⟨7, d, id, am, cr, p⟩ = (x, 13) by unfold a0f; rw [if_pos (by show a1b 7 x.st = false; rw [al7, Bool.and_eq_false_iff, decide_eq_false_iff_not, decide_eq_false_iff_not]; omega)]) (by decide))
   clear t6
   have x5 := cC (v := .int .i64 7) HS4 2 0
   have x6 := cC (v := .int .i64 x.st) HS4 3 14
   have x7 := HS4.out.lt 2 rfl
   have x8 : ¬ w.heap.size + 1 = wg4.heap.size := by omega
   have x9 : ¬ wg4.heap.size = w.heap.size + 1 := by omega
   have x10 := HS4.out.lt 3 rfl
   have x11 : ¬ w.heap.size = wg4.heap.size := by omega
   have x12 : ¬ wg4.heap.size = w.heap.size := by omega
   go_upto_region 4 with fail
   clear x5 x6 x7 x8 x9 x10 x11 x12
   refine a3u (aL HS4 #[.int .i64 0, .int .i64 0, .int .i64 1, .int .i64 1, .int .i64 3, .int .i64 4, .int .i64 5, .int .i64 0, .int .i64 0, .int .i64 4] 3 wg4.heap.size).out ?_
   intro wg5 hb
   have HS5 := zh hb
   clear hb HS4
   go_wp2_with (refine a0e rfl _ _ _ rfl HS5.out 2 rfl (entO.toList) rfl rfl rfl a0n rfl ?_)
   intro w6 hS6
   have HS6 : Hid (St w [_, _, _, _, _] w6) := zh hS6
   clear hS6 HS5
   go_wp2
   refine bodyPost_ret (a0t rfl _ _ _ rfl (HS6.out.blk 2 rfl) rfl) rfl ?_
   rw [R.out]
   exact ⟨rfl, HS6.out.below⟩
  have s31 : (x.st == 6) = false := by rw [beq_eq_false_iff_ne]; exact t6
  by_cases t7 : x.st = 7
  ·have s37 : (x.st == 7) = true := by rw [beq_iff_eq]; exact t7
   have R := zh (a2q (show a0f x ⟨7, d, id, am, cr, p⟩ = (x, 13) by unfold a0f; rw [if_pos (by show a1b 7 x.st = false; rw [al7, Bool.and_eq_false_iff, decide_eq_false_iff_not, decide_eq_false_iff_not]; omega)]) (by decide))
   clear t6 t7
   have x5 := cC (v := .int .i64 7) HS4 2 0
   have x6 := cC (v := .int .i64 x.st) HS4 3 14
   have x7 := HS4.out.lt 2 rfl
   have x8 : ¬ w.heap.size + 1 = wg4.heap.size := by omega
   have x9 : ¬ wg4.heap.size = w.heap.size + 1 := by omega
   have x10 := HS4.out.lt 3 rfl
   have x11 : ¬ w.heap.size = wg4.heap.size := by omega
   have x12 : ¬ wg4.heap.size = w.heap.size := by omega
   go_upto_region 4 with fail
   clear x5 x6 x7 x8 x9 x10 x11 x12
   refine a3u (aL HS4 #[.int .i64 0, .int .i64 0, .int .i64 1, .int .i64 1, .int .i64 3, .int .i64 4, .int .i64 5, .int .i64 0, .int .i64 0, .int .i64 4] 3 wg4.heap.size).out ?_
   intro wg5 hb
   have HS5 := zh hb
   clear hb HS4
   go_wp2_with (refine a0e rfl _ _ _ rfl HS5.out 2 rfl (entO.toList) rfl rfl rfl a0n rfl ?_)
   intro w6 hS6
   have HS6 : Hid (St w [_, _, _, _, _] w6) := zh hS6
   clear hS6 HS5
   go_wp2
   refine bodyPost_ret (a0t rfl _ _ _ rfl (HS6.out.blk 2 rfl) rfl) rfl ?_
   rw [R.out]
   exact ⟨rfl, HS6.out.below⟩
  have s37 : (x.st == 7) = false := by rw [beq_eq_false_iff_ne]; exact t7
  by_cases t1 : x.st < 1
  ·have s42 : decide (x.st < 1) = true := decide_eq_true t1
   have R := zh (a2q (show a0f x ⟨7, d, id, am, cr, p⟩ = (x, 13) by unfold a0f; rw [if_pos (by show a1b 7 x.st = false; rw [al7, Bool.and_eq_false_iff, decide_eq_false_iff_not, decide_eq_false_iff_not]; omega)]) (by decide))
   clear t6 t7 t1
   have x5 := cC (v := .int .i64 7) HS4 2 0
   have x6 := cC (v := .int .i64 x.st) HS4 3 14
   have x7 := HS4.out.lt 2 rfl
   have x8 : ¬ w.heap.size + 1 = wg4.heap.size := by omega
   have x9 : ¬ wg4.heap.size = w.heap.size + 1 := by omega
   have x10 := HS4.out.lt 3 rfl
   have x11 : ¬ w.heap.size = wg4.heap.size := by omega
   have x12 : ¬ wg4.heap.size = w.heap.size := by omega
   go_upto_region 4 with fail
   clear x5 x6 x7 x8 x9 x10 x11 x12
   refine a3u (aL HS4 #[.int .i64 0, .int .i64 0, .int .i64 1, .int .i64 1, .int .i64 3, .int .i64 4, .int .i64 5, .int .i64 0, .int .i64 0, .int .i64 4] 3 wg4.heap.size).out ?_
   intro wg5 hb
   have HS5 := zh hb
   clear hb HS4
   go_wp2_with (refine a0e rfl _ _ _ rfl HS5.out 2 rfl (entO.toList) rfl rfl rfl a0n rfl ?_)
   intro w6 hS6
   have HS6 : Hid (St w [_, _, _, _, _] w6) := zh hS6
   clear hS6 HS5
   go_wp2
   refine bodyPost_ret (a0t rfl _ _ _ rfl (HS6.out.blk 2 rfl) rfl) rfl ?_
   rw [R.out]
   exact ⟨rfl, HS6.out.below⟩
  have s42 : decide (x.st < 1) = false := decide_eq_false t1
  by_cases t8 : 7 < x.st
  ·have s47 : decide (7 < x.st) = true := decide_eq_true t8
   have R := zh (a2q (show a0f x ⟨7, d, id, am, cr, p⟩ = (x, 13) by unfold a0f; rw [if_pos (by show a1b 7 x.st = false; rw [al7, Bool.and_eq_false_iff, decide_eq_false_iff_not, decide_eq_false_iff_not]; omega)]) (by decide))
   clear t6 t7 t1 t8
   have x5 := cC (v := .int .i64 7) HS4 2 0
   have x6 := cC (v := .int .i64 x.st) HS4 3 14
   have x7 := HS4.out.lt 2 rfl
   have x8 : ¬ w.heap.size + 1 = wg4.heap.size := by omega
   have x9 : ¬ wg4.heap.size = w.heap.size + 1 := by omega
   have x10 := HS4.out.lt 3 rfl
   have x11 : ¬ w.heap.size = wg4.heap.size := by omega
   have x12 : ¬ wg4.heap.size = w.heap.size := by omega
   go_upto_region 4 with fail
   clear x5 x6 x7 x8 x9 x10 x11 x12
   refine a3u (aL HS4 #[.int .i64 0, .int .i64 0, .int .i64 1, .int .i64 1, .int .i64 3, .int .i64 4, .int .i64 5, .int .i64 0, .int .i64 0, .int .i64 4] 3 wg4.heap.size).out ?_
   intro wg5 hb
   have HS5 := zh hb
   clear hb HS4
   go_wp2_with (refine a0e rfl _ _ _ rfl HS5.out 2 rfl (entO.toList) rfl rfl rfl a0n rfl ?_)
   intro w6 hS6
   have HS6 : Hid (St w [_, _, _, _, _] w6) := zh hS6
   clear hS6 HS5
   go_wp2
   refine bodyPost_ret (a0t rfl _ _ _ rfl (HS6.out.blk 2 rfl) rfl) rfl ?_
   rw [R.out]
   exact ⟨rfl, HS6.out.below⟩
  have s47 : decide (7 < x.st) = false := decide_eq_false t8
  have R := zh (a9r (show a0f x ⟨7, d, id, am, cr, p⟩ = ({ x with st := 7, fl := zero3, ad := zero3, ce := zero3 }, 0) by unfold a0f; rw [if_neg (by show ¬ a1b 7 x.st = false; rw [al7, Bool.and_eq_false_iff, decide_eq_false_iff_not, decide_eq_false_iff_not]; omega), if_neg (show ¬ (7 : Int) = 2 by decide), if_neg (show ¬ (7 : Int) = 3 by decide), if_neg (show ¬ (7 : Int) = 4 by decide), if_neg (show ¬ (7 : Int) = 5 by decide), if_neg (show ¬ (7 : Int) = 6 by decide), if_neg (show ¬ (7 : Int) = 9 by decide), if_pos rfl]))
  clear t6 t7 t1 t8
  have x5 := cC (v := .int .i64 7) HS4 2 0
  have x6 := cC (v := .int .i64 x.st) HS4 3 14
  have x7 := cC (v := .bool x.fl.n) HS4 3 19
  have x8 := cC (v := .string (bs x.fl.a)) HS4 3 20
  have x9 := cC (v := .string (bs x.fl.b)) HS4 3 21
  have x10 := cC (v := .bool x.ad.n) HS4 3 22
  have x11 := cC (v := .string (bs x.ad.a)) HS4 3 23
  have x12 := cC (v := .string (bs x.ad.b)) HS4 3 24
  have x13 := cC (v := .bool x.ce.n) HS4 3 25
  have x14 := cC (v := .string (bs x.ce.a)) HS4 3 26
  have x15 := cC (v := .string (bs x.ce.b)) HS4 3 27
  have x16 := cF HS4 3 14
  have x17 := cF HS4 3 19
  have x18 := cF HS4 3 20
  have x19 := cF HS4 3 21
  have x20 := cF HS4 3 22
  have x21 := cF HS4 3 23
  have x22 := cF HS4 3 24
  have x23 := cF HS4 3 25
  have x24 := cF HS4 3 26
  have x25 := cF HS4 3 27
  have x26 := cN HS4 3 0
  have x27 := cN HS4 0 3
  have x28 := cN HS4 3 1
  have x29 := cN HS4 1 3
  have x30 := cN HS4 3 2
  have x31 := cN HS4 2 3
  have x32 := HS4.out.lt 2 rfl
  have x33 : ¬ w.heap.size + 1 = wg4.heap.size := by omega
  have x34 : ¬ wg4.heap.size = w.heap.size + 1 := by omega
  have x35 := HS4.out.lt 3 rfl
  have x36 : ¬ w.heap.size = wg4.heap.size := by omega
  have x37 : ¬ wg4.heap.size = w.heap.size := by omega
  go_upto_region 43 with fail
  clear x5 x6 x7 x8 x9 x10 x11 x12 x13 x14 x15 x16 x17 x18 x19 x20 x21 x22 x23 x24 x25 x26 x27 x28 x29 x30 x31 x32 x33 x34 x35 x36 x37
  have HP5 : Hid (St w [_, _, _, ⟨w.heap.size, (entM x.p 7 x.late x.cl ⟨false, [], x.fl.b⟩ x.ad x.ce x.acq x.chg).toArray, 57⟩] _) := zh (St.set (St.set (St.set (HS4.out) 3 rfl 14 _) 3 rfl 19 _) 3 rfl 20 _)
  have HP6 : Hid (St w [_, _, _, ⟨w.heap.size, (entM x.p 7 x.late x.cl ⟨false, [], []⟩ ⟨false, [], x.ad.b⟩ x.ce x.acq x.chg).toArray, 57⟩] _) := zh (St.set (St.set (St.set (HP5.out) 3 rfl 21 _) 3 rfl 22 _) 3 rfl 23 _)
  have HP7 : Hid (St w [_, _, _, ⟨w.heap.size, (entM x.p 7 x.late x.cl ⟨false, [], []⟩ ⟨false, [], []⟩ ⟨false, [], x.ce.b⟩ x.acq x.chg).toArray, 57⟩] _) := zh (St.set (St.set (St.set (HP6.out) 3 rfl 24 _) 3 rfl 25 _) 3 rfl 26 _)
  refine a3u (R := [_, _, _, _, ⟨w.heap.size, (entM x.p 7 x.late x.cl ⟨false, [], []⟩ ⟨false, [], []⟩ ⟨false, [], []⟩ x.acq x.chg).toArray, 57⟩]) (St.alloc (St.set (HP7.out) 3 rfl 27 _) #[.int .i64 0, .int .i64 0, .int .i64 1, .int .i64 1, .int .i64 3, .int .i64 4, .int .i64 5, .int .i64 0, .int .i64 0, .int .i64 4] 3 (wg4.heap.size) (by simp)) ?_
  intro wg8 hb
  have HS8 := zh hb
  clear hb HS4
  go_wp2_with (first | (refine wpList_load_mid rfl _ _ rfl (w.heap.size) (0) rfl (entM x.p 7 x.late x.cl ⟨false, [], []⟩ ⟨false, [], []⟩ ⟨false, [], []⟩ x.acq x.chg) _ (St.whole HS8.out 4 rfl) Tryz.underlying57 rfl a0n ?_) | (refine a0e rfl _ _ _ rfl HS8.out 2 rfl (entM x.p 7 x.late x.cl ⟨false, [], []⟩ ⟨false, [], []⟩ ⟨false, [], []⟩ x.acq x.chg) rfl rfl rfl a0n rfl ?_))
  intro w9 hS9
  have HS9 : Hid (St w [_, _, ⟨w.heap.size + 1 + 1, (entM x.p 7 x.late x.cl ⟨false, [], []⟩ ⟨false, [], []⟩ ⟨false, [], []⟩ x.acq x.chg).toArray, 57⟩, _, _] w9) := zh hS9
  clear hS9 HS8 HP5 HP6 HP7
  go_wp2
  refine bodyPost_ret (a0t rfl _ _ _ rfl (HS9.out.blk 2 rfl) rfl) rfl ?_
  rw [R.out]
  exact ⟨rfl, HS9.out.below⟩
 ·have x1 := cC (v := .int .i64 8) HS4 2 0
  have x2 := HS4.out.lt 2 rfl
  have x3 : ¬ w.heap.size + 1 = wg4.heap.size := by omega
  have x4 : ¬ wg4.heap.size = w.heap.size + 1 := by omega
  go_upto_region 3 with fail
  clear x1 x2 x3 x4
  by_cases t7 : x.st = 7
  ·have s37 : (x.st == 7) = true := by rw [beq_iff_eq]; exact t7
   have R := zh (a2q (show a0f x ⟨8, d, id, am, cr, p⟩ = (x, 13) by unfold a0f; rw [if_pos (by show a1b 8 x.st = false; rw [al8, Bool.and_eq_false_iff, decide_eq_false_iff_not, decide_eq_false_iff_not]; omega)]) (by decide))
   clear t7
   have x5 := cC (v := .int .i64 8) HS4 2 0
   have x6 := cC (v := .int .i64 x.st) HS4 3 14
   have x7 := HS4.out.lt 2 rfl
   have x8 : ¬ w.heap.size + 1 = wg4.heap.size := by omega
   have x9 : ¬ wg4.heap.size = w.heap.size + 1 := by omega
   have x10 := HS4.out.lt 3 rfl
   have x11 : ¬ w.heap.size = wg4.heap.size := by omega
   have x12 : ¬ wg4.heap.size = w.heap.size := by omega
   go_upto_region 4 with fail
   clear x5 x6 x7 x8 x9 x10 x11 x12
   refine a3u (aL HS4 #[.int .i64 0, .int .i64 0, .int .i64 1, .int .i64 1, .int .i64 3, .int .i64 4, .int .i64 5, .int .i64 0, .int .i64 0, .int .i64 4] 3 wg4.heap.size).out ?_
   intro wg5 hb
   have HS5 := zh hb
   clear hb HS4
   go_wp2_with (refine a0e rfl _ _ _ rfl HS5.out 2 rfl (entO.toList) rfl rfl rfl a0n rfl ?_)
   intro w6 hS6
   have HS6 : Hid (St w [_, _, _, _, _] w6) := zh hS6
   clear hS6 HS5
   go_wp2
   refine bodyPost_ret (a0t rfl _ _ _ rfl (HS6.out.blk 2 rfl) rfl) rfl ?_
   rw [R.out]
   exact ⟨rfl, HS6.out.below⟩
  have s37 : (x.st == 7) = false := by rw [beq_eq_false_iff_ne]; exact t7
  by_cases t1 : x.st < 1
  ·have s42 : decide (x.st < 1) = true := decide_eq_true t1
   have R := zh (a2q (show a0f x ⟨8, d, id, am, cr, p⟩ = (x, 13) by unfold a0f; rw [if_pos (by show a1b 8 x.st = false; rw [al8, Bool.and_eq_false_iff, decide_eq_false_iff_not, decide_eq_false_iff_not]; omega)]) (by decide))
   clear t7 t1
   have x5 := cC (v := .int .i64 8) HS4 2 0
   have x6 := cC (v := .int .i64 x.st) HS4 3 14
   have x7 := HS4.out.lt 2 rfl
   have x8 : ¬ w.heap.size + 1 = wg4.heap.size := by omega
   have x9 : ¬ wg4.heap.size = w.heap.size + 1 := by omega
   have x10 := HS4.out.lt 3 rfl
   have x11 : ¬ w.heap.size = wg4.heap.size := by omega
   have x12 : ¬ wg4.heap.size = w.heap.size := by omega
   go_upto_region 4 with fail
   clear x5 x6 x7 x8 x9 x10 x11 x12
   refine a3u (aL HS4 #[.int .i64 0, .int .i64 0, .int .i64 1, .int .i64 1, .int .i64 3, .int .i64 4, .int .i64 5, .int .i64 0, .int .i64 0, .int .i64 4] 3 wg4.heap.size).out ?_
   intro wg5 hb
   have HS5 := zh hb
   clear hb HS4
   go_wp2_with (refine a0e rfl _ _ _ rfl HS5.out 2 rfl (entO.toList) rfl rfl rfl a0n rfl ?_)
   intro w6 hS6
   have HS6 : Hid (St w [_, _, _, _, _] w6) := zh hS6
   clear hS6 HS5
   go_wp2
   refine bodyPost_ret (a0t rfl _ _ _ rfl (HS6.out.blk 2 rfl) rfl) rfl ?_
   rw [R.out]
   exact ⟨rfl, HS6.out.below⟩
  have s42 : decide (x.st < 1) = false := decide_eq_false t1
  by_cases t8 : 7 < x.st
  ·have s47 : decide (7 < x.st) = true := decide_eq_true t8
   have R := zh (a2q (show a0f x ⟨8, d, id, am, cr, p⟩ = (x, 13) by unfold a0f; rw [if_pos (by show a1b 8 x.st = false; rw [al8, Bool.and_eq_false_iff, decide_eq_false_iff_not, decide_eq_false_iff_not]; omega)]) (by decide))
   clear t7 t1 t8
   have x5 := cC (v := .int .i64 8) HS4 2 0
   have x6 := cC (v := .int .i64 x.st) HS4 3 14
   have x7 := HS4.out.lt 2 rfl
   have x8 : ¬ w.heap.size + 1 = wg4.heap.size := by omega
   have x9 : ¬ wg4.heap.size = w.heap.size + 1 := by omega
   have x10 := HS4.out.lt 3 rfl
   have x11 : ¬ w.heap.size = wg4.heap.size := by omega
   have x12 : ¬ wg4.heap.size = w.heap.size := by omega
   go_upto_region 4 with fail
   clear x5 x6 x7 x8 x9 x10 x11 x12
   refine a3u (aL HS4 #[.int .i64 0, .int .i64 0, .int .i64 1, .int .i64 1, .int .i64 3, .int .i64 4, .int .i64 5, .int .i64 0, .int .i64 0, .int .i64 4] 3 wg4.heap.size).out ?_
   intro wg5 hb
   have HS5 := zh hb
   clear hb HS4
   go_wp2_with (refine a0e rfl _ _ _ rfl HS5.out 2 rfl (entO.toList) rfl rfl rfl a0n rfl ?_)
   intro w6 hS6
   have HS6 : Hid (St w [_, _, _, _, _] w6) := zh hS6
   clear hS6 HS5
   go_wp2
   refine bodyPost_ret (a0t rfl _ _ _ rfl (HS6.out.blk 2 rfl) rfl) rfl ?_
   rw [R.out]
   exact ⟨rfl, HS6.out.below⟩
  have s47 : decide (7 < x.st) = false := decide_eq_false t8
  have HAL := zh (show ¬ a1b 8 x.st = false from by show ¬ a1b 8 x.st = false; rw [al8, Bool.and_eq_false_iff, decide_eq_false_iff_not, decide_eq_false_iff_not]; omega)
  clear t7 t1 t8
  have x5 := cC (v := .int .i64 8) HS4 2 0
  have x6 := cC (v := .int .i64 x.st) HS4 3 14
  have x7 := HS4.out.lt 2 rfl
  have x8 : ¬ w.heap.size + 1 = wg4.heap.size := by omega
  have x9 : ¬ wg4.heap.size = w.heap.size + 1 := by omega
  have x10 := HS4.out.lt 3 rfl
  have x11 : ¬ w.heap.size = wg4.heap.size := by omega
  have x12 : ¬ wg4.heap.size = w.heap.size := by omega
  go_upto_region 6 with fail
  clear x5 x6 x7 x8 x9 x10 x11 x12
  by_cases q1 : cr < 0
  ·have z1 : decide (cr < 0) = true := decide_eq_true q1
   have R := zh (a2q (show a0f x ⟨8, d, id, am, cr, p⟩ = (x, 14) by unfold a0f; rw [if_neg (HAL.out), if_neg (show ¬ (8 : Int) = 2 by decide), if_neg (show ¬ (8 : Int) = 3 by decide), if_neg (show ¬ (8 : Int) = 4 by decide), if_neg (show ¬ (8 : Int) = 5 by decide), if_neg (show ¬ (8 : Int) = 6 by decide), if_neg (show ¬ (8 : Int) = 9 by decide), if_neg (show ¬ (8 : Int) = 7 by decide), if_pos (.inl q1)]) (by decide))
   clear q1
   have x13 := cC (v := .int .i64 cr) HS4 2 6
   have x14 := HS4.out.lt 2 rfl
   have x15 : ¬ w.heap.size + 1 = wg4.heap.size := by omega
   have x16 : ¬ wg4.heap.size = w.heap.size + 1 := by omega
   go_upto_region 7 with fail
   clear x13 x14 x15 x16
   refine a3u (aL HS4 #[.int .i64 0, .int .i64 0, .int .i64 1, .int .i64 1, .int .i64 3, .int .i64 4, .int .i64 5, .int .i64 0, .int .i64 0, .int .i64 4] 3 wg4.heap.size).out ?_
   intro wg5 hb
   have HS5 := zh hb
   clear hb HS4
   go_wp2_with (refine a0e rfl _ _ _ rfl HS5.out 2 rfl (entO.toList) rfl rfl rfl a0n rfl ?_)
   intro w6 hS6
   have HS6 : Hid (St w [_, _, _, _, _] w6) := zh hS6
   clear hS6 HS5
   go_wp2
   refine bodyPost_ret (a0t rfl _ _ _ rfl (HS6.out.blk 2 rfl) rfl) rfl ?_
   rw [R.out]
   exact ⟨rfl, HS6.out.below⟩
  have z1 : decide (cr < 0) = false := decide_eq_false q1
  by_cases q2 : 32 <= cr
  ·have z2 : decide (32 <= cr) = true := decide_eq_true q2
   have R := zh (a2q (show a0f x ⟨8, d, id, am, cr, p⟩ = (x, 14) by unfold a0f; rw [if_neg (HAL.out), if_neg (show ¬ (8 : Int) = 2 by decide), if_neg (show ¬ (8 : Int) = 3 by decide), if_neg (show ¬ (8 : Int) = 4 by decide), if_neg (show ¬ (8 : Int) = 5 by decide), if_neg (show ¬ (8 : Int) = 6 by decide), if_neg (show ¬ (8 : Int) = 9 by decide), if_neg (show ¬ (8 : Int) = 7 by decide), if_pos (.inr (.inl q2))]) (by decide))
   clear q1 q2
   have x13 := cC (v := .int .i64 cr) HS4 2 6
   have x14 := HS4.out.lt 2 rfl
   have x15 : ¬ w.heap.size + 1 = wg4.heap.size := by omega
   have x16 : ¬ wg4.heap.size = w.heap.size + 1 := by omega
   go_upto_region 7 with fail
   clear x13 x14 x15 x16
   refine a3u (aL HS4 #[.int .i64 0, .int .i64 0, .int .i64 1, .int .i64 1, .int .i64 3, .int .i64 4, .int .i64 5, .int .i64 0, .int .i64 0, .int .i64 4] 3 wg4.heap.size).out ?_
   intro wg5 hb
   have HS5 := zh hb
   clear hb HS4
   go_wp2_with (refine a0e rfl _ _ _ rfl HS5.out 2 rfl (entO.toList) rfl rfl rfl a0n rfl ?_)
   intro w6 hS6
   have HS6 : Hid (St w [_, _, _, _, _] w6) := zh hS6
   clear hS6 HS5
   go_wp2
   refine bodyPost_ret (a0t rfl _ _ _ rfl (HS6.out.blk 2 rfl) rfl) rfl ?_
   rw [R.out]
   exact ⟨rfl, HS6.out.below⟩
  have z2 : decide (32 <= cr) = false := decide_eq_false q2
  by_cases q3 : cr = x.p.cre
  ·have z3 : (cr == x.p.cre) = true := by rw [beq_iff_eq]; exact q3
   have R := zh (a2q (show a0f x ⟨8, d, id, am, cr, p⟩ = (x, 14) by unfold a0f; rw [if_neg (HAL.out), if_neg (show ¬ (8 : Int) = 2 by decide), if_neg (show ¬ (8 : Int) = 3 by decide), if_neg (show ¬ (8 : Int) = 4 by decide), if_neg (show ¬ (8 : Int) = 5 by decide), if_neg (show ¬ (8 : Int) = 6 by decide), if_neg (show ¬ (8 : Int) = 9 by decide), if_neg (show ¬ (8 : Int) = 7 by decide), if_pos (.inr (.inr q3))]) (by decide))
   clear q1 q2 q3
   have x13 := cC (v := .int .i64 cr) HS4 2 6
   have x14 := cC (v := .int .i64 x.p.cre) HS4 3 2
   have x15 := HS4.out.lt 2 rfl
   have x16 : ¬ w.heap.size + 1 = wg4.heap.size := by omega
   have x17 : ¬ wg4.heap.size = w.heap.size + 1 := by omega
   have x18 := HS4.out.lt 3 rfl
   have x19 : ¬ w.heap.size = wg4.heap.size := by omega
   have x20 : ¬ wg4.heap.size = w.heap.size := by omega
   go_upto_region 7 with fail
   clear x13 x14 x15 x16 x17 x18 x19 x20
   refine a3u (aL HS4 #[.int .i64 0, .int .i64 0, .int .i64 1, .int .i64 1, .int .i64 3, .int .i64 4, .int .i64 5, .int .i64 0, .int .i64 0, .int .i64 4] 3 wg4.heap.size).out ?_
   intro wg5 hb
   have HS5 := zh hb
   clear hb HS4
   go_wp2_with (refine a0e rfl _ _ _ rfl HS5.out 2 rfl (entO.toList) rfl rfl rfl a0n rfl ?_)
   intro w6 hS6
   have HS6 : Hid (St w [_, _, _, _, _] w6) := zh hS6
   clear hS6 HS5
   go_wp2
   refine bodyPost_ret (a0t rfl _ _ _ rfl (HS6.out.blk 2 rfl) rfl) rfl ?_
   rw [R.out]
   exact ⟨rfl, HS6.out.below⟩
  have z3 : (cr == x.p.cre) = false := by rw [beq_eq_false_iff_ne]; exact q3
  have R := zh (a9r (show a0f x ⟨8, d, id, am, cr, p⟩ = ({ x with p := { x.p with cre := cr }, acq := d }, 0) by unfold a0f; rw [if_neg (HAL.out), if_neg (show ¬ (8 : Int) = 2 by decide), if_neg (show ¬ (8 : Int) = 3 by decide), if_neg (show ¬ (8 : Int) = 4 by decide), if_neg (show ¬ (8 : Int) = 5 by decide), if_neg (show ¬ (8 : Int) = 6 by decide), if_neg (show ¬ (8 : Int) = 9 by decide), if_neg (show ¬ (8 : Int) = 7 by decide), if_neg (fun h => h.elim q1 (fun h => h.elim q2 q3))]))
  clear q1 q2 q3
  have x13 := cC (v := .int .i64 cr) HS4 2 6
  have x14 := cC (v := .int .i64 x.p.cre) HS4 3 2
  have x15 := cC (v := .int .i64 d) HS4 2 1
  have x16 := cC (v := .int .i64 x.acq) HS4 3 28
  have x17 := cF HS4 3 2
  have x18 := cF HS4 3 28
  have x19 := cN HS4 3 0
  have x20 := cN HS4 0 3
  have x21 := cN HS4 3 1
  have x22 := cN HS4 1 3
  have x23 := cN HS4 3 2
  have x24 := cN HS4 2 3
  have x25 := HS4.out.lt 2 rfl
  have x26 : ¬ w.heap.size + 1 = wg4.heap.size := by omega
  have x27 : ¬ wg4.heap.size = w.heap.size + 1 := by omega
  have x28 := HS4.out.lt 3 rfl
  have x29 : ¬ w.heap.size = wg4.heap.size := by omega
  have x30 : ¬ wg4.heap.size = w.heap.size := by omega
  go_upto_region 43 with fail
  clear x13 x14 x15 x16 x17 x18 x19 x20 x21 x22 x23 x24 x25 x26 x27 x28 x29 x30
  refine a3u (R := [_, _, _, _, ⟨w.heap.size, #[.string (bs x.p.id), .int .i64 x.p.est, .int .i64 cr, .string (bs x.p.code), .bool x.p.an, .string (bs x.p.aa), .string (bs x.p.ab), .int .i64 x.p.inc, .int .i64 x.p.rank, .bool x.p.rn, .string (bs x.p.ra), .string (bs x.p.rb), .int .i64 x.p.rf, .int .i64 x.p.sec, .int .i64 x.st, .bool x.late, .bool x.cl.n, .string (bs x.cl.a), .string (bs x.cl.b), .bool x.fl.n, .string (bs x.fl.a), .string (bs x.fl.b), .bool x.ad.n, .string (bs x.ad.a), .string (bs x.ad.b), .bool x.ce.n, .string (bs x.ce.a), .string (bs x.ce.b), .int .i64 d, .int .i64 x.chg], 57⟩]) (St.alloc (St.set (St.set (HS4.out) 3 rfl 2 _) 3 rfl 28 _) #[.int .i64 0, .int .i64 0, .int .i64 1, .int .i64 1, .int .i64 3, .int .i64 4, .int .i64 5, .int .i64 0, .int .i64 0, .int .i64 4] 3 (wg4.heap.size) (by simp)) ?_
  intro wg5 hb
  have HS5 := zh hb
  clear hb HS4
  go_wp2_with (first | (refine wpList_load_mid rfl _ _ rfl (w.heap.size) (0) rfl [.string (bs x.p.id), .int .i64 x.p.est, .int .i64 cr, .string (bs x.p.code), .bool x.p.an, .string (bs x.p.aa), .string (bs x.p.ab), .int .i64 x.p.inc, .int .i64 x.p.rank, .bool x.p.rn, .string (bs x.p.ra), .string (bs x.p.rb), .int .i64 x.p.rf, .int .i64 x.p.sec, .int .i64 x.st, .bool x.late, .bool x.cl.n, .string (bs x.cl.a), .string (bs x.cl.b), .bool x.fl.n, .string (bs x.fl.a), .string (bs x.fl.b), .bool x.ad.n, .string (bs x.ad.a), .string (bs x.ad.b), .bool x.ce.n, .string (bs x.ce.a), .string (bs x.ce.b), .int .i64 d, .int .i64 x.chg] _ (St.whole HS5.out 4 rfl) Tryz.underlying57 rfl a0n ?_) | (refine a0e rfl _ _ _ rfl HS5.out 2 rfl [.string (bs x.p.id), .int .i64 x.p.est, .int .i64 cr, .string (bs x.p.code), .bool x.p.an, .string (bs x.p.aa), .string (bs x.p.ab), .int .i64 x.p.inc, .int .i64 x.p.rank, .bool x.p.rn, .string (bs x.p.ra), .string (bs x.p.rb), .int .i64 x.p.rf, .int .i64 x.p.sec, .int .i64 x.st, .bool x.late, .bool x.cl.n, .string (bs x.cl.a), .string (bs x.cl.b), .bool x.fl.n, .string (bs x.fl.a), .string (bs x.fl.b), .bool x.ad.n, .string (bs x.ad.a), .string (bs x.ad.b), .bool x.ce.n, .string (bs x.ce.a), .string (bs x.ce.b), .int .i64 d, .int .i64 x.chg] rfl rfl rfl a0n rfl ?_))
  intro w6 hS6
  have HS6 : Hid (St w [_, _, ⟨w.heap.size + 1 + 1, #[.string (bs x.p.id), .int .i64 x.p.est, .int .i64 cr, .string (bs x.p.code), .bool x.p.an, .string (bs x.p.aa), .string (bs x.p.ab), .int .i64 x.p.inc, .int .i64 x.p.rank, .bool x.p.rn, .string (bs x.p.ra), .string (bs x.p.rb), .int .i64 x.p.rf, .int .i64 x.p.sec, .int .i64 x.st, .bool x.late, .bool x.cl.n, .string (bs x.cl.a), .string (bs x.cl.b), .bool x.fl.n, .string (bs x.fl.a), .string (bs x.fl.b), .bool x.ad.n, .string (bs x.ad.a), .string (bs x.ad.b), .bool x.ce.n, .string (bs x.ce.a), .string (bs x.ce.b), .int .i64 d, .int .i64 x.chg], 57⟩, _, _] w6) := zh hS6
  clear hS6 HS5
  go_wp2
  refine bodyPost_ret (a0t rfl _ _ _ rfl (HS6.out.blk 2 rfl) rfl) rfl ?_
  rw [R.out]
  exact ⟨rfl, HS6.out.below⟩
 have x1 := cC (v := .int .i64 9) HS4 2 0
 have x2 := HS4.out.lt 2 rfl
 have x3 : ¬ w.heap.size + 1 = wg4.heap.size := by omega
 have x4 : ¬ wg4.heap.size = w.heap.size + 1 := by omega
 go_upto_region 3 with fail
 clear x1 x2 x3 x4
 by_cases hs : x.st = 4
 ·have s1 : (x.st != 4) = false := by rw [hs]; rfl
  have s2 : (x.st == 7) = false := by rw [hs]; rfl
  have s3 : decide (x.st < 1) = false := by rw [hs]; rfl
  have s4 : decide (7 < x.st) = false := by rw [hs]; rfl
  have R := zh (a9r (show a0f x ⟨9, d, id, am, cr, p⟩ = ({ x with st := 6, fl := enc3 x.ad.val, ce := enc3 x.ad.val }, 0) by unfold a0f; rw [if_neg (by show ¬ a1b 9 x.st = false; rw [al9, decide_eq_true hs]; decide), if_neg (show ¬ (9 : Int) = 2 by decide), if_neg (show ¬ (9 : Int) = 3 by decide), if_neg (show ¬ (9 : Int) = 4 by decide), if_neg (show ¬ (9 : Int) = 5 by decide), if_neg (show ¬ (9 : Int) = 6 by decide), if_pos rfl]))
  clear hs
  have x5 := cC (v := .int .i64 x.st) HS4 3 14
  have x6 := cC (v := .int .i64 9) HS4 2 0
  have x7 := cC (v := .bool x.ad.n) HS4 3 22
  have x8 := cC (v := .string (bs x.ad.a)) HS4 3 23
  have x9 := cC (v := .string (bs x.ad.b)) HS4 3 24
  have x10 := cF HS4 3 14
  have x11 := cN HS4 3 0
  have x12 := cN HS4 0 3
  have x13 := cN HS4 3 1
  have x14 := cN HS4 1 3
  have x15 := cN HS4 3 2
  have x16 := cN HS4 2 3
  have x17 := HS4.out.lt 3 rfl
  have x18 : ¬ w.heap.size = wg4.heap.size := by omega
  have x19 : ¬ wg4.heap.size = w.heap.size := by omega
  have x20 := HS4.out.lt 2 rfl
  have x21 : ¬ w.heap.size + 1 = wg4.heap.size := by omega
  have x22 : ¬ wg4.heap.size = w.heap.size + 1 := by omega
  go_wp2_with fail
  have HS5 : Hid (St w [_, _, _, _, ⟨w.heap.size, (entM x.p 6 x.late x.cl x.fl x.ad x.ce x.acq x.chg).toArray, 57⟩] _) := zh (St.alloc (St.set (HS4.out) 3 rfl 14 _) #[.int .i64 0, .int .i64 0, .int .i64 1, .int .i64 1, .int .i64 3, .int .i64 4, .int .i64 5, .int .i64 0, .int .i64 0, .int .i64 4] 3 (wg4.heap.size) (by simp))
  refine cL (HFD.out _) HS5 fun w6 HS6 => ?_
  clear HS4 HS5 x5 x6 x7 x8 x9 x10 x11 x12 x13 x14 x15 x16 x17 x18 x19 x20 x21 x22
  have x23 := cC HS6 4 19
  have x24 := cC HS6 4 20
  have x25 := cC HS6 4 21
  have x26 := cC HS6 4 25
  have x27 := cC HS6 4 26
  have x28 := cC HS6 4 27
  have x29 := cF HS6 4 19
  have x30 := cF HS6 4 20
  have x31 := cF HS6 4 21
  have x32 := cF HS6 4 25
  have x33 := cF HS6 4 26
  have x34 := cF HS6 4 27
  have x35 := cN HS6 4 0
  have x36 := cN HS6 0 4
  have x37 := cN HS6 4 1
  have x38 := cN HS6 1 4
  have x39 := cN HS6 4 2
  have x40 := cN HS6 2 4
  have x41 := cN HS6 4 3
  have x42 := cN HS6 3 4
  go_upto_region 43 with fail
  clear x23 x24 x25 x26 x27 x28 x29 x30 x31 x32 x33 x34 x35 x36 x37 x38 x39 x40 x41 x42
  have HP7 : Hid (St w [_, _, _, _, ⟨w.heap.size, (entM x.p 6 x.late x.cl ⟨(negB (x.ad.val)), (numB (x.ad.val)), (a0a (x.ad.val))⟩ x.ad x.ce x.acq x.chg).toArray, 57⟩] _) := zh (St.set (St.set (St.set (HS6.out) 4 rfl 19 _) 4 rfl 20 _) 4 rfl 21 _)
  have HP8 : Hid (St w [_, _, _, _, ⟨w.heap.size, (entM x.p 6 x.late x.cl ⟨(negB (x.ad.val)), (numB (x.ad.val)), (a0a (x.ad.val))⟩ x.ad ⟨(negB (x.ad.val)), (numB (x.ad.val)), (a0a (x.ad.val))⟩ x.acq x.chg).toArray, 57⟩] _) := zh (St.set (St.set (St.set (HP7.out) 4 rfl 25 _) 4 rfl 26 _) 4 rfl 27 _)
  refine a3u HP8.out ?_
  intro wg9 hb
  have HS9 := zh hb
  clear hb HS6
  go_wp2_with (first | (refine wpList_load_mid rfl _ _ rfl (w.heap.size) (0) rfl (entM x.p 6 x.late x.cl ⟨(negB (x.ad.val)), (numB (x.ad.val)), (a0a (x.ad.val))⟩ x.ad ⟨(negB (x.ad.val)), (numB (x.ad.val)), (a0a (x.ad.val))⟩ x.acq x.chg) _ (St.whole HS9.out 4 rfl) Tryz.underlying57 rfl a0n ?_) | (refine a0e rfl _ _ _ rfl HS9.out 2 rfl (entM x.p 6 x.late x.cl ⟨(negB (x.ad.val)), (numB (x.ad.val)), (a0a (x.ad.val))⟩ x.ad ⟨(negB (x.ad.val)), (numB (x.ad.val)), (a0a (x.ad.val))⟩ x.acq x.chg) rfl rfl rfl a0n rfl ?_))
  intro w10 hS10
  have HS10 : Hid (St w [_, _, ⟨w.heap.size + 1 + 1, (entM x.p 6 x.late x.cl ⟨(negB (x.ad.val)), (numB (x.ad.val)), (a0a (x.ad.val))⟩ x.ad ⟨(negB (x.ad.val)), (numB (x.ad.val)), (a0a (x.ad.val))⟩ x.acq x.chg).toArray, 57⟩, _, _] w10) := zh hS10
  clear hS10 HS9 HP7 HP8
  go_wp2
  refine bodyPost_ret (a0t rfl _ _ _ rfl (HS10.out.blk 2 rfl) rfl) rfl ?_
  rw [R.out]
  exact ⟨rfl, HS10.out.below⟩
 have s1 : (x.st != 4) = true := by rw [bne_iff_ne]; exact hs
 have R := zh (a2q (show a0f x ⟨9, d, id, am, cr, p⟩ = (x, 13) by unfold a0f; rw [if_pos (by show a1b 9 x.st = false; rw [al9]; exact decide_eq_false hs)]) (by decide))
 clear hs
 have x5 := cC (v := .int .i64 x.st) HS4 3 14
 have x6 := HS4.out.lt 3 rfl
 have x7 : ¬ w.heap.size = wg4.heap.size := by omega
 have x8 : ¬ wg4.heap.size = w.heap.size := by omega
 go_upto_region 4 with fail
 clear x5 x6 x7 x8
 refine a3u (aL HS4 #[.int .i64 0, .int .i64 0, .int .i64 1, .int .i64 1, .int .i64 3, .int .i64 4, .int .i64 5, .int .i64 0, .int .i64 0, .int .i64 4] 3 wg4.heap.size).out ?_
 intro wg5 hb
 have HS5 := zh hb
 clear hb HS4
 go_wp2_with (refine a0e rfl _ _ _ rfl HS5.out 2 rfl (entO.toList) rfl rfl rfl a0n rfl ?_)
 intro w6 hS6
 have HS6 : Hid (St w [_, _, _, _, _] w6) := zh hS6
 clear hS6 HS5
 go_wp2
 refine bodyPost_ret (a0t rfl _ _ _ rfl (HS6.out.blk 2 rfl) rfl) rfl ?_
 rw [R.out]
 exact ⟨rfl, HS6.out.below⟩
theorem a9e (x : Ent) (e : Evt) (w : World) (h1 : (e.am.a.length <= 1000000 /\ e.am.b.length <= 1000000)) (h2 : (x.ce.a.length <= 1000000 /\ x.ce.b.length <= 1000000)) (h3 : (x.fl.a.length <= 1000000 /\ x.fl.b.length <= 1000000)) (h4 : (x.ad.a.length <= 1000000 /\ x.ad.b.length <= 1000000)) (hk : 2 <= e.kind /\ e.kind <= 9) :
  Calls Tryz.prog 26 #[.agg x.enc.toArray, .agg e.enc.toArray] w fun r w' => r = .returned (.tuple #[.agg (chgR x e).1.enc.toArray, .int .i64 (chgR x e).2]) /\ Below w.heap.size w w' := by
 obtain ⟨k, d, id, am, cr, p⟩ := e
 dsimp only at h1 hk
 exact b7j x k d id am cr p w h1 h2 h3 h4 (by omega)
end Go.Proofs.YtoighiepglclkaaGreatDoor
