/-
Part 42 of the base.
-/
import Derived.Test.YtoighiepglclkaaGreatDoorKf41
set_option maxRecDepth 100000
set_option maxHeartbeats 20000000
namespace Go.Proofs.YtoighiepglclkaaGreatDoor
open Go.RowKit
def filR (l : List Ent) (cut bar : Int) (e : Evt) (qs : List Quo) : Ent × Int := if a6m l cut e qs ≠ 0 then (entZ, a6m l cut e qs) else (newE e.p e.day bar (a0u e.p cut qs).1, 0)
theorem c0t {l : List Ent} {cut bar : Int} {e : Evt} {qs : List Quo} {n : Int} (h : a6m l cut e qs = n) (hn : n ≠ 0) : filR l cut bar e qs = (entZ, n) := by unfold filR; rw [h, if_pos hn]
theorem c4w {l : List Ent} {cut bar : Int} {e : Evt} {qs : List Quo} (h : a6m l cut e qs = 0) : filR l cut bar e qs = (newE e.p e.day bar (a0u e.p cut qs).1, 0) := by unfold filR; rw [if_neg (by rw [h]; decide)]
theorem b0b (cut bar day : Int) (v qv : Value) (l : List Ent) (e : Evt) (qs : List Quo) (w : World) (hv : a5d w v l) (hq : a3f w qv qs) (hok : ∀ q ∈ qs, q.ok) (hqs : ∀ q ∈ qs, q.num.length <= 100 /\ q.den.length <= 100) (hid : e.p.id.length <= 9223372036854775807 /\ e.p.code.length <= 9223372036854775807) (hsz : (e.p.aa.length <= 100 /\ e.p.ab.length <= 100) /\ e.p.ra.length <= 100 /\ e.p.rb.length <= 100) :
  Calls Tryz.prog 24 #[.agg #[.int .i64 cut, .int .i64 bar, .int .i64 day, v], .agg (evC e.kind e.day e.id e.am e.cre e.p), qv] w fun r w' => r = .returned (.tuple #[.agg (filR l cut bar e qs).1.enc.toArray, .int .i64 (filR l cut bar e qs).2]) /\ Below w.heap.size w w' := by
 unfold evC
 have hV := fun W (hb : Below w.heap.size w W) => c7m e.p cut qv qs W hid hsz (hq.below hb) hok hqs
 have hF := fun W (hb : Below w.heap.size w W) => a9f cut bar day v l e.p.id W (hv.below hb)
 have hd : a6m l cut e qs = if (a0u e.p cut qs).2 ≠ 0 then (a0u e.p cut qs).2 else if (a3k l e.p.id).isSome = true then 12 else if 64 <= l.length then 2 else 0 := rfl
 have b1 : ∀ n : Int, a6m l cut e qs = n -> n ≠ 0 -> filR l cut bar e qs = (entZ, n) := fun n h hn => c0t h hn
 have b2 : a6m l cut e qs = 0 -> filR l cut bar e qs = (newE e.p e.day bar (a0u e.p cut qs).1, 0) := fun h => c4w h
 obtain ⟨A, c, rfl, hll, hcc⟩ := hv.slice
 unfold rat raw at hV
 generalize a6m l cut e qs = fc at *
 generalize filR l cut bar e qs = ans at *
 generalize (a0u e.p cut qs).1 = q at *
 generalize (a0u e.p cut qs).2 = n at *
 generalize (a3k l e.p.id).isSome = fB at *
 generalize (((a3k l e.p.id).getD 0 : Nat) : Int) = fi at *
 have HVx := zh hV
 have HFx := zh hF
 have HDx := zh hd
 have B1x := zh b1
 have B2x := zh b2
 clear hv hq hok hqs hid hsz hV hF hd b1 b2 hll hcc
 by_cases h0 : n = 0
 have z1 : (n != 0) = false := by rw [h0]; rfl
 have H0 := zh h0
 clear h0
 cases fB
 by_cases h6 : 64 <= l.length
 have z2 : decide ((64 : Int) <= ((l.length : Nat) : Int)) = true := decide_eq_true (by omega)
 have R := zh (B1x.out _ (HDx.out.trans (by rw [if_neg (fun k => k H0.out), if_neg (by simp), if_pos h6])) (by decide))
 clear h6
 rotate_left
 have z2 : decide ((64 : Int) <= ((l.length : Nat) : Int)) = false := decide_eq_false (by omega)
 have R := zh (B2x.out (HDx.out.trans (by rw [if_neg (fun k => k H0.out), if_neg (by simp), if_neg h6])))
 clear h6
 rotate_left
 have R := zh (B1x.out _ (HDx.out.trans (by rw [if_neg (fun k => k H0.out), if_pos rfl])) (by decide))
 rotate_left
 have z1 : (n != 0) = true := by rw [bne_iff_ne]; exact h0
 have R := zh (B1x.out _ (HDx.out.trans (if_pos h0)) h0)
 clear h0
 rotate_left
 all_goals
   go_enter Tryz.func24, Tryz.ntmps24
   have HS := zh (St.start w)
   go_wp2_with fail
   have HS2 := aL (aL (aL HS #[.int .i64 cut, .int .i64 bar, .int .i64 day, .slice A l.length c] 32 w.heap.size) (evC e.kind e.day e.id e.am e.cre e.p) 44 (w.heap.size + 1)) entO 57 (w.heap.size + 1 + 1)
   refine cL (HVx.out _ HS2.out.below) HS2 fun w3 HS3 => ?_
   clear HS HS2
 ·obtain ⟨x1, x2, x3⟩ := HS3.out.k0 2 rfl rfl rfl rfl
  have x4 := cC HS3 2 3
  have x5 := cC (v := .string (bs e.p.id)) HS3 1 7
  have x6 := HS3.out.lt 2 rfl
  have x7 : ¬ w.heap.size = w3.heap.size := by omega
  have x8 : ¬ w3.heap.size = w.heap.size := by omega
  have x9 := HS3.out.lt 1 rfl
  have x10 : ¬ w.heap.size + 1 = w3.heap.size := by omega
  have x11 : ¬ w3.heap.size = w.heap.size + 1 := by omega
  go_wp2_with fail
  have HS4 := aL HS3 #[.bool (negB (q)), .string (bs (numB (q))), .string (bs (a0a (q)))] 40 w3.heap.size
  refine cL (HFx.out _ HS4.out.below) HS4 fun w5 HS5 => ?_
  clear HS3 HS4 x1 x2 x3 x4 x5 x6 x7 x8 x9 x10 x11
  have x12 := cC HS5 3 3
  go_wp2_with (refine a0e rfl _ _ _ rfl HS5.out 1 rfl (entO.toList) rfl rfl rfl a0n rfl ?_)
  intro w6 hS6
  have HS6 : Hid (St w [_, _, _, _] w6) := zh hS6
  clear hS6 HS5 x12
  go_wp2
  refine bodyPost_ret (a0t rfl _ _ _ rfl (HS6.out.blk 1 rfl) rfl) rfl ?_
  rw [R.out]
  exact ⟨rfl, HS6.out.below⟩
 ·obtain ⟨x1, x2, x3⟩ := HS3.out.k0 2 rfl rfl rfl rfl
  have x4 := cC HS3 2 3
  have x5 := cC (v := .string (bs e.p.id)) HS3 1 7
  have x6 := HS3.out.lt 2 rfl
  have x7 : ¬ w.heap.size = w3.heap.size := by omega
  have x8 : ¬ w3.heap.size = w.heap.size := by omega
  have x9 := HS3.out.lt 1 rfl
  have x10 : ¬ w.heap.size + 1 = w3.heap.size := by omega
  have x11 : ¬ w3.heap.size = w.heap.size + 1 := by omega
  go_wp2_with fail
  have HS4 := aL HS3 #[.bool (negB (q)), .string (bs (numB (q))), .string (bs (a0a (q)))] 40 w3.heap.size
  refine cL (HFx.out _ HS4.out.below) HS4 fun w5 HS5 => ?_
  clear HS3 HS4 x1 x2 x3 x4 x5 x6 x7 x8 x9 x10 x11
  have x12 := cC HS5 3 3
  have x13 := cC (v := .string (bs e.p.id)) HS5 2 7
  have x14 := cC (v := .int .i64 e.p.est) HS5 2 8
  have x15 := cC (v := .int .i64 e.p.cre) HS5 2 9
  have x16 := cC (v := .string (bs e.p.code)) HS5 2 10
  have x17 := cC (v := .bool e.p.an) HS5 2 11
  have x18 := cC (v := .string (bs e.p.aa)) HS5 2 12
  have x19 := cC (v := .string (bs e.p.ab)) HS5 2 13
  have x20 := cC (v := .int .i64 e.p.inc) HS5 2 14
  have x21 := cC (v := .int .i64 e.p.rank) HS5 2 15
  have x22 := cC (v := .bool e.p.rn) HS5 2 16
  have x23 := cC (v := .string (bs e.p.ra)) HS5 2 17
  have x24 := cC (v := .string (bs e.p.rb)) HS5 2 18
  have x25 := cC (v := .int .i64 e.p.rf) HS5 2 19
  have x26 := cC (v := .int .i64 e.p.sec) HS5 2 20
  have x27 := cC (v := .int .i64 e.day) HS5 2 1
  have x28 := cC HS5 3 1
  obtain ⟨x29, x30, x31⟩ := HS5.out.k0 0 rfl rfl rfl rfl
  go_wp2_with (refine a0e rfl _ _ _ rfl HS5.out 1 rfl (entM e.p 1 (decide (bar < e.day)) ⟨(negB (q)), (numB (q)), (a0a (q))⟩ ⟨false, [], []⟩ ⟨false, [], []⟩ ⟨(negB (q)), (numB (q)), (a0a (q))⟩ e.p.inc e.day) rfl rfl rfl a0n rfl ?_)
  intro w6 hS6
  have HS6 : Hid (St w [_, ⟨w.heap.size + 1 + 1, (entM e.p 1 (decide (bar < e.day)) ⟨(negB (q)), (numB (q)), (a0a (q))⟩ ⟨false, [], []⟩ ⟨false, [], []⟩ ⟨(negB (q)), (numB (q)), (a0a (q))⟩ e.p.inc e.day).toArray, 57⟩, _, _] w6) := zh hS6
  clear hS6 HS5 x12 x13 x14 x15 x16 x17 x18 x19 x20 x21 x22 x23 x24 x25 x26 x27 x28 x29 x30 x31
  go_wp2
  refine bodyPost_ret (a0t rfl _ _ _ rfl (HS6.out.blk 1 rfl) rfl) rfl ?_
  rw [R.out]
  exact ⟨rfl, HS6.out.below⟩
 ·obtain ⟨x1, x2, x3⟩ := HS3.out.k0 2 rfl rfl rfl rfl
  have x4 := cC HS3 2 3
  have x5 := cC (v := .string (bs e.p.id)) HS3 1 7
  have x6 := HS3.out.lt 2 rfl
  have x7 : ¬ w.heap.size = w3.heap.size := by omega
  have x8 : ¬ w3.heap.size = w.heap.size := by omega
  have x9 := HS3.out.lt 1 rfl
  have x10 : ¬ w.heap.size + 1 = w3.heap.size := by omega
  have x11 : ¬ w3.heap.size = w.heap.size + 1 := by omega
  go_wp2_with fail
  have HS4 := aL HS3 #[.bool (negB (q)), .string (bs (numB (q))), .string (bs (a0a (q)))] 40 w3.heap.size
  refine cL (HFx.out _ HS4.out.below) HS4 fun w5 HS5 => ?_
  clear HS3 HS4 x1 x2 x3 x4 x5 x6 x7 x8 x9 x10 x11
  go_wp2_with (refine a0e rfl _ _ _ rfl HS5.out 1 rfl (entO.toList) rfl rfl rfl a0n rfl ?_)
  intro w6 hS6
  have HS6 : Hid (St w [_, _, _, _] w6) := zh hS6
  clear hS6 HS5
  go_wp2
  refine bodyPost_ret (a0t rfl _ _ _ rfl (HS6.out.blk 1 rfl) rfl) rfl ?_
  rw [R.out]
  exact ⟨rfl, HS6.out.below⟩
 go_upto_region 3 with fail
 refine a3u (aL HS3 #[.bool (negB (q)), .string (bs (numB (q))), .string (bs (a0a (q)))] 40 w3.heap.size).out ?_
 intro wg4 hb
 have HS4 := zh hb
 clear hb HS3
 go_wp2_with (refine a0e rfl _ _ _ rfl HS4.out 1 rfl (entO.toList) rfl rfl rfl a0n rfl ?_)
 intro w5 hS5
 have HS5 : Hid (St w [_, _, _, _] w5) := zh hS5
 clear hS5 HS4
 go_wp2
 refine bodyPost_ret (a0t rfl _ _ _ rfl (HS5.out.blk 1 rfl) rfl) rfl ?_
 rw [R.out]
 exact ⟨rfl, HS5.out.below⟩
theorem b7m (cut bar day : Int) (v qv : Value) (l : List Ent) (e : Evt) (qs : List Quo) (w : World) (hv : a5d w v l) (hl : l.length <= 1000) (h0 : l = []) (hm : ∀ x ∈ l, (x.fl.a.length <= 1000000 /\ x.fl.b.length <= 1000000) /\ (x.ad.a.length <= 1000000 /\ x.ad.b.length <= 1000000) /\ (x.ce.a.length <= 1000000 /\ x.ce.b.length <= 1000000)) (_ham : e.am.a.length <= 1000000 /\ e.am.b.length <= 1000000) (hq : a3f w qv qs) (hok : ∀ q ∈ qs, q.ok) (hqs : ∀ q ∈ qs, q.num.length <= 100 /\ q.den.length <= 100) (hid : e.p.id.length <= 9223372036854775807 /\ e.p.code.length <= 9223372036854775807) (hsz : (e.p.aa.length <= 100 /\ e.p.ab.length <= 100) /\ e.p.ra.length <= 100 /\ e.p.rb.length <= 100) :
  Calls Tryz.prog 9 #[.agg #[.int .i64 cut, .int .i64 bar, .int .i64 day, v], .agg (evC e.kind e.day e.id e.am e.cre e.p), qv] w fun r w' => ∃ v', r = .returned (.tuple #[.agg #[.int .i64 (a0q ⟨cut, bar, day, l⟩ e qs).1.cut, .int .i64 (a0q ⟨cut, bar, day, l⟩ e qs).1.bar, .int .i64 (a0q ⟨cut, bar, day, l⟩ e qs).1.day, v'], .int .i64 (a0q ⟨cut, bar, day, l⟩ e qs).2]) /\ Grows w' w.heap.size 57 30 v' (a0q ⟨cut, bar, day, l⟩ e qs).1.es.length (flat Ent.enc (a0q ⟨cut, bar, day, l⟩ e qs).1.es) /\ Below w.heap.size w w' := by
 unfold evC
 obtain ⟨i0, hi0, hz0, hz1, hz2⟩ := info_parts a4g
 have HI := zh hi0
 clear hi0
 have hD := fun W => a3p e.day W
 have a1 := @b2k ⟨cut, bar, day, l⟩ e qs
 have a2 := @b2m ⟨cut, bar, day, l⟩ e qs
 have a3 := @b7b ⟨cut, bar, day, l⟩ e qs
 have a4 := @b7a ⟨cut, bar, day, l⟩ e qs
 have a5 := fun i x => @a9w ⟨cut, bar, day, l⟩ e qs i x
 generalize a0q ⟨cut, bar, day, l⟩ e qs = ans at *
 dsimp only at a1 a2 a3 a4 a5
 subst h0
 have hC := fun W (hb : Below w.heap.size w W) => a9g cut bar day v W (hv.below hb)
 have hF := fun W (hb : Below w.heap.size w W) => a9f cut bar day v ([] : List Ent) e.id W (hv.below hb)
 have hN := fun W (hb : Below w.heap.size w W) => b0b cut bar day v qv ([] : List Ent) e qs W (hv.below hb) (hq.below hb) hok hqs hid hsz
 obtain ⟨dB, hdB⟩ : ∃ y, y = dayB e.day := ⟨_, rfl⟩
 rw [<- hdB] at hD a1 a2 a3 a4 a5
 have HDx := zh hD
 have A1x := zh a1
 have A2x := zh a2
 have A3x := zh a3
 have A4x := zh a4
 have A5x := zh a5
 have HCx := zh hC
 have HFx := zh hF
 have HNx := zh hN
 clear hdB hv hl hm _ham hq hok hqs hid hsz hD a1 a2 a3 a4 a5 hC hF hN
 by_cases h1 : e.kind < 1
 have d1 : decide (e.kind < 1) = true := decide_eq_true h1
 have R := zh (A1x.out (.inl h1))
 clear h1
 rotate_left
 have d1 : decide (e.kind < 1) = false := decide_eq_false h1
 by_cases h2 : 9 < e.kind
 have d2 : decide (9 < e.kind) = true := decide_eq_true h2
 have R := zh (A1x.out (.inr (.inl h2)))
 clear h1 h2
 rotate_left
 have d2 : decide (9 < e.kind) = false := decide_eq_false h2
 cases dB
 have R := zh (A1x.out (.inr (.inr rfl)))
 clear h1 h2
 rotate_left
 have NR := zh (show ¬ (e.kind < 1 \/ 9 < e.kind \/ true = false) from (fun k => k.elim h1 (fun k => k.elim h2 (fun k => absurd k (by decide)))))
 have HKL := zh (show 1 <= e.kind /\ e.kind <= 9 by omega)
 clear h1 h2
 by_cases h3 : e.day < day
 have d3 : decide (e.day < day) = true := decide_eq_true h3
 have R := zh (A2x.out NR.out h3)
 clear h3
 rotate_left
 have d3 : decide (e.day < day) = false := decide_eq_false h3
 have H3 := zh h3
 clear h3
 by_cases h4 : e.kind = 1
 have d4 : (e.kind == 1) = true := by rw [h4]; rfl
 obtain ⟨b1, b2⟩ := A3x.out NR.out H3.out h4
 clear h4
 have hr1 := fun h => @c4w ([] : List Ent) cut bar e qs h
 have hr2 := fun n h k => @c0t ([] : List Ent) cut bar e qs n h k
 have hfl : a6m ([] : List Ent) cut e qs = 0 -> b8a ([] : List Ent) cut bar e qs = ([] : List Ent) ++ [newE e.p e.day bar (a0u e.p cut qs).1] := fun h => if_pos h
 have hN3 := HNx.out
 clear HNx
 generalize a6m ([] : List Ent) cut e qs = fc at *
 generalize (a0u e.p cut qs).1 = q at *
 by_cases h5 : fc = 0
 rw [hr1 h5] at hN3
 rw [hfl h5] at b2
 have HNx := zh hN3
 have R := zh (b2 h5)
 subst h5
 clear b1 b2 hr1 hr2 hfl hN3
 rotate_left
 rw [hr2 fc rfl h5] at hN3
 have HNx := zh hN3
 have R := zh (b1 h5)
 have z5 : (fc != 0) = true := by rw [bne_iff_ne]; exact h5
 clear b1 b2 h5 hr1 hr2 hfl hN3
 rotate_left
 have d4 : (e.kind == 1) = false := by rw [beq_eq_false_iff_ne]; exact h4
 have HK := zh (show 2 <= e.kind /\ e.kind <= 9 by have := HKL.out; omega)
 have H4 := zh h4
 clear h4
 have R := zh (A4x.out NR.out H3.out H4.out rfl)
 have HF2 := HFx.out
 rw [show a3k ([] : List Ent) e.id = none from rfl] at HF2
 clear HFx
 have HFx := zh HF2
 clear HF2
 rotate_left
 all_goals
   go_enter Tryz.func9, Tryz.ntmps9
   have HS := zh (St.start w)
 ·go_wp2
  have HS2 := aL (aL (aL HS #[.int .i64 cut, .int .i64 bar, .int .i64 day, v] 32 w.heap.size) (evC e.kind e.day e.id e.am e.cre e.p) 44 (w.heap.size + 1)) #[.int .i64 0, .int .i64 0, .int .i64 0, .slice none 0 0] 32 (w.heap.size + 1 + 1)
  refine bodyPost_ret (a0v rfl _ _ _ rfl (HS2.out.blk 0 rfl)) rfl ?_
  rw [R.out]
  exact ⟨.slice none 0 0, rfl, ⟨rfl, .inl ⟨rfl, rfl⟩⟩, HS2.out.below⟩
 ·go_wp2
  have HS2 := aL (aL (aL HS #[.int .i64 cut, .int .i64 bar, .int .i64 day, v] 32 w.heap.size) (evC e.kind e.day e.id e.am e.cre e.p) 44 (w.heap.size + 1)) #[.int .i64 0, .int .i64 0, .int .i64 0, .slice none 0 0] 32 (w.heap.size + 1 + 1)
  refine bodyPost_ret (a0v rfl _ _ _ rfl (HS2.out.blk 0 rfl)) rfl ?_
  rw [R.out]
  exact ⟨.slice none 0 0, rfl, ⟨rfl, .inl ⟨rfl, rfl⟩⟩, HS2.out.below⟩
 all_goals
   go_wp2_with fail
   refine (HDx.out _).mono ?_
   rintro e w' ⟨rfl, rfl⟩
 ·go_wp2
  have HS2 := aL (aL (aL HS #[.int .i64 cut, .int .i64 bar, .int .i64 day, v] 32 w.heap.size) (evC e.kind e.day e.id e.am e.cre e.p) 44 (w.heap.size + 1)) #[.int .i64 0, .int .i64 0, .int .i64 0, .slice none 0 0] 32 (w.heap.size + 1 + 1)
  refine bodyPost_ret (a0v rfl _ _ _ rfl (HS2.out.blk 0 rfl)) rfl ?_
  rw [R.out]
  exact ⟨.slice none 0 0, rfl, ⟨rfl, .inl ⟨rfl, rfl⟩⟩, HS2.out.below⟩
 ·go_wp2
  have HS2 := aL (aL (aL HS #[.int .i64 cut, .int .i64 bar, .int .i64 day, v] 32 w.heap.size) (evC e.kind e.day e.id e.am e.cre e.p) 44 (w.heap.size + 1)) #[.int .i64 0, .int .i64 0, .int .i64 0, .slice none 0 0] 32 (w.heap.size + 1 + 1)
  refine bodyPost_ret (a0v rfl _ _ _ rfl (HS2.out.blk 0 rfl)) rfl ?_
  rw [R.out]
  exact ⟨.slice none 0 0, rfl, ⟨rfl, .inl ⟨rfl, rfl⟩⟩, HS2.out.below⟩
 all_goals
   go_wp2_with fail
   have HS2 := aL (aL (aL HS #[.int .i64 cut, .int .i64 bar, .int .i64 day, v] 32 w.heap.size) (evC e.kind e.day e.id e.am e.cre e.p) 44 (w.heap.size + 1)) #[.int .i64 0, .int .i64 0, .int .i64 0, .slice none 0 0] 32 (w.heap.size + 1 + 1)
   refine cL (HCx.out _ HS2.out.below) HS2 fun w3 HS3 => ?_
   clear HS HS2
   have x1 := cC (v := .int .i64 e.day) HS3 1 1
   have x2 := cC (v := .int .i64 e.kind) HS3 1 0
 ·have x3 := HS3.out.lt 1 rfl
  have x4 : ¬ w.heap.size + 1 = w3.heap.size := by omega
  have x5 : ¬ w3.heap.size = w.heap.size + 1 := by omega
  go_upto_region 8 with fail
  clear x1 x2 x3 x4 x5
  refine a3u (aL HS3 #[.int .i64 cut, .int .i64 bar, .int .i64 e.day, .slice none 0 0] 32 w3.heap.size).out ?_
  intro wg4 hb
  have HS4 := zh hb
  clear hb HS3
  obtain ⟨x6, x7, x8⟩ := HS4.out.k0 3 rfl rfl rfl rfl
  have x9 := cC HS4 3 3
  go_wp2_with (refine wpList_load_mid rfl _ _ rfl (w.heap.size + 1) (0) rfl (evC e.kind e.day e.id e.am e.cre e.p).toList _ (St.whole HS4.out 2 rfl) Tryz.underlying44 rfl a3m ?_)
  refine cL (HNx.out _ HS4.out.below) HS4 fun w5 HS5 => ?_
  clear HS4 x6 x7 x8 x9
  go_wp2_with (refine a0e rfl _ _ _ rfl (St.alloc (HS5.out) entO 57 (w5.heap.size) (by simp)) 0 rfl (entM e.p 1 (decide (bar < e.day)) ⟨(negB (q)), (numB (q)), (a0a (q))⟩ ⟨false, [], []⟩ ⟨false, [], []⟩ ⟨(negB (q)), (numB (q)), (a0a (q))⟩ e.p.inc e.day) rfl rfl rfl a0n rfl ?_)
  intro w6 hS6
  have HS6 : Hid (St w [⟨w5.heap.size, (entM e.p 1 (decide (bar < e.day)) ⟨(negB (q)), (numB (q)), (a0a (q))⟩ ⟨false, [], []⟩ ⟨false, [], []⟩ ⟨(negB (q)), (numB (q)), (a0a (q))⟩ e.p.inc e.day).toArray, 57⟩, _, _, _, _] w6) := zh hS6
  clear hS6 HS5
  have x10 := cC HS6 1 3
  have x11 := HS6.out.lt 1 rfl
  have x12 : ¬ w3.heap.size = w6.heap.size := by omega
  have x13 : ¬ w6.heap.size = w3.heap.size := by omega
  go_wp2_with (first | (refine wpList_load_mid rfl _ _ rfl (w5.heap.size) (0) rfl (entM e.p 1 (decide (bar < e.day)) ⟨(negB (q)), (numB (q)), (a0a (q))⟩ ⟨false, [], []⟩ ⟨false, [], []⟩ ⟨(negB (q)), (numB (q)), (a0a (q))⟩ e.p.inc e.day) _ (St.whole HS6.out 0 rfl) Tryz.underlying57 rfl a0n ?_) | (at_builtin; refine b2n _ rfl _ _ 30 rfl 57 i0 _ 30 352 Tryz.underlying30 HI.out hz0 hz1 hz2 a1g rfl none (by simp [Act.eval]) _ [newE e.p e.day bar q] (Slc.of_blk a1g ((St.alloc (HS6.out) (entM e.p 1 (decide (bar < e.day)) ⟨(negB (q)), (numB (q)), (a0a (q))⟩ ⟨false, [], []⟩ ⟨false, [], []⟩ ⟨(negB (q)), (numB (q)), (a0a (q))⟩ e.p.inc e.day).toArray 57 (w6.heap.size) (by simp)).blk 0 rfl) rfl rfl (Nat.le_refl _) (by simp)) (by simp [Act.eval]) (by simp) (fun y _ => a9p y) (by simp [maxLen]) (by simp) ?_))
  intro cap rs w20 hc1 hc2 hc3 hBk hb2
  have hst := St.sub (St.call ((St.alloc (HS6.out) (entM e.p 1 (decide (bar < e.day)) ⟨(negB (q)), (numB (q)), (a0a (q))⟩ ⟨false, [], []⟩ ⟨false, [], []⟩ ⟨(negB (q)), (numB (q)), (a0a (q))⟩ e.p.inc e.day).toArray 57 (w6.heap.size) (by simp))) (show Below (World.heap _).size _ w20 from (by simpa using hb2))) (List.Sublist.cons _ (List.Sublist.cons _ (List.Sublist.refl _)))
  have HSA : Hid (St w [⟨w3.heap.size, #[.int .i64 cut, .int .i64 bar, .int .i64 e.day, .slice none 0 0], 32⟩, ⟨w.heap.size + 1 + 1, #[.int .i64 0, .int .i64 0, .int .i64 0, .slice none 0 0], 32⟩, ⟨w.heap.size + 1, e.enc.toArray, 44⟩, ⟨w.heap.size, #[.int .i64 cut, .int .i64 bar, .int .i64 day, v], 32⟩] w20) := zh hst
  have HC1 := zh hc1
  have HC2 := zh hc2
  have HC3 := zh hc3
  have hge := (St.alloc (HS6.out) (entM e.p 1 (decide (bar < e.day)) ⟨(negB (q)), (numB (q)), (a0a (q))⟩ ⟨false, [], []⟩ ⟨false, [], []⟩ ⟨(negB (q)), (numB (q)), (a0a (q))⟩ e.p.inc e.day).toArray 57 (w6.heap.size) (by simp)).below.size
  skip
  obtain ⟨gr, hgr, hge2, hBk2⟩ : ∃ g, g = w6.heap.size + 1 /\ w.heap.size <= g /\ Blk w20 g (rowG Ent.enc [newE e.p e.day bar q] rs) 57 := ⟨_, rfl, by have := hge; rw [size_alloc] at this; exact this, hBk⟩
  rw [<- hgr]
  have HSB := zh (St.addT HSA.out (a3c (show (32 : TypeId) ≠ 57 by decide) (a3c (show (32 : TypeId) ≠ 57 by decide) (a3c (show (44 : TypeId) ≠ 57 by decide) (a3c (show (32 : TypeId) ≠ 57 by decide) (fun r hr => absurd hr (by simp)))))) hBk2 hge2)
  clear hst hc1 hc2 hc3 hBk hb2 hge hgr hge2 hBk2 HSA HS6
  have x14 := cC HSB 1 3
  obtain ⟨x15, x16, x17⟩ := HSB.out.k0 1 rfl rfl rfl rfl
  obtain ⟨x18, x19, x20⟩ := HSB.out.k0 2 rfl rfl rfl rfl
  have x21 := cC HSB 2 3
  have x22 := cF HSB 1 3
  obtain ⟨x23, x24, x25⟩ := HSB.out.f0 2 rfl
  have x26 := cF HSB 2 3
  have x27 := cN HSB 1 0
  have x28 := cN HSB 0 1
  have x29 := cN HSB 1 2
  have x30 := cN HSB 2 1
  have x31 := cN HSB 1 3
  have x32 := cN HSB 3 1
  have x33 := cN HSB 1 4
  have x34 := cN HSB 4 1
  have x35 := cN HSB 2 0
  have x36 := cN HSB 0 2
  have x37 := cN HSB 2 1
  have x38 := cN HSB 1 2
  have x39 := cN HSB 2 3
  have x40 := cN HSB 3 2
  have x41 := cN HSB 2 4
  have x42 := cN HSB 4 2
  go_wp2
  have HP8 : Hid (St w [_, ⟨w3.heap.size, #[.int .i64 cut, .int .i64 bar, .int .i64 e.day, .slice (some ⟨gr, 0, none⟩) [newE e.p e.day bar q].length cap], 32⟩, ⟨w.heap.size + 1 + 1, #[.int .i64 cut, .int .i64 bar, .int .i64 0, .slice none 0 0], 32⟩, _, _] _) := zh (St.set (St.set (St.set (HSB.out) 1 rfl 3 _) 2 rfl 0 _) 2 rfl 1 _)
  have HSB7 : Hid (St w [_, _, ⟨w.heap.size + 1 + 1, #[.int .i64 cut, .int .i64 bar, .int .i64 e.day, .slice (some ⟨gr, 0, none⟩) [newE e.p e.day bar q].length cap], 32⟩, _, _] _) := zh (St.set (St.set (HP8.out) 2 rfl 2 _) 2 rfl 3 _)
  refine bodyPost_ret (a0v rfl _ _ _ rfl (HSB7.out.blk 2 rfl)) rfl ?_
  rw [R.out]
  exact ⟨_, rfl, a5f a1g (HSB7.out.blk 0 rfl) (HSB7.out.ge 0 rfl) HC1.out HC2.out HC3.out, HSB7.out.below⟩
 ·have x3 := HS3.out.lt 1 rfl
  have x4 : ¬ w.heap.size + 1 = w3.heap.size := by omega
  have x5 : ¬ w3.heap.size = w.heap.size + 1 := by omega
  go_upto_region 8 with fail
  clear x1 x2 x3 x4 x5
  refine a3u (aL HS3 #[.int .i64 cut, .int .i64 bar, .int .i64 e.day, .slice none 0 0] 32 w3.heap.size).out ?_
  intro wg4 hb
  have HS4 := zh hb
  clear hb HS3
  obtain ⟨x6, x7, x8⟩ := HS4.out.k0 3 rfl rfl rfl rfl
  have x9 := cC HS4 3 3
  go_wp2_with (refine wpList_load_mid rfl _ _ rfl (w.heap.size + 1) (0) rfl (evC e.kind e.day e.id e.am e.cre e.p).toList _ (St.whole HS4.out 2 rfl) Tryz.underlying44 rfl a3m ?_)
  refine cL (HNx.out _ HS4.out.below) HS4 fun w5 HS5 => ?_
  clear HS4 x6 x7 x8 x9
  go_wp2_with (refine a0e rfl _ _ _ rfl (St.alloc (HS5.out) entO 57 (w5.heap.size) (by simp)) 0 rfl (entO.toList) rfl rfl rfl a0n rfl ?_)
  intro w6 hS6
  have HS6 : Hid (St w [_, _, _, _, _] w6) := zh hS6
  clear hS6 HS5
  obtain ⟨x10, x11, x12⟩ := HS6.out.k0 2 rfl rfl rfl rfl
  have x13 := cC HS6 2 3
  obtain ⟨x14, x15, x16⟩ := HS6.out.f0 2 rfl
  have x17 := cF HS6 2 3
  have x18 := cN HS6 2 0
  have x19 := cN HS6 0 2
  have x20 := cN HS6 2 1
  have x21 := cN HS6 1 2
  have x22 := cN HS6 2 3
  have x23 := cN HS6 3 2
  have x24 := cN HS6 2 4
  have x25 := cN HS6 4 2
  go_wp2
  have HS7 : Hid (St w [_, _, ⟨w.heap.size + 1 + 1, #[.int .i64 0, .int .i64 0, .int .i64 0, .slice none 0 0], 32⟩, _, _] _) := zh (St.set (St.set (St.set (St.set (HS6.out) 2 rfl 0 _) 2 rfl 1 _) 2 rfl 2 _) 2 rfl 3 _)
  refine bodyPost_ret (a0v rfl _ _ _ rfl (HS7.out.blk 2 rfl)) rfl ?_
  rw [R.out]
  exact ⟨.slice none 0 0, rfl, ⟨rfl, .inl ⟨rfl, rfl⟩⟩, HS7.out.below⟩
 obtain ⟨x3, x4, x5⟩ := HS3.out.k0 2 rfl rfl rfl rfl
 have x6 := cC HS3 2 3
 have x7 := cC (v := .string (bs e.id)) HS3 1 2
 have x8 := HS3.out.lt 1 rfl
 have x9 : ¬ w.heap.size + 1 = w3.heap.size := by omega
 have x10 : ¬ w3.heap.size = w.heap.size + 1 := by omega
 have x11 := HS3.out.lt 2 rfl
 have x12 : ¬ w.heap.size = w3.heap.size := by omega
 have x13 : ¬ w3.heap.size = w.heap.size := by omega
 go_wp2_with fail
 have HS4 := aL HS3 #[.int .i64 cut, .int .i64 bar, .int .i64 e.day, .slice none 0 0] 32 w3.heap.size
 refine cL (HFx.out _ HS4.out.below) HS4 fun w5 HS5 => ?_
 clear HS3 HS4 x1 x2 x3 x4 x5 x6 x7 x8 x9 x10 x11 x12 x13
 obtain ⟨x14, x15, x16⟩ := HS5.out.k0 1 rfl rfl rfl rfl
 have x17 := cC HS5 1 3
 obtain ⟨x18, x19, x20⟩ := HS5.out.f0 1 rfl
 have x21 := cF HS5 1 3
 have x22 := cN HS5 1 0
 have x23 := cN HS5 0 1
 have x24 := cN HS5 1 2
 have x25 := cN HS5 2 1
 have x26 := cN HS5 1 3
 have x27 := cN HS5 3 1
 go_wp2
 have HS6 : Hid (St w [_, ⟨w.heap.size + 1 + 1, #[.int .i64 0, .int .i64 0, .int .i64 0, .slice none 0 0], 32⟩, _, _] _) := zh (St.set (St.set (St.set (St.set (HS5.out) 1 rfl 0 _) 1 rfl 1 _) 1 rfl 2 _) 1 rfl 3 _)
 refine bodyPost_ret (a0v rfl _ _ _ rfl (HS6.out.blk 1 rfl)) rfl ?_
 rw [R.out]
 exact ⟨.slice none 0 0, rfl, ⟨rfl, .inl ⟨rfl, rfl⟩⟩, HS6.out.below⟩
end Go.Proofs.YtoighiepglclkaaGreatDoor
