/-
Part 45 of the base.
-/
import Derived.Test.YtoighiepglclkaaGreatDoorKf43
import Derived.Test.YtoighiepglclkaaGreatDoorKf44
set_option maxRecDepth 100000
set_option maxHeartbeats 20000000
namespace Go.Proofs.YtoighiepglclkaaGreatDoor
open Go.RowKit
theorem a3x (cut bar day : Int) (v qv : Value) (l : List Ent) (e : Evt) (qs : List Quo) (w : World) (hv : a5d w v l) (hl : l.length <= 1000) (h0 : 0 < l.length) (hm : ∀ x ∈ l, (x.fl.a.length <= 1000000 /\ x.fl.b.length <= 1000000) /\ (x.ad.a.length <= 1000000 /\ x.ad.b.length <= 1000000) /\ (x.ce.a.length <= 1000000 /\ x.ce.b.length <= 1000000)) (ham : e.am.a.length <= 1000000 /\ e.am.b.length <= 1000000) (hq : a3f w qv qs) (hok : ∀ q ∈ qs, q.ok) (hqs : ∀ q ∈ qs, q.num.length <= 100 /\ q.den.length <= 100) (hid : e.p.id.length <= 9223372036854775807 /\ e.p.code.length <= 9223372036854775807) (hsz : (e.p.aa.length <= 100 /\ e.p.ab.length <= 100) /\ e.p.ra.length <= 100 /\ e.p.rb.length <= 100) (hrest : (e.kind < 1 \/ 9 < e.kind \/ dayB e.day = false) \/ e.day < day \/ e.kind ≠ 1 /\ a3k l e.id = none) :
  Calls Tryz.prog 9 #[.agg #[.int .i64 cut, .int .i64 bar, .int .i64 day, v], .agg (evC e.kind e.day e.id e.am e.cre e.p), qv] w fun r w' => ∃ v', r = .returned (.tuple #[.agg #[.int .i64 (a0q ⟨cut, bar, day, l⟩ e qs).1.cut, .int .i64 (a0q ⟨cut, bar, day, l⟩ e qs).1.bar, .int .i64 (a0q ⟨cut, bar, day, l⟩ e qs).1.day, v'], .int .i64 (a0q ⟨cut, bar, day, l⟩ e qs).2]) /\ Grows w' w.heap.size 57 30 v' (a0q ⟨cut, bar, day, l⟩ e qs).1.es.length (flat Ent.enc (a0q ⟨cut, bar, day, l⟩ e qs).1.es) /\ Below w.heap.size w w' := by
 unfold evC
 obtain ⟨i0, hi0, hz0, hz1, hz2⟩ := info_parts a4g
 have HI := zh hi0
 clear hi0
 have hD := fun W => a3p e.day W
 have a1 := @b2k ⟨cut, bar, day, l⟩ e qs
 have a2 := @b2m ⟨cut, bar, day, l⟩ e qs
 have a3 := @b7b ⟨cut, bar, day, l⟩ e qs
 have a4 := @b7a ⟨cut, bar, day, l⟩ e qs
 have a5 := fun i x => @a9w ⟨cut, bar, day, l⟩ e qs i x
 generalize a0q ⟨cut, bar, day, l⟩ e qs = ans at *
 dsimp only at a1 a2 a3 a4 a5
 have hC := fun W (hb : Below w.heap.size w W) => a8g cut bar day v l W (hv.below hb) hl h0
 have hF := fun W (hb : Below w.heap.size w W) => a9f cut bar day v l e.id W (hv.below hb)
 have hN := fun W (hb : Below w.heap.size w W) => b0b cut bar day v qv l e qs W (hv.below hb) (hq.below hb) hok hqs hid hsz
 have hX := fun (i : Nat) (x : Ent) (hx : l[i]? = some x) (W : World) hk => a9e x e W ham (hm x (List.mem_of_getElem? hx)).2.2 (hm x (List.mem_of_getElem? hx)).1 (hm x (List.mem_of_getElem? hx)).2.1 hk
 have HL := zh hl
 have H0 := zh h0
 have H := zh hv
 obtain ⟨A, c, rfl, hll, hcc⟩ := hv.slice
 obtain ⟨dB, hdB⟩ : ∃ y, y = dayB e.day := ⟨_, rfl⟩
 rw [<- hdB] at hD a1 a2 a3 a4 a5 hrest
 have HREST := zh hrest
 clear hrest
 have HDx := zh hD
 have A1x := zh a1
 have A2x := zh a2
 have A3x := zh a3
 have A4x := zh a4
 have A5x := zh a5
 have HCx := zh hC
 have HFx := zh hF
 have HNx := zh hN
 have HXx := zh hX
 clear hdB hv hl hm ham hq hok hqs hid hsz h0 hll hcc hD a1 a2 a3 a4 a5 hC hF hN hX
 by_cases h1 : e.kind < 1
 have d1 : decide (e.kind < 1) = true := decide_eq_true h1
 have R := zh (A1x.out (.inl h1))
 clear h1
 rotate_left
 have d1 : decide (e.kind < 1) = false := decide_eq_false h1
 by_cases h2 : 9 < e.kind
 have d2 : decide (9 < e.kind) = true := decide_eq_true h2
 have R := zh (A1x.out (.inr (.inl h2)))
 clear h1 h2
 rotate_left
 have d2 : decide (9 < e.kind) = false := decide_eq_false h2
 cases dB
 have R := zh (A1x.out (.inr (.inr rfl)))
 clear h1 h2
 rotate_left
 have NR := zh (show ¬ (e.kind < 1 \/ 9 < e.kind \/ true = false) from (fun k => k.elim h1 (fun k => k.elim h2 (fun k => absurd k (by decide)))))
 have HKL := zh (show 1 <= e.kind /\ e.kind <= 9 by omega)
 clear h1 h2
 by_cases h3 : e.day < day
 have d3 : decide (e.day < day) = true := decide_eq_true h3
 have R := zh (A2x.out NR.out h3)
 clear h3
 rotate_left
 have d3 : decide (e.day < day) = false := decide_eq_false h3
 have H3 := zh h3
 clear h3
 have hre := (HREST.out.resolve_left NR.out).resolve_left H3.out
 obtain ⟨h4, hfo⟩ := hre
 clear HREST
 have d4 : (e.kind == 1) = false := by rw [beq_eq_false_iff_ne]; exact h4
 have HK := zh (show 2 <= e.kind /\ e.kind <= 9 by have := HKL.out; omega)
 have H4 := zh h4
 clear h4
 have R := zh (A4x.out NR.out H3.out H4.out hfo)
 have HF2 := HFx.out
 rw [hfo] at HF2
 clear HFx hfo
 have HFx := zh HF2
 clear HF2
 rotate_left
 all_goals
   go_enter Tryz.func9, Tryz.ntmps9
   have HS := zh (St.start w)
 ·go_wp2
  have HS2 := aL (aL (aL HS #[.int .i64 cut, .int .i64 bar, .int .i64 day, .slice A l.length c] 32 w.heap.size) (evC e.kind e.day e.id e.am e.cre e.p) 44 (w.heap.size + 1)) #[.int .i64 0, .int .i64 0, .int .i64 0, .slice none 0 0] 32 (w.heap.size + 1 + 1)
  refine bodyPost_ret (a0v rfl _ _ _ rfl (HS2.out.blk 0 rfl)) rfl ?_
  rw [R.out]
  exact ⟨.slice none 0 0, rfl, ⟨rfl, .inl ⟨rfl, rfl⟩⟩, HS2.out.below⟩
 ·go_wp2
  have HS2 := aL (aL (aL HS #[.int .i64 cut, .int .i64 bar, .int .i64 day, .slice A l.length c] 32 w.heap.size) (evC e.kind e.day e.id e.am e.cre e.p) 44 (w.heap.size + 1)) #[.int .i64 0, .int .i64 0, .int .i64 0, .slice none 0 0] 32 (w.heap.size + 1 + 1)
  refine bodyPost_ret (a0v rfl _ _ _ rfl (HS2.out.blk 0 rfl)) rfl ?_
  rw [R.out]
  exact ⟨.slice none 0 0, rfl, ⟨rfl, .inl ⟨rfl, rfl⟩⟩, HS2.out.below⟩
 all_goals
   go_wp2_with fail
   refine (HDx.out _).mono ?_
   rintro e w' ⟨rfl, rfl⟩
 ·go_wp2
  have HS2 := aL (aL (aL HS #[.int .i64 cut, .int .i64 bar, .int .i64 day, .slice A l.length c] 32 w.heap.size) (evC e.kind e.day e.id e.am e.cre e.p) 44 (w.heap.size + 1)) #[.int .i64 0, .int .i64 0, .int .i64 0, .slice none 0 0] 32 (w.heap.size + 1 + 1)
  refine bodyPost_ret (a0v rfl _ _ _ rfl (HS2.out.blk 0 rfl)) rfl ?_
  rw [R.out]
  exact ⟨.slice none 0 0, rfl, ⟨rfl, .inl ⟨rfl, rfl⟩⟩, HS2.out.below⟩
 ·go_wp2
  have HS2 := aL (aL (aL HS #[.int .i64 cut, .int .i64 bar, .int .i64 day, .slice A l.length c] 32 w.heap.size) (evC e.kind e.day e.id e.am e.cre e.p) 44 (w.heap.size + 1)) #[.int .i64 0, .int .i64 0, .int .i64 0, .slice none 0 0] 32 (w.heap.size + 1 + 1)
  refine bodyPost_ret (a0v rfl _ _ _ rfl (HS2.out.blk 0 rfl)) rfl ?_
  rw [R.out]
  exact ⟨.slice none 0 0, rfl, ⟨rfl, .inl ⟨rfl, rfl⟩⟩, HS2.out.below⟩
 go_wp2_with fail
 have HS2 := aL (aL (aL HS #[.int .i64 cut, .int .i64 bar, .int .i64 day, .slice A l.length c] 32 w.heap.size) (evC e.kind e.day e.id e.am e.cre e.p) 44 (w.heap.size + 1)) #[.int .i64 0, .int .i64 0, .int .i64 0, .slice none 0 0] 32 (w.heap.size + 1 + 1)
 refine (HCx.out _ HS2.out.below).mono ?_
 rintro e w3 ⟨gr, cap, rs, rfl, hgr3, hBk3, hcn3, hcm3, hrr3, hb3⟩
 have hst3 := St.fill HS2.out hb3 hgr3 hBk3
 have HCN := zh hcn3
 have HCM := zh hcm3
 have HRR := zh hrr3
 clear hb3 hgr3 hBk3 hcn3 hcm3 hrr3
 have HS3 : Hid (St w [⟨gr, rowG Ent.enc l rs, 57⟩, ⟨w.heap.size + 1 + 1, #[.int .i64 0, .int .i64 0, .int .i64 0, .slice none 0 0], 32⟩, ⟨w.heap.size + 1, e.enc.toArray, 44⟩, ⟨w.heap.size, #[.int .i64 cut, .int .i64 bar, .int .i64 day, .slice A l.length c], 32⟩] w3) := zh hst3
 clear hst3 HS HS2
 have x1 := cC (v := .int .i64 e.day) HS3 2 1
 have x2 := cC (v := .int .i64 e.kind) HS3 2 0
 obtain ⟨x3, x4, x5⟩ := HS3.out.k0 3 rfl rfl rfl rfl
 have x6 := cC HS3 3 3
 have x7 := cC (v := .string (bs e.id)) HS3 2 2
 have x8 := HS3.out.lt 2 rfl
 have x9 : ¬ w.heap.size + 1 = w3.heap.size := by omega
 have x10 : ¬ w3.heap.size = w.heap.size + 1 := by omega
 have x11 := HS3.out.lt 3 rfl
 have x12 : ¬ w.heap.size = w3.heap.size := by omega
 have x13 : ¬ w3.heap.size = w.heap.size := by omega
 go_wp2_with fail
 have HS4 := aL HS3 #[.int .i64 cut, .int .i64 bar, .int .i64 e.day, .slice (some ⟨gr, 0, none⟩) l.length cap] 32 w3.heap.size
 refine cL (HFx.out _ HS4.out.below) HS4 fun w5 HS5 => ?_
 clear HS3 HS4 x1 x2 x3 x4 x5 x6 x7 x8 x9 x10 x11 x12 x13
 obtain ⟨x14, x15, x16⟩ := HS5.out.k0 2 rfl rfl rfl rfl
 have x17 := cC HS5 2 3
 obtain ⟨x18, x19, x20⟩ := HS5.out.f0 2 rfl
 have x21 := cF HS5 2 3
 have x22 := cN HS5 2 0
 have x23 := cN HS5 0 2
 have x24 := cN HS5 2 1
 have x25 := cN HS5 1 2
 have x26 := cN HS5 2 3
 have x27 := cN HS5 3 2
 have x28 := cN HS5 2 4
 have x29 := cN HS5 4 2
 go_wp2
 have HS6 : Hid (St w [_, _, ⟨w.heap.size + 1 + 1, #[.int .i64 0, .int .i64 0, .int .i64 0, .slice none 0 0], 32⟩, _, _] _) := zh (St.set (St.set (St.set (St.set (HS5.out) 2 rfl 0 _) 2 rfl 1 _) 2 rfl 2 _) 2 rfl 3 _)
 refine bodyPost_ret (a0v rfl _ _ _ rfl (HS6.out.blk 2 rfl)) rfl ?_
 rw [R.out]
 exact ⟨.slice none 0 0, rfl, ⟨rfl, .inl ⟨rfl, rfl⟩⟩, HS6.out.below⟩
theorem b5y (cut bar day : Int) (v qv : Value) (l : List Ent) (e : Evt) (qs : List Quo) (w : World) (hv : a5d w v l) (hl : l.length <= 1000) (h0 : 0 < l.length) (hm : ∀ x ∈ l, (x.fl.a.length <= 1000000 /\ x.fl.b.length <= 1000000) /\ (x.ad.a.length <= 1000000 /\ x.ad.b.length <= 1000000) /\ (x.ce.a.length <= 1000000 /\ x.ce.b.length <= 1000000)) (ham : e.am.a.length <= 1000000 /\ e.am.b.length <= 1000000) (hq : a3f w qv qs) (hok : ∀ q ∈ qs, q.ok) (hqs : ∀ q ∈ qs, q.num.length <= 100 /\ q.den.length <= 100) (hid : e.p.id.length <= 9223372036854775807 /\ e.p.code.length <= 9223372036854775807) (hsz : (e.p.aa.length <= 100 /\ e.p.ab.length <= 100) /\ e.p.ra.length <= 100 /\ e.p.rb.length <= 100) :
  Calls Tryz.prog 9 #[.agg #[.int .i64 cut, .int .i64 bar, .int .i64 day, v], .agg (evC e.kind e.day e.id e.am e.cre e.p), qv] w fun r w' => ∃ v', r = .returned (.tuple #[.agg #[.int .i64 (a0q ⟨cut, bar, day, l⟩ e qs).1.cut, .int .i64 (a0q ⟨cut, bar, day, l⟩ e qs).1.bar, .int .i64 (a0q ⟨cut, bar, day, l⟩ e qs).1.day, v'], .int .i64 (a0q ⟨cut, bar, day, l⟩ e qs).2]) /\ Grows w' w.heap.size 57 30 v' (a0q ⟨cut, bar, day, l⟩ e qs).1.es.length (flat Ent.enc (a0q ⟨cut, bar, day, l⟩ e qs).1.es) /\ Below w.heap.size w w' := by
 unfold evC
 by_cases h1 : e.kind < 1
 ·exact a3x cut bar day v qv l e qs w hv hl h0 hm ham hq hok hqs hid hsz (.inl (.inl h1))
 by_cases h2 : 9 < e.kind
 ·exact a3x cut bar day v qv l e qs w hv hl h0 hm ham hq hok hqs hid hsz (.inl (.inr (.inl h2)))
 cases hdb : dayB e.day
 ·exact a3x cut bar day v qv l e qs w hv hl h0 hm ham hq hok hqs hid hsz (.inl (.inr (.inr hdb)))
 by_cases h3 : e.day < day
 ·exact a3x cut bar day v qv l e qs w hv hl h0 hm ham hq hok hqs hid hsz (.inr (.inl h3))
 by_cases h4 : e.kind = 1
 ·exact b5z cut bar day v qv l e qs w hv hl h0 hm ham hq hok hqs hid hsz h1 h2 hdb h3 h4
 cases hfo : a3k l e.id with
 | none => exact a3x cut bar day v qv l e qs w hv hl h0 hm ham hq hok hqs hid hsz (.inr (.inr ⟨h4, hfo⟩))
 | some i =>
  obtain ⟨x, hx, _⟩ := c6q hfo
  exact b7n cut bar day v qv l e qs w hv hl h0 hm ham hq hok hqs hid hsz h1 h2 hdb h3 h4 i x hfo hx
theorem c7n (cut bar day : Int) (v qv : Value) (l : List Ent) (e : Evt) (qs : List Quo) (w : World) (hv : a5d w v l) (hl : l.length <= 1000) (hm : ∀ x ∈ l, (x.fl.a.length <= 1000000 /\ x.fl.b.length <= 1000000) /\ (x.ad.a.length <= 1000000 /\ x.ad.b.length <= 1000000) /\ (x.ce.a.length <= 1000000 /\ x.ce.b.length <= 1000000)) (ham : e.am.a.length <= 1000000 /\ e.am.b.length <= 1000000) (hq : a3f w qv qs) (hok : ∀ q ∈ qs, q.ok) (hqs : ∀ q ∈ qs, q.num.length <= 100 /\ q.den.length <= 100) (hid : e.p.id.length <= 9223372036854775807 /\ e.p.code.length <= 9223372036854775807) (hsz : (e.p.aa.length <= 100 /\ e.p.ab.length <= 100) /\ e.p.ra.length <= 100 /\ e.p.rb.length <= 100) :
  Calls Tryz.prog 9 #[.agg #[.int .i64 cut, .int .i64 bar, .int .i64 day, v], .agg (evC e.kind e.day e.id e.am e.cre e.p), qv] w fun r w' => ∃ v', r = .returned (.tuple #[.agg #[.int .i64 (a0q ⟨cut, bar, day, l⟩ e qs).1.cut, .int .i64 (a0q ⟨cut, bar, day, l⟩ e qs).1.bar, .int .i64 (a0q ⟨cut, bar, day, l⟩ e qs).1.day, v'], .int .i64 (a0q ⟨cut, bar, day, l⟩ e qs).2]) /\ Grows w' w.heap.size 57 30 v' (a0q ⟨cut, bar, day, l⟩ e qs).1.es.length (flat Ent.enc (a0q ⟨cut, bar, day, l⟩ e qs).1.es) /\ Below w.heap.size w w' := by
 unfold evC
 by_cases h0 : 0 < l.length
 ·exact b5y cut bar day v qv l e qs w hv hl h0 hm ham hq hok hqs hid hsz
 exact b7m cut bar day v qv l e qs w hv hl (List.length_eq_zero_iff.1 (by omega)) hm ham hq hok hqs hid hsz
end Go.Proofs.YtoighiepglclkaaGreatDoor
