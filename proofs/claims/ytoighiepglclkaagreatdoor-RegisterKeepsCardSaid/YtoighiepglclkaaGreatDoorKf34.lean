/-
Part 34 of the base.
-/
import Derived.Test.YtoighiepglclkaaGreatDoorKf33
set_option maxRecDepth 100000
set_option maxHeartbeats 4000000
namespace Go.Proofs.YtoighiepglclkaaGreatDoor
open Go.RowKit
section
variable {w0 w : World} {R : List Own}
theorem St.front (h : St w0 R w) (k : Nat) {r : Own} (hk : R[k]? = some r) : St w0 (r :: R.eraseIdx k) w := by
 refine ⟨h.below, fun s hs => ?_, List.pairwise_cons.2 ⟨fun s hs => ?_, h.apart.sublist (List.eraseIdx_sublist ..)⟩⟩
 ·rcases List.mem_cons.1 hs with rfl | hs
  ·exact h.ok _ (List.mem_of_getElem? hk)
  exact h.ok _ (List.mem_of_mem_eraseIdx hs)
 obtain ⟨i, hi, e⟩ := List.mem_eraseIdx_iff_getElem?.1 hs
 rcases Nat.lt_or_ge i k with hlt | hge
 ·exact Ne.symm (h.ne' i k e hk hlt)
 exact h.ne' k i hk e (by omega)
theorem St.addT (h : St w0 R w) {g : Nat} {cs : Array Value} {e : TypeId} (hT : ∀ r ∈ R, r.t ≠ e) (hB : Blk w g cs e) (hg : w0.heap.size <= g) : St w0 (⟨g, cs, e⟩ :: R) w := by
 refine ⟨h.below, fun r hr => ?_, List.pairwise_cons.2 ⟨fun r hr => ?_, h.apart⟩⟩
 ·rcases List.mem_cons.1 hr with rfl | hr
  ·exact ⟨hB, hg⟩
  exact h.ok r hr
 show g ≠ r.g
 intro e1
 have h2 := (h.ok r hr).1
 rw [<- e1] at h2
 have e2 := Option.some.inj (h2.symm.trans hB)
 injection e2 with _ e3
 exact hT r hr e3
end
theorem Grows.base {w : World} {B B' n k : Nat} {e : TypeId} {v : Value} {xs : List Value} (h : Grows w B e k v n xs) (hb : B' <= B) : Grows w B' e k v n xs := by
 refine ⟨h.1, ?_⟩
 rcases h.2 with ⟨rfl, h0⟩ | ⟨g, cap, cur, rfl, hbl, hrest⟩
 ·exact .inl ⟨rfl, h0⟩
 exact .inr ⟨g, cap, cur, rfl, Nat.le_trans hb hbl, hrest⟩
theorem Grows.setCell {w : World} {B n k g j : Nat} {e t : TypeId} {v : Value} {xs : List Value} {cs : Array Value} (h : Grows w B e k v n xs) (hB : Blk w g cs t) (u : Value) (ht : t ≠ e := by decide) : Grows (w.setCell ⟨g, j, none⟩ u) B e k v n xs := by
 refine ⟨h.1, ?_⟩
 rcases h.2 with ⟨rfl, h0⟩ | ⟨g', cap, cur, rfl, hbl, hg, hrest⟩
 ·exact .inl ⟨rfl, h0⟩
 refine .inr ⟨g', cap, cur, rfl, hbl, Blk.far hg (fun e1 => ?_) u, hrest⟩
 have e1 : g' = g := e1
 subst e1
 have e2 := Option.some.inj (hB.symm.trans hg)
 injection e2 with _ e3
 exact ht e3
theorem Bnd.set {B : Nat} {w : World} (h : Bnd B w) (p : Addr) (v : Value) : Bnd B (w.setCell p v) := by unfold Bnd at *; rw [size_set]; exact h
def ChgI (w0 : World) (R : List Own) (g : Nat) (cs cs' : Array Value) (n : Int) : Nat -> World -> Value -> Prop
 | 0, wv, _ => Hid (St w0 (⟨g, cs, 57⟩ :: R) wv)
 | _ + 1, wv, v => Hid (St w0 (⟨g, cs', 57⟩ :: R) wv) /\ v = .int .i64 n
theorem ChgI.st {w0 : World} {R : List Own} {g : Nat} {cs cs' : Array Value} {n : Int} {wv : World} {v : Value} : ∀ {k : Nat}, ChgI w0 R g cs cs' n k wv v -> Hid (St w0 R wv)
 | 0, h => zh (h.out.sub (List.Sublist.cons _ (List.Sublist.refl _)))
 | _ + 1, h => zh (h.1.out.sub (List.Sublist.cons _ (List.Sublist.refl _)))
theorem b2k {r : Rgs} {e : Evt} {qs : List Quo} (h : e.kind < 1 \/ 9 < e.kind \/ dayB e.day = false) : a0q r e qs = (rgs0, 1) := by unfold a0q; rw [if_pos h]
theorem b2m {r : Rgs} {e : Evt} {qs : List Quo} (h : ¬ (e.kind < 1 \/ 9 < e.kind \/ dayB e.day = false)) (h2 : e.day < r.day) : a0q r e qs = (rgs0, 15) := by unfold a0q; rw [if_neg h, if_pos h2]
theorem b7b {r : Rgs} {e : Evt} {qs : List Quo} (h : ¬ (e.kind < 1 \/ 9 < e.kind \/ dayB e.day = false)) (h2 : ¬ e.day < r.day) (h3 : e.kind = 1) :
  (a6m r.es r.cut e qs ≠ 0 -> a0q r e qs = (rgs0, a6m r.es r.cut e qs)) /\ (a6m r.es r.cut e qs = 0 -> a0q r e qs = (⟨r.cut, r.bar, e.day, b8a r.es r.cut r.bar e qs⟩, 0)) := by
 unfold a0q b8a a6m
 rw [if_neg h, if_neg h2, if_pos h3]
 by_cases h4 : (a0u e.p r.cut qs).2 ≠ 0
 ·rw [if_pos h4, if_pos h4]
  exact ⟨fun _ => rfl, fun k => absurd k h4⟩
 rw [if_neg h4, if_neg h4]
 by_cases h5 : (a3k r.es e.p.id).isSome = true
 ·rw [if_pos h5, if_pos h5]
  exact ⟨fun _ => rfl, fun k => absurd k (by decide)⟩
 rw [if_neg h5, if_neg h5]
 by_cases h6 : 64 <= r.es.length
 ·rw [if_pos h6, if_pos h6]
  exact ⟨fun _ => rfl, fun k => absurd k (by decide)⟩
 rw [if_neg h6, if_neg h6]
 exact ⟨fun k => absurd rfl k, fun _ => by rw [if_pos rfl]⟩
theorem b7a {r : Rgs} {e : Evt} {qs : List Quo} (h : ¬ (e.kind < 1 \/ 9 < e.kind \/ dayB e.day = false)) (h2 : ¬ e.day < r.day) (h3 : ¬ e.kind = 1) (h4 : a3k r.es e.id = none) : a0q r e qs = (rgs0, 11) := by
 unfold a0q
 rw [if_neg h, if_neg h2, if_neg h3, h4]
theorem a9w {r : Rgs} {e : Evt} {qs : List Quo} {i : Nat} {x : Ent} (h : ¬ (e.kind < 1 \/ 9 < e.kind \/ dayB e.day = false)) (h2 : ¬ e.day < r.day) (h3 : ¬ e.kind = 1) (h4 : a3k r.es e.id = some i) (hx : r.es[i]? = some x) :
  ((a0f x e).2 ≠ 0 -> a0q r e qs = (rgs0, (a0f x e).2)) /\ ((a0f x e).2 = 0 -> a0q r e qs = (⟨r.cut, r.bar, e.day, r.es.set i (finE x e)⟩, 0)) := by
 unfold a0q finE
 rw [if_neg h, if_neg h2, if_neg h3, h4]
 dsimp only
 rw [hx]
 dsimp only
 exact ⟨fun k => by rw [if_pos k], fun k => by rw [if_neg (fun q => q k), if_pos k]⟩
theorem b8c (v : Value) (l : List Ent) (w : World) (h : a5d w v l) (hn : l.length <= 1000) :
  Calls Tryz.prog 16 #[v] w fun e w' => ∃ A c B, e = .returned (.slice A l.length c) /\ Grows w' B 57 30 (.slice A l.length c) l.length (flat Ent.enc l) /\ w.heap.size <= B /\ B <= w'.heap.size /\ Below w.heap.size w w' := by
 by_cases h0 : 0 < l.length
 ·refine (c7z v l w h h0 hn).mono ?_
  rintro e w2 ⟨g, cap, rest, rfl, hg, h1, h2, h3, hB, hb⟩
  exact ⟨_, _, w.heap.size, rfl, a5f a1g hB hg h1 h2 h3, Nat.le_refl _, hb.size, hb⟩
 obtain rfl : l = [] := List.length_eq_zero_iff.1 (by omega)
 obtain ⟨i0, hi0, hz0, hz1, hz2⟩ := info_parts a4g
 have HI := zh hi0
 obtain ⟨A, c, rfl, hl, hcc⟩ := h.slice
 clear hi0 h h0
 cases A with
 | none =>
  have hcm := c4d none 0 c
  go_enter Tryz.func16, Tryz.ntmps16
  go_wp2
  go_ret
  exact ⟨_, _, w.heap.size, rfl, ⟨rfl, .inl ⟨rfl, rfl⟩⟩, Nat.le_refl _, Nat.le_refl _, Below.refl _ _⟩
 | some ad =>
  have hcm := c4d (some ad) 0 c
  go_enter Tryz.func16, Tryz.ntmps16
  go_wp2_with (at_builtin; refine b7d _ rfl _ _ 30 rfl 57 i0 Tryz.underlying30 HI.out w.heap.size (by simp [Act.eval]) (some ad) c (by simp [Act.eval]) ?_)
  go_wp2
  go_ret
  exact ⟨_, _, w.heap.size, rfl, ⟨rfl, .inr ⟨w.heap.size, 0, _, rfl, Nat.le_refl _, Blk.new _ _ _, Nat.le_refl _, Nat.zero_le _, rfl, rfl⟩⟩, Nat.le_refl _, by simp, Ext.alloc (Below.refl _ _) _⟩
theorem c6q {l : List Ent} {id : List UInt8} {i : Nat} (h : a3k l id = some i) : ∃ x, l[i]? = some x /\ x.p.id = id := by
 unfold a3k at h
 rw [List.findIdx?_eq_some_iff_getElem] at h
 obtain ⟨hl, he, _⟩ := h
 exact ⟨l[i], List.getElem?_eq_getElem hl, by simpa using he⟩
theorem a5t (cut bar day : Int) (v qv : Value) (l : List Ent) (e : Evt) (qs : List Quo) (w : World) (hv : a5d w v l) (hl : l.length <= 1000) (hm : ∀ x ∈ l, (x.fl.a.length <= 1000000 /\ x.fl.b.length <= 1000000) /\ (x.ad.a.length <= 1000000 /\ x.ad.b.length <= 1000000) /\ (x.ce.a.length <= 1000000 /\ x.ce.b.length <= 1000000)) (ham : e.am.a.length <= 1000000 /\ e.am.b.length <= 1000000) (hq : a3f w qv qs) (hok : ∀ q ∈ qs, q.ok) (hqs : ∀ q ∈ qs, q.num.length <= 100 /\ q.den.length <= 100) (hid : e.p.id.length <= 9223372036854775807 /\ e.p.code.length <= 9223372036854775807) (hsz : (e.p.aa.length <= 100 /\ e.p.ab.length <= 100) /\ e.p.ra.length <= 100 /\ e.p.rb.length <= 100) (hsec : -9223372036854775808 <= e.p.sec /\ e.p.sec <= 9223372036854775807) :
  Calls Tryz.prog 7 #[.agg #[.int .i64 cut, .int .i64 bar, .int .i64 day, v], .agg (evC e.kind e.day e.id e.am e.cre e.p), qv] w fun r w' => ∃ v', r = .returned (.tuple #[.agg #[.int .i64 (a0q ⟨cut, bar, day, l⟩ e qs).1.cut, .int .i64 (a0q ⟨cut, bar, day, l⟩ e qs).1.bar, .int .i64 (a0q ⟨cut, bar, day, l⟩ e qs).1.day, v'], .int .i64 (a0q ⟨cut, bar, day, l⟩ e qs).2]) /\ Grows w' w.heap.size 57 30 v' (a0q ⟨cut, bar, day, l⟩ e qs).1.es.length (flat Ent.enc (a0q ⟨cut, bar, day, l⟩ e qs).1.es) /\ Below w.heap.size w w' := by
 unfold evC
 have hD := fun W => a5s e.day W
 have a1 := @b2k ⟨cut, bar, day, l⟩ e qs
 have a2 := @b2m ⟨cut, bar, day, l⟩ e qs
 have a3 := @b7b ⟨cut, bar, day, l⟩ e qs
 have a4 := @b7a ⟨cut, bar, day, l⟩ e qs
 have a5 := fun i x => @a9w ⟨cut, bar, day, l⟩ e qs i x
 generalize a0q ⟨cut, bar, day, l⟩ e qs = ans at *
 dsimp only at a1 a2 a3 a4 a5
 have hC := fun W (hb : Below w.heap.size w W) => b8c v l W (hv.below hb) hl
 have hF := fun (v2 : Value) W (B : Nat) (hb : Grows W B 57 30 v2 l.length (flat Ent.enc l)) => b1q cut bar day v2 l e.id W (Slc.of_own a1g hb rfl)
 have hN := fun (v2 : Value) (g B : Nat) (W : World) (R0 : List Own) hs hT hg hB0 hBw hv2 => c0c cut bar day v2 qv l e qs g B w W R0 hs hT hg hB0 hBw hv2 hq hok hqs hid hsz hsec
 have hX := fun (i : Nat) (x : Ent) (hx : l[i]? = some x) (g o : Nat) (pre post : List Value) (W : World) (R0 : List Own) hs ho hk => b5n x e g o pre post w W R0 hs ho ham (hm x (List.mem_of_getElem? hx)).2.2 (hm x (List.mem_of_getElem? hx)).1 (hm x (List.mem_of_getElem? hx)).2.1 hk
 obtain ⟨dB, hdB⟩ : ∃ y, y = dayB e.day := ⟨_, rfl⟩
 rw [<- hdB] at hD a1 a2 a3 a4 a5
 have HDx := zh hD
 have A1x := zh a1
 have A2x := zh a2
 have A3x := zh a3
 have A4x := zh a4
 have A5x := zh a5
 have HCx := zh hC
 have HFx := zh hF
 have HNx := zh hN
 have HXx := zh hX
 clear hdB hv hl hm ham hq hok hqs hid hsz hsec hD a1 a2 a3 a4 a5 hC hF hN hX
 by_cases h1 : e.kind < 1
 ·have d1 : decide (e.kind < 1) = true := decide_eq_true h1
  have R := zh (A1x.out (.inl h1))
  clear h1
  go_enter Tryz.func7, Tryz.ntmps7
  have HS := zh (St.start w)
  go_wp2
  have HS2 := aL (aL (aL HS #[.int .i64 cut, .int .i64 bar, .int .i64 day, v] 32 w.heap.size) (evC e.kind e.day e.id e.am e.cre e.p) 44 (w.heap.size + 1)) #[.int .i64 0, .int .i64 0, .int .i64 0, .slice none 0 0] 32 (w.heap.size + 1 + 1)
  refine bodyPost_ret (a0v rfl _ _ _ rfl (HS2.out.blk 0 rfl)) rfl ?_
  rw [R.out]
  exact ⟨.slice none 0 0, rfl, ⟨rfl, .inl ⟨rfl, rfl⟩⟩, HS2.out.below⟩
 have d1 : decide (e.kind < 1) = false := decide_eq_false h1
 by_cases h2 : 9 < e.kind
 ·have d2 : decide (9 < e.kind) = true := decide_eq_true h2
  have R := zh (A1x.out (.inr (.inl h2)))
  clear h1 h2
  go_enter Tryz.func7, Tryz.ntmps7
  have HS := zh (St.start w)
  go_wp2
  have HS2 := aL (aL (aL HS #[.int .i64 cut, .int .i64 bar, .int .i64 day, v] 32 w.heap.size) (evC e.kind e.day e.id e.am e.cre e.p) 44 (w.heap.size + 1)) #[.int .i64 0, .int .i64 0, .int .i64 0, .slice none 0 0] 32 (w.heap.size + 1 + 1)
  refine bodyPost_ret (a0v rfl _ _ _ rfl (HS2.out.blk 0 rfl)) rfl ?_
  rw [R.out]
  exact ⟨.slice none 0 0, rfl, ⟨rfl, .inl ⟨rfl, rfl⟩⟩, HS2.out.below⟩
 have d2 : decide (9 < e.kind) = false := decide_eq_false h2
 cases dB
 ·have R := zh (A1x.out (.inr (.inr rfl)))
  clear h1 h2
  go_enter Tryz.func7, Tryz.ntmps7
  have HS := zh (St.start w)
  go_wp2_with fail
  refine (HDx.out _).mono ?_
  rintro e w' ⟨rfl, rfl⟩
  go_wp2
  have HS2 := aL (aL (aL HS #[.int .i64 cut, .int .i64 bar, .int .i64 day, v] 32 w.heap.size) (evC e.kind e.day e.id e.am e.cre e.p) 44 (w.heap.size + 1)) #[.int .i64 0, .int .i64 0, .int .i64 0, .slice none 0 0] 32 (w.heap.size + 1 + 1)
  refine bodyPost_ret (a0v rfl _ _ _ rfl (HS2.out.blk 0 rfl)) rfl ?_
  rw [R.out]
  exact ⟨.slice none 0 0, rfl, ⟨rfl, .inl ⟨rfl, rfl⟩⟩, HS2.out.below⟩
 have NR := zh (show ¬ (e.kind < 1 \/ 9 < e.kind \/ true = false) from (fun k => k.elim h1 (fun k => k.elim h2 (fun k => absurd k (by decide)))))
 have HKL := zh (show 1 <= e.kind /\ e.kind <= 9 by omega)
 clear h1 h2
 by_cases h3 : e.day < day
 ·have d3 : decide (e.day < day) = true := decide_eq_true h3
  have R := zh (A2x.out NR.out h3)
  clear h3
  go_enter Tryz.func7, Tryz.ntmps7
  have HS := zh (St.start w)
  go_wp2_with fail
  refine (HDx.out _).mono ?_
  rintro e w' ⟨rfl, rfl⟩
  go_wp2
  have HS2 := aL (aL (aL HS #[.int .i64 cut, .int .i64 bar, .int .i64 day, v] 32 w.heap.size) (evC e.kind e.day e.id e.am e.cre e.p) 44 (w.heap.size + 1)) #[.int .i64 0, .int .i64 0, .int .i64 0, .slice none 0 0] 32 (w.heap.size + 1 + 1)
  refine bodyPost_ret (a0v rfl _ _ _ rfl (HS2.out.blk 0 rfl)) rfl ?_
  rw [R.out]
  exact ⟨.slice none 0 0, rfl, ⟨rfl, .inl ⟨rfl, rfl⟩⟩, HS2.out.below⟩
 have d3 : decide (e.day < day) = false := decide_eq_false h3
 have H3 := zh h3
 clear h3
 by_cases h4 : e.kind = 1
 ·have d4 : (e.kind == 1) = true := by rw [h4]; rfl
  obtain ⟨b1, b2⟩ := A3x.out NR.out H3.out h4
  clear h4
  generalize a6m l cut e qs = fc at *
  by_cases h5 : fc = 0
  ·have R := zh (b2 h5)
   subst h5
   clear b1 b2
   go_enter Tryz.func7, Tryz.ntmps7
   have HS := zh (St.start w)
   go_wp2_with fail
   refine (HDx.out _).mono ?_
   rintro e w' ⟨rfl, rfl⟩
   go_wp2_with fail
   have HS2 := aL (aL (aL HS #[.int .i64 cut, .int .i64 bar, .int .i64 day, v] 32 w.heap.size) (evC e.kind e.day e.id e.am e.cre e.p) 44 (w.heap.size + 1)) #[.int .i64 0, .int .i64 0, .int .i64 0, .slice none 0 0] 32 (w.heap.size + 1 + 1)
   refine (HCx.out _ HS2.out.below).mono ?_
   rintro e w3 ⟨A3, c3, B, rfl, hG3, hle3, hBw3, hb3⟩
   have HL3 := zh (Nat.lt_of_lt_of_le (HS2.out.lt 2 rfl) hle3)
   have HL6 := zh (Nat.lt_of_lt_of_le (HS2.out.lt 0 rfl) hle3)
   have HB0 := zh (Nat.le_trans HS2.out.below.size hle3)
   clear hle3
   have HS3 := zh (HS2.out.call hb3)
   have HW := zh (show Bnd B w3 from hBw3)
   have HG := zh hG3
   clear hBw3 hG3 hb3 HS HS2
   have HS4 : Hid (St w [_, _, ⟨w.heap.size, #[.int .i64 cut, .int .i64 bar, .int .i64 day, .slice A3 l.length c3], 32⟩] _) := zh (St.set (HS3.out) 2 rfl 3 _)
   have x1 := cC HS3 2 3
   have x2 := cC (v := .int .i64 e.kind) HS3 1 0
   have x3 := cF HS3 2 3
   have x4 := cN HS3 2 0
   have x5 := cN HS3 0 2
   have x6 := cN HS3 2 1
   have x7 := cN HS3 1 2
   go_wp2_with (refine wpList_load_mid rfl _ _ rfl (w.heap.size + 1) (0) rfl (evC e.kind e.day e.id e.am e.cre e.p).toList _ (St.whole HS4.out 1 rfl) Tryz.underlying44 rfl a3m ?_)
   have HS5 : Hid (St w [_, _, ⟨w.heap.size, #[.int .i64 cut, .int .i64 bar, .int .i64 day, .slice A3 l.length c3], 32⟩] _) := zh (St.set (HS3.out) 2 rfl 3 _)
   refine (HNx.out _ _ B _ _ (St.front HS5.out 2 rfl) (a3c (show (32 : TypeId) ≠ 57 by decide) (a3c (show (44 : TypeId) ≠ 57 by decide) (fun r hr => absurd hr (by simp)))) HL3.out HB0.out (Bnd.set HW.out _ _) (Grows.setFar HG.out (p := ⟨w.heap.size, 3, none⟩) HL3.out _)).mono ?_
   rintro e w6 ⟨v6, rfl, hst6, hG6, hBw6⟩
   obtain ⟨A6, m6, c6, rfl⟩ : ∃ A m c, v6 = .slice A m c := by
    obtain ⟨A, c, e, _, _⟩ := (Slc.of_own a1g hG6 rfl).slice
    exact ⟨A, _, c, e⟩
   have HS6 : Hid (St w [⟨w.heap.size, #[.int .i64 cut, .int .i64 bar, .int .i64 day, .slice A6 m6 c6], 32⟩, ⟨w.heap.size + 1 + 1, #[.int .i64 0, .int .i64 0, .int .i64 0, .slice none 0 0], 32⟩, ⟨w.heap.size + 1, e.enc.toArray, 44⟩] w6) := zh hst6
   clear hst6 HS3 HS5 HG HW
   have HG := zh hG6
   clear hG6 hBw6 x1 x2 x3 x4 x5 x6 x7 HS4
   have x8 := cC (v := .int .i64 e.day) HS6 2 1
   have x9 := cC HS6 0 2
   have x10 := cC HS6 0 0
   have x11 := cC HS6 0 1
   have x12 := cC HS6 0 3
   obtain ⟨x13, x14, x15⟩ := HS6.out.k0 1 rfl rfl rfl rfl
   have x16 := cC HS6 1 3
   have x17 := cF HS6 0 2
   obtain ⟨x18, x19, x20⟩ := HS6.out.f0 1 rfl
   have x21 := cF HS6 1 3
   have x22 := cN HS6 0 1
   have x23 := cN HS6 1 0
   have x24 := cN HS6 0 2
   have x25 := cN HS6 2 0
   have x26 := cN HS6 1 0
   have x27 := cN HS6 0 1
   have x28 := cN HS6 1 2
   have x29 := cN HS6 2 1
   go_wp2
   have HP8 : Hid (St w [⟨w.heap.size, #[.int .i64 cut, .int .i64 bar, .int .i64 e.day, .slice A6 m6 c6], 32⟩, ⟨w.heap.size + 1 + 1, #[.int .i64 cut, .int .i64 bar, .int .i64 0, .slice none 0 0], 32⟩, _] _) := zh (St.set (St.set (St.set (HS6.out) 0 rfl 2 _) 1 rfl 0 _) 1 rfl 1 _)
   have HS7 : Hid (St w [_, ⟨w.heap.size + 1 + 1, #[.int .i64 cut, .int .i64 bar, .int .i64 e.day, .slice A6 m6 c6], 32⟩, _] _) := zh (St.set (St.set (HP8.out) 1 rfl 2 _) 1 rfl 3 _)
   refine bodyPost_ret (a0v rfl _ _ _ rfl (HS7.out.blk 1 rfl)) rfl ?_
   rw [R.out]
   exact ⟨_, rfl, Grows.base (Grows.setFar (Grows.setFar (Grows.setFar (Grows.setFar (Grows.setFar HG.out (p := ⟨w.heap.size, 2, none⟩) HL3.out _) (p := ⟨w.heap.size + 1 + 1, 0, none⟩) HL6.out _) (p := ⟨w.heap.size + 1 + 1, 1, none⟩) HL6.out _) (p := ⟨w.heap.size + 1 + 1, 2, none⟩) HL6.out _) (p := ⟨w.heap.size + 1 + 1, 3, none⟩) HL6.out _) HB0.out, HS7.out.below⟩
  have R := zh (b1 h5)
  have z5 : (fc != 0) = true := by rw [bne_iff_ne]; exact h5
  clear b1 b2 h5
  go_enter Tryz.func7, Tryz.ntmps7
  have HS := zh (St.start w)
  go_wp2_with fail
  refine (HDx.out _).mono ?_
  rintro e w' ⟨rfl, rfl⟩
  go_wp2_with fail
  have HS2 := aL (aL (aL HS #[.int .i64 cut, .int .i64 bar, .int .i64 day, v] 32 w.heap.size) (evC e.kind e.day e.id e.am e.cre e.p) 44 (w.heap.size + 1)) #[.int .i64 0, .int .i64 0, .int .i64 0, .slice none 0 0] 32 (w.heap.size + 1 + 1)
  refine (HCx.out _ HS2.out.below).mono ?_
  rintro e w3 ⟨A3, c3, B, rfl, hG3, hle3, hBw3, hb3⟩
  have HL3 := zh (Nat.lt_of_lt_of_le (HS2.out.lt 2 rfl) hle3)
  have HL6 := zh (Nat.lt_of_lt_of_le (HS2.out.lt 0 rfl) hle3)
  have HB0 := zh (Nat.le_trans HS2.out.below.size hle3)
  clear hle3
  have HS3 := zh (HS2.out.call hb3)
  have HW := zh (show Bnd B w3 from hBw3)
  have HG := zh hG3
  clear hBw3 hG3 hb3 HS HS2
  have HS4 : Hid (St w [_, _, ⟨w.heap.size, #[.int .i64 cut, .int .i64 bar, .int .i64 day, .slice A3 l.length c3], 32⟩] _) := zh (St.set (HS3.out) 2 rfl 3 _)
  have x1 := cC HS3 2 3
  have x2 := cC (v := .int .i64 e.kind) HS3 1 0
  have x3 := cF HS3 2 3
  have x4 := cN HS3 2 0
  have x5 := cN HS3 0 2
  have x6 := cN HS3 2 1
  have x7 := cN HS3 1 2
  go_wp2_with (refine wpList_load_mid rfl _ _ rfl (w.heap.size + 1) (0) rfl (evC e.kind e.day e.id e.am e.cre e.p).toList _ (St.whole HS4.out 1 rfl) Tryz.underlying44 rfl a3m ?_)
  have HS5 : Hid (St w [_, _, ⟨w.heap.size, #[.int .i64 cut, .int .i64 bar, .int .i64 day, .slice A3 l.length c3], 32⟩] _) := zh (St.set (HS3.out) 2 rfl 3 _)
  refine (HNx.out _ _ B _ _ (St.front HS5.out 2 rfl) (a3c (show (32 : TypeId) ≠ 57 by decide) (a3c (show (44 : TypeId) ≠ 57 by decide) (fun r hr => absurd hr (by simp)))) HL3.out HB0.out (Bnd.set HW.out _ _) (Grows.setFar HG.out (p := ⟨w.heap.size, 3, none⟩) HL3.out _)).mono ?_
  rintro e w6 ⟨v6, rfl, hst6, hG6, hBw6⟩
  obtain ⟨A6, m6, c6, rfl⟩ : ∃ A m c, v6 = .slice A m c := by
   obtain ⟨A, c, e, _, _⟩ := (Slc.of_own a1g hG6 rfl).slice
   exact ⟨A, _, c, e⟩
  have HS6 : Hid (St w [⟨w.heap.size, #[.int .i64 cut, .int .i64 bar, .int .i64 day, .slice A6 m6 c6], 32⟩, ⟨w.heap.size + 1 + 1, #[.int .i64 0, .int .i64 0, .int .i64 0, .slice none 0 0], 32⟩, ⟨w.heap.size + 1, e.enc.toArray, 44⟩] w6) := zh hst6
  clear hst6 HS3 HS5 HG HW
  have HG := zh hG6
  clear hG6 hBw6 x1 x2 x3 x4 x5 x6 x7 HS4
  obtain ⟨x8, x9, x10⟩ := HS6.out.k0 1 rfl rfl rfl rfl
  have x11 := cC HS6 1 3
  obtain ⟨x12, x13, x14⟩ := HS6.out.f0 1 rfl
  have x15 := cF HS6 1 3
  have x16 := cN HS6 1 0
  have x17 := cN HS6 0 1
  have x18 := cN HS6 1 2
  have x19 := cN HS6 2 1
  go_wp2
  have HS7 : Hid (St w [_, ⟨w.heap.size + 1 + 1, #[.int .i64 0, .int .i64 0, .int .i64 0, .slice none 0 0], 32⟩, _] _) := zh (St.set (St.set (St.set (St.set (HS6.out) 1 rfl 0 _) 1 rfl 1 _) 1 rfl 2 _) 1 rfl 3 _)
  refine bodyPost_ret (a0v rfl _ _ _ rfl (HS7.out.blk 1 rfl)) rfl ?_
  rw [R.out]
  exact ⟨.slice none 0 0, rfl, ⟨rfl, .inl ⟨rfl, rfl⟩⟩, HS7.out.below⟩
 have d4 : (e.kind == 1) = false := by rw [beq_eq_false_iff_ne]; exact h4
 have HK := zh (show 2 <= e.kind /\ e.kind <= 9 by have := HKL.out; omega)
 have H4 := zh h4
 clear h4
 obtain ⟨fo, hfo⟩ : ∃ y, y = a3k l e.id := ⟨_, rfl⟩
 have HF2 := HFx.out
 rw [<- hfo] at HF2
 clear HFx
 have HFx := zh HF2
 clear HF2
 cases fo with
 | none =>
  have R := zh (A4x.out NR.out H3.out H4.out hfo.symm)
  clear hfo
  go_enter Tryz.func7, Tryz.ntmps7
  have HS := zh (St.start w)
  go_wp2_with fail
  refine (HDx.out _).mono ?_
  rintro e w' ⟨rfl, rfl⟩
  go_wp2_with fail
  have HS2 := aL (aL (aL HS #[.int .i64 cut, .int .i64 bar, .int .i64 day, v] 32 w.heap.size) (evC e.kind e.day e.id e.am e.cre e.p) 44 (w.heap.size + 1)) #[.int .i64 0, .int .i64 0, .int .i64 0, .slice none 0 0] 32 (w.heap.size + 1 + 1)
  refine (HCx.out _ HS2.out.below).mono ?_
  rintro e w3 ⟨A3, c3, B, rfl, hG3, hle3, hBw3, hb3⟩
  have HL3 := zh (Nat.lt_of_lt_of_le (HS2.out.lt 2 rfl) hle3)
  have HL6 := zh (Nat.lt_of_lt_of_le (HS2.out.lt 0 rfl) hle3)
  have HB0 := zh (Nat.le_trans HS2.out.below.size hle3)
  clear hle3
  have HS3 := zh (HS2.out.call hb3)
  have HW := zh (show Bnd B w3 from hBw3)
  have HG := zh hG3
  clear hBw3 hG3 hb3 HS HS2
  have x1 := cC HS3 2 3
  have x2 := cC (v := .int .i64 e.kind) HS3 1 0
  obtain ⟨x3, x4, x5⟩ := HS3.out.k0 2 rfl rfl rfl rfl
  have x6 := cC (v := .string (bs e.id)) HS3 1 2
  have x7 := cF HS3 2 3
  have x8 := cN HS3 2 0
  have x9 := cN HS3 0 2
  have x10 := cN HS3 2 1
  have x11 := cN HS3 1 2
  go_wp2_with fail
  have HS4 : Hid (St w [_, _, ⟨w.heap.size, #[.int .i64 cut, .int .i64 bar, .int .i64 day, .slice A3 l.length c3], 32⟩] _) := zh (St.set (HS3.out) 2 rfl 3 _)
  refine (HFx.out _ _ B (Grows.setFar HG.out (p := ⟨w.heap.size, 3, none⟩) HL3.out _)).mono ?_
  rintro e w5 ⟨rfl, hb5⟩
  have HS5 := zh (HS4.out.call hb5)
  have G_5 := zh ((Grows.setFar HG.out (p := ⟨w.heap.size, 3, none⟩) HL3.out _).below hb5)
  clear HG
  have W_5 := zh ((Bnd.set HW.out _ _).below hb5)
  clear HW hb5 HS3 HS4 x1 x2 x3 x4 x5 x6 x7 x8 x9 x10 x11
  obtain ⟨x12, x13, x14⟩ := HS5.out.k0 0 rfl rfl rfl rfl
  have x15 := cC HS5 0 3
  obtain ⟨x16, x17, x18⟩ := HS5.out.f0 0 rfl
  have x19 := cF HS5 0 3
  have x20 := cN HS5 0 1
  have x21 := cN HS5 1 0
  have x22 := cN HS5 0 2
  have x23 := cN HS5 2 0
  go_wp2
  have HS6 : Hid (St w [⟨w.heap.size + 1 + 1, #[.int .i64 0, .int .i64 0, .int .i64 0, .slice none 0 0], 32⟩, _, _] _) := zh (St.set (St.set (St.set (St.set (HS5.out) 0 rfl 0 _) 0 rfl 1 _) 0 rfl 2 _) 0 rfl 3 _)
  refine bodyPost_ret (a0v rfl _ _ _ rfl (HS6.out.blk 0 rfl)) rfl ?_
  rw [R.out]
  exact ⟨.slice none 0 0, rfl, ⟨rfl, .inl ⟨rfl, rfl⟩⟩, HS6.out.below⟩
 | some i =>
  obtain ⟨x, hx, _⟩ := c6q hfo.symm
  obtain ⟨b1, b2⟩ := A5x.out i x NR.out H3.out H4.out hfo.symm hx
  have HXI := zh hx
  have hX2 := HXx.out i x hx
  clear hfo hx
  generalize (a0f x e).2 = cn at *
  clear HXx
  have HXx : Hid (∀ (i : Nat) (x : Ent), True -> True) := zh (fun _ _ _ => trivial)
  have HX2 := zh hX2
  clear hX2
  by_cases h5 : cn = 0
  ·have R := zh (b2 h5)
   subst h5
   clear b1 b2
   go_enter Tryz.func7, Tryz.ntmps7
   have HS := zh (St.start w)
   go_wp2_with fail
   refine (HDx.out _).mono ?_
   rintro e w' ⟨rfl, rfl⟩
   go_wp2_with fail
   have HS2 := aL (aL (aL HS #[.int .i64 cut, .int .i64 bar, .int .i64 day, v] 32 w.heap.size) (evC e.kind e.day e.id e.am e.cre e.p) 44 (w.heap.size + 1)) #[.int .i64 0, .int .i64 0, .int .i64 0, .slice none 0 0] 32 (w.heap.size + 1 + 1)
   refine (HCx.out _ HS2.out.below).mono ?_
   rintro e w3 ⟨A3, c3, B, rfl, hG3, hle3, hBw3, hb3⟩
   have HL3 := zh (Nat.lt_of_lt_of_le (HS2.out.lt 2 rfl) hle3)
   have HL6 := zh (Nat.lt_of_lt_of_le (HS2.out.lt 0 rfl) hle3)
   have HB0 := zh (Nat.le_trans HS2.out.below.size hle3)
   clear hle3
   have HS3 := zh (HS2.out.call hb3)
   have HW := zh (show Bnd B w3 from hBw3)
   have HG := zh hG3
   clear hBw3 hG3 hb3 HS HS2
   have x1 := cC HS3 2 3
   have x2 := cC (v := .int .i64 e.kind) HS3 1 0
   obtain ⟨x3, x4, x5⟩ := HS3.out.k0 2 rfl rfl rfl rfl
   have x6 := cC (v := .string (bs e.id)) HS3 1 2
   have x7 := cF HS3 2 3
   have x8 := cN HS3 2 0
   have x9 := cN HS3 0 2
   have x10 := cN HS3 2 1
   have x11 := cN HS3 1 2
   go_wp2_with fail
   have HS4 : Hid (St w [_, _, ⟨w.heap.size, #[.int .i64 cut, .int .i64 bar, .int .i64 day, .slice A3 l.length c3], 32⟩] _) := zh (St.set (HS3.out) 2 rfl 3 _)
   refine (HFx.out _ _ B (Grows.setFar HG.out (p := ⟨w.heap.size, 3, none⟩) HL3.out _)).mono ?_
   rintro e w5 ⟨rfl, hb5⟩
   have HS5 := zh (HS4.out.call hb5)
   have G_5 := zh ((Grows.setFar HG.out (p := ⟨w.heap.size, 3, none⟩) HL3.out _).below hb5)
   clear HG
   have W_5 := zh ((Bnd.set HW.out _ _).below hb5)
   clear HW hb5 HS3 HS4 x1 x2 x3 x4 x5 x6 x7 x8 x9 x10 x11
   obtain ⟨gr, cap, rest, hv2, hgb, hcn, hcm, hrr, hBk⟩ := Grows.toG (G_5.out) (by have := (List.getElem?_eq_some_iff.1 HXI.out).1; omega)
   injection hv2 with hv2 _ hv3
   subst hv2
   have hv3 := hv3.symm
   subst hv3
   obtain ⟨hra, hro⟩ := b2t a1g (rest := rest) HXI.out
   rw [hra] at hBk
   have HRO := zh hro
   have HRR := zh hrr
   have HCN := zh hcn
   have HCM := zh hcm
   have HGR := zh hgb
   have HR0 := zh (St.addT HS5.out (a3c (show (32 : TypeId) ≠ 57 by decide) (a3c (show (44 : TypeId) ≠ 57 by decide) (a3c (show (32 : TypeId) ≠ 57 by decide) (fun r hr => absurd hr (by simp))))) hBk (Nat.le_trans HB0.out hgb))
   clear G_5 W_5 hra hro hrr hcn hcm hgb hBk
   have e0 : (0 : Int) <= ((i : Nat) : Int) := by omega
   have e1 : ((i : Nat) : Int) < (l.length : Int) := by have := (List.getElem?_eq_some_iff.1 HXI.out).1; omega
   go_wp2
   refine a1v 6 [5] [.pointer (some ⟨w.heap.size, 3, none⟩), .slice (some ⟨gr, 0, none⟩) l.length cap, .int .i64 (i : Nat), .pointer (some ⟨gr, i * 30, none⟩), .agg #[.int .i64 e.kind, .int .i64 e.day, .string (bs e.id), .bool e.am.n, .string (bs e.am.a), .string (bs e.am.b), .int .i64 e.cre, .string (bs e.p.id), .int .i64 e.p.est, .int .i64 e.p.cre, .string (bs e.p.code), .bool e.p.an, .string (bs e.p.aa), .string (bs e.p.ab), .int .i64 e.p.inc, .int .i64 e.p.rank, .bool e.p.rn, .string (bs e.p.ra), .string (bs e.p.rb), .int .i64 e.p.rf, .int .i64 e.p.sec], undef] (ChgI w [⟨w.heap.size + 1 + 1, #[.int .i64 0, .int .i64 0, .int .i64 0, .slice none 0 0], 32⟩, ⟨w.heap.size + 1, e.enc.toArray, 44⟩, ⟨w.heap.size, #[.int .i64 cut, .int .i64 bar, .int .i64 day, .slice (some ⟨gr, 0, none⟩) l.length cap], 32⟩] gr (offA (flat Ent.enc (l.take i)) x.enc (flat Ent.enc (l.drop (i + 1)) ++ rest)) (offA (flat Ent.enc (l.take i)) (finE x e).enc (flat Ent.enc (l.drop (i + 1)) ++ rest)) 0) rfl (by kernel_rfl) (by kernel_rfl) (by kernel_rfl) (by kernel_rfl) (by decide) (by decide) (zh HR0.out.drew) ?_ ?_
   refine ⟨?_, ?_, ?_, ?_, ?_, ?_, trivial⟩ <;> (intro xx af wv k hk hI hev hev0 hd; have H := SH.mk hev hev0 hd; clear hev hev0 hd)
   ·have e3 := H.i 3; clear H hI; rw [if_neg (by decide)]; go_wp2; exact StepW.mk _
   ·have e50 := H.n 0 50; clear H; have y0 := hI.st.out.cell 2 rfl 3 rfl; clear hI; rw [if_neg (by decide)]; go_wp2; exact StepW.mk _
   ·have e9 := H.i 9; clear H hI; rw [if_neg (by decide)]; go_wp2; exact StepW.mk _
   ·have e51 := H.n 1 51; have e52 := H.n 2 52; clear H hI; rw [if_neg (by decide)]; go_wp2; exact StepW.mk _
   ·have e4 := H.i 4; clear H; rw [if_neg (by decide)]
    refine wpList_load_mid rfl _ _ rfl (w.heap.size + 1) (0) ((a1p _ _).trans e4) (evC e.kind e.day e.id e.am e.cre e.p).toList _ (St.whole hI.st.out 1 rfl) Tryz.underlying44 rfl a3m ?_
    go_wp2; exact StepW.mk _
   ·have e53 := H.n 3 53; have e54 := H.n 4 54; clear H; rw [if_pos (by decide)]; intro hk0; obtain rfl : k = 0 := hk0; have hI2 : Hid (St w (⟨gr, (offA (flat Ent.enc (l.take i)) x.enc (flat Ent.enc (l.drop (i + 1)) ++ rest)), 57⟩ :: [⟨w.heap.size + 1 + 1, #[.int .i64 0, .int .i64 0, .int .i64 0, .slice none 0 0], 32⟩, ⟨w.heap.size + 1, e.enc.toArray, 44⟩, ⟨w.heap.size, #[.int .i64 cut, .int .i64 bar, .int .i64 day, .slice (some ⟨gr, 0, none⟩) l.length cap], 32⟩]) wv) := hI; clear hI
    go_wp2_with fail
    refine (HX2.out gr _ (flat Ent.enc (l.take i)) (flat Ent.enc (l.drop (i + 1)) ++ rest) _ _ hI2.out HRO.out HK.out).mono ?_
    rintro q w8 ⟨rfl, hst8⟩; go_wp2; exact StepI.mkv _ ⟨zh hst8, rfl⟩
   intro xx w6 hI hv
   obtain ⟨hS9, hx⟩ := hI
   have hx : xx 5 = .int .i64 0 := hx
   simp only [List.take, List.drop, a0r, Act.put]
   simp only [show xx 0 = _ from hv 0 (by decide) (by decide), show xx 1 = _ from hv 1 (by decide) (by decide), show xx 2 = _ from hv 2 (by decide) (by decide), show xx 3 = _ from hv 3 (by decide) (by decide), show xx 4 = _ from hv 4 (by decide) (by decide), hx]
   have HS6 : Hid (St w [⟨gr, (offA (flat Ent.enc (l.take i)) (finE x e).enc (flat Ent.enc (l.drop (i + 1)) ++ rest)), 57⟩, _, _, ⟨w.heap.size, #[.int .i64 cut, .int .i64 bar, .int .i64 day, .slice (some ⟨gr, 0, none⟩) l.length cap], 32⟩] w6) := hS9
   clear hv hS9 HS5 HR0
   have x12 := cC (v := .int .i64 e.day) HS6 2 1
   have x13 := cC HS6 3 2
   have x14 := cC HS6 3 0
   have x15 := cC HS6 3 1
   have x16 := cC HS6 3 3
   obtain ⟨x17, x18, x19⟩ := HS6.out.k0 1 rfl rfl rfl rfl
   have x20 := cC HS6 1 3
   have x21 := cF HS6 3 2
   obtain ⟨x22, x23, x24⟩ := HS6.out.f0 1 rfl
   have x25 := cF HS6 1 3
   have x26 := cN HS6 3 0
   have x27 := cN HS6 0 3
   have x28 := cN HS6 3 1
   have x29 := cN HS6 1 3
   have x30 := cN HS6 3 2
   have x31 := cN HS6 2 3
   have x32 := cN HS6 1 0
   have x33 := cN HS6 0 1
   have x34 := cN HS6 1 2
   have x35 := cN HS6 2 1
   have x36 := cN HS6 1 3
   have x37 := cN HS6 3 1
   go_wp2
   have HP8 : Hid (St w [_, ⟨w.heap.size + 1 + 1, #[.int .i64 cut, .int .i64 bar, .int .i64 0, .slice none 0 0], 32⟩, _, ⟨w.heap.size, #[.int .i64 cut, .int .i64 bar, .int .i64 e.day, .slice (some ⟨gr, 0, none⟩) l.length cap], 32⟩] _) := zh (St.set (St.set (St.set (HS6.out) 3 rfl 2 _) 1 rfl 0 _) 1 rfl 1 _)
   have HS7 : Hid (St w [_, ⟨w.heap.size + 1 + 1, #[.int .i64 cut, .int .i64 bar, .int .i64 e.day, .slice (some ⟨gr, 0, none⟩) l.length cap], 32⟩, _, _] _) := zh (St.set (St.set (HP8.out) 1 rfl 2 _) 1 rfl 3 _)
   refine bodyPost_ret (a0v rfl _ _ _ rfl (HS7.out.blk 1 rfl)) rfl ?_
   rw [R.out]
   have hBk := HS7.out.blk 0 rfl
   rw [c1k HXI.out] at hBk
   exact ⟨_, rfl, by simpa only [List.length_set] using a5f a1g hBk (HS7.out.ge 0 rfl) (by rw [List.length_set]; exact HCN.out) HCM.out (by rw [List.length_set]; exact HRR.out), HS7.out.below⟩
  have R := zh (b1 h5)
  have z5 : (cn != 0) = true := by rw [bne_iff_ne]; exact h5
  clear b1 b2 h5
  go_enter Tryz.func7, Tryz.ntmps7
  have HS := zh (St.start w)
  go_wp2_with fail
  refine (HDx.out _).mono ?_
  rintro e w' ⟨rfl, rfl⟩
  go_wp2_with fail
  have HS2 := aL (aL (aL HS #[.int .i64 cut, .int .i64 bar, .int .i64 day, v] 32 w.heap.size) (evC e.kind e.day e.id e.am e.cre e.p) 44 (w.heap.size + 1)) #[.int .i64 0, .int .i64 0, .int .i64 0, .slice none 0 0] 32 (w.heap.size + 1 + 1)
  refine (HCx.out _ HS2.out.below).mono ?_
  rintro e w3 ⟨A3, c3, B, rfl, hG3, hle3, hBw3, hb3⟩
  have HL3 := zh (Nat.lt_of_lt_of_le (HS2.out.lt 2 rfl) hle3)
  have HL6 := zh (Nat.lt_of_lt_of_le (HS2.out.lt 0 rfl) hle3)
  have HB0 := zh (Nat.le_trans HS2.out.below.size hle3)
  clear hle3
  have HS3 := zh (HS2.out.call hb3)
  have HW := zh (show Bnd B w3 from hBw3)
  have HG := zh hG3
  clear hBw3 hG3 hb3 HS HS2
  have x1 := cC HS3 2 3
  have x2 := cC (v := .int .i64 e.kind) HS3 1 0
  obtain ⟨x3, x4, x5⟩ := HS3.out.k0 2 rfl rfl rfl rfl
  have x6 := cC (v := .string (bs e.id)) HS3 1 2
  have x7 := cF HS3 2 3
  have x8 := cN HS3 2 0
  have x9 := cN HS3 0 2
  have x10 := cN HS3 2 1
  have x11 := cN HS3 1 2
  go_wp2_with fail
  have HS4 : Hid (St w [_, _, ⟨w.heap.size, #[.int .i64 cut, .int .i64 bar, .int .i64 day, .slice A3 l.length c3], 32⟩] _) := zh (St.set (HS3.out) 2 rfl 3 _)
  refine (HFx.out _ _ B (Grows.setFar HG.out (p := ⟨w.heap.size, 3, none⟩) HL3.out _)).mono ?_
  rintro e w5 ⟨rfl, hb5⟩
  have HS5 := zh (HS4.out.call hb5)
  have G_5 := zh ((Grows.setFar HG.out (p := ⟨w.heap.size, 3, none⟩) HL3.out _).below hb5)
  clear HG
  have W_5 := zh ((Bnd.set HW.out _ _).below hb5)
  clear HW hb5 HS3 HS4 x1 x2 x3 x4 x5 x6 x7 x8 x9 x10 x11
  obtain ⟨gr, cap, rest, hv2, hgb, hcn, hcm, hrr, hBk⟩ := Grows.toG (G_5.out) (by have := (List.getElem?_eq_some_iff.1 HXI.out).1; omega)
  injection hv2 with hv2 _ hv3
  subst hv2
  have hv3 := hv3.symm
  subst hv3
  obtain ⟨hra, hro⟩ := b2t a1g (rest := rest) HXI.out
  rw [hra] at hBk
  have HRO := zh hro
  have HRR := zh hrr
  have HCN := zh hcn
  have HCM := zh hcm
  have HGR := zh hgb
  have HR0 := zh (St.addT HS5.out (a3c (show (32 : TypeId) ≠ 57 by decide) (a3c (show (44 : TypeId) ≠ 57 by decide) (a3c (show (32 : TypeId) ≠ 57 by decide) (fun r hr => absurd hr (by simp))))) hBk (Nat.le_trans HB0.out hgb))
  clear G_5 W_5 hra hro hrr hcn hcm hgb hBk
  have e0 : (0 : Int) <= ((i : Nat) : Int) := by omega
  have e1 : ((i : Nat) : Int) < (l.length : Int) := by have := (List.getElem?_eq_some_iff.1 HXI.out).1; omega
  go_wp2
  refine a1v 6 [5] [.pointer (some ⟨w.heap.size, 3, none⟩), .slice (some ⟨gr, 0, none⟩) l.length cap, .int .i64 (i : Nat), .pointer (some ⟨gr, i * 30, none⟩), .agg #[.int .i64 e.kind, .int .i64 e.day, .string (bs e.id), .bool e.am.n, .string (bs e.am.a), .string (bs e.am.b), .int .i64 e.cre, .string (bs e.p.id), .int .i64 e.p.est, .int .i64 e.p.cre, .string (bs e.p.code), .bool e.p.an, .string (bs e.p.aa), .string (bs e.p.ab), .int .i64 e.p.inc, .int .i64 e.p.rank, .bool e.p.rn, .string (bs e.p.ra), .string (bs e.p.rb), .int .i64 e.p.rf, .int .i64 e.p.sec], undef] (ChgI w [⟨w.heap.size + 1 + 1, #[.int .i64 0, .int .i64 0, .int .i64 0, .slice none 0 0], 32⟩, ⟨w.heap.size + 1, e.enc.toArray, 44⟩, ⟨w.heap.size, #[.int .i64 cut, .int .i64 bar, .int .i64 day, .slice (some ⟨gr, 0, none⟩) l.length cap], 32⟩] gr (offA (flat Ent.enc (l.take i)) x.enc (flat Ent.enc (l.drop (i + 1)) ++ rest)) (offA (flat Ent.enc (l.take i)) (finE x e).enc (flat Ent.enc (l.drop (i + 1)) ++ rest)) cn) rfl (by kernel_rfl) (by kernel_rfl) (by kernel_rfl) (by kernel_rfl) (by decide) (by decide) (zh HR0.out.drew) ?_ ?_
  refine ⟨?_, ?_, ?_, ?_, ?_, ?_, trivial⟩ <;> (intro xx af wv k hk hI hev hev0 hd; have H := SH.mk hev hev0 hd; clear hev hev0 hd)
  ·have e3 := H.i 3; clear H hI; rw [if_neg (by decide)]; go_wp2; exact StepW.mk _
  ·have e50 := H.n 0 50; clear H; have y0 := hI.st.out.cell 2 rfl 3 rfl; clear hI; rw [if_neg (by decide)]; go_wp2; exact StepW.mk _
  ·have e9 := H.i 9; clear H hI; rw [if_neg (by decide)]; go_wp2; exact StepW.mk _
  ·have e51 := H.n 1 51; have e52 := H.n 2 52; clear H hI; rw [if_neg (by decide)]; go_wp2; exact StepW.mk _
  ·have e4 := H.i 4; clear H; rw [if_neg (by decide)]
   refine wpList_load_mid rfl _ _ rfl (w.heap.size + 1) (0) ((a1p _ _).trans e4) (evC e.kind e.day e.id e.am e.cre e.p).toList _ (St.whole hI.st.out 1 rfl) Tryz.underlying44 rfl a3m ?_
   go_wp2; exact StepW.mk _
  ·have e53 := H.n 3 53; have e54 := H.n 4 54; clear H; rw [if_pos (by decide)]; intro hk0; obtain rfl : k = 0 := hk0; have hI2 : Hid (St w (⟨gr, (offA (flat Ent.enc (l.take i)) x.enc (flat Ent.enc (l.drop (i + 1)) ++ rest)), 57⟩ :: [⟨w.heap.size + 1 + 1, #[.int .i64 0, .int .i64 0, .int .i64 0, .slice none 0 0], 32⟩, ⟨w.heap.size + 1, e.enc.toArray, 44⟩, ⟨w.heap.size, #[.int .i64 cut, .int .i64 bar, .int .i64 day, .slice (some ⟨gr, 0, none⟩) l.length cap], 32⟩]) wv) := hI; clear hI
   go_wp2_with fail
   refine (HX2.out gr _ (flat Ent.enc (l.take i)) (flat Ent.enc (l.drop (i + 1)) ++ rest) _ _ hI2.out HRO.out HK.out).mono ?_
   rintro q w8 ⟨rfl, hst8⟩; go_wp2; exact StepI.mkv _ ⟨zh hst8, rfl⟩
  intro xx w6 hI hv
  obtain ⟨hS9, hx⟩ := hI
  have hx : xx 5 = .int .i64 cn := hx
  simp only [List.take, List.drop, a0r, Act.put]
  simp only [show xx 0 = _ from hv 0 (by decide) (by decide), show xx 1 = _ from hv 1 (by decide) (by decide), show xx 2 = _ from hv 2 (by decide) (by decide), show xx 3 = _ from hv 3 (by decide) (by decide), show xx 4 = _ from hv 4 (by decide) (by decide), hx]
  have HS6 : Hid (St w [_, _, _, ⟨w.heap.size, #[.int .i64 cut, .int .i64 bar, .int .i64 day, .slice (some ⟨gr, 0, none⟩) l.length cap], 32⟩] w6) := hS9
  clear hv hS9 HS5 HR0
  obtain ⟨x12, x13, x14⟩ := HS6.out.k0 1 rfl rfl rfl rfl
  have x15 := cC HS6 1 3
  obtain ⟨x16, x17, x18⟩ := HS6.out.f0 1 rfl
  have x19 := cF HS6 1 3
  have x20 := cN HS6 1 0
  have x21 := cN HS6 0 1
  have x22 := cN HS6 1 2
  have x23 := cN HS6 2 1
  have x24 := cN HS6 1 3
  have x25 := cN HS6 3 1
  go_wp2
  have HS7 : Hid (St w [_, ⟨w.heap.size + 1 + 1, #[.int .i64 0, .int .i64 0, .int .i64 0, .slice none 0 0], 32⟩, _, _] _) := zh (St.set (St.set (St.set (St.set (HS6.out) 1 rfl 0 _) 1 rfl 1 _) 1 rfl 2 _) 1 rfl 3 _)
  refine bodyPost_ret (a0v rfl _ _ _ rfl (HS7.out.blk 1 rfl)) rfl ?_
  rw [R.out]
  exact ⟨.slice none 0 0, rfl, ⟨rfl, .inl ⟨rfl, rfl⟩⟩, HS7.out.below⟩
end Go.Proofs.YtoighiepglclkaaGreatDoor
