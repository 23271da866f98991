/-
The laws' ventures (printed by gen_pln10.py).
-/
import Derived.Test.YtcllocdhbicpkaaGreatDoorW0

import Derived.Test.YtcllocdhbicpkaaGreatDoorV8
namespace Go.Proofs.YtcllocdhbicpkaaGreatDoor
open Go.RowKit

set_option maxRecDepth 100000 in
theorem info_bloc : (Tryz.prog.info? 59).map (fun i => (i.zero, i.size, i.bytes)) = some (some (.agg #[.int .i64 0, .bool false, .string ⟨#[]⟩, .string ⟨#[]⟩, .bool false, .string ⟨#[]⟩, .string ⟨#[]⟩, .bool false, .string ⟨#[]⟩, .string ⟨#[]⟩, .bool false]), 11, 136) := by kernel_rfl
theorem blc_cells (v : Blc) : ∀ u ∈ v.enc, u.oneCell' = true := by
 intro u hu
 unfold Blc.enc at hu
 simp only [List.mem_cons, List.mem_nil_iff, or_false] at hu
 rcases hu with rfl | rfl | rfl | rfl | rfl | rfl | rfl | rfl | rfl | rfl | rfl <;> rfl
theorem ven_info : (Tryz.prog.info? 28).map (·.size) = some 4 := by kernel_rfl
theorem ven_result {fn : Func} {p : Tmp} (h : fn.results = #[.cell p 28]) (tmps : Array Value) (w : World) (g : Nat) {a b c d : Value}
  (hp : tmps.getD p undef = .pointer (some ⟨g, 0, none⟩)) (hg : Blk w g #[a, b, c, d] 28) : (results fn tmps).run Tryz.prog w = .ok (.agg #[a, b, c, d]) w :=
 results_cell_row h tmps w g _ _ _ _ hp hg Tryz.underlying28 rfl ven_info
theorem take3 {α : Type} {ts : List α} {k : Nat} {t : α} (h : ts[k]? = some t) (h3 : k < 3) : (ts.take 3)[k]? = some t := by rw [List.getElem?_take, if_pos h3]; exact h
theorem Grows.blocs {w : World} {B n : Nat} {v : Value} {l : List Blc} (h : Grows w B 59 11 v n (flat Blc.enc l)) (hn : l.length = n) : BlocsL w v l := Slc.of_own blc_len h hn
theorem Grows.base {w : World} {B B' : Nat} {e : TypeId} {k : Nat} {v : Value} {n : Nat} {xs : List Value} (h : Grows w B e k v n xs) (hB : B' ≤ B) : Grows w B' e k v n xs := by
 refine ⟨h.1, ?_⟩
 rcases h.2 with h2 | ⟨g, cap, cur, h3, h4, h5⟩
 ·exact .inl h2
 ·exact .inr ⟨g, cap, cur, h3, Nat.le_trans hB h4, h5⟩
/-- The blocks ahead of a bound stay when what is behind it changes. -/
theorem St.keep {w0 w w' : World} {R : List Own} {B : Nat} (h : St w0 R w) (hb : Below B w w') (h0 : w0.heap.size ≤ B) (hR : ∀ r ∈ R, r.g < B) : St w0 R w' :=
 ⟨h.below.trans (hb.mono h0), fun r hr => ⟨(h.ok r hr).1.below hb (hR r hr), (h.ok r hr).2⟩, h.apart⟩
theorem St.merge {w0 w1 w2 : World} {R R1 : List Own} (h : St w0 R w1) (h1 : St w1 R1 w2) : St w0 (R1 ++ R) w2 := by
 have h2 := h.call h1.below
 refine ⟨h2.below, fun r hr => ?_, List.pairwise_append.2 ⟨h1.apart, h.apart, fun a ha b hb => ?_⟩⟩
 ·rcases List.mem_append.1 hr with hr | hr
  ·exact ⟨(h1.ok r hr).1, Nat.le_trans h.below.size (h1.ok r hr).2⟩
  ·exact h2.ok r hr
 ·have e1 := (h1.ok a ha).2
  have e2 := (h.ok b hb).1.lt
  omega
theorem Grows.setFar {w : World} {B n k : Nat} {e : TypeId} {v : Value} {xs : List Value} (h : Grows w B e k v n xs) {p : Addr} (hp : p.block < B) (u : Value) : Grows (w.setCell p u) B e k v n xs := by
 refine ⟨h.1, ?_⟩
 rcases h.2 with h2 | ⟨g, cap, cur, h3, h4, h5, h6⟩
 ·exact .inl h2
 ·exact .inr ⟨g, cap, cur, h3, h4, Blk.far (show Blk w g cur e from h5) (by omega) u, h6⟩
theorem enc000 : negB (0 : Rat) = false ∧ numB (0 : Rat) = [] ∧ denomB (0 : Rat) = [] := by decide +kernel
theorem St.put11 {w0 w : World} {R : List Own} (h : St w0 R w) (k : Nat) {g : Nat} {a0 a1 a2 a3 a4 a5 a6 a7 a8 a9 a10 : Value} {t : TypeId} (hk : R[k]? = some ⟨g, #[a0, a1, a2, a3, a4, a5, a6, a7, a8, a9, a10], t⟩) (x0 x1 x2 x3 x4 x5 x6 x7 x8 x9 x10 : Value) :
  St w0 (R.set k ⟨g, #[x0, x1, x2, x3, x4, x5, x6, x7, x8, x9, x10], t⟩) (((((((((((w.setCell ⟨g, 0, none⟩ x0).setCell ⟨g, 1, none⟩ x1).setCell ⟨g, 2, none⟩ x2).setCell ⟨g, 3, none⟩ x3).setCell ⟨g, 4, none⟩ x4).setCell ⟨g, 5, none⟩ x5).setCell ⟨g, 6, none⟩ x6).setCell ⟨g, 7, none⟩ x7).setCell ⟨g, 8, none⟩ x8).setCell ⟨g, 9, none⟩ x9).setCell ⟨g, 10, none⟩ x10) := by
 have hl := (List.getElem?_eq_some_iff.1 hk).1
 have h0 := h.set k hk 0 x0
 have h1 := h0.set k (g := g) (cs := #[x0, a1, a2, a3, a4, a5, a6, a7, a8, a9, a10]) (t := t) (by (try simp only [List.set_set]); rw [List.getElem?_set_self hl]; rfl) 1 x1
 have h2 := h1.set k (g := g) (cs := #[x0, x1, a2, a3, a4, a5, a6, a7, a8, a9, a10]) (t := t) (by (try simp only [List.set_set]); rw [List.getElem?_set_self hl]; rfl) 2 x2
 have h3 := h2.set k (g := g) (cs := #[x0, x1, x2, a3, a4, a5, a6, a7, a8, a9, a10]) (t := t) (by (try simp only [List.set_set]); rw [List.getElem?_set_self hl]; rfl) 3 x3
 have h4 := h3.set k (g := g) (cs := #[x0, x1, x2, x3, a4, a5, a6, a7, a8, a9, a10]) (t := t) (by (try simp only [List.set_set]); rw [List.getElem?_set_self hl]; rfl) 4 x4
 have h5 := h4.set k (g := g) (cs := #[x0, x1, x2, x3, x4, a5, a6, a7, a8, a9, a10]) (t := t) (by (try simp only [List.set_set]); rw [List.getElem?_set_self hl]; rfl) 5 x5
 have h6 := h5.set k (g := g) (cs := #[x0, x1, x2, x3, x4, x5, a6, a7, a8, a9, a10]) (t := t) (by (try simp only [List.set_set]); rw [List.getElem?_set_self hl]; rfl) 6 x6
 have h7 := h6.set k (g := g) (cs := #[x0, x1, x2, x3, x4, x5, x6, a7, a8, a9, a10]) (t := t) (by (try simp only [List.set_set]); rw [List.getElem?_set_self hl]; rfl) 7 x7
 have h8 := h7.set k (g := g) (cs := #[x0, x1, x2, x3, x4, x5, x6, x7, a8, a9, a10]) (t := t) (by (try simp only [List.set_set]); rw [List.getElem?_set_self hl]; rfl) 8 x8
 have h9 := h8.set k (g := g) (cs := #[x0, x1, x2, x3, x4, x5, x6, x7, x8, a9, a10]) (t := t) (by (try simp only [List.set_set]); rw [List.getElem?_set_self hl]; rfl) 9 x9
 have h10 := h9.set k (g := g) (cs := #[x0, x1, x2, x3, x4, x5, x6, x7, x8, x9, a10]) (t := t) (by (try simp only [List.set_set]); rw [List.getElem?_set_self hl]; rfl) 10 x10
 simp only [List.set_set] at h10
 exact h10
theorem flr_zero {t : Qua} (h : t.b % 3 = 0) : flrR t = 0 := by unfold flrR; rw [if_pos h]
theorem flr_some {t : Qua} (h : t.b % 3 ≠ 0) : mkRat ((t.b : Int) / 3 % 13) 12 = flrR t := by unfold flrR; rw [if_neg h]
theorem venB_enc (r : Int) (t : Qua) : (venB r t).enc = [.int .i64 r, .bool (negB (totR t)), .string (bs (numB (totR t))), .string (bs (denomB (totR t))), .bool (negB (flrR t)), .string (bs (numB (flrR t))), .string (bs (denomB (flrR t))), .bool (negB (askR t)), .string (bs (numB (askR t))), .string (bs (denomB (askR t))), .bool (!decide (t.d % 5 = 0))] := rfl

set_option maxRecDepth 100000 in
set_option maxHeartbeats 8000000 in
theorem law0_Venture (x : Nat) (v : Value) (ts : List Qua) (w : World) (hx : x ≤ 65535) (h : Quas w v ts) (hok : ∀ t ∈ ts, t.ok) :
  Calls Tryz.prog 24 #[.int .u16 (x : Nat), v] w fun e w' => ∃ (A : Option Addr) (c : Nat), e = .returned (.agg #[.bool (negB (valueOf x)), .string (bs (numB (valueOf x))), .string (bs (denomB (valueOf x))), .slice A (blocsOf ts).length c]) ∧ Grows w' w.heap.size 59 11 (.slice A (blocsOf ts).length c) (blocsOf ts).length (flat Blc.enc (blocsOf ts)) ∧ Below w.heap.size w w' := by
 obtain ⟨i0, hi0, hz0, hz1, hz2⟩ := info_parts info_bloc
 have HI := Lib.hid hi0
 have H := Lib.hid h
 have HOK := Lib.hid hok
 obtain ⟨A, c, rfl, hl, hc⟩ := h.slice
 have hW := fun W => law0_Whole ((x : Int) % 90) W (by omega) (by omega)
 change ∀ W, Calls Tryz.prog _ _ _ (fun e w' => e = .returned (rat (valueOf x)) ∧ _) at hW
 generalize valueOf x = q at *
 have a1 : Int.tmod (x : Int) 90 = (x : Int) % 90 := Int.tmod_eq_emod_of_nonneg (by omega)
 have a2 : IntKind.u16.wrap ((x : Int) % 90) = (x : Int) % 90 := by rw [IntKind.wrap_u16]; omega
 have a3 : IntKind.i64.wrap ((x : Int) % 90) = (x : Int) % 90 := IntWalk.i64_in _ (by omega)
 unfold rat raw at hW
 have HW := Lib.hid hW
 have hbo : blocsOf ts = blocsK (ts.take 3) (ts.take 3).length := rfl
 have hus : (ts.take 3).length = min 3 ts.length := List.length_take
 have hat := fun k t => @take3 _ ts k t
 generalize blocsOf ts = bo at *
 generalize ts.take 3 = us at *
 have HBO := Lib.hid hbo
 have HUS := Lib.hid hus
 have HAT := Lib.hid hat
 clear h hok hi0 hW hbo hus hat
 go_enter Tryz.func24, Tryz.ntmps24
 have HS := Lib.hid (St.start w)
 go_wp2_with fail
 have HS2 := Lib.hid (St.alloc (HS.out) #[.bool false, .string (bs []), .string (bs []), .slice none 0 0] 28 (w.heap.size) (by simp))
 refine (HW.out _).mono ?_
 rintro e w3 ⟨rfl, hb3⟩
 have HS3 := Lib.hid (HS2.out.call hb3)
 clear hb3 HS HS2
 go_wp2
 have hB4 := HS3.out.lt 0 rfl
 go_loopw [6, 7] (fun r i wr => ∃ (k : Nat) (A1 : Option Addr) (c1 : Nat), k ≤ ts.length ∧ k ≤ 3 ∧ r = .int .i64 (rankOf (us.take k)) ∧ i = .int .i64 k ∧ (w3.heap.size + 1) ≤ wr.heap.size ∧ Hid (Grows wr (w3.heap.size + 1) 59 11 (.slice A1 k c1) k (flat Blc.enc (blocsK us k))) ∧ Hid (St w [⟨w3.heap.size, #[.bool (negB (q)), .string (bs (numB (q))), .string (bs (denomB (q))), .slice A1 k c1], 28⟩, ⟨w.heap.size, #[.bool false, .string (bs []), .string (bs []), .slice none 0 0], 28⟩] wr)) (fun _ i _ => ts.length - (intOf i).toNat)
 case atStart => exact ⟨0, none, 0, Nat.zero_le _, Nat.zero_le _, rfl, rfl, by simp, ⟨rfl, .inl ⟨rfl, rfl⟩⟩, (St.alloc (HS3.out) #[.bool (negB (q)), .string (bs (numB (q))), .string (bs (denomB (q))), .slice none 0 0] 28 (w3.heap.size) (by simp))⟩
 case round =>
  have hB5 := HS3.out.below.size
  clear HS3 HW a1 a2 a3
  obtain ⟨k, A1, c1, hk, hk3, rfl, rfl, hbs, HG, HS⟩ := hrel
  obtain ⟨wo, hwo⟩ : ∃ wo : World, wo = wr := ⟨_, rfl⟩
  subst hwo
  by_cases hlt : k < ts.length
  ·by_cases hlt3 : k < 3
   ·obtain ⟨b, o, t, rfl, hbb, ht, hx⟩ := H.out.at_ hlt
    obtain ⟨ok1, ok2, ok3, ok4⟩ := HOK.out t (List.mem_of_getElem? ht)
    have hut := HAT.out k t ht hlt3
    have hrs := rankOf_succ hut
    have hri := rankOf_in us k (by rw [HUS.out]; omega)
    have hbk := blocsK_succ hut
    have hbl := blocsK_len us k
    have hen := venB_enc (rankOf (us.take (k + 1))) t
    have hT := fun W => law0_Whole (12 * (1 + (t.a : Int) / 2 % 3)) W (by omega) (by omega)
    change ∀ W, Calls Tryz.prog _ _ _ (fun e w' => e = .returned (rat (totR t)) ∧ _) at hT
    have hK := fun W => law0_Ratio ((t.c : Int) % 13) 12 W (by omega) (by omega) (by decide) (by decide)
    change ∀ W, Calls Tryz.prog _ _ _ (fun e w' => e = .returned (rat (askR t)) ∧ _) at hK
    have hF := fun W => law0_Ratio ((t.b : Int) / 3 % 13) 12 W (by omega) (by omega) (by decide) (by decide)
    rw [show (12 : Int).toNat = 12 from rfl] at hF
    have hf0 := @flr_zero t
    have hf1 := @flr_some t
    rw [hrs] at hen hbk
    generalize venB (rankOf (us.take k) + (1 + (t.a : Int) % 2)) t = vb at *
    generalize totR t = tq at *
    generalize askR t = kq at *
    generalize flrR t = fq at *
    obtain ⟨aB, haB⟩ : ∃ y, y = !decide (t.d % 5 = 0) := ⟨_, rfl⟩
    rw [← haB] at hen
    have hq5 : ((t.d : Int) % 5 != 0) = aB := by rw [haB, Bool.eq_iff_iff]; simp; omega
    unfold rat raw at hT hK
    have HTO := Lib.hid hT
    have HK := Lib.hid hK
    have HX := Lib.hid hx
    have HBK := Lib.hid hbk
    have HRS := Lib.hid hrs
    generalize blocsK us k = out at *
    generalize rankOf (us.take k) = r0 at *
    have e1 : Int.tmod (t.a : Int) 2 = (t.a : Int) % 2 := Int.tmod_eq_emod_of_nonneg (by omega)
    have e2 : Int.tdiv (t.a : Int) 2 = (t.a : Int) / 2 := Int.tdiv_eq_ediv_of_nonneg (by omega)
    have e3 : Int.tmod ((t.a : Int) / 2) 3 = (t.a : Int) / 2 % 3 := Int.tmod_eq_emod_of_nonneg (by omega)
    have e4 : Int.tmod (t.c : Int) 13 = (t.c : Int) % 13 := Int.tmod_eq_emod_of_nonneg (by omega)
    have e5 : Int.tmod (t.d : Int) 5 = (t.d : Int) % 5 := Int.tmod_eq_emod_of_nonneg (by omega)
    have e6 : Int.tmod (t.b : Int) 3 = (t.b : Int) % 3 := Int.tmod_eq_emod_of_nonneg (by omega)
    have e7 : Int.tdiv (t.b : Int) 3 = (t.b : Int) / 3 := Int.tdiv_eq_ediv_of_nonneg (by omega)
    have e8 : Int.tmod ((t.b : Int) / 3) 13 = (t.b : Int) / 3 % 13 := Int.tmod_eq_emod_of_nonneg (by omega)
    have v1 : IntKind.u16.wrap ((t.a : Int) % 2) = (t.a : Int) % 2 := by rw [IntKind.wrap_u16]; omega
    have v2 : IntKind.u16.wrap ((t.a : Int) / 2) = (t.a : Int) / 2 := by rw [IntKind.wrap_u16]; omega
    have v3 : IntKind.u16.wrap ((t.a : Int) / 2 % 3) = (t.a : Int) / 2 % 3 := by rw [IntKind.wrap_u16]; omega
    have v4 : IntKind.u16.wrap ((t.c : Int) % 13) = (t.c : Int) % 13 := by rw [IntKind.wrap_u16]; omega
    have v5 : IntKind.u16.wrap ((t.d : Int) % 5) = (t.d : Int) % 5 := by rw [IntKind.wrap_u16]; omega
    have v6 : IntKind.u16.wrap ((t.b : Int) % 3) = (t.b : Int) % 3 := by rw [IntKind.wrap_u16]; omega
    have v7 : IntKind.u16.wrap ((t.b : Int) / 3) = (t.b : Int) / 3 := by rw [IntKind.wrap_u16]; omega
    have v8 : IntKind.u16.wrap ((t.b : Int) / 3 % 13) = (t.b : Int) / 3 % 13 := by rw [IntKind.wrap_u16]; omega
    have x1 : IntKind.i64.wrap ((t.a : Int) % 2) = (t.a : Int) % 2 := IntWalk.i64_in _ (by omega)
    have x2 : IntKind.i64.wrap (1 + (t.a : Int) % 2) = 1 + (t.a : Int) % 2 := IntWalk.i64_in _ (by omega)
    have x3 : IntKind.i64.wrap (r0 + (1 + (t.a : Int) % 2)) = r0 + (1 + (t.a : Int) % 2) := IntWalk.i64_in _ (by omega)
    have x4 : IntKind.i64.wrap ((t.a : Int) / 2 % 3) = (t.a : Int) / 2 % 3 := IntWalk.i64_in _ (by omega)
    have x5 : IntKind.i64.wrap (1 + (t.a : Int) / 2 % 3) = 1 + (t.a : Int) / 2 % 3 := IntWalk.i64_in _ (by omega)
    have x6 : IntKind.i64.wrap (12 * (1 + (t.a : Int) / 2 % 3)) = 12 * (1 + (t.a : Int) / 2 % 3) := IntWalk.i64_in _ (by omega)
    have x7 : IntKind.i64.wrap ((t.c : Int) % 13) = (t.c : Int) % 13 := IntWalk.i64_in _ (by omega)
    have x8 : IntKind.i64.wrap ((t.b : Int) / 3 % 13) = (t.b : Int) / 3 % 13 := IntWalk.i64_in _ (by omega)
    have f6 : ((k : Nat) : Int) < (ts.length : Int) := by omega
    have f7 : (0 : Int) ≤ ((k : Nat) : Int) := by omega
    have f8 : decide (((k : Nat) : Int) < 3) = true := decide_eq_true (by omega)
    have f9 : decide (((k : Nat) : Int) < (ts.length : Int)) = true := decide_eq_true f6
    have HBL := Lib.hid hbl
    clear hT hK hx ht hut hbk hrs haB hbl hri
    by_cases h3 : t.b % 3 = 0
    ·have hfz := hf0 h3
     have hb3 : (((t.b : Int) % 3) != 0) = false := by rw [bne_eq_false_iff_eq]; omega
     rw [hfz, enc000.1, enc000.2.1, enc000.2.2] at hen
     have HEN := Lib.hid hen
     clear hf0 hf1 hfz h3 hF hen
     have hwo9 := HS.out.below.size
     have HT := Lib.hid (St.start wo)
     have HXO := Lib.hid (fun w' (hb : Below wo.heap.size wo w') => HX.out w' (Ext.trans HS.out.below hb))
     have x1 := HXO.out _ HT.out.below 0 _ rfl
     rw [Nat.add_zero] at x1
     go_wp2
     clear x1
     refine wp_region_facts 29 [eQ (.int .i64 (r0 + (1 + (t.a : Int) % 2))), eQ (.slice (some ⟨b, o, none⟩) ts.length c), eQ (.int .i64 (k : Nat)), eQ (.pointer (some ⟨b, o + k * 4, none⟩)), eQ (.pointer (some ⟨b, o + k * 4, none⟩)), eQ (.int .u16 (t.a : Nat)), eQ (.int .u16 ((t.a : Int) / 2)), eQ (.int .u16 ((t.a : Int) / 2 % 3)), eQ (.int .i64 ((t.a : Int) / 2 % 3)), eQ (.int .i64 (1 + (t.a : Int) / 2 % 3)), eQ (.int .i64 (12 * (1 + (t.a : Int) / 2 % 3))), eQ (.agg #[.bool (negB (tq)), .string (bs (numB (tq))), .string (bs (denomB (tq)))]), eQ (.slice (some ⟨b, o, none⟩) ts.length c), eQ (.int .i64 (k : Nat)), eQ (.pointer (some ⟨b, o + k * 4, none⟩)), eQ (.pointer (some ⟨b, o + k * 4 + 2, none⟩)), eQ (.int .u16 (t.c : Nat)), eQ (.int .u16 ((t.c : Int) % 13)), eQ (.int .i64 ((t.c : Int) % 13)), eQ (.agg #[.bool (negB (kq)), .string (bs (numB (kq))), .string (bs (denomB (kq)))]), eQ (.slice (some ⟨b, o, none⟩) ts.length c), eQ (.int .i64 (k : Nat)), eQ (.pointer (some ⟨b, o + k * 4, none⟩)), eQ (.pointer (some ⟨b, o + k * 4 + 3, none⟩)), eQ (.int .u16 (t.d : Nat)), eQ (.int .u16 ((t.d : Int) % 5)), eQ (.bool aB), eQ (.agg #[.int .i64 (r0 + (1 + (t.a : Int) % 2)), .bool (negB (tq)), .string (bs (numB (tq))), .string (bs (denomB (tq))), .bool false, .string (bs []), .string (bs []), .bool (negB (kq)), .string (bs (numB (kq))), .string (bs (denomB (kq))), .bool aB]), fun ww vv => ∃ g, vv = .pointer (some ⟨g, 0, none⟩) ∧ wo.heap.size ≤ g ∧ Blk ww g #[.int .i64 0, .bool false, .string (bs []), .string (bs []), .bool false, .string (bs []), .string (bs []), .bool false, .string (bs []), .string (bs []), .bool false] 59] rfl (by kernel_rfl) (by kernel_rfl) (by kernel_rfl) ⟨stE, stE, stE, stE, stE, stE, stE, stE, stE, stE, stE, stE, stE, stE, stE, stE, stE, stE, stE, stE, stE, stE, stE, stE, stE, stE, stE, stE, fun _ _ _ ⟨g, e, hg, h⟩ hb => ⟨g, e, hg, h.below hb h.lt⟩, trivial⟩ ?_ ?_
     refine ⟨?_, ?_, ?_, ?_, ?_, ?_, ?_, ?_, ?_, ?_, ?_, ?_, ?_, ?_, ?_, ?_, ?_, ?_, ?_, ?_, ?_, ?_, ?_, ?_, ?_, ?_, ?_, ?_, ?_, trivial⟩
     ·intro xx af wv hbx hev hev0 hd; have e6 : af.tmps[6]?.getD undef = .int .i64 (r0 + (1 + (t.a : Int) % 2)) := hev0 6 rfl; clear hev hev0 hd; go_wp2; exact sQ rfl
     ·intro xx af wv hbx hev hev0 hd; have e1 : af.tmps[1]?.getD undef = .slice (some ⟨b, o, none⟩) ts.length c := hev0 1 rfl; clear hev hev0 hd; go_wp2; exact sQ rfl
     ·intro xx af wv hbx hev hev0 hd; have e7 : af.tmps[7]?.getD undef = .int .i64 (k : Nat) := hev0 7 rfl; clear hev hev0 hd; go_wp2; exact sQ rfl
     ·intro xx af wv hbx hev hev0 hd; have e35 := (hev 1 _ 35 rfl rfl).trans (hd ⟨1, .data⟩ (by simp) rfl); have e36 := (hev 2 _ 36 rfl rfl).trans (hd ⟨2, .data⟩ (by simp) rfl); clear hev hev0 hd; go_wp2; exact sQ rfl
     ·intro xx af wv hbx hev hev0 hd; have e37 := (hev 3 _ 37 rfl rfl).trans (hd ⟨3, .data⟩ (by simp) rfl); clear hev hev0 hd; go_wp2; exact sQ rfl
     ·intro xx af wv hbx hev hev0 hd; have e38 := (hev 4 _ 38 rfl rfl).trans (hd ⟨4, .data⟩ (by simp) rfl); clear hev hev0 hd; have hs1 := Lib.hid (HT.out.call hbx); have y0 := HXO.out _ hs1.out.below 0 _ rfl; rw [Nat.add_zero] at y0; go_wp2; exact sQ rfl
     ·intro xx af wv hbx hev hev0 hd; have e39 := (hev 5 _ 39 rfl rfl).trans (hd ⟨5, .data⟩ (by simp) rfl); clear hev hev0 hd; go_wp2; exact sQ rfl
     ·intro xx af wv hbx hev hev0 hd; have e40 := (hev 6 _ 40 rfl rfl).trans (hd ⟨6, .data⟩ (by simp) rfl); clear hev hev0 hd; go_wp2; exact sQ rfl
     ·intro xx af wv hbx hev hev0 hd; have e41 := (hev 7 _ 41 rfl rfl).trans (hd ⟨7, .data⟩ (by simp) rfl); clear hev hev0 hd; go_wp2; exact sQ rfl
     ·intro xx af wv hbx hev hev0 hd; have e42 := (hev 8 _ 42 rfl rfl).trans (hd ⟨8, .data⟩ (by simp) rfl); clear hev hev0 hd; go_wp2; exact sQ rfl
     ·intro xx af wv hbx hev hev0 hd; have e43 := (hev 9 _ 43 rfl rfl).trans (hd ⟨9, .data⟩ (by simp) rfl); clear hev hev0 hd; go_wp2; exact sQ rfl
     ·intro xx af wv hbx hev hev0 hd
      have e44 := (hev 10 _ 44 rfl rfl).trans (hd ⟨10, .data⟩ (by simp) rfl)
      clear hev hev0 hd
      go_wp2_with fail
      refine (HTO.out _).mono ?_
      rintro e w8 ⟨rfl, hb8⟩
      go_wp2
      exact StepQ.mk _ hb8 rfl
     ·intro xx af wv hbx hev hev0 hd; have e1 : af.tmps[1]?.getD undef = .slice (some ⟨b, o, none⟩) ts.length c := hev0 1 rfl; clear hev hev0 hd; go_wp2; exact sQ rfl
     ·intro xx af wv hbx hev hev0 hd; have e7 : af.tmps[7]?.getD undef = .int .i64 (k : Nat) := hev0 7 rfl; clear hev hev0 hd; go_wp2; exact sQ rfl
     ·intro xx af wv hbx hev hev0 hd; have e46 := (hev 12 _ 46 rfl rfl).trans (hd ⟨12, .data⟩ (by simp) rfl); have e47 := (hev 13 _ 47 rfl rfl).trans (hd ⟨13, .data⟩ (by simp) rfl); clear hev hev0 hd; go_wp2; exact sQ rfl
     ·intro xx af wv hbx hev hev0 hd; have e48 := (hev 14 _ 48 rfl rfl).trans (hd ⟨14, .data⟩ (by simp) rfl); clear hev hev0 hd; go_wp2; exact sQ rfl
     ·intro xx af wv hbx hev hev0 hd; have e49 := (hev 15 _ 49 rfl rfl).trans (hd ⟨15, .data⟩ (by simp) rfl); clear hev hev0 hd; have hs1 := Lib.hid (HT.out.call hbx); have y0 := HXO.out _ hs1.out.below 2 _ rfl; go_wp2; exact sQ rfl
     ·intro xx af wv hbx hev hev0 hd; have e50 := (hev 16 _ 50 rfl rfl).trans (hd ⟨16, .data⟩ (by simp) rfl); clear hev hev0 hd; go_wp2; exact sQ rfl
     ·intro xx af wv hbx hev hev0 hd; have e51 := (hev 17 _ 51 rfl rfl).trans (hd ⟨17, .data⟩ (by simp) rfl); clear hev hev0 hd; go_wp2; exact sQ rfl
     ·intro xx af wv hbx hev hev0 hd
      have e52 := (hev 18 _ 52 rfl rfl).trans (hd ⟨18, .data⟩ (by simp) rfl)
      clear hev hev0 hd
      go_wp2_with fail
      refine (HK.out _).mono ?_
      rintro e w8 ⟨rfl, hb8⟩
      go_wp2
      exact StepQ.mk _ hb8 rfl
     ·intro xx af wv hbx hev hev0 hd; have e1 : af.tmps[1]?.getD undef = .slice (some ⟨b, o, none⟩) ts.length c := hev0 1 rfl; clear hev hev0 hd; go_wp2; exact sQ rfl
     ·intro xx af wv hbx hev hev0 hd; have e7 : af.tmps[7]?.getD undef = .int .i64 (k : Nat) := hev0 7 rfl; clear hev hev0 hd; go_wp2; exact sQ rfl
     ·intro xx af wv hbx hev hev0 hd; have e54 := (hev 20 _ 54 rfl rfl).trans (hd ⟨20, .data⟩ (by simp) rfl); have e55 := (hev 21 _ 55 rfl rfl).trans (hd ⟨21, .data⟩ (by simp) rfl); clear hev hev0 hd; go_wp2; exact sQ rfl
     ·intro xx af wv hbx hev hev0 hd; have e56 := (hev 22 _ 56 rfl rfl).trans (hd ⟨22, .data⟩ (by simp) rfl); clear hev hev0 hd; go_wp2; exact sQ rfl
     ·intro xx af wv hbx hev hev0 hd; have e57 := (hev 23 _ 57 rfl rfl).trans (hd ⟨23, .data⟩ (by simp) rfl); clear hev hev0 hd; have hs1 := Lib.hid (HT.out.call hbx); have y0 := HXO.out _ hs1.out.below 3 _ rfl; go_wp2; exact sQ rfl
     ·intro xx af wv hbx hev hev0 hd; have e58 := (hev 24 _ 58 rfl rfl).trans (hd ⟨24, .data⟩ (by simp) rfl); clear hev hev0 hd; go_wp2; exact sQ rfl
     ·intro xx af wv hbx hev hev0 hd; have e59 := (hev 25 _ 59 rfl rfl).trans (hd ⟨25, .data⟩ (by simp) rfl); clear hev hev0 hd; go_wp2; exact sQ rfl
     ·intro xx af wv hbx hev hev0 hd; have e34 := (hev 0 _ 34 rfl rfl).trans (hd ⟨0, .data⟩ (by simp) rfl); have e45 := (hev 11 _ 45 rfl rfl).trans (hd ⟨11, .data⟩ (by simp) rfl); have e53 := (hev 19 _ 53 rfl rfl).trans (hd ⟨19, .data⟩ (by simp) rfl); have e60 := (hev 26 _ 60 rfl rfl).trans (hd ⟨26, .data⟩ (by simp) rfl); clear hev hev0 hd; go_wp2; exact sQ rfl
     ·intro xx af wv hbx hev hev0 hd; clear hev hev0 hd; go_wp2; exact StepQ.mk _ (Ext.alloc (Below.refl _ _) _) ⟨_, rfl, hbx.size, Blk.new _ _ _⟩
     intro xx w4 hb9 hv
     obtain ⟨g4, hv28, hlg28, hB28⟩ := hv 28 (by decide)
     simp only [List.take, List.drop, fillA, Act.put]
     simp only [show xx 0 = _ from hv 0 (by decide), show xx 1 = _ from hv 1 (by decide), show xx 2 = _ from hv 2 (by decide), show xx 3 = _ from hv 3 (by decide), show xx 4 = _ from hv 4 (by decide), show xx 5 = _ from hv 5 (by decide), show xx 6 = _ from hv 6 (by decide), show xx 7 = _ from hv 7 (by decide), show xx 8 = _ from hv 8 (by decide), show xx 9 = _ from hv 9 (by decide), show xx 10 = _ from hv 10 (by decide), show xx 11 = _ from hv 11 (by decide), show xx 12 = _ from hv 12 (by decide), show xx 13 = _ from hv 13 (by decide), show xx 14 = _ from hv 14 (by decide), show xx 15 = _ from hv 15 (by decide), show xx 16 = _ from hv 16 (by decide), show xx 17 = _ from hv 17 (by decide), show xx 18 = _ from hv 18 (by decide), show xx 19 = _ from hv 19 (by decide), show xx 20 = _ from hv 20 (by decide), show xx 21 = _ from hv 21 (by decide), show xx 22 = _ from hv 22 (by decide), show xx 23 = _ from hv 23 (by decide), show xx 24 = _ from hv 24 (by decide), show xx 25 = _ from hv 25 (by decide), show xx 26 = _ from hv 26 (by decide), show xx 27 = _ from hv 27 (by decide), hv28]
     clear hv hv28
     have HT4 := Lib.hid (HT.out.fill hb9 hlg28 hB28)
     clear hlg28 hB28
     clear hb9 HT
     have HTM := HT4.out
     have HTM := Lib.hid HTM
     have HM := Lib.hid (St.merge HS.out HTM.out)
     simp only [List.cons_append, List.nil_append] at HM
     obtain ⟨x2, x3, x4, x5, x6, x7, x8, x9, x10, x11, x12⟩ := HM.out.kA 0 rfl rfl rfl rfl rfl rfl rfl rfl rfl rfl rfl rfl
     have x13 := HM.out.cell 1 rfl 3 rfl
     obtain ⟨x14, x15, x16, x17, x18, x19, x20, x21, x22, x23, x24⟩ := HM.out.fA 0 rfl
     have x25 := HM.out.ne 0 1 rfl rfl (by decide)
     have x26 := HM.out.ne 1 0 rfl rfl (by decide)
     have x27 := HM.out.ne 0 2 rfl rfl (by decide)
     have x28 := HM.out.ne 2 0 rfl rfl (by decide)
     have x29 := HM.out.lt 0 rfl
     have x30 : ¬ g4 = w4.heap.size := by omega
     have x31 : ¬ w4.heap.size = g4 := by omega
     have x32 := HM.out.lt 1 rfl
     have x33 : ¬ w3.heap.size = w4.heap.size := by omega
     have x34 : ¬ w4.heap.size = w3.heap.size := by omega
     have x35 : b < w4.heap.size := Nat.lt_of_lt_of_le hbb HM.out.below.size
     have x36 : ¬ b = w4.heap.size := by omega
     have x37 := HM.out.ge 0 rfl
     have x38 : ¬ g4 = b := by omega
     have x39 : ¬ b = g4 := by omega
     have x40 := HX.out _ HM.out.below 1 _ rfl
     have HM5 : Hid (St w [⟨w4.heap.size, #[.int .i64 (r0 + (1 + (t.a : Int) % 2)), .bool (negB (tq)), .string (bs (numB (tq))), .string (bs (denomB (tq))), .bool false, .string (bs []), .string (bs []), .bool (negB (kq)), .string (bs (numB (kq))), .string (bs (denomB (kq))), .bool aB], 59⟩, ⟨g4, #[.int .i64 (r0 + (1 + (t.a : Int) % 2)), .bool (negB (tq)), .string (bs (numB (tq))), .string (bs (denomB (tq))), .bool false, .string (bs []), .string (bs []), .bool (negB (kq)), .string (bs (numB (kq))), .string (bs (denomB (kq))), .bool aB], 59⟩, ⟨w3.heap.size, #[.bool (negB (q)), .string (bs (numB (q))), .string (bs (denomB (q))), .slice A1 k c1], 28⟩, ⟨w.heap.size, #[.bool false, .string (bs []), .string (bs []), .slice none 0 0], 28⟩] _) := Lib.hid (St.alloc ((St.put11 (HM.out) 0 rfl (.int .i64 (r0 + (1 + (t.a : Int) % 2))) (.bool (negB (tq))) (.string (bs (numB (tq)))) (.string (bs (denomB (tq)))) (.bool false) (.string (bs [])) (.string (bs [])) (.bool (negB (kq))) (.string (bs (numB (kq)))) (.string (bs (denomB (kq)))) (.bool aB))) #[.int .i64 (r0 + (1 + (t.a : Int) % 2)), .bool (negB (tq)), .string (bs (numB (tq))), .string (bs (denomB (tq))), .bool false, .string (bs []), .string (bs []), .bool (negB (kq)), .string (bs (numB (kq))), .string (bs (denomB (kq))), .bool aB] 59 (w4.heap.size) (by simp))
     have hsz := HM5.out.below.size
     have hS2 := HM5.out.sub (R' := [⟨w3.heap.size, #[.bool (negB (q)), .string (bs (numB (q))), .string (bs (denomB (q))), .slice A1 k c1], 28⟩, ⟨w.heap.size, #[.bool false, .string (bs []), .string (bs []), .slice none 0 0], 28⟩]) (by simp)
     have hblk := HM5.out.blk 0 rfl
     have hgr := HG.out.below ((St.alloc ((St.put11 (HTM.out) 0 rfl (.int .i64 (r0 + (1 + (t.a : Int) % 2))) (.bool (negB (tq))) (.string (bs (numB (tq)))) (.string (bs (denomB (tq)))) (.bool false) (.string (bs [])) (.string (bs [])) (.bool (negB (kq))) (.string (bs (numB (kq)))) (.string (bs (denomB (kq)))) (.bool aB))) #[.int .i64 (r0 + (1 + (t.a : Int) % 2)), .bool (negB (tq)), .string (bs (numB (tq))), .string (bs (denomB (tq))), .bool false, .string (bs []), .string (bs []), .bool (negB (kq)), .string (bs (numB (kq))), .string (bs (denomB (kq))), .bool aB] 59 (w4.heap.size) (by simp))).below
     have HS2 := Lib.hid hS2
     clear hS2
     have hbs2 : (w3.heap.size + 1) ≤ _ := HS2.out.lt 0 rfl
     go_wp2_with (at_builtin; refine wpList_push_at _ rfl _ _ 26 rfl (w3.heap.size + 1) 59 i0 _ 11 136 Tryz.underlying26 HI.out hz0 hz1 hz2 rfl (by decide) blc_len (.slice A1 k c1) k out (by simp [Act.eval]) hgr vb w4.heap.size _ hblk ?c1 (by simp [Act.eval]) (blc_cells _) (by unfold maxLen; omega) (by omega) hbs2 ?_)
     case c1 => exact HEN.out.symm
     intro v2 w2 hown2 hb2
     rw [← HBK.out] at hown2
     have HG2 : Hid (Grows w2 (w3.heap.size + 1) 59 11 v2 (k + 1) (flat Blc.enc (blocsK us (k + 1)))) := hown2
     obtain ⟨A2, c2, hv2, _, _⟩ := (HG2.out.blocs (blocsK_len us (k + 1))).slice
     rw [blocsK_len] at hv2
     subst hv2
     have HS9 := Lib.hid (HS2.out.keep hb2 (by omega) (by simp; omega))
     have hb9 : (w3.heap.size + 1) ≤ w2.heap.size := Nat.le_trans hbs2 hb2.size
     clear hown2 hblk hgr hb2 hbs2 HS2 HM5 HM HTM HS HG HBK
     have x41 := HS9.out.cell 0 rfl 3 rfl
     have x42 := HS9.out.frozen 0 rfl 3
     have x43 := HS9.out.ne 0 1 rfl rfl (by decide)
     have x44 := HS9.out.ne 1 0 rfl rfl (by decide)
     go_wp2
     have HS6 : Hid (St w [⟨w3.heap.size, #[.bool (negB (q)), .string (bs (numB (q))), .string (bs (denomB (q))), .slice A2 (k + 1) c2], 28⟩, ⟨w.heap.size, #[.bool false, .string (bs []), .string (bs []), .slice none 0 0], 28⟩] _) := Lib.hid (St.set (HS9.out) 0 rfl 3 (.slice A2 (k + 1) c2))
     go_roundw
     case rel => exact ⟨k + 1, A2, c2, by omega, by omega, by rw [HRS.out], by go_num, by simpa [size_set] using hb9, HG2.out.setFar (by show w3.heap.size < _; omega) _, HS6.out⟩
     case measure => simp [intOf]; omega
    ·have hfz := hf1 h3
     have hb3 : (((t.b : Int) % 3) != 0) = true := by rw [bne_iff_ne]; omega
     rw [hfz] at hF
     unfold rat raw at hF
     have HF := Lib.hid hF
     have HEN := Lib.hid hen
     clear hf0 hf1 hfz h3 hF hen
     have hwo9 := HS.out.below.size
     have HT := Lib.hid (St.start wo)
     have HXO := Lib.hid (fun w' (hb : Below wo.heap.size wo w') => HX.out w' (Ext.trans HS.out.below hb))
     have x1 := HXO.out _ HT.out.below 0 _ rfl
     rw [Nat.add_zero] at x1
     go_wp2
     clear x1
     refine wp_region_facts 29 [eQ (.int .i64 (r0 + (1 + (t.a : Int) % 2))), eQ (.slice (some ⟨b, o, none⟩) ts.length c), eQ (.int .i64 (k : Nat)), eQ (.pointer (some ⟨b, o + k * 4, none⟩)), eQ (.pointer (some ⟨b, o + k * 4, none⟩)), eQ (.int .u16 (t.a : Nat)), eQ (.int .u16 ((t.a : Int) / 2)), eQ (.int .u16 ((t.a : Int) / 2 % 3)), eQ (.int .i64 ((t.a : Int) / 2 % 3)), eQ (.int .i64 (1 + (t.a : Int) / 2 % 3)), eQ (.int .i64 (12 * (1 + (t.a : Int) / 2 % 3))), eQ (.agg #[.bool (negB (tq)), .string (bs (numB (tq))), .string (bs (denomB (tq)))]), eQ (.slice (some ⟨b, o, none⟩) ts.length c), eQ (.int .i64 (k : Nat)), eQ (.pointer (some ⟨b, o + k * 4, none⟩)), eQ (.pointer (some ⟨b, o + k * 4 + 2, none⟩)), eQ (.int .u16 (t.c : Nat)), eQ (.int .u16 ((t.c : Int) % 13)), eQ (.int .i64 ((t.c : Int) % 13)), eQ (.agg #[.bool (negB (kq)), .string (bs (numB (kq))), .string (bs (denomB (kq)))]), eQ (.slice (some ⟨b, o, none⟩) ts.length c), eQ (.int .i64 (k : Nat)), eQ (.pointer (some ⟨b, o + k * 4, none⟩)), eQ (.pointer (some ⟨b, o + k * 4 + 3, none⟩)), eQ (.int .u16 (t.d : Nat)), eQ (.int .u16 ((t.d : Int) % 5)), eQ (.bool aB), eQ (.agg #[.int .i64 (r0 + (1 + (t.a : Int) % 2)), .bool (negB (tq)), .string (bs (numB (tq))), .string (bs (denomB (tq))), .bool false, .string (bs []), .string (bs []), .bool (negB (kq)), .string (bs (numB (kq))), .string (bs (denomB (kq))), .bool aB]), fun ww vv => ∃ g, vv = .pointer (some ⟨g, 0, none⟩) ∧ wo.heap.size ≤ g ∧ Blk ww g #[.int .i64 0, .bool false, .string (bs []), .string (bs []), .bool false, .string (bs []), .string (bs []), .bool false, .string (bs []), .string (bs []), .bool false] 59] rfl (by kernel_rfl) (by kernel_rfl) (by kernel_rfl) ⟨stE, stE, stE, stE, stE, stE, stE, stE, stE, stE, stE, stE, stE, stE, stE, stE, stE, stE, stE, stE, stE, stE, stE, stE, stE, stE, stE, stE, fun _ _ _ ⟨g, e, hg, h⟩ hb => ⟨g, e, hg, h.below hb h.lt⟩, trivial⟩ ?_ ?_
     refine ⟨?_, ?_, ?_, ?_, ?_, ?_, ?_, ?_, ?_, ?_, ?_, ?_, ?_, ?_, ?_, ?_, ?_, ?_, ?_, ?_, ?_, ?_, ?_, ?_, ?_, ?_, ?_, ?_, ?_, trivial⟩
     ·intro xx af wv hbx hev hev0 hd; have e6 : af.tmps[6]?.getD undef = .int .i64 (r0 + (1 + (t.a : Int) % 2)) := hev0 6 rfl; clear hev hev0 hd; go_wp2; exact sQ rfl
     ·intro xx af wv hbx hev hev0 hd; have e1 : af.tmps[1]?.getD undef = .slice (some ⟨b, o, none⟩) ts.length c := hev0 1 rfl; clear hev hev0 hd; go_wp2; exact sQ rfl
     ·intro xx af wv hbx hev hev0 hd; have e7 : af.tmps[7]?.getD undef = .int .i64 (k : Nat) := hev0 7 rfl; clear hev hev0 hd; go_wp2; exact sQ rfl
     ·intro xx af wv hbx hev hev0 hd; have e35 := (hev 1 _ 35 rfl rfl).trans (hd ⟨1, .data⟩ (by simp) rfl); have e36 := (hev 2 _ 36 rfl rfl).trans (hd ⟨2, .data⟩ (by simp) rfl); clear hev hev0 hd; go_wp2; exact sQ rfl
     ·intro xx af wv hbx hev hev0 hd; have e37 := (hev 3 _ 37 rfl rfl).trans (hd ⟨3, .data⟩ (by simp) rfl); clear hev hev0 hd; go_wp2; exact sQ rfl
     ·intro xx af wv hbx hev hev0 hd; have e38 := (hev 4 _ 38 rfl rfl).trans (hd ⟨4, .data⟩ (by simp) rfl); clear hev hev0 hd; have hs1 := Lib.hid (HT.out.call hbx); have y0 := HXO.out _ hs1.out.below 0 _ rfl; rw [Nat.add_zero] at y0; go_wp2; exact sQ rfl
     ·intro xx af wv hbx hev hev0 hd; have e39 := (hev 5 _ 39 rfl rfl).trans (hd ⟨5, .data⟩ (by simp) rfl); clear hev hev0 hd; go_wp2; exact sQ rfl
     ·intro xx af wv hbx hev hev0 hd; have e40 := (hev 6 _ 40 rfl rfl).trans (hd ⟨6, .data⟩ (by simp) rfl); clear hev hev0 hd; go_wp2; exact sQ rfl
     ·intro xx af wv hbx hev hev0 hd; have e41 := (hev 7 _ 41 rfl rfl).trans (hd ⟨7, .data⟩ (by simp) rfl); clear hev hev0 hd; go_wp2; exact sQ rfl
     ·intro xx af wv hbx hev hev0 hd; have e42 := (hev 8 _ 42 rfl rfl).trans (hd ⟨8, .data⟩ (by simp) rfl); clear hev hev0 hd; go_wp2; exact sQ rfl
     ·intro xx af wv hbx hev hev0 hd; have e43 := (hev 9 _ 43 rfl rfl).trans (hd ⟨9, .data⟩ (by simp) rfl); clear hev hev0 hd; go_wp2; exact sQ rfl
     ·intro xx af wv hbx hev hev0 hd
      have e44 := (hev 10 _ 44 rfl rfl).trans (hd ⟨10, .data⟩ (by simp) rfl)
      clear hev hev0 hd
      go_wp2_with fail
      refine (HTO.out _).mono ?_
      rintro e w8 ⟨rfl, hb8⟩
      go_wp2
      exact StepQ.mk _ hb8 rfl
     ·intro xx af wv hbx hev hev0 hd; have e1 : af.tmps[1]?.getD undef = .slice (some ⟨b, o, none⟩) ts.length c := hev0 1 rfl; clear hev hev0 hd; go_wp2; exact sQ rfl
     ·intro xx af wv hbx hev hev0 hd; have e7 : af.tmps[7]?.getD undef = .int .i64 (k : Nat) := hev0 7 rfl; clear hev hev0 hd; go_wp2; exact sQ rfl
     ·intro xx af wv hbx hev hev0 hd; have e46 := (hev 12 _ 46 rfl rfl).trans (hd ⟨12, .data⟩ (by simp) rfl); have e47 := (hev 13 _ 47 rfl rfl).trans (hd ⟨13, .data⟩ (by simp) rfl); clear hev hev0 hd; go_wp2; exact sQ rfl
     ·intro xx af wv hbx hev hev0 hd; have e48 := (hev 14 _ 48 rfl rfl).trans (hd ⟨14, .data⟩ (by simp) rfl); clear hev hev0 hd; go_wp2; exact sQ rfl
     ·intro xx af wv hbx hev hev0 hd; have e49 := (hev 15 _ 49 rfl rfl).trans (hd ⟨15, .data⟩ (by simp) rfl); clear hev hev0 hd; have hs1 := Lib.hid (HT.out.call hbx); have y0 := HXO.out _ hs1.out.below 2 _ rfl; go_wp2; exact sQ rfl
     ·intro xx af wv hbx hev hev0 hd; have e50 := (hev 16 _ 50 rfl rfl).trans (hd ⟨16, .data⟩ (by simp) rfl); clear hev hev0 hd; go_wp2; exact sQ rfl
     ·intro xx af wv hbx hev hev0 hd; have e51 := (hev 17 _ 51 rfl rfl).trans (hd ⟨17, .data⟩ (by simp) rfl); clear hev hev0 hd; go_wp2; exact sQ rfl
     ·intro xx af wv hbx hev hev0 hd
      have e52 := (hev 18 _ 52 rfl rfl).trans (hd ⟨18, .data⟩ (by simp) rfl)
      clear hev hev0 hd
      go_wp2_with fail
      refine (HK.out _).mono ?_
      rintro e w8 ⟨rfl, hb8⟩
      go_wp2
      exact StepQ.mk _ hb8 rfl
     ·intro xx af wv hbx hev hev0 hd; have e1 : af.tmps[1]?.getD undef = .slice (some ⟨b, o, none⟩) ts.length c := hev0 1 rfl; clear hev hev0 hd; go_wp2; exact sQ rfl
     ·intro xx af wv hbx hev hev0 hd; have e7 : af.tmps[7]?.getD undef = .int .i64 (k : Nat) := hev0 7 rfl; clear hev hev0 hd; go_wp2; exact sQ rfl
     ·intro xx af wv hbx hev hev0 hd; have e54 := (hev 20 _ 54 rfl rfl).trans (hd ⟨20, .data⟩ (by simp) rfl); have e55 := (hev 21 _ 55 rfl rfl).trans (hd ⟨21, .data⟩ (by simp) rfl); clear hev hev0 hd; go_wp2; exact sQ rfl
     ·intro xx af wv hbx hev hev0 hd; have e56 := (hev 22 _ 56 rfl rfl).trans (hd ⟨22, .data⟩ (by simp) rfl); clear hev hev0 hd; go_wp2; exact sQ rfl
     ·intro xx af wv hbx hev hev0 hd; have e57 := (hev 23 _ 57 rfl rfl).trans (hd ⟨23, .data⟩ (by simp) rfl); clear hev hev0 hd; have hs1 := Lib.hid (HT.out.call hbx); have y0 := HXO.out _ hs1.out.below 3 _ rfl; go_wp2; exact sQ rfl
     ·intro xx af wv hbx hev hev0 hd; have e58 := (hev 24 _ 58 rfl rfl).trans (hd ⟨24, .data⟩ (by simp) rfl); clear hev hev0 hd; go_wp2; exact sQ rfl
     ·intro xx af wv hbx hev hev0 hd; have e59 := (hev 25 _ 59 rfl rfl).trans (hd ⟨25, .data⟩ (by simp) rfl); clear hev hev0 hd; go_wp2; exact sQ rfl
     ·intro xx af wv hbx hev hev0 hd; have e34 := (hev 0 _ 34 rfl rfl).trans (hd ⟨0, .data⟩ (by simp) rfl); have e45 := (hev 11 _ 45 rfl rfl).trans (hd ⟨11, .data⟩ (by simp) rfl); have e53 := (hev 19 _ 53 rfl rfl).trans (hd ⟨19, .data⟩ (by simp) rfl); have e60 := (hev 26 _ 60 rfl rfl).trans (hd ⟨26, .data⟩ (by simp) rfl); clear hev hev0 hd; go_wp2; exact sQ rfl
     ·intro xx af wv hbx hev hev0 hd; clear hev hev0 hd; go_wp2; exact StepQ.mk _ (Ext.alloc (Below.refl _ _) _) ⟨_, rfl, hbx.size, Blk.new _ _ _⟩
     intro xx w4 hb9 hv
     obtain ⟨g4, hv28, hlg28, hB28⟩ := hv 28 (by decide)
     simp only [List.take, List.drop, fillA, Act.put]
     simp only [show xx 0 = _ from hv 0 (by decide), show xx 1 = _ from hv 1 (by decide), show xx 2 = _ from hv 2 (by decide), show xx 3 = _ from hv 3 (by decide), show xx 4 = _ from hv 4 (by decide), show xx 5 = _ from hv 5 (by decide), show xx 6 = _ from hv 6 (by decide), show xx 7 = _ from hv 7 (by decide), show xx 8 = _ from hv 8 (by decide), show xx 9 = _ from hv 9 (by decide), show xx 10 = _ from hv 10 (by decide), show xx 11 = _ from hv 11 (by decide), show xx 12 = _ from hv 12 (by decide), show xx 13 = _ from hv 13 (by decide), show xx 14 = _ from hv 14 (by decide), show xx 15 = _ from hv 15 (by decide), show xx 16 = _ from hv 16 (by decide), show xx 17 = _ from hv 17 (by decide), show xx 18 = _ from hv 18 (by decide), show xx 19 = _ from hv 19 (by decide), show xx 20 = _ from hv 20 (by decide), show xx 21 = _ from hv 21 (by decide), show xx 22 = _ from hv 22 (by decide), show xx 23 = _ from hv 23 (by decide), show xx 24 = _ from hv 24 (by decide), show xx 25 = _ from hv 25 (by decide), show xx 26 = _ from hv 26 (by decide), show xx 27 = _ from hv 27 (by decide), hv28]
     clear hv hv28
     have HT4 := Lib.hid (HT.out.fill hb9 hlg28 hB28)
     clear hlg28 hB28
     clear hb9 HT
     obtain ⟨x2, x3, x4, x5, x6, x7, x8, x9, x10, x11, x12⟩ := HT4.out.kA 0 rfl rfl rfl rfl rfl rfl rfl rfl rfl rfl rfl rfl
     obtain ⟨x13, x14, x15, x16, x17, x18, x19, x20, x21, x22, x23⟩ := HT4.out.fA 0 rfl
     have x24 := HT4.out.ge 0 rfl
     have x25 : ¬ g4 = b := by omega
     have x26 : ¬ b = g4 := by omega
     have x27 := HXO.out _ HT4.out.below 1 _ rfl
     go_wp2_with fail
     have HT5 : Hid (St wo [⟨g4, #[.int .i64 (r0 + (1 + (t.a : Int) % 2)), .bool (negB (tq)), .string (bs (numB (tq))), .string (bs (denomB (tq))), .bool false, .string (bs []), .string (bs []), .bool (negB (kq)), .string (bs (numB (kq))), .string (bs (denomB (kq))), .bool aB], 59⟩] _) := Lib.hid (St.put11 (HT4.out) 0 rfl (.int .i64 (r0 + (1 + (t.a : Int) % 2))) (.bool (negB (tq))) (.string (bs (numB (tq)))) (.string (bs (denomB (tq)))) (.bool false) (.string (bs [])) (.string (bs [])) (.bool (negB (kq))) (.string (bs (numB (kq)))) (.string (bs (denomB (kq)))) (.bool aB))
     refine (HF.out _).mono ?_
     rintro e w6 ⟨rfl, hb6⟩
     have HT6 := Lib.hid (HT5.out.call hb6)
     clear hb6 HT4 HT5
     clear x2 x3 x4 x5 x6 x7 x8 x9 x10 x11 x12 x13 x14 x15 x16 x17 x18 x19 x20 x21 x22 x23 x24 x25 x26 x27
     have HTM := HT6.out
     have HTM := Lib.hid HTM
     have HM := Lib.hid (St.merge HS.out HTM.out)
     simp only [List.cons_append, List.nil_append] at HM
     obtain ⟨x28, x29, x30⟩ := HM.out.k4 0 rfl rfl rfl rfl
     have x31 := HM.out.cell 1 rfl 3 rfl
     obtain ⟨x32, x33, x34⟩ := HM.out.k0 0 rfl rfl rfl rfl
     have x35 := HM.out.cell 0 rfl 3 rfl
     obtain ⟨x36, x37, x38⟩ := HM.out.k7 0 rfl rfl rfl rfl
     have x39 := HM.out.cell 0 rfl 10 rfl
     obtain ⟨x40, x41, x42⟩ := HM.out.f4 0 rfl
     have x43 := HM.out.ne 0 1 rfl rfl (by decide)
     have x44 := HM.out.ne 1 0 rfl rfl (by decide)
     have x45 := HM.out.ne 0 2 rfl rfl (by decide)
     have x46 := HM.out.ne 2 0 rfl rfl (by decide)
     have x47 := HM.out.lt 0 rfl
     have x48 : ¬ g4 = w6.heap.size := by omega
     have x49 : ¬ w6.heap.size = g4 := by omega
     have x50 := HM.out.lt 1 rfl
     have x51 : ¬ w3.heap.size = w6.heap.size := by omega
     have x52 : ¬ w6.heap.size = w3.heap.size := by omega
     have HM7 : Hid (St w [⟨w6.heap.size, #[.int .i64 (r0 + (1 + (t.a : Int) % 2)), .bool (negB (tq)), .string (bs (numB (tq))), .string (bs (denomB (tq))), .bool (negB (fq)), .string (bs (numB (fq))), .string (bs (denomB (fq))), .bool (negB (kq)), .string (bs (numB (kq))), .string (bs (denomB (kq))), .bool aB], 59⟩, ⟨g4, #[.int .i64 (r0 + (1 + (t.a : Int) % 2)), .bool (negB (tq)), .string (bs (numB (tq))), .string (bs (denomB (tq))), .bool (negB (fq)), .string (bs (numB (fq))), .string (bs (denomB (fq))), .bool (negB (kq)), .string (bs (numB (kq))), .string (bs (denomB (kq))), .bool aB], 59⟩, ⟨w3.heap.size, #[.bool (negB (q)), .string (bs (numB (q))), .string (bs (denomB (q))), .slice A1 k c1], 28⟩, ⟨w.heap.size, #[.bool false, .string (bs []), .string (bs []), .slice none 0 0], 28⟩] _) := Lib.hid (St.alloc ((St.set ((St.set ((St.set (HM.out) 0 rfl 4 (.bool (negB (fq))))) 0 rfl 5 (.string (bs (numB (fq)))))) 0 rfl 6 (.string (bs (denomB (fq)))))) #[.int .i64 (r0 + (1 + (t.a : Int) % 2)), .bool (negB (tq)), .string (bs (numB (tq))), .string (bs (denomB (tq))), .bool (negB (fq)), .string (bs (numB (fq))), .string (bs (denomB (fq))), .bool (negB (kq)), .string (bs (numB (kq))), .string (bs (denomB (kq))), .bool aB] 59 (w6.heap.size) (by simp))
     have hsz := HM7.out.below.size
     have hS2 := HM7.out.sub (R' := [⟨w3.heap.size, #[.bool (negB (q)), .string (bs (numB (q))), .string (bs (denomB (q))), .slice A1 k c1], 28⟩, ⟨w.heap.size, #[.bool false, .string (bs []), .string (bs []), .slice none 0 0], 28⟩]) (by simp)
     have hblk := HM7.out.blk 0 rfl
     have hgr := HG.out.below ((St.alloc ((St.set ((St.set ((St.set (HTM.out) 0 rfl 4 (.bool (negB (fq))))) 0 rfl 5 (.string (bs (numB (fq)))))) 0 rfl 6 (.string (bs (denomB (fq)))))) #[.int .i64 (r0 + (1 + (t.a : Int) % 2)), .bool (negB (tq)), .string (bs (numB (tq))), .string (bs (denomB (tq))), .bool (negB (fq)), .string (bs (numB (fq))), .string (bs (denomB (fq))), .bool (negB (kq)), .string (bs (numB (kq))), .string (bs (denomB (kq))), .bool aB] 59 (w6.heap.size) (by simp))).below
     have HS2 := Lib.hid hS2
     clear hS2
     have hbs2 : (w3.heap.size + 1) ≤ _ := HS2.out.lt 0 rfl
     go_wp2_with (at_builtin; refine wpList_push_at _ rfl _ _ 26 rfl (w3.heap.size + 1) 59 i0 _ 11 136 Tryz.underlying26 HI.out hz0 hz1 hz2 rfl (by decide) blc_len (.slice A1 k c1) k out (by simp [Act.eval]) hgr vb w6.heap.size _ hblk ?c1 (by simp [Act.eval]) (blc_cells _) (by unfold maxLen; omega) (by omega) hbs2 ?_)
     case c1 => exact HEN.out.symm
     intro v2 w2 hown2 hb2
     rw [← HBK.out] at hown2
     have HG2 : Hid (Grows w2 (w3.heap.size + 1) 59 11 v2 (k + 1) (flat Blc.enc (blocsK us (k + 1)))) := hown2
     obtain ⟨A2, c2, hv2, _, _⟩ := (HG2.out.blocs (blocsK_len us (k + 1))).slice
     rw [blocsK_len] at hv2
     subst hv2
     have HS9 := Lib.hid (HS2.out.keep hb2 (by omega) (by simp; omega))
     have hb9 : (w3.heap.size + 1) ≤ w2.heap.size := Nat.le_trans hbs2 hb2.size
     clear hown2 hblk hgr hb2 hbs2 HS2 HM7 HM HTM HS HG HBK
     have x53 := HS9.out.cell 0 rfl 3 rfl
     have x54 := HS9.out.frozen 0 rfl 3
     have x55 := HS9.out.ne 0 1 rfl rfl (by decide)
     have x56 := HS9.out.ne 1 0 rfl rfl (by decide)
     go_wp2
     have HS8 : Hid (St w [⟨w3.heap.size, #[.bool (negB (q)), .string (bs (numB (q))), .string (bs (denomB (q))), .slice A2 (k + 1) c2], 28⟩, ⟨w.heap.size, #[.bool false, .string (bs []), .string (bs []), .slice none 0 0], 28⟩] _) := Lib.hid (St.set (HS9.out) 0 rfl 3 (.slice A2 (k + 1) c2))
     go_roundw
     case rel => exact ⟨k + 1, A2, c2, by omega, by omega, by rw [HRS.out], by go_num, by simpa [size_set] using hb9, HG2.out.setFar (by show w3.heap.size < _; omega) _, HS8.out⟩
     case measure => simp [intOf]; omega
   ·obtain rfl : k = 3 := by omega
    have e9 : decide ((3 : Int) < (ts.length : Int)) = true := decide_eq_true (by omega)
    have hul : us.length = 3 := by rw [HUS.out]; omega
    have HR : Hid (bo = blocsK us 3) := by show _ = _; rw [HBO.out, hul]
    have HL := Lib.hid (blocsK_len us 3)
    clear hul
    obtain ⟨x1, x2, x3⟩ := HS.out.k0 0 rfl rfl rfl rfl
    have x4 := HS.out.cell 0 rfl 3 rfl
    obtain ⟨x5, x6, x7⟩ := HS.out.k0 1 rfl rfl rfl rfl
    have x8 := HS.out.cell 1 rfl 3 rfl
    obtain ⟨x9, x10, x11⟩ := HS.out.f0 1 rfl
    have x12 := HS.out.frozen 1 rfl 3
    have x13 := HS.out.ne 1 0 rfl rfl (by decide)
    have x14 := HS.out.ne 0 1 rfl rfl (by decide)
    go_wp2
    have HS4 : Hid (St w [⟨w3.heap.size, #[.bool (negB (q)), .string (bs (numB (q))), .string (bs (denomB (q))), .slice A1 3 c1], 28⟩, ⟨w.heap.size, #[.bool (negB (q)), .string (bs (numB (q))), .string (bs (denomB (q))), .slice A1 3 c1], 28⟩] _) := Lib.hid (St.set ((St.set ((St.set ((St.set (HS.out) 1 rfl 0 _)) 1 rfl 1 _)) 1 rfl 2 _)) 1 rfl 3 _)
    refine bodyPost_ret (ven_result rfl _ _ _ rfl (HS4.out.blk 1 rfl)) rfl ?_
    rw [HR.out, HL.out]
    refine ⟨A1, c1, rfl, ?_, HS4.out.below⟩
    refine (Grows.setFar (Grows.setFar (Grows.setFar (Grows.setFar HG.out ?_ _) ?_ _) ?_ _) ?_ _).base ?_ <;> first | (show w.heap.size < _; omega) | omega
  ·obtain rfl : k = ts.length := by omega
   have hul : us.length = ts.length := by rw [HUS.out]; omega
   have HR : Hid (bo = blocsK us ts.length) := by show _ = _; rw [HBO.out, hul]
   have HL := Lib.hid (blocsK_len us ts.length)
   clear hul
   obtain ⟨x1, x2, x3⟩ := HS.out.k0 0 rfl rfl rfl rfl
   have x4 := HS.out.cell 0 rfl 3 rfl
   obtain ⟨x5, x6, x7⟩ := HS.out.k0 1 rfl rfl rfl rfl
   have x8 := HS.out.cell 1 rfl 3 rfl
   obtain ⟨x9, x10, x11⟩ := HS.out.f0 1 rfl
   have x12 := HS.out.frozen 1 rfl 3
   have x13 := HS.out.ne 1 0 rfl rfl (by decide)
   have x14 := HS.out.ne 0 1 rfl rfl (by decide)
   go_wp2
   have HS4 : Hid (St w [⟨w3.heap.size, #[.bool (negB (q)), .string (bs (numB (q))), .string (bs (denomB (q))), .slice A1 ts.length c1], 28⟩, ⟨w.heap.size, #[.bool (negB (q)), .string (bs (numB (q))), .string (bs (denomB (q))), .slice A1 ts.length c1], 28⟩] _) := Lib.hid (St.set ((St.set ((St.set ((St.set (HS.out) 1 rfl 0 _)) 1 rfl 1 _)) 1 rfl 2 _)) 1 rfl 3 _)
   refine bodyPost_ret (ven_result rfl _ _ _ rfl (HS4.out.blk 1 rfl)) rfl ?_
   rw [HR.out, HL.out]
   refine ⟨A1, c1, rfl, ?_, HS4.out.below⟩
   refine (Grows.setFar (Grows.setFar (Grows.setFar (Grows.setFar HG.out ?_ _) ?_ _) ?_ _) ?_ _).base ?_ <;> first | (show w.heap.size < _; omega) | omega
end Go.Proofs.YtcllocdhbicpkaaGreatDoor
