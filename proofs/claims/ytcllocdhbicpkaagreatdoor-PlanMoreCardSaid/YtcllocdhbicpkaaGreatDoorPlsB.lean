/-
The laws' rates, the tests of shortness, equality of lists of numbers (printed by gen_pln11.py).
-/
import Derived.Test.YtcllocdhbicpkaaGreatDoorPlsA
namespace Go.Proofs.YtcllocdhbicpkaaGreatDoor
open Go.RowKit

theorem rtr_cells (v : Rtr) : ∀ u ∈ v.enc, u.oneCell' = true := by
 intro u hu
 unfold Rtr.enc at hu
 simp only [List.mem_cons, List.mem_nil_iff, or_false] at hu
 rcases hu with rfl | rfl | rfl <;> rfl
theorem info_rat40 : (Tryz.prog.info? 25).map (fun i => (i.zero, i.size, i.bytes)) = some (some (.agg #[.bool false, .string ⟨#[]⟩, .string ⟨#[]⟩]), 3, 40) := by kernel_rfl
abbrev U16L (w : World) (v : Value) (ws : List Nat) : Prop := Slc w16 1 w v ws
theorem Grows.rats {w : World} {B n : Nat} {v : Value} {l : List Rtr} (h : Grows w B 25 3 v n (flat Rtr.enc l)) (hn : l.length = n) : RatsL w v l := Slc.of_own rtr_len h hn
theorem ratesW_go (ws : List Nat) (k : Nat) : (ratesW ws (k + 1)).map rtrOf = (ratesW ws k).map rtrOf ++ [rtrOf (rateW ws k)] := by rw [ratesW_succ, List.map_append]; rfl
theorem rateW_at {ws : List Nat} {k u : Nat} (h : ws[k]? = some u) : rateW ws k = mkRat ((u : Int) % 13) 12 := by unfold rateW; rw [List.getD_eq_getElem?_getD, h]; rfl
theorem rateW_none {ws : List Nat} {k : Nat} (h : ¬ k < ws.length) : rateW ws k = mkRat 0 12 := by unfold rateW; rw [List.getD_eq_getElem?_getD, List.getElem?_eq_none (by omega)]; rfl
theorem rtrOf_enc (q : Rat) : (rtrOf q).enc = [.bool (negB q), .string (bs (numB q)), .string (bs (denomB q))] := rfl
set_option maxRecDepth 100000 in
theorem rat_neq (n1 n2 : Bool) (a1 a2 b1 b2 : List UInt8) (ha1 : a1.length ≤ 1099511627776) (hb1 : b1.length ≤ 1099511627776) (ha2 : a2.length ≤ 1099511627776) (hb2 : b2.length ≤ 1099511627776) (y : Bool)
  (hy : decide (n1 = n2 ∧ a1 = a2 ∧ b1 = b2) = y) (w : World) :
  (binOp .neq 25 (raw n1 a1 b1) (raw n2 a2 b2)).run Tryz.prog w = .ok (.bool (!y)) w := by
 have k1 := rat_key n1 a1 b1 ha1 hb1
 have k2 := rat_key n2 a2 b2 ha2 hb2
 obtain ⟨r, hr, hiff⟩ := run_equal_deep w (m := 3) (by decide) rat_deep rat_wide k1 k2
 have hry : r = y := by
  rw [← hy, Bool.eq_iff_iff, hiff, decide_eq_true_eq]
  constructor
  ·intro e
   rw [e] at k1
   exact raw_inj (rat_keyed.inj k1 k2)
  ·rintro ⟨rfl, rfl, rfl⟩; rfl
 subst hry
 unfold raw at hr ⊢
 simp only [binOp]
 simp [hr, Result.andThen]

set_option maxRecDepth 100000 in
set_option maxHeartbeats 2000000 in
theorem law0_Rates (v : Value) (ws : List Nat) (n : Nat) (w : World) (h : U16L w v ws) (hok : ∀ x ∈ ws, W16ok x) (hn : n ≤ 1000) :
  Calls Tryz.prog 16 #[v, .int .i64 (n : Nat)] w fun e w' => ∃ v', e = .returned v' ∧ RatsL w' v' ((ratesW ws n).map rtrOf) ∧ Below w.heap.size w w' := by
 obtain ⟨i0, hi0, hz0, hz1, hz2⟩ := info_parts info_rat40
 have HI := Lib.hid hi0
 have H := Lib.hid h
 have HOK := Lib.hid hok
 obtain ⟨A, c, rfl, hl, hc⟩ := h.slice
 clear h hok hi0
 go_enter Tryz.func16, Tryz.ntmps16
 have HS := Lib.hid (St.start w)
 go_wp2
 go_loopw [5, 6] (fun l i wr => ∃ k : Nat, k ≤ n ∧ i = .int .i64 k ∧ Hid (Grows wr w.heap.size 25 3 l k (flat Rtr.enc ((ratesW ws k).map rtrOf))) ∧ Hid (St w [] wr)) (fun _ i _ => n - (intOf i).toNat)
 case atStart => exact ⟨0, Nat.zero_le _, rfl, ⟨rfl, .inl ⟨rfl, rfl⟩⟩, HS.out⟩
 case round =>
  obtain ⟨k, hk, rfl, HG, HS⟩ := hrel
  obtain ⟨wo, hwo⟩ : ∃ wo : World, wo = wr := ⟨_, rfl⟩
  subst hwo
  by_cases hlt : k < n
  ·have hgo := ratesW_go ws k
   have HLN := Lib.hid (show ((ratesW ws k).map rtrOf).length = k by rw [List.length_map, ratesW_len])
   have f7 : (0 : Int) ≤ ((k : Nat) : Int) := by omega
   have f6 : ((k : Nat) : Int) < (n : Int) := by omega
   have f9 : decide (((k : Nat) : Int) < (n : Int)) = true := decide_eq_true f6
   by_cases hw : k < ws.length
   ·obtain ⟨b, o, u, rfl, hbb, ht, hx⟩ := H.out.at_ hw
    have hu := HOK.out u (List.mem_of_getElem? ht)
    unfold W16ok at hu
    have g9 : decide (((k : Nat) : Int) < (ws.length : Int)) = true := decide_eq_true (by omega)
    have g6 : ((k : Nat) : Int) < (ws.length : Int) := by omega
    have hR := fun W => law0_Ratio ((u : Int) % 13) 12 W (by omega) (by omega) (by decide) (by decide)
    rw [show (12 : Int).toNat = 12 from rfl, ← rateW_at ht] at hR
    have e1 : Int.tmod (u : Int) 13 = (u : Int) % 13 := Int.tmod_eq_emod_of_nonneg (by omega)
    have e2 : IntKind.u16.wrap ((u : Int) % 13) = (u : Int) % 13 := by rw [IntKind.wrap_u16]; omega
    have e3 : IntKind.i64.wrap ((u : Int) % 13) = (u : Int) % 13 := IntWalk.i64_in _ (by omega)
    have HX : Hid (∀ w', Below w.heap.size w w' → ∀ i v, (w16 u)[i]? = some v → w'.cell? ⟨b, o + k + i, none⟩ = some v) := by
     show ∀ w', _
     intro w' hb i v hv
     have := hx w' hb i v hv
     rwa [Nat.mul_one] at this
    have hen := rtrOf_enc (rateW ws k)
    generalize rtrOf (rateW ws k) = y at *
    generalize rateW ws k = q at *
    generalize (ratesW ws k).map rtrOf = out at *
    unfold rat raw at hR
    have HR := Lib.hid hR
    have HEN := Lib.hid hen
    have HGO := Lib.hid hgo
    clear hR hx ht hen hgo hu
    have x1 := HX.out _ HS.out.below 0 _ rfl
    rw [Nat.add_zero] at x1
    go_wp2_with fail
    refine (HR.out _).mono ?_
    rintro e w2 ⟨rfl, hb2⟩
    have HS2 := Lib.hid (HS.out.call hb2)
    have HG_2 := Lib.hid (HG.out.below hb2)
    clear HG
    clear hb2 HS
    clear x1
    have HS3 := Lib.hid (St.alloc (HS2.out) #[.bool (negB (q)), .string (bs (numB (q))), .string (bs (denomB (q)))] 25 (w2.heap.size) (by simp))
    have hsz := HS3.out.below.size
    have HB9 := Lib.hid HS3.out.below
    have hblk := HS3.out.blk 0 rfl
    have hgr : World.ownsRow _ w.heap.size 25 3 u5 k (flat Rtr.enc out) := (HG_2.out.below (Ext.alloc (Below.refl w2.heap.size w2) (Obj.cells #[.bool (negB (q)), .string (bs (numB (q))), .string (bs (denomB (q)))] 25)))
    go_wp2_with (at_builtin; refine wpList_push_at _ rfl _ _ 37 rfl w.heap.size 25 i0 _ 3 40 Tryz.underlying37 HI.out hz0 hz1 hz2 rfl (by decide) rtr_len u5 k out (by simp [Act.eval]) hgr y w2.heap.size _ hblk ?c1 (by simp [Act.eval]) (rtr_cells _) (by unfold maxLen; omega) (by omega) hsz ?_)
    case c1 => exact HEN.out.symm
    intro v2 w2 hown2 hb2
    rw [← HGO.out] at hown2
    have HG2 := Lib.hid hown2
    have HS9 := Lib.hid (St.of (HB9.out.trans hb2))
    go_wp2
    go_roundw
    case rel => exact ⟨k + 1, by omega, by go_num, HG2.out, HS9.out⟩
    case measure => simp [intOf]; omega
   ·have g9 : decide (((k : Nat) : Int) < (ws.length : Int)) = false := decide_eq_false (by omega)
    have hR := fun W => law0_Ratio 0 12 W (by decide) (by decide) (by decide) (by decide)
    rw [show (12 : Int).toNat = 12 from rfl, ← rateW_none hw] at hR
    have hen := rtrOf_enc (rateW ws k)
    generalize rtrOf (rateW ws k) = y at *
    generalize rateW ws k = q at *
    generalize (ratesW ws k).map rtrOf = out at *
    unfold rat raw at hR
    have HR := Lib.hid hR
    have HEN := Lib.hid hen
    have HGO := Lib.hid hgo
    clear hR hen hgo
    go_wp2_with fail
    refine (HR.out _).mono ?_
    rintro e w2 ⟨rfl, hb2⟩
    have HS2 := Lib.hid (HS.out.call hb2)
    have HG_2 := Lib.hid (HG.out.below hb2)
    clear HG
    clear hb2 HS
    have HS3 := Lib.hid (St.alloc (HS2.out) #[.bool (negB (q)), .string (bs (numB (q))), .string (bs (denomB (q)))] 25 (w2.heap.size) (by simp))
    have hsz := HS3.out.below.size
    have HB9 := Lib.hid HS3.out.below
    have hblk := HS3.out.blk 0 rfl
    have hgr : World.ownsRow _ w.heap.size 25 3 u5 k (flat Rtr.enc out) := (HG_2.out.below (Ext.alloc (Below.refl w2.heap.size w2) (Obj.cells #[.bool (negB (q)), .string (bs (numB (q))), .string (bs (denomB (q)))] 25)))
    go_wp2_with (at_builtin; refine wpList_push_at _ rfl _ _ 37 rfl w.heap.size 25 i0 _ 3 40 Tryz.underlying37 HI.out hz0 hz1 hz2 rfl (by decide) rtr_len u5 k out (by simp [Act.eval]) hgr y w2.heap.size _ hblk ?c1 (by simp [Act.eval]) (rtr_cells _) (by unfold maxLen; omega) (by omega) hsz ?_)
    case c1 => exact HEN.out.symm
    intro v2 w2 hown2 hb2
    rw [← HGO.out] at hown2
    have HG2 := Lib.hid hown2
    have HS9 := Lib.hid (St.of (HB9.out.trans hb2))
    go_wp2
    go_roundw
    case rel => exact ⟨k + 1, by omega, by go_num, HG2.out, HS9.out⟩
    case measure => simp [intOf]; omega
  ·obtain rfl : k = n := by omega
   go_wp2
   go_ret
   exact ⟨_, rfl, HG.out.rats (by rw [List.length_map, ratesW_len]), HS.out.below⟩

set_option maxRecDepth 100000 in
set_option maxHeartbeats 1000000 in
theorem law0_FewRats (v : Value) (rs : List Rtr) (n : Nat) (w : World) (h : RatsL w v rs) (hn : n ≤ 1000) :
  Calls Tryz.prog 15 #[v, .int .i64 (n : Nat)] w fun e w' => e = .returned (.bool (fewT rs n)) ∧ Below w.heap.size w w' := by
 have H := Lib.hid h
 obtain ⟨A, c, rfl, hl, hc⟩ := h.slice
 clear h
 by_cases hlen : n < rs.length
 ·have hd : decide ((n : Int) < (rs.length : Int)) = true := decide_eq_true (by omega)
  have HR : Hid (fewT rs n = false) := by show _ = _; unfold fewT; rw [decide_eq_false (by omega)]; rfl
  go_enter Tryz.func15, Tryz.ntmps15
  have HS := Lib.hid (St.start w)
  go_wp2
  go_ret
  have HS2 := Lib.hid HS.out
  rw [HR.out]
  exact ⟨rfl, HS2.out.below⟩
 ·have hd : decide ((n : Int) < (rs.length : Int)) = false := decide_eq_false (by omega)
  go_enter Tryz.func15, Tryz.ntmps15
  have HS := Lib.hid (St.start w)
  go_wp2
  go_loopw [13] (fun i wr => ∃ k : Nat, k ≤ rs.length ∧ i = .int .i64 k ∧ Hid ((rs.take k).all (fun t => fewR t.a t.b) = true) ∧ Hid (St w [] wr)) (fun i _ => rs.length - (intOf i).toNat)
  case atStart => exact ⟨0, Nat.zero_le _, rfl, rfl, HS.out⟩
  case round =>
   obtain ⟨k, hk, rfl, hck, HS⟩ := hrel
   by_cases hlt : k < rs.length
   ·obtain ⟨b, o, t, rfl, hbb, hq, hx⟩ := H.out.at_ hlt
    have HX := Lib.hid hx
    have HTA := Lib.hid (take_all (f := fun t : Rtr => fewR t.a t.b) hq)
    have HIN := Lib.hid (List.mem_of_getElem? hq)
    have hF := fun W => law0_Few t.n t.a t.b W
    obtain ⟨fB, hfB⟩ : ∃ x, x = fewR t.a t.b := ⟨_, rfl⟩
    rw [← hfB] at hF
    have HFB := Lib.hid hfB.symm
    unfold raw at hF
    have HF := Lib.hid hF
    have e0 : (0 : Int) ≤ ((k : Nat) : Int) := by omega
    have e1 : ((k : Nat) : Int) < (rs.length : Int) := by omega
    clear hx hq hF hfB
    cases fB
    ·have x1 : b < wr.heap.size := Nat.lt_of_lt_of_le hbb HS.out.below.size
     have x2 : ¬ b = wr.heap.size := by omega
     obtain ⟨x3, x4, x5⟩ := kE0 (HX.out _ HS.out.below) rfl rfl rfl
     go_wp2_with fail
     have HS2 := Lib.hid (St.alloc (HS.out) #[.bool t.n, .string (bs t.a), .string (bs t.b)] 25 (wr.heap.size) (by simp))
     refine (HF.out _).mono ?_
     rintro e w3 ⟨rfl, hb3⟩
     have HS3 := Lib.hid (HS2.out.call hb3)
     clear hb3 HS HS2
     clear x1 x2 x3 x4 x5
     go_wp2
     go_ret
     have HS4 := Lib.hid HS3.out
     have HR : fewT rs n = false := by
      unfold fewT; rw [Bool.and_eq_false_iff]; right; rw [List.all_eq_false]; exact ⟨t, HIN.out, by rw [HFB.out]; decide⟩
     rw [HR]
     exact ⟨rfl, HS4.out.below⟩
    ·have x1 : b < wr.heap.size := Nat.lt_of_lt_of_le hbb HS.out.below.size
     have x2 : ¬ b = wr.heap.size := by omega
     obtain ⟨x3, x4, x5⟩ := kE0 (HX.out _ HS.out.below) rfl rfl rfl
     go_wp2_with fail
     have HS2 := Lib.hid (St.alloc (HS.out) #[.bool t.n, .string (bs t.a), .string (bs t.b)] 25 (wr.heap.size) (by simp))
     refine (HF.out _).mono ?_
     rintro e w3 ⟨rfl, hb3⟩
     have HS3 := Lib.hid (HS2.out.call hb3)
     clear hb3 HS HS2
     clear x1 x2 x3 x4 x5
     go_wp2
     have HS4 := Lib.hid HS3.out
     go_roundw
     case rel => exact ⟨k + 1, by omega, by go_num, by show _ = _; rw [HTA.out, hck.out, HFB.out]; rfl, HS4.out.sub (List.nil_sublist _)⟩
     case measure => simp [intOf]; omega
   ·obtain rfl : k = rs.length := by omega
    go_wp2
    go_ret
    have HS2 := Lib.hid HS.out
    have HR : fewT rs n = true := by
     have := hck.out
     rw [List.take_length] at this
     unfold fewT; rw [this, decide_eq_true (by omega)]; rfl
    rw [HR]
    exact ⟨rfl, HS2.out.below⟩

set_option maxRecDepth 100000 in
set_option maxHeartbeats 2000000 in
theorem law32_few (vn : Bool) (va vb : List UInt8) (v : Value) (l : List Blc) (w : World) (h : BlocsL w v l) :
  Calls Tryz.prog 10 #[.agg #[.bool vn, .string (bs va), .string (bs vb), v]] w fun e w' => e = .returned (.bool (fewVn va vb l)) ∧ Below w.heap.size w w' := by
 have H := Lib.hid h
 obtain ⟨A, c, rfl, hl, hc⟩ := h.slice
 have hV := fun W => law0_Few vn va vb W
 have hdef : fewVn va vb l = (decide (l.length ≤ 20) && (fewR va vb && l.all fewBl)) := rfl
 obtain ⟨vB, hvB⟩ : ∃ x, x = fewR va vb := ⟨_, rfl⟩
 rw [← hvB] at hV hdef
 unfold raw at hV
 have HV := Lib.hid hV
 clear h hV hvB
 generalize fewVn va vb l = ans at *
 by_cases hlen : 20 < l.length
 ·have hd : decide ((20 : Int) < (l.length : Int)) = true := decide_eq_true (by omega)
  have HR : Hid (ans = false) := by show _ = _; rw [hdef, decide_eq_false (by omega)]; rfl
  clear hdef
  go_enter Tryz.func10, Tryz.ntmps10
  have HS := Lib.hid (St.start w)
  go_wp2
  go_ret
  have HS2 := Lib.hid (St.alloc (HS.out) #[.bool vn, .string (bs va), .string (bs vb), .slice A l.length c] 28 (w.heap.size) (by simp))
  rw [HR.out]
  exact ⟨rfl, HS2.out.below⟩
 ·have hd : decide ((20 : Int) < (l.length : Int)) = false := decide_eq_false (by omega)
  rw [decide_eq_true (by omega), Bool.true_and] at hdef
  cases vB
  ·have HR : Hid (ans = false) := hdef
   clear hdef
   go_enter Tryz.func10, Tryz.ntmps10
   have HS := Lib.hid (St.start w)
   go_wp2_with fail
   have HS2 := Lib.hid (St.alloc (HS.out) #[.bool vn, .string (bs va), .string (bs vb), .slice A l.length c] 28 (w.heap.size) (by simp))
   refine (HV.out _).mono ?_
   rintro e w3 ⟨rfl, hb3⟩
   have HS3 := Lib.hid (HS2.out.call hb3)
   clear hb3 HS HS2
   go_wp2
   go_ret
   have HS4 := Lib.hid HS3.out
   rw [HR.out]
   exact ⟨rfl, HS4.out.below⟩
  ·have HD : Hid (ans = l.all fewBl) := hdef
   clear hdef
   go_enter Tryz.func10, Tryz.ntmps10
   have HS := Lib.hid (St.start w)
   go_wp2_with fail
   have HS2 := Lib.hid (St.alloc (HS.out) #[.bool vn, .string (bs va), .string (bs vb), .slice A l.length c] 28 (w.heap.size) (by simp))
   refine (HV.out _).mono ?_
   rintro e w3 ⟨rfl, hb3⟩
   have HS3 := Lib.hid (HS2.out.call hb3)
   clear hb3 HS HS2
   go_wp2
   go_loopw [3] (fun i wr => ∃ k : Nat, k ≤ l.length ∧ i = .int .i64 k ∧ Hid ((l.take k).all fewBl = true) ∧ Hid (St w [⟨w.heap.size, #[.bool vn, .string (bs va), .string (bs vb), .slice A l.length c], 28⟩] wr)) (fun i _ => l.length - (intOf i).toNat)
   case atStart => exact ⟨0, Nat.zero_le _, rfl, rfl, HS3.out⟩
   case round =>
    obtain ⟨k, hk, rfl, hck, HS⟩ := hrel
    by_cases hlt : k < l.length
    ·obtain ⟨b, o, u, rfl, hbb, hq, hx⟩ := H.out.at_ hlt
     have HX := Lib.hid hx
     have HTA := Lib.hid (take_all (f := fewBl) hq)
     have HIN := Lib.hid (List.mem_of_getElem? hq)
     have hF := fun W => law0_Few u.tn u.ta u.tb W
     have hG := fun W => law0_Few u.fn u.fa u.fb W
     have hK := fun W => law0_Few u.kn u.ka u.kb W
     obtain ⟨fB, hfB⟩ : ∃ x, x = fewR u.ta u.tb := ⟨_, rfl⟩
     obtain ⟨gB, hgB⟩ : ∃ x, x = fewR u.fa u.fb := ⟨_, rfl⟩
     obtain ⟨kB, hkB⟩ : ∃ x, x = fewR u.ka u.kb := ⟨_, rfl⟩
     rw [← hfB] at hF
     rw [← hgB] at hG
     rw [← hkB] at hK
     have HFB : Hid (fewBl u = (fB && (gB && kB))) := by show _ = _; rw [hfB, hgB, hkB]; rfl
     unfold raw at hF hG hK
     have HF := Lib.hid hF
     have HG := Lib.hid hG
     have HK := Lib.hid hK
     have e0 : (0 : Int) ≤ ((k : Nat) : Int) := by omega
     have e1 : ((k : Nat) : Int) < (l.length : Int) := by omega
     clear hx hq hF hG hK hfB hgB hkB
     cases fB
     ·have x1 := HS.out.cell 0 rfl 3 rfl
      have x2 := HS.out.lt 0 rfl
      have x3 : ¬ w.heap.size = wr.heap.size := by omega
      have x4 : ¬ wr.heap.size = w.heap.size := by omega
      have x5 : b < wr.heap.size := Nat.lt_of_lt_of_le hbb HS.out.below.size
      have x6 : ¬ b = wr.heap.size := by omega
      obtain ⟨x7, x8, x9, x10, x11, x12, x13, x14, x15, x16, x17⟩ := kE (HX.out _ HS.out.below) rfl rfl rfl rfl rfl rfl rfl rfl rfl rfl rfl
      go_wp2_with fail
      have HS4 := Lib.hid (St.alloc (HS.out) #[.int .i64 u.rank, .bool u.tn, .string (bs u.ta), .string (bs u.tb), .bool u.fn, .string (bs u.fa), .string (bs u.fb), .bool u.kn, .string (bs u.ka), .string (bs u.kb), .bool u.acc] 59 (wr.heap.size) (by simp))
      refine (HF.out _).mono ?_
      rintro e w5 ⟨rfl, hb5⟩
      have HS5 := Lib.hid (HS4.out.call hb5)
      clear hb5 HS HS4
      clear x1 x2 x3 x4 x5 x6 x7 x8 x9 x10 x11 x12 x13 x14 x15 x16 x17
      go_wp2
      go_ret
      have HS6 := Lib.hid HS5.out
      have HR : ans = false := by
       rw [HD.out, List.all_eq_false]; exact ⟨u, HIN.out, by rw [HFB.out]; simp⟩
      rw [HR]
      exact ⟨rfl, HS6.out.below⟩
     ·cases gB
      ·have x1 := HS.out.cell 0 rfl 3 rfl
       have x2 := HS.out.lt 0 rfl
       have x3 : ¬ w.heap.size = wr.heap.size := by omega
       have x4 : ¬ wr.heap.size = w.heap.size := by omega
       have x5 : b < wr.heap.size := Nat.lt_of_lt_of_le hbb HS.out.below.size
       have x6 : ¬ b = wr.heap.size := by omega
       obtain ⟨x7, x8, x9, x10, x11, x12, x13, x14, x15, x16, x17⟩ := kE (HX.out _ HS.out.below) rfl rfl rfl rfl rfl rfl rfl rfl rfl rfl rfl
       go_wp2_with fail
       have HS4 := Lib.hid (St.alloc (HS.out) #[.int .i64 u.rank, .bool u.tn, .string (bs u.ta), .string (bs u.tb), .bool u.fn, .string (bs u.fa), .string (bs u.fb), .bool u.kn, .string (bs u.ka), .string (bs u.kb), .bool u.acc] 59 (wr.heap.size) (by simp))
       refine (HF.out _).mono ?_
       rintro e w5 ⟨rfl, hb5⟩
       have HS5 := Lib.hid (HS4.out.call hb5)
       clear hb5 HS HS4
       clear x1 x2 x3 x4 x5 x6 x7 x8 x9 x10 x11 x12 x13 x14 x15 x16 x17
       obtain ⟨x18, x19, x20⟩ := HS5.out.k4 0 rfl rfl rfl rfl
       go_wp2_with fail
       refine (HG.out _).mono ?_
       rintro e w6 ⟨rfl, hb6⟩
       have HS6 := Lib.hid (HS5.out.call hb6)
       clear hb6 HS5
       clear x18 x19 x20
       go_wp2
       go_ret
       have HS7 := Lib.hid HS6.out
       have HR : ans = false := by
        rw [HD.out, List.all_eq_false]; exact ⟨u, HIN.out, by rw [HFB.out]; simp⟩
       rw [HR]
       exact ⟨rfl, HS7.out.below⟩
      ·cases kB
       ·have x1 := HS.out.cell 0 rfl 3 rfl
        have x2 := HS.out.lt 0 rfl
        have x3 : ¬ w.heap.size = wr.heap.size := by omega
        have x4 : ¬ wr.heap.size = w.heap.size := by omega
        have x5 : b < wr.heap.size := Nat.lt_of_lt_of_le hbb HS.out.below.size
        have x6 : ¬ b = wr.heap.size := by omega
        obtain ⟨x7, x8, x9, x10, x11, x12, x13, x14, x15, x16, x17⟩ := kE (HX.out _ HS.out.below) rfl rfl rfl rfl rfl rfl rfl rfl rfl rfl rfl
        go_wp2_with fail
        have HS4 := Lib.hid (St.alloc (HS.out) #[.int .i64 u.rank, .bool u.tn, .string (bs u.ta), .string (bs u.tb), .bool u.fn, .string (bs u.fa), .string (bs u.fb), .bool u.kn, .string (bs u.ka), .string (bs u.kb), .bool u.acc] 59 (wr.heap.size) (by simp))
        refine (HF.out _).mono ?_
        rintro e w5 ⟨rfl, hb5⟩
        have HS5 := Lib.hid (HS4.out.call hb5)
        clear hb5 HS HS4
        clear x1 x2 x3 x4 x5 x6 x7 x8 x9 x10 x11 x12 x13 x14 x15 x16 x17
        obtain ⟨x18, x19, x20⟩ := HS5.out.k4 0 rfl rfl rfl rfl
        go_wp2_with fail
        refine (HG.out _).mono ?_
        rintro e w6 ⟨rfl, hb6⟩
        have HS6 := Lib.hid (HS5.out.call hb6)
        clear hb6 HS5
        clear x18 x19 x20
        obtain ⟨x21, x22, x23⟩ := HS6.out.k7 0 rfl rfl rfl rfl
        go_wp2_with fail
        refine (HK.out _).mono ?_
        rintro e w7 ⟨rfl, hb7⟩
        have HS7 := Lib.hid (HS6.out.call hb7)
        clear hb7 HS6
        clear x21 x22 x23
        go_wp2
        go_ret
        have HS8 := Lib.hid HS7.out
        have HR : ans = false := by
         rw [HD.out, List.all_eq_false]; exact ⟨u, HIN.out, by rw [HFB.out]; simp⟩
        rw [HR]
        exact ⟨rfl, HS8.out.below⟩
       ·have x1 := HS.out.cell 0 rfl 3 rfl
        have x2 := HS.out.lt 0 rfl
        have x3 : ¬ w.heap.size = wr.heap.size := by omega
        have x4 : ¬ wr.heap.size = w.heap.size := by omega
        have x5 : b < wr.heap.size := Nat.lt_of_lt_of_le hbb HS.out.below.size
        have x6 : ¬ b = wr.heap.size := by omega
        obtain ⟨x7, x8, x9, x10, x11, x12, x13, x14, x15, x16, x17⟩ := kE (HX.out _ HS.out.below) rfl rfl rfl rfl rfl rfl rfl rfl rfl rfl rfl
        go_wp2_with fail
        have HS4 := Lib.hid (St.alloc (HS.out) #[.int .i64 u.rank, .bool u.tn, .string (bs u.ta), .string (bs u.tb), .bool u.fn, .string (bs u.fa), .string (bs u.fb), .bool u.kn, .string (bs u.ka), .string (bs u.kb), .bool u.acc] 59 (wr.heap.size) (by simp))
        refine (HF.out _).mono ?_
        rintro e w5 ⟨rfl, hb5⟩
        have HS5 := Lib.hid (HS4.out.call hb5)
        clear hb5 HS HS4
        clear x1 x2 x3 x4 x5 x6 x7 x8 x9 x10 x11 x12 x13 x14 x15 x16 x17
        obtain ⟨x18, x19, x20⟩ := HS5.out.k4 0 rfl rfl rfl rfl
        go_wp2_with fail
        refine (HG.out _).mono ?_
        rintro e w6 ⟨rfl, hb6⟩
        have HS6 := Lib.hid (HS5.out.call hb6)
        clear hb6 HS5
        clear x18 x19 x20
        obtain ⟨x21, x22, x23⟩ := HS6.out.k7 0 rfl rfl rfl rfl
        go_wp2_with fail
        refine (HK.out _).mono ?_
        rintro e w7 ⟨rfl, hb7⟩
        have HS7 := Lib.hid (HS6.out.call hb7)
        clear hb7 HS6
        clear x21 x22 x23
        go_wp2
        have HS8 := Lib.hid HS7.out
        go_roundw
        case rel => exact ⟨k + 1, by omega, by go_num, by show _ = _; rw [HTA.out, hck.out, HFB.out]; rfl, HS8.out.sub (by simp)⟩
        case measure => simp [intOf]; omega
    ·obtain rfl : k = l.length := by omega
     have x1 := HS.out.cell 0 rfl 3 rfl
     go_wp2
     go_ret
     have HS4 := Lib.hid HS.out
     have HR : ans = true := by
      have := hck.out
      rw [List.take_length] at this
      rw [HD.out, this]
     rw [HR]
     exact ⟨rfl, HS4.out.below⟩

set_option maxRecDepth 100000 in
set_option maxHeartbeats 1000000 in
theorem ref_SameRats (v1 v2 : Value) (rs : List Rtr) (w : World) (h1 : RatsL w v1 rs) (h2 : RatsL w v2 rs) (hok : SmallT 1099511627776 rs) :
  Calls Tryz.prog 23 #[v1, v2] w fun e w' => e = .returned (.bool true) ∧ Below w.heap.size w w' := by
 have H1 := Lib.hid h1
 have H2 := Lib.hid h2
 have HOK := Lib.hid hok
 obtain ⟨A, c, rfl, hl, hc⟩ := h1.slice
 obtain ⟨A2, c2, rfl, hl2, hc2⟩ := h2.slice
 have e5 : ((rs.length : Int) != (rs.length : Int)) = false := by simp
 clear h1 h2 hok
 go_enter Tryz.func23, Tryz.ntmps23
 have HS := Lib.hid (St.start w)
 go_wp2
 go_loopw [5] (fun i wr => ∃ k : Nat, k ≤ rs.length ∧ i = .int .i64 k ∧ Hid (St w [] wr)) (fun i _ => rs.length - (intOf i).toNat)
 case atStart => exact ⟨0, Nat.zero_le _, rfl, HS.out⟩
 case round =>
  obtain ⟨k, hk, rfl, HS⟩ := hrel
  by_cases hlt : k < rs.length
  ·obtain ⟨b, o, t, rfl, hbb, hq, hx⟩ := H1.out.at_ hlt
   obtain ⟨b2, o2, t2, rfl, hbb2, hq2, hx2⟩ := H2.out.at_ hlt
   obtain rfl : t = t2 := by rw [hq] at hq2; exact Option.some.inj hq2
   have ho := HOK.out t (List.mem_of_getElem? hq)
   have HQ := Lib.hid (fun W => rat_neq t.n t.n t.a t.a t.b t.b ho.1 ho.2 ho.1 ho.2 true (by simp) W)
   have HX := Lib.hid hx
   have HY := Lib.hid hx2
   have e0 : (0 : Int) ≤ ((k : Nat) : Int) := by omega
   have e1 : ((k : Nat) : Int) < (rs.length : Int) := by omega
   have e2 : decide (((k : Nat) : Int) < (rs.length : Int)) = true := decide_eq_true e1
   clear hx hx2 hq hq2 ho
   go_wp2
   refine wp_region_eq 8 [.slice (some ⟨b, o, none⟩) rs.length c, .int .i64 (k : Nat), .pointer (some ⟨b, o + k * 3, none⟩), .agg #[.bool t.n, .string (bs t.a), .string (bs t.b)], .slice (some ⟨b2, o2, none⟩) rs.length c2, .int .i64 (k : Nat), .pointer (some ⟨b2, o2 + k * 3, none⟩), .agg #[.bool t.n, .string (bs t.a), .string (bs t.b)]] rfl (by kernel_rfl) (by kernel_rfl) (by kernel_rfl) ?_ ?_
   refine ⟨?_, ?_, ?_, ?_, ?_, ?_, ?_, ?_, trivial⟩
   ·intro xx af wv hbx hev hev0 hd; have e0 : af.tmps[0]?.getD undef = .slice (some ⟨b, o, none⟩) rs.length c := hev0 0 rfl; clear hev hev0 hd; go_wp2; exact sQ rfl
   ·intro xx af wv hbx hev hev0 hd; have e5 : af.tmps[5]?.getD undef = .int .i64 (k : Nat) := hev0 5 rfl; clear hev hev0 hd; go_wp2; exact sQ rfl
   ·intro xx af wv hbx hev hev0 hd; have e17 := (hev 0 _ 17 rfl rfl).trans (hd ⟨0, .data⟩ (by simp) rfl); have e18 := (hev 1 _ 18 rfl rfl).trans (hd ⟨1, .data⟩ (by simp) rfl); clear hev hev0 hd; go_wp2; exact sQ rfl
   ·intro xx af wv hbx hev hev0 hd; have e19 := (hev 2 _ 19 rfl rfl).trans (hd ⟨2, .data⟩ (by simp) rfl); clear hev hev0 hd; have hs1 := Lib.hid (HS.out.call hbx); obtain ⟨y0, y1, y2⟩ := kE0 (HX.out _ hs1.out.below) rfl rfl rfl; go_wp2; exact sQ rfl
   ·intro xx af wv hbx hev hev0 hd; have e1 : af.tmps[1]?.getD undef = .slice (some ⟨b2, o2, none⟩) rs.length c2 := hev0 1 rfl; clear hev hev0 hd; go_wp2; exact sQ rfl
   ·intro xx af wv hbx hev hev0 hd; have e5 : af.tmps[5]?.getD undef = .int .i64 (k : Nat) := hev0 5 rfl; clear hev hev0 hd; go_wp2; exact sQ rfl
   ·intro xx af wv hbx hev hev0 hd; have e21 := (hev 4 _ 21 rfl rfl).trans (hd ⟨4, .data⟩ (by simp) rfl); have e22 := (hev 5 _ 22 rfl rfl).trans (hd ⟨5, .data⟩ (by simp) rfl); clear hev hev0 hd; go_wp2; exact sQ rfl
   ·intro xx af wv hbx hev hev0 hd; have e23 := (hev 6 _ 23 rfl rfl).trans (hd ⟨6, .data⟩ (by simp) rfl); clear hev hev0 hd; have hs1 := Lib.hid (HS.out.call hbx); obtain ⟨y0, y1, y2⟩ := kE0 (HY.out _ hs1.out.below) rfl rfl rfl; go_wp2; exact sQ rfl
   intro xx w2 hb9 hv
   simp only [List.take, List.drop, fillA, Act.put]
   simp only [show xx 0 = _ from hv 0 (by decide), show xx 1 = _ from hv 1 (by decide), show xx 2 = _ from hv 2 (by decide), show xx 3 = _ from hv 3 (by decide), show xx 4 = _ from hv 4 (by decide), show xx 5 = _ from hv 5 (by decide), show xx 6 = _ from hv 6 (by decide), show xx 7 = _ from hv 7 (by decide)]
   clear hv
   have HS2 := Lib.hid (HS.out.call hb9)
   clear hb9 HS
   go_wp2
   have HS3 := Lib.hid HS2.out
   go_roundw
   case rel => exact ⟨k + 1, by omega, by go_num, HS3.out⟩
   case measure => simp [intOf]; omega
  ·obtain rfl : k = rs.length := by omega
   go_wp2
   go_ret
   have HS2 := Lib.hid HS.out
   exact ⟨rfl, HS2.out.below⟩
end Go.Proofs.YtcllocdhbicpkaaGreatDoor
