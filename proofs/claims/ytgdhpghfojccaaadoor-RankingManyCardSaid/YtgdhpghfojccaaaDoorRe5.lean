/-
Part 5 of the base.
-/
import Derived.Test.YtgdhpghfojccaaaDoorRe3
import Derived.Test.YtgdhpghfojccaaaDoorRe4
import Derived.Deep.RegionWith
import Derived.OwnWalk
set_option maxRecDepth 100000
set_option maxHeartbeats 2000000
namespace Go.Proofs.YtgdhpghfojccaaaDoor
open Go.RowKit
theorem Row.grown {a b : World} {g : Nat} {r : Option Nat} {xs : List Nat} (h : Row a g xs) (k : a.grownBy b r) (hne : some g ≠ r) : Row b g xs := (k.block g h.lt hne).trans h
theorem b4u {a b : World} {g B : Nat} (h : a.grownBy b (some g)) (hB : B <= g) (hB2 : B <= a.heap.size) : Below B a b :=
 ⟨h.os, h.tape, h.output, h.size, fun k hk => h.block k (by omega) (fun e => by injection e; omega)⟩
theorem Limbs.view {w : World} {g off n c : Nat} {pre zs : List Nat} (h : Row w g (pre ++ zs)) (hs : Small zs) (ho : pre.length = off) (hn : n <= zs.length) (hc : n <= c) (hc2 : c <= 9223372036854775807) : Limbs w (.slice (some ⟨g, off, none⟩) n c) (zs.take n) := by
 have hl : (zs.take n).length = n := by rw [List.length_take]; omega
 subst ho
 refine ⟨hs.take n, _, c, by rw [hl], by omega, hc2, fun _ => ⟨g, pre.length, rfl, h.lt, fun j hj => ?_⟩⟩
 rw [h.cellP (by omega), b3u (by omega)]
theorem a5k (va vb : Value) (a b : Nat) (w : World) (ha : Limbs w va (limbsOf a)) (hb : Limbs w vb (limbsOf b)) (hb0 : 0 < b) (hsz : (limbsOf a).length <= 137438953472) :
   Calls Tryd.prog 64 #[va, vb] w fun e w' => ∃ v1 v2, e = .returned (.tuple #[v1, v2]) /\ Limbs w' v1 (limbsOf (a / b)) /\ Limbs w' v2 (limbsOf (a % b)) /\ Below w.heap.size w w' := by
 obtain ⟨xs, hxs⟩ : ∃ xs, xs = limbsOf a := ⟨_, rfl⟩
 obtain ⟨ys, hys⟩ : ∃ ys, ys = limbsOf b := ⟨_, rfl⟩
 have hax : a = lv xs := by rw [hxs, a0r]
 have hby : b = lv ys := by rw [hys, a0r]
 by_cases hab : a < b
 have hsg : sgn ((a : Int) - b) < 0 := by rw [a5v (by omega)]; decide
 have HA := zh ha
 have HB := zh hb
 have HAB := zh hab
 clear ha hb hxs hys hax hby hab
 rotate_left
 have hsg : ¬ sgn ((a : Int) - b) < 0 := by
   rcases Nat.lt_or_ge b a with h | h
   · rw [a5u (by omega)]; decide
   rw [show (a : Int) - b = 0 by omega, b1m]; decide
 have hlen : ys.length <= xs.length := by
   rcases Nat.lt_or_ge xs.length ys.length with h | h
   · rw [hxs, hys] at h; have := a1h h; omega
   exact h
 have hy0 : 0 < ys.length := by
   rcases Nat.eq_zero_or_pos ys.length with h | h
   · rw [List.length_eq_zero_iff] at h; rw [h] at hby; rw [a3y] at hby; omega
   exact h
 have htop : 0 < ys.getD (ys.length - 1) 0 := by
   have h1 := a8b b
   rw [<- hys] at h1
   rcases Nat.eq_zero_or_pos (ys.getD (ys.length - 1) 0) with h | h
   · refine absurd ?_ h1
     rw [List.getLast?_eq_getElem?, List.getElem?_eq_getElem (by omega)]
     rw [List.getD_eq_getElem?_getD, List.getElem?_eq_getElem (by omega)] at h
     exact congrArg some h
   exact h
 have hsx := ha.small
 have hsy := hb.small
 rw [<- hxs] at ha hsx hsz
 rw [<- hys] at hb hsy
 by_cases hone : ys.length = 1
 have hone' : ((ys.length : Int) == 1) = true := by rw [hone]; rfl
 obtain ⟨d, hd⟩ : ∃ d, d = ys.getD 0 0 := ⟨_, rfl⟩
 have hbd : b = d := by
   match ys, hone with
   | [y], _ => rw [hby, hd]; simp [a1r, a3y]
 obtain ⟨B, cb, rfl, hcb, hcb'⟩ := hb.slice
 obtain ⟨bb, ob, y0, rfl, hbb, hy, hyb, hyc⟩ := hb.at_ (j := 0) (by omega)
 rw [<- hd] at hy
 subst hy
 have hdp : 0 < y0 := by omega
 have HA := zh ha
 have HB := zh hb
 have HAX := zh hax
 have HBD := zh hbd
 have HN := zh hone
 have HXS := zh hxs
 have HYS := zh hys
 have HYC := zh hyc
 clear ha hb hax hby hbd hxs hys hone hyc htop hd hab
 rotate_left
 obtain ⟨n, hn⟩ : ∃ n, n = ys.length := ⟨_, rfl⟩
 obtain ⟨m, hm⟩ : ∃ m, m = xs.length := ⟨_, rfl⟩
 rw [<- hn] at hlen hy0 htop hone
 rw [<- hm] at hlen hsz
 have hn2 : 2 <= n := by omega
 have hone' : ((n : Int) == 1) = false := by simp; omega
 obtain ⟨t, ht⟩ : ∃ t, t = ys.getD (n - 1) 0 := ⟨_, rfl⟩
 have htb : t < 4294967296 := by rw [ht]; exact hsy.get _
 rw [<- ht] at htop
 obtain ⟨s, hs, hs2, hs3, hs4⟩ := b7d htop htb
 have hfit : lv ys * 2 ^ s < 4294967296 ^ n := by
   obtain ⟨n', rfl⟩ : ∃ n', n = n' + 1 := ⟨n - 1, by omega⟩
   exact b6t ys s n' hsy hn.symm (by rw [Nat.add_sub_cancel] at ht; rw [<- ht]; exact hs4) hs
 obtain ⟨A, ca, rfl, hca, hca'⟩ := ha.slice
 obtain ⟨B, cb, rfl, hcb, hcb'⟩ := hb.slice
 obtain ⟨bb, ob, y0, rfl, hbb, hy, hyb, hyc⟩ := hb.at_ (j := ys.length - 1) (by omega)
 rw [<- hn, <- ht] at hy
 subst hy
 rw [<- hn] at hyc hcb
 have hb := show Limbs w (.slice (some ⟨bb, ob, none⟩) n cb) ys by rw [hn]; exact hb
 rw [<- hm] at hca
 have ha := show Limbs w (.slice A m ca) xs by rw [hm]; exact ha
 rw [<- hn, <- hm]
 have hmk := a2f 103 Tryd.underlying103 ((m : Int) - n + 1) (m - n + 1) (by omega) (by omega)
 have HA := zh ha
 have HB := zh hb
 have HAX := zh hax
 have HBY := zh hby
 have HXS := zh hxs
 have HYS := zh hys
 have HYC := zh hyc
 have HT := zh ht
 have HM := zh hm
 have HN := zh hn
 have HS3 := zh hs3
 have HFIT := zh hfit
 have HS2 := zh hs2
 clear ha hb hax hby hxs hys hone hyc ht hab hs3 hs4 hfit hm hn hs2
 rotate_left
 all_goals
   go_enter Tryd.func64, Tryd.ntmps64
   go_wp2_with fail
 ·refine (a2n _ _ _ _ _ HA.out HB.out).mono ?_
  rintro e w1 ⟨rfl, hb1⟩
  go_wp2
  go_ret2
  refine ⟨_, _, rfl, ?_, ?_, hb1⟩
  · rw [Nat.div_eq_of_lt HAB.out, a0x]; exact Limbs.nil_ _ _ _ (by decide)
  rw [Nat.mod_eq_of_lt HAB.out]; exact HA.out.below hb1
 all_goals
   refine (a2n _ _ a b _ (by rw [<- HXS.out]; exact HA.out) (by rw [<- HYS.out]; exact HB.out)).mono ?_
   rintro e w1 ⟨rfl, hb1⟩
   have hyc := HYC.out w1 hb1
 ·rw [Nat.add_zero] at hyc
  go_wp2_with fail
  refine (a5x _ xs y0 _ (HA.out.below hb1) hdp hyb (by omega)).mono ?_
  rintro e w2 ⟨v2, rfl, h2, hb2⟩
  have hr : lv xs % y0 < 4294967296 := Nat.lt_of_lt_of_le (Nat.mod_lt _ hdp) (by omega)
  obtain ⟨r, hr2⟩ : ∃ r, r = lv xs % y0 := ⟨_, rfl⟩
  rw [<- hr2] at hr
  rw [<- hr2]
  have HR := zh hr2
  have H2 := zh h2
  clear hr2 h2
  go_wp2_with fail
  have hrow : Row (w2.alloc (Obj.cells #[Value.int IntKind.u32 ((r : Nat) : Int)] 99)) w2.heap.size [r] := by
    unfold Row
    rw [heap_alloc_new]
    simp
  refine (a1w _ [r] _ (hrow.limbsN (by rw [small_cons]; exact ⟨hr, a8d⟩) rfl (by show 1 <= _; decide))).mono ?_
  rintro e w3 ⟨⟨v3, rfl, h3⟩, rfl⟩
  have hbw := (Below.refl w2.heap.size w2).alloc (Nat.le_refl _) (Obj.cells #[Value.int IntKind.u32 ((r : Nat) : Int)] 99)
  have H3 := zh h3
  clear h3
  go_wp2
  go_ret2
  refine ⟨_, _, rfl, ?_, ?_, Ext.trans hb1 (Ext.trans hb2 hbw)⟩
  · rw [HAX.out, HBD.out]; exact H2.out.below hbw
  have := H3.out
  rw [a1r, a3y, Nat.mul_zero, Nat.add_zero] at this
  have hr' := HR.out
  rw [<- HAX.out, <- HBD.out] at hr'
  rw [<- hr']
  exact this
 go_wp2_with fail
 refine (b7q _ _ (by omega) (by omega)).mono ?_
 rintro e w1' ⟨rfl, hw⟩
 subst w1'
 rw [show (32 - (Lib.bitLen ((y0 : Int)).toNat : Int)) = (s : Int) from HS2.out]
 go_wp2_with fail
 refine (a6g _ ys s n _ (HB.out.below hb1) hs (by rw [HN.out]; exact Nat.le_refl _) (by rw [HN.out]; omega) (fun _ => HFIT.out) (by rw [<- HN.out]; omega)).mono ?_
 rintro e w2 ⟨ds, rfl, hdl, hds, hdv, hdr, hb2⟩
 have hb12 := Ext.trans hb1 hb2
 have hgd2 : w1.heap.size < w2.heap.size := hdr.lt
 go_wp2_with fail
 refine (a6g _ xs s (m + 1) _ (HA.out.below hb12) hs (by rw [HM.out]; omega) (by rw [HM.out]; omega) (fun h => by have := HM.out; omega) (by rw [<- HM.out]; omega)).mono ?_
 rintro e w3 ⟨us, rfl, hul, hus, huv, hur, hb3⟩
 obtain ⟨gu, hgu⟩ : ∃ gu, gu = w2.heap.size := ⟨_, rfl⟩
 rw [<- hgu] at hur hgd2 ⊢
 have hst := zh (b7c (n := n - 1) hsx HM.out.symm (by rw [<- HN.out]; omega) (by omega) (by rw [hul.out]) hs (by rw [<- HT.out]; exact HS3.out) huv.out)
 have hgu2 : gu < w3.heap.size := hur.lt
 have hdr3 := hdr.below hb3 (by omega)
 have hb13 := Ext.trans hb12 hb3
 have HG := zh hgu
 clear hgu hdr
 go_wp2
 go_loopw [13] (fun i wr => ∃ (j : Nat) (zs qs : List Nat), j <= m - n + 1 /\ i = .int .i64 ((j : Int) - 1) /\ Hid (zs.length = m + 1) /\ Small zs /\ Row wr gu zs /\ Hid (qs.length = m - n + 1) /\ Small qs /\ Row wr w3.heap.size qs /\
     Row wr w1.heap.size ds /\ Hid (lv (zs.drop j) < lv ys * 2 ^ s) /\ Hid (∀ k, k < j -> qs.getD k 0 = 0) /\ Hid (lv zs + lv ys * 2 ^ s * lv qs = lv xs * 2 ^ s) /\ Below w2.heap.size w2 wr) (fun i _ => (intOf i + 1).toNat)
 case atStart =>
   refine ⟨m - n + 1, us, List.replicate (m - n + 1) 0, Nat.le_refl _, by congr 1; omega, hul, hus, hur.alloc _, by simp [Hid], a1v _, Row.made _ _, hdr3.alloc _, ?_, ?_, ?_, hb3.alloc hb3.size _⟩
   · show _ < _
     have := hst.out
     rwa [show m - (n - 1) = m - n + 1 by omega] at this
   · intro k hk
     rw [List.getD_eq_getElem?_getD, List.getElem?_replicate, if_pos hk]; rfl
   show _ = _
   rw [a6k, Nat.mul_zero, Nat.add_zero]; exact huv.out
 case round =>
   obtain ⟨j, zs, qs, hj, rfl, hzl, hzs, hzr, hql, hqs, hqr, hdr', hlt, hq0, hinv, hbw⟩ := hrel
   by_cases hp : 0 < j
   · have i1 : (0 : Int) <= (j : Int) - 1 := by omega
     have i2 : ((j : Int) - 1 + n + 1) <= (m : Int) + 1 := by omega
     have hcur := hqr.cell (i := j - 1) (by rw [hql.out]; omega)
     have hfr := hqr.frozen (j - 1)
     go_wp2_with fail
     rw [show j - 1 + n + 1 - (j - 1) = n + 1 by omega]
     have hpre : (zs.take (j - 1)).length = j - 1 := by rw [List.length_take, hzl.out]; omega
     have hwin : (zs.drop (j - 1)).length = m + 1 - (j - 1) := by rw [List.length_drop, hzl.out]
     have hj1 : j - 1 + 1 = j := by omega
     have hD := hdv.out
     have hD0 : 0 < lv ys * 2 ^ s := Nat.mul_pos (by rw [<- HBY.out]; exact hb0) (Nat.pow_pos (by decide))
     obtain ⟨hsm1, hsm2⟩ := b1a (zs := zs) (D := lv ys * 2 ^ s) (n := n) (i := j - 1) hzs (by rw [hzl.out]; omega) HFIT.out (by rw [hj1]; exact hlt.out) (by rw [hzl.out]; omega)
     have hdtop : 0 < ds.getD (n - 1) 0 := by
      rcases Nat.eq_zero_or_pos (ds.getD (n - 1) 0) with h | h
      ·exfalso
       have h1 := a0e ds (n - 1)
       rw [show n - 1 + 1 = n by omega, a1d (by rw [hdl.out]; exact Nat.le_refl _), h, Nat.mul_zero, Nat.add_zero] at h1
       have h2 := a5f _ (hds.take (n - 1))
       rw [List.length_take, Nat.min_eq_left (by rw [hdl.out]; omega), <- h1, hD] at h2
       have h3 := b3n ys (n - 1) (by rw [<- HN.out]; omega)
       rw [<- HT.out] at h3
       have h4 := Nat.mul_le_mul_right (2 ^ s) h3
       rw [Nat.mul_assoc] at h4
       have h5 := Nat.mul_le_mul_left (4294967296 ^ (n - 1)) (show 1 <= y0 * 2 ^ s by have := HS3.out; omega)
       rw [Nat.mul_one] at h5
       omega
      exact h
     refine (b3g gu (j - 1) n (m + 1 - (j - 1)) (zs.take (j - 1)) (zs.drop (j - 1)) ds _ wr hpre (by rw [List.take_append_drop]; exact hzr) (hzs.drop _) (hdr'.limbsN hds hdl.out (by omega)) (by
      intro b o cd e
      injection e with e
      injection e with e
      injection e with e
      omega) hn2 hdl.out (by rw [hwin]; omega) (by omega) hdtop (by rw [hD, hsm1]; exact hsm2) (by omega)).mono ?_
     rintro e w4 ⟨win, rfl, hw1, hw2, hwsm, hw3, hwr, hgr⟩
     have hqr4 := hqr.grown hgr (by intro e; injection e; omega)
     have hdr4 := hdr'.grown hgr (by intro e; injection e; omega)
     have hbw4 := hbw.trans (b4u hgr (by rw [<- HG.out]; exact Nat.le_refl _) hbw.size)
     have hcur := hqr4.cell (i := j - 1) (by rw [hql.out]; omega)
     have hfr := hqr4.frozen (j - 1)
     have hwin4 := zh (b9g (U := lv xs * 2 ^ s) (win' := win) (qs := qs) hzs (by rw [hzl.out]; omega) hD0 HFIT.out (by rw [hj1]; exact hlt.out) (by rw [hzl.out]; omega) hw1.out hw2.out (by rw [hw3.out, hD]) (by rw [hql.out]; omega) (hq0.out _ (by omega)) hinv.out)
     have hdig : lv ((zs.drop (j - 1)).take (n + 1)) / lv ds < 4294967296 := by
      rw [hD, hsm1, Nat.div_lt_iff_lt_mul hD0, Nat.mul_comm]; exact hsm2
     obtain ⟨q, hq⟩ : ∃ q, q = lv ((zs.drop (j - 1)).take (n + 1)) / lv ds := ⟨_, rfl⟩
     rw [<- hq] at hdig ⊢
     rw [hD] at hq
     have HQ := zh hq
     have HSM := zh hsm1
     clear hsm1 hsm2 hq hD hD0 hdtop
     go_wp2
     refine ⟨⟨j - 1, zs.take (j - 1) ++ win, qs.set (j - 1) q, by omega, by congr 1; omega, ?_, small_append.2 ⟨hzs.take _, hwsm⟩, hwr.far (Nat.ne_of_lt hgu2) _, by show _ = _; rw [List.length_set]; exact hql.out, a0p hqs _ hdig, hqr4.set_ _ _, hdr4.far (Nat.ne_of_lt (Nat.lt_trans hgd2 hgu2)) _, ?_, ?_, ?_, hbw4.setCell hb3.size _⟩, by simp [intOf]; omega⟩
     ·show _ = _
      rw [List.length_append, hpre, hw1.out, hwin]; omega
     ·show _ < _
      rw [List.drop_append_of_le_length (by rw [hpre]; exact Nat.le_refl _), List.drop_of_length_le (by rw [hpre]; exact Nat.le_refl _), List.nil_append]
      exact hwin4.out.1
     ·intro k hk
      rw [List.getD_eq_getElem?_getD, List.getElem?_set_ne (by omega), <- List.getD_eq_getElem?_getD]
      exact hq0.out k (by omega)
     show _ = _
     rw [HQ.out]
     exact hwin4.out.2
   obtain rfl : j = 0 := by omega
   obtain ⟨f1, f2⟩ := long_end (a := lv xs) (b := lv ys) (n := n) (s := s) (zs := zs) (qs := qs) (by rw [hzl.out]; omega) (by rw [<- HBY.out]; exact hb0) HFIT.out (by have := hlt.out; rwa [List.drop_zero] at this) hinv.out
   rw [<- HAX.out, <- HBY.out] at f1 f2
   have hul1 := fun (w' : World) (h : Row w' gu zs) => Limbs.view (w := w') (g := gu) (off := 0) (n := n) (c := m + 1) (pre := []) h hzs rfl (by rw [hzl.out]; omega) (by omega) (by omega)
   have hql1 := fun (w' : World) (h : Row w' w3.heap.size qs) => h.limbsN hqs hql.out (by omega)
   have F1 := zh f1
   have F2 := zh f2
   have HUL := zh hul1
   have HQL := zh hql1
   clear f1 f2 hul1 hql1
   go_wp2
   go_upto_region 15 with (fail)
   have hl15 : (zs.take n).length <= 274877906944 := by rw [List.length_take, hzl.out]; omega
   go_region_with (first
     | (go_at_call 71; refine (a1w _ qs _ (HQL.out _ hqr.drew)).mono ?_; rintro e w6 ⟨⟨v1, rfl, h1⟩, rfl⟩)
     | (go_at_call 71; refine (a1w _ qs _ (HQL.out _ (hqr.drew.below hb5 hqr.lt))).mono ?_; rintro e w6 ⟨⟨v1, rfl, h1⟩, rfl⟩)
     | (go_at_call 82; refine (a8t _ (zs.take n) s _ (HUL.out _ hzr.drew) hs hl15).mono ?_; rintro e w5 ⟨v2, rfl, h2, hb5⟩))
   all_goals go_wp2
   all_goals go_ret2
   all_goals refine ⟨_, _, rfl, ?_, ?_, Ext.trans hb12 (Ext.trans hbw.drew hb5)⟩
   all_goals first
     | (rw [<- F1.out]; exact h1.below hb5)
     | (rw [<- F1.out]; exact h1)
     | (rw [<- F2.out]; exact h2)
theorem Limbs.one {w : World} {v : Value} {xs ys : List Nat} (h : Limbs w v xs) (k : Limbs w v ys) : xs = ys := by
 obtain ⟨_, A, c, rfl, _, _, hx⟩ := h
 obtain ⟨_, A', c', e, _, _, hy⟩ := k
 injection e with e1 e2 e3
 subst e1
 apply List.ext_getElem? 
 intro i
 rcases Nat.lt_or_ge i xs.length with h | h
 ·obtain ⟨b, o, e, _, h1⟩ := hx (by omega)
  obtain ⟨b', o', e', _, h2⟩ := hy (by omega)
  rw [e] at e'
  injection e' with e'
  injection e' with e1 e3
  subst e1; subst e3
  have h3 := (h1 i h).symm.trans (h2 i (by omega))
  injection h3 with h3
  injection h3 with _ h3
  rw [List.getD_eq_getElem?_getD, List.getD_eq_getElem?_getD, List.getElem?_eq_getElem h, List.getElem?_eq_getElem (by omega)] at h3
  rw [List.getElem?_eq_getElem h, List.getElem?_eq_getElem (by omega)]
  simp only [Option.getD_some] at h3
  congr 1; omega
 rw [List.getElem?_eq_none h, List.getElem?_eq_none (by omega)]
open Classical in
noncomputable def b7u (w : World) (v : Value) : Nat := if h : ∃ n, Limbs w v (limbsOf n) then h.choose else 0
theorem b5e {w : World} {v : Value} {n : Nat} (h : Limbs w v (limbsOf n)) : b7u w v = n := by
 have hx : ∃ n, Limbs w v (limbsOf n) := ⟨n, h⟩
 unfold b7u
 rw [dif_pos hx]
 exact b4k (hx.choose_spec.one h)
theorem a3p (s : ByteArray) : (limbsOf (bv s.data.toList)).length <= (s.size + 3) / 4 := by
 have ls := a2r s.data.toList
 rwa [a2k] at ls
theorem b1v {a b n : Nat} (h : a <= b) (hb : (limbsOf b).length <= n) : (limbsOf a).length <= n := by
 rcases Nat.lt_or_ge (limbsOf b).length (limbsOf a).length with h1 | h1
 ·have := a1h h1; omega
 omega
theorem b0k (s t : ByteArray) (w : World) (hs : s.size <= 68719476736) (ht : t.size <= 68719476736) (h0 : 0 < bv t.data.toList) :
  Calls Tryd.prog 59 #[.string s, .string t] w fun e w' => e = .returned (.tuple #[.string (bs (bytesOf (bv s.data.toList / bv t.data.toList))), .string (bs (bytesOf (bv s.data.toList % bv t.data.toList))), .bool true]) /\ Below w.heap.size w w' := by
 have ls := a3p s
 have lt := a3p t
 have hP := fun W => a0m s W (by omega)
 have hQ := fun W => a0m t W (by omega)
 have HP := zh hP
 have HQ := zh hQ
 clear hP hQ
 generalize bv s.data.toList = a at *
 generalize bv t.data.toList = b at *
 have hq := b1v (Nat.div_le_self a b) ls
 have hr := b1v (Nat.mod_le a b) ls
 have hb0 : 0 < (limbsOf b).length := by
  rcases Nat.eq_zero_or_pos (limbsOf b).length with h | h
  ·rw [List.length_eq_zero_iff, limbsOf_eq_nil] at h; omega
  exact h
 have hbz : (((limbsOf b).length : Int) == 0) = false := by rw [beq_eq_false_iff_ne]; omega
 have H0 := zh h0
 clear h0
 go_enter Tryd.func59, Tryd.ntmps59
 go_wp2_with fail
 refine (HQ.out _).mono ?_
 rintro e w1 ⟨v1, rfl, h1, hb1⟩
 obtain ⟨B, cb, rfl, hcb, hcb'⟩ := h1.slice
 have HB := zh h1
 clear h1
 go_wp2_with fail
 refine (HP.out _).mono ?_
 rintro e w2 ⟨v2, rfl, h2, hb2⟩
 have hb := Ext.trans hb1 hb2
 have H1 := zh h2
 clear h2
 go_wp2_with fail
 refine (a5k _ _ a b _ H1.out (HB.out.below hb2) H0.out (by omega)).mono ?_
 rintro e w3 ⟨vq, vr, rfl, hq3, hr3, hb3⟩
 have hb' := Ext.trans hb hb3
 have HQ3 := zh hq3
 have HR3 := zh hr3
 clear hq3 hr3 hb hb2 hb3
 go_wp2_with fail
 refine (a2e _ _ _ HQ3.out (by omega)).mono ?_
 rintro e w4 ⟨rfl, hb4⟩
 go_wp2_with fail
 refine (a2e _ _ _ (HR3.out.below hb4) (by omega)).mono ?_
 rintro e w5 ⟨rfl, hb5⟩
 go_wp2
 go_ret3
 refine ⟨by rw [a0r, a0r]; rfl, Ext.trans hb' (Ext.trans hb4 hb5)⟩
theorem b4h (s t : ByteArray) (w : World) (hs : s.size <= 68719476736) (ht : t.size <= 68719476736) :
  Calls Tryd.prog 45 #[.string s, .string t] w fun e w' => e = .returned (.string (bs (bytesOf (Nat.gcd (bv s.data.toList) (bv t.data.toList))))) /\ Below w.heap.size w w' := by
 have ls := a3p s
 have lt := a3p t
 have hP := fun W => a0m s W (by omega)
 have hQ := fun W => a0m t W (by omega)
 have HP := zh hP
 have HQ := zh hQ
 clear hP hQ
 generalize bv s.data.toList = a at *
 generalize bv t.data.toList = b at *
 have la : (limbsOf a).length <= 17179869185 := by omega
 have lb : (limbsOf b).length <= 17179869185 := by omega
 clear ls lt hs ht
 go_enter Tryd.func45, Tryd.ntmps45
 go_wp2_with fail
 refine (HP.out _).mono ?_
 rintro e w1 ⟨v1, rfl, h1, hb1⟩
 have H1 := zh h1
 clear h1
 go_wp2_with fail
 refine (HQ.out _).mono ?_
 rintro e w2 ⟨v2, rfl, h2, hb2⟩
 have hb := Ext.trans hb1 hb2
 have h1 := H1.out.below hb2
 clear hb1 hb2
 go_wp2
 go_loopw [5, 6] (fun x y wr => ∃ (p q : Nat), Limbs wr x (limbsOf p) /\ Limbs wr y (limbsOf q) /\ (limbsOf p).length <= 17179869185 /\ (limbsOf q).length <= 17179869185 /\ Hid (Nat.gcd p q = Nat.gcd a b) /\ Below w.heap.size w wr) (fun _ y wr => b7u wr y)
 case atStart => exact ⟨a, b, h1, h2, la, lb, rfl, hb⟩
 case round =>
  obtain ⟨p, q, hp, hq, lp, lq, hg, hbw⟩ := hrel
  obtain ⟨B, cb, rfl, hcb, hcb'⟩ := hq.slice
  have HPP := zh hp
  have HQQ := zh hq
  clear hp hq
  by_cases h0 : 0 < (limbsOf q).length
  ·have hq0 : 0 < q := by
    rcases Nat.eq_zero_or_pos q with h | h
    ·subst h; rw [a0x] at h0; simp at h0
    exact h
   have HQ0 := zh hq0
   clear hq0
   go_wp2_with fail
   refine (a5k _ _ p q _ HPP.out HQQ.out HQ0.out (by omega)).mono ?_
   rintro e w3 ⟨vq, vr, rfl, hq3, hr3, hb3⟩
   have HR3 := zh hr3
   clear hq3 hr3
   have lr := b1v (Nat.mod_le p q) lp
   have hgg : Hid (Nat.gcd q (p % q) = Nat.gcd a b) := by
    show _ = _
    rw [<- hg.out, Nat.gcd_comm p q, Nat.gcd_rec q p, Nat.gcd_comm]
   have hm := Nat.mod_lt p HQ0.out
   go_wp2
   refine ⟨⟨q, p % q, HQQ.out.below hb3, HR3.out, lq, lr, hgg, Ext.trans hbw hb3⟩, ?_⟩
   have e1 := b5e HR3.out
   have e2 := b5e HQQ.out
   show b7u _ _ < b7u _ _
   rw [e1, e2]
   exact hm
  have hq0 : q = 0 := by
   have : limbsOf q = [] := by rw [<- List.length_eq_zero_iff]; omega
   exact limbsOf_eq_nil.1 this
  subst hq0
  have hgp := hg.out
  rw [Nat.gcd_zero_right] at hgp
  have HGP := zh hgp
  clear hgp
  go_wp2_with fail
  refine (a2e _ _ _ HPP.out (by omega)).mono ?_
  rintro e w4 ⟨rfl, hb4⟩
  go_wp2
  go_ret
  exact ⟨by rw [a0r, HGP.out]; rfl, Ext.trans hbw hb4⟩
end Go.Proofs.YtgdhpghfojccaaaDoor
