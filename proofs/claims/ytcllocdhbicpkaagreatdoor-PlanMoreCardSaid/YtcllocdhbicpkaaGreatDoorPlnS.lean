/-
Who dissents: the program's test (printed by gen_pln7.py).
-/
import Derived.Test.YtcllocdhbicpkaaGreatDoorPlnQ
namespace Go.Proofs.YtcllocdhbicpkaaGreatDoor
open Go.RowKit

/-- A place, or -1. -/
def optI : Option Nat → Int
 | some i => (i : Nat)
 | none => -1
theorem any_zip_ : ∀ (l : List Blc) (rs : List Rtr) (k : Nat), rs.length = l.length → ((rs.drop k).any fun t => decide (0 < sgn t.val.num)) = ((l.zip (rs.map Rtr.val)).drop k).any (fun y => decide (0 < sgn y.2.num))
 | [], [], k, _ => by simp
 | [], _ :: _, _, h => by simp at h
 | _ :: _, [], _, h => by simp at h
 | b :: l, r :: rs, 0, h => by
  have := any_zip_ l rs 0 (by simpa using h)
  rw [List.drop_zero, List.drop_zero] at this
  rw [List.drop_zero, List.drop_zero, List.map_cons, List.zip_cons_cons, List.any_cons, List.any_cons, this]
 | b :: l, r :: rs, k + 1, h => by
  rw [List.map_cons, List.zip_cons_cons, List.drop_succ_cons, List.drop_succ_cons]
  exact any_zip_ l rs k (by simpa using h)
theorem any_zip {l : List Blc} {rs : List Rtr} (h : rs.length = l.length) (_ : Unit) (k : Nat) : ((rs.drop k).any fun t => decide (0 < sgn t.val.num)) = ((l.zip (rs.map Rtr.val)).drop k).any (fun y => decide (0 < sgn y.2.num)) := any_zip_ l rs k h

set_option maxRecDepth 100000 in
set_option maxHeartbeats 1000000 in
theorem plan_statute (vn : Bool) (va vb : List UInt8) (v : Value) (l : List Blc) (rv : Value) (rs : List Rtr) (w : World) (cn : Bool) (ca cb : List UInt8) (h : BlocsL w v l) (hr : RatsL w rv rs) (hok : SmallBl 1000000 l) (hrs : SmallT 1000000 rs) (hlen : rs.length = l.length) (lca : ca.length ≤ 17179869184) (lcb : cb.length ≤ 17179869184) :
  Calls Tryz.prog 41 #[.agg #[.bool vn, .string (bs va), .string (bs vb), v], rv, .agg #[.bool cn, .string (bs ca), .string (bs cb)]] w fun e w' => e = .returned (.int .i64 (optI (dissentAt (decR cn ca cb) (l.zip (rs.map Rtr.val))))) ∧ Below w.heap.size w w' := by
 have H := Lib.hid h
 have HR := Lib.hid hr
 have hzat : ∀ (k : Nat) (u : Blc) (t : Rtr), l[k]? = some u → rs[k]? = some t → (l.zip (rs.map Rtr.val))[k]? = some (u, t.val) := fun k u t hu ht => zip_at hu (by rw [List.getElem?_map, ht]; rfl)
 have hzl : (l.zip (rs.map Rtr.val)).length = l.length := by rw [List.length_zip, List.length_map]; omega
 have hsg := fun W => rational_Sign cn ca cb W (by omega) (by omega)
 change ∀ W, Calls Tryz.prog _ _ W (fun e w' => e = .returned (.int .i64 (sgn (decR cn ca cb).num)) ∧ _) at hsg
 have hany := fun k (hk : k + 1 ≤ rs.length) v W (hs : RatsL W v (rs.drop (k + 1))) => any_statute v (rs.drop (k + 1)) W hs (fun t ht => hrs.mono (by decide) t (List.mem_of_mem_drop ht))
 have hzd : ∀ k, ((rs.drop (k + 1)).any fun t => decide (0 < sgn t.val.num)) = ((l.zip (rs.map Rtr.val)).drop (k + 1)).any (fun y => decide (0 < sgn y.2.num)) := fun k => any_zip hlen () _
 simp only [hzd] at hany
 clear hzd
 generalize l.zip (rs.map Rtr.val) = zl at *
 generalize decR cn ca cb = cq at *
 have hst := dissent_start cq zl
 have hys := fun k x => @dissent_yes cq zl k x
 have hns := fun k x => @dissent_no cq zl k x
 have hes := @dissent_end cq zl
 unfold dissB at hys hns
 generalize hdd : dissentAt cq zl = dd at *
 generalize sgn cq.num = s at *
 unfold raw at hsg
 have HSG := Lib.hid hsg
 have HAN := Lib.hid hany
 have HYS := Lib.hid hys
 have HNS := Lib.hid hns
 have HES := Lib.hid hes
 have HST := Lib.hid hst
 clear hsg hany hys hns hes hst hdd lca lcb
 have HZ := Lib.hid hzat
 have HZL := Lib.hid hzl
 have HOK := Lib.hid hok
 have HOR := Lib.hid hrs
 obtain ⟨A, c, rfl, hl, hc⟩ := h.slice
 obtain ⟨RA, rc, rfl, hrl, hrc⟩ := hr.slice
 clear hr
 rw [hlen] at HR hrl ⊢
 have HLEN := Lib.hid hlen
 clear h hlen hok hrs hzat hzl
 go_enter Tryz.func41, Tryz.ntmps41
 have HS := Lib.hid (St.start w)
 go_wp2
 go_loopw [12] (fun i wr => ∃ k : Nat, k ≤ l.length ∧ i = .int .i64 k ∧ Hid (dd = (dissentAt cq (zl.drop k)).map (· + k)) ∧ Hid (St w [⟨w.heap.size + 1, #[.bool cn, .string (bs ca), .string (bs cb)], 25⟩, ⟨w.heap.size, #[.bool vn, .string (bs va), .string (bs vb), .slice A l.length c], 28⟩] wr)) (fun i _ => l.length - (intOf i).toNat)
 case atStart => exact ⟨0, Nat.zero_le _, rfl, HST.out, (St.alloc ((St.alloc (HS.out) #[.bool vn, .string (bs va), .string (bs vb), .slice A l.length c] 28 (w.heap.size) (by simp))) #[.bool cn, .string (bs ca), .string (bs cb)] 25 (w.heap.size + 1) (by simp))⟩
 case round =>
  obtain ⟨k, hk, rfl, HD, HS⟩ := hrel
  by_cases hlt : k < l.length
  ·obtain ⟨b, o, u, rfl, hbb, hq, hx⟩ := H.out.at_ hlt
   obtain ⟨rb, ro, t, rfl, hbr, hqt, hy⟩ := HR.out.at_ (show k < rs.length by have := HLEN.out; omega)
   have ho := HOK.out u (List.mem_of_getElem? hq)
   have hot := HOR.out t (List.mem_of_getElem? hqt)
   have hz := HZ.out k u t hq hqt
   have hI := fun W => plan_impaired t.n t.a t.b W (by omega) (by omega)
   have hA := fun W => plan_accepts u t.n t.a t.b W (by omega) (by omega) (Nat.le_trans ho.2.2.1 (by decide)) (Nat.le_trans ho.2.2.2 (by decide))
   change ∀ W, Calls Tryz.prog _ _ W (fun e w' => e = .returned (.bool (impB (u, t.val))) ∧ _) at hI
   change ∀ W, Calls Tryz.prog _ _ W (fun e w' => e = .returned (.bool (consB (u, t.val))) ∧ _) at hA
   have hY := HYS.out k _ HD.out hz
   have hN := HNS.out k _ HD.out hz
   have hkr : k + 1 ≤ rs.length := by have := HLEN.out; omega
   have hs := fun W (hb : Below w.heap.size w W) => ((HR.out.below hb).sliced (l := k + 1) (h := l.length) hlt (Nat.le_of_eq HLEN.out.symm))
   rw [← HLEN.out, List.take_length, HLEN.out] at hs
   obtain ⟨sv, hsv⟩ : ∃ x, x = Go.sliced (some ⟨rb, ro, none⟩) (k + 1) l.length rc 3 := ⟨_, rfl⟩
   rw [← hsv] at hs
   have HSV := Lib.hid hsv
   have hN9 := HAN.out k hkr
   have HAY := Lib.hid (fun W (hb : Below w.heap.size w W) => hN9 sv W (hs W hb))
   generalize impB (u, t.val) = iB at *
   generalize consB (u, t.val) = cB at *
   generalize (zl.drop (k + 1)).any (fun y => decide (0 < sgn y.2.num)) = yB at *
   clear hs hsv hN9 hkr
   unfold raw at hI hA
   have HI := Lib.hid hI
   have HA := Lib.hid hA
   have HX := Lib.hid hx
   have HY := Lib.hid hy
   have e0 : (0 : Int) ≤ ((k : Nat) : Int) := by omega
   have e1 : ((k : Nat) : Int) < (l.length : Int) := by omega
   clear hI hA hx hy hq hqt ho hot
   cases iB
   ·have R := Lib.hid (hN (by simp))
    clear hY hN hz
    have x1 : b < wr.heap.size := Nat.lt_of_lt_of_le hbb HS.out.below.size
    have x2 : ¬ b = wr.heap.size := by omega
    obtain ⟨x3, x4, x5, x6, x7, x8, x9, x10, x11, x12, x13⟩ := kE (HX.out _ HS.out.below) rfl rfl rfl rfl rfl rfl rfl rfl rfl rfl rfl
    go_wp2
    clear x1 x2 x3 x4 x5 x6 x7 x8 x9 x10 x11 x12 x13
    have HS2 := Lib.hid (St.alloc (HS.out) #[.int .i64 u.rank, .bool u.tn, .string (bs u.ta), .string (bs u.tb), .bool u.fn, .string (bs u.fa), .string (bs u.fb), .bool u.kn, .string (bs u.ka), .string (bs u.kb), .bool u.acc] 59 (wr.heap.size) (by simp))
    clear HS
    refine wp_region_eq 13 [.slice (some ⟨rb, ro, none⟩) l.length rc, .int .i64 (k : Nat), .pointer (some ⟨rb, ro + k * 3, none⟩), .agg #[.bool t.n, .string (bs t.a), .string (bs t.b)], .bool false, .bool true, .bool true, undef, undef, undef, undef, undef, undef] rfl (by kernel_rfl) (by kernel_rfl) (by kernel_rfl) ?_ ?_
    refine ⟨?_, ?_, ?_, ?_, ?_, ?_, ?_, ?_, ?_, ?_, ?_, ?_, ?_, trivial⟩
    ·intro xx af wv hbx hev hev0 hd; have e1 : af.tmps[1]?.getD undef = .slice (some ⟨rb, ro, none⟩) l.length rc := hev0 1 rfl; clear hev hev0 hd; go_wp2; exact sQ rfl
    ·intro xx af wv hbx hev hev0 hd; have e7 : af.tmps[7]?.getD undef = .int .i64 (k : Nat) := hev0 7 rfl; clear hev hev0 hd; go_wp2; exact sQ rfl
    ·intro xx af wv hbx hev hev0 hd; have e17 := (hev 0 _ 17 rfl rfl).trans (hd ⟨0, .data⟩ (by simp) rfl); have e18 := (hev 1 _ 18 rfl rfl).trans (hd ⟨1, .data⟩ (by simp) rfl); clear hev hev0 hd; go_wp2; exact sQ rfl
    ·intro xx af wv hbx hev hev0 hd; have e19 := (hev 2 _ 19 rfl rfl).trans (hd ⟨2, .data⟩ (by simp) rfl); clear hev hev0 hd; have hs1 := Lib.hid (HS2.out.call hbx); obtain ⟨y0, y1, y2⟩ := kE0 (HY.out _ hs1.out.below) rfl rfl rfl; go_wp2; exact sQ rfl
    ·intro xx af wv hbx hev hev0 hd
     have e20 := (hev 3 _ 20 rfl rfl).trans (hd ⟨3, .data⟩ (by simp) rfl)
     clear hev hev0 hd
     go_wp2_with fail
     refine (HI.out _).mono ?_
     rintro e w8 ⟨rfl, hb8⟩
     go_wp2
     exact StepQ.mk _ hb8 rfl
    ·intro xx af wv hbx hev hev0 hd; have e21 := (hev 4 _ 21 rfl rfl).trans (hd ⟨4, .data⟩ (by simp) rfl); clear hev hev0 hd; go_wp2; exact sQ rfl
    ·intro xx af wv hbx hev hev0 hd; have e22 := (hev 5 _ 22 rfl rfl).trans (hd ⟨5, .data⟩ (by simp) rfl); clear hev hev0 hd; go_wp2; exact sQ rfl
    ·intro xx af wv hbx hev hev0 hd; have e23 := (hev 6 _ 23 rfl rfl).trans (hd ⟨6, .guard⟩ (by simp) rfl); have q23 := getD_bool e23; clear hev hev0 hd; go_wp2; exact sQ rfl
    ·intro xx af wv hbx hev hev0 hd; have e23 := (hev 6 _ 23 rfl rfl).trans (hd ⟨6, .guard⟩ (by simp) rfl); have q23 := getD_bool e23; clear hev hev0 hd; go_wp2; exact sQ rfl
    ·intro xx af wv hbx hev hev0 hd; have e23 := (hev 6 _ 23 rfl rfl).trans (hd ⟨6, .guard⟩ (by simp) rfl); have q23 := getD_bool e23; clear hev hev0 hd; go_wp2; exact sQ rfl
    ·intro xx af wv hbx hev hev0 hd; have e23 := (hev 6 _ 23 rfl rfl).trans (hd ⟨6, .guard⟩ (by simp) rfl); have q23 := getD_bool e23; clear hev hev0 hd; go_wp2; exact sQ rfl
    ·intro xx af wv hbx hev hev0 hd; have e23 := (hev 6 _ 23 rfl rfl).trans (hd ⟨6, .guard⟩ (by simp) rfl); have q23 := getD_bool e23; clear hev hev0 hd; go_wp2; exact sQ rfl
    ·intro xx af wv hbx hev hev0 hd; have e23 := (hev 6 _ 23 rfl rfl).trans (hd ⟨6, .chain⟩ (by simp) rfl); have q23 := getD_bool e23; clear hev hev0 hd; go_wp2; exact sQ rfl
    intro xx w4 hb9 hv
    simp only [List.take, List.drop, fillA, Act.put]
    simp only [show xx 0 = _ from hv 0 (by decide), show xx 1 = _ from hv 1 (by decide), show xx 2 = _ from hv 2 (by decide), show xx 3 = _ from hv 3 (by decide), show xx 4 = _ from hv 4 (by decide), show xx 5 = _ from hv 5 (by decide), show xx 6 = _ from hv 6 (by decide), show xx 7 = _ from hv 7 (by decide), show xx 8 = _ from hv 8 (by decide), show xx 9 = _ from hv 9 (by decide), show xx 10 = _ from hv 10 (by decide), show xx 11 = _ from hv 11 (by decide), show xx 12 = _ from hv 12 (by decide)]
    clear hv
    have HS4 := Lib.hid (HS2.out.call hb9)
    clear hb9 HS2
    go_wp2
    have HS5 := Lib.hid HS4.out
    go_roundw
    case rel => exact ⟨k + 1, by omega, by go_num, R.out, HS5.out.sub (by simp)⟩
    case measure => simp [intOf]; omega
   ·cases cB with
    | true =>
     have R := Lib.hid (hN (by simp))
     clear hY hN hz
     have x1 : b < wr.heap.size := Nat.lt_of_lt_of_le hbb HS.out.below.size
     have x2 : ¬ b = wr.heap.size := by omega
     obtain ⟨x3, x4, x5, x6, x7, x8, x9, x10, x11, x12, x13⟩ := kE (HX.out _ HS.out.below) rfl rfl rfl rfl rfl rfl rfl rfl rfl rfl rfl
     go_wp2
     clear x1 x2 x3 x4 x5 x6 x7 x8 x9 x10 x11 x12 x13
     have HS2 := Lib.hid (St.alloc (HS.out) #[.int .i64 u.rank, .bool u.tn, .string (bs u.ta), .string (bs u.tb), .bool u.fn, .string (bs u.fa), .string (bs u.fb), .bool u.kn, .string (bs u.ka), .string (bs u.kb), .bool u.acc] 59 (wr.heap.size) (by simp))
     clear HS
     refine wp_region_eq 13 [.slice (some ⟨rb, ro, none⟩) l.length rc, .int .i64 (k : Nat), .pointer (some ⟨rb, ro + k * 3, none⟩), .agg #[.bool t.n, .string (bs t.a), .string (bs t.b)], .bool true, .bool false, .bool false, .agg #[.int .i64 u.rank, .bool u.tn, .string (bs u.ta), .string (bs u.tb), .bool u.fn, .string (bs u.fa), .string (bs u.fb), .bool u.kn, .string (bs u.ka), .string (bs u.kb), .bool u.acc], .slice (some ⟨rb, ro, none⟩) l.length rc, .int .i64 (k : Nat), .pointer (some ⟨rb, ro + k * 3, none⟩), .agg #[.bool t.n, .string (bs t.a), .string (bs t.b)], .bool true] rfl (by kernel_rfl) (by kernel_rfl) (by kernel_rfl) ?_ ?_
     refine ⟨?_, ?_, ?_, ?_, ?_, ?_, ?_, ?_, ?_, ?_, ?_, ?_, ?_, trivial⟩
     ·intro xx af wv hbx hev hev0 hd; have e1 : af.tmps[1]?.getD undef = .slice (some ⟨rb, ro, none⟩) l.length rc := hev0 1 rfl; clear hev hev0 hd; go_wp2; exact sQ rfl
     ·intro xx af wv hbx hev hev0 hd; have e7 : af.tmps[7]?.getD undef = .int .i64 (k : Nat) := hev0 7 rfl; clear hev hev0 hd; go_wp2; exact sQ rfl
     ·intro xx af wv hbx hev hev0 hd; have e17 := (hev 0 _ 17 rfl rfl).trans (hd ⟨0, .data⟩ (by simp) rfl); have e18 := (hev 1 _ 18 rfl rfl).trans (hd ⟨1, .data⟩ (by simp) rfl); clear hev hev0 hd; go_wp2; exact sQ rfl
     ·intro xx af wv hbx hev hev0 hd; have e19 := (hev 2 _ 19 rfl rfl).trans (hd ⟨2, .data⟩ (by simp) rfl); clear hev hev0 hd; have hs1 := Lib.hid (HS2.out.call hbx); obtain ⟨y0, y1, y2⟩ := kE0 (HY.out _ hs1.out.below) rfl rfl rfl; go_wp2; exact sQ rfl
     ·intro xx af wv hbx hev hev0 hd
      have e20 := (hev 3 _ 20 rfl rfl).trans (hd ⟨3, .data⟩ (by simp) rfl)
      clear hev hev0 hd
      go_wp2_with fail
      refine (HI.out _).mono ?_
      rintro e w8 ⟨rfl, hb8⟩
      go_wp2
      exact StepQ.mk _ hb8 rfl
     ·intro xx af wv hbx hev hev0 hd; have e21 := (hev 4 _ 21 rfl rfl).trans (hd ⟨4, .data⟩ (by simp) rfl); clear hev hev0 hd; go_wp2; exact sQ rfl
     ·intro xx af wv hbx hev hev0 hd; have e22 := (hev 5 _ 22 rfl rfl).trans (hd ⟨5, .data⟩ (by simp) rfl); clear hev hev0 hd; go_wp2; exact sQ rfl
     ·intro xx af wv hbx hev hev0 hd; have e23 := (hev 6 _ 23 rfl rfl).trans (hd ⟨6, .guard⟩ (by simp) rfl); have e8 : af.tmps[8]?.getD undef = .pointer (some ⟨wr.heap.size, 0, none⟩) := hev0 8 rfl; have q23 := getD_bool e23; clear hev hev0 hd; have hs1 := Lib.hid (HS2.out.call hbx); obtain ⟨y0, y1, y2, y3, y4, y5, y6, y7, y8, y9, y10⟩ := hs1.out.kA 0 rfl rfl rfl rfl rfl rfl rfl rfl rfl rfl rfl rfl; go_wp2; exact sQ rfl
     ·intro xx af wv hbx hev hev0 hd; have e23 := (hev 6 _ 23 rfl rfl).trans (hd ⟨6, .guard⟩ (by simp) rfl); have e1 : af.tmps[1]?.getD undef = .slice (some ⟨rb, ro, none⟩) l.length rc := hev0 1 rfl; have q23 := getD_bool e23; clear hev hev0 hd; go_wp2; exact sQ rfl
     ·intro xx af wv hbx hev hev0 hd; have e23 := (hev 6 _ 23 rfl rfl).trans (hd ⟨6, .guard⟩ (by simp) rfl); have e7 : af.tmps[7]?.getD undef = .int .i64 (k : Nat) := hev0 7 rfl; have q23 := getD_bool e23; clear hev hev0 hd; go_wp2; exact sQ rfl
     ·intro xx af wv hbx hev hev0 hd; have e23 := (hev 6 _ 23 rfl rfl).trans (hd ⟨6, .guard⟩ (by simp) rfl); have e25 := (hev 8 _ 25 rfl rfl).trans (hd ⟨8, .data⟩ (by simp) rfl); have e26 := (hev 9 _ 26 rfl rfl).trans (hd ⟨9, .data⟩ (by simp) rfl); have q23 := getD_bool e23; clear hev hev0 hd; go_wp2; exact sQ rfl
     ·intro xx af wv hbx hev hev0 hd; have e23 := (hev 6 _ 23 rfl rfl).trans (hd ⟨6, .guard⟩ (by simp) rfl); have e27 := (hev 10 _ 27 rfl rfl).trans (hd ⟨10, .data⟩ (by simp) rfl); have q23 := getD_bool e23; clear hev hev0 hd; have hs1 := Lib.hid (HS2.out.call hbx); obtain ⟨y0, y1, y2⟩ := kE0 (HY.out _ hs1.out.below) rfl rfl rfl; go_wp2; exact sQ rfl
     ·intro xx af wv hbx hev hev0 hd
      have e23 := (hev 6 _ 23 rfl rfl).trans (hd ⟨6, .chain⟩ (by simp) rfl)
      have e24 := (hev 7 _ 24 rfl rfl).trans (hd ⟨7, .data⟩ (by simp) rfl)
      have e28 := (hev 11 _ 28 rfl rfl).trans (hd ⟨11, .data⟩ (by simp) rfl)
      have q23 := getD_bool e23
      clear hev hev0 hd
      go_wp2_with fail
      refine (HA.out _).mono ?_
      rintro e w8 ⟨rfl, hb8⟩
      go_wp2
      exact StepQ.mk _ hb8 rfl
     intro xx w4 hb9 hv
     simp only [List.take, List.drop, fillA, Act.put]
     simp only [show xx 0 = _ from hv 0 (by decide), show xx 1 = _ from hv 1 (by decide), show xx 2 = _ from hv 2 (by decide), show xx 3 = _ from hv 3 (by decide), show xx 4 = _ from hv 4 (by decide), show xx 5 = _ from hv 5 (by decide), show xx 6 = _ from hv 6 (by decide), show xx 7 = _ from hv 7 (by decide), show xx 8 = _ from hv 8 (by decide), show xx 9 = _ from hv 9 (by decide), show xx 10 = _ from hv 10 (by decide), show xx 11 = _ from hv 11 (by decide), show xx 12 = _ from hv 12 (by decide)]
     clear hv
     have HS4 := Lib.hid (HS2.out.call hb9)
     clear hb9 HS2
     go_wp2
     have HS5 := Lib.hid HS4.out
     go_roundw
     case rel => exact ⟨k + 1, by omega, by go_num, R.out, HS5.out.sub (by simp)⟩
     case measure => simp [intOf]; omega
    | false =>
     have q1 : IntKind.i64.wrap (((k : Nat) : Int) + 1) = ((k : Nat) : Int) + 1 := IntWalk.i64_in _ (by omega)
     by_cases hs0 : s = 0
     ·subst hs0
      by_cases hrc : rc = k + 1
      ·subst hrc
       have e := HSV.out.trans (show _ = Value.slice (some ⟨rb, ro, none⟩) 0 0 by unfold Go.sliced; rw [show l.length - (k + 1) = 0 by omega]; simp)
       subst e
       clear HSV
       cases yB with
       | true =>
        have R := Lib.hid (hY (by simp))
        clear hY hN hz
        have x1 : b < wr.heap.size := Nat.lt_of_lt_of_le hbb HS.out.below.size
        have x2 : ¬ b = wr.heap.size := by omega
        obtain ⟨x3, x4, x5, x6, x7, x8, x9, x10, x11, x12, x13⟩ := kE (HX.out _ HS.out.below) rfl rfl rfl rfl rfl rfl rfl rfl rfl rfl rfl
        go_wp2
        clear x1 x2 x3 x4 x5 x6 x7 x8 x9 x10 x11 x12 x13
        have HS2 := Lib.hid (St.alloc (HS.out) #[.int .i64 u.rank, .bool u.tn, .string (bs u.ta), .string (bs u.tb), .bool u.fn, .string (bs u.fa), .string (bs u.fb), .bool u.kn, .string (bs u.ka), .string (bs u.kb), .bool u.acc] 59 (wr.heap.size) (by simp))
        clear HS
        refine wp_region_eq 13 [.slice (some ⟨rb, ro, none⟩) l.length (k + 1), .int .i64 (k : Nat), .pointer (some ⟨rb, ro + k * 3, none⟩), .agg #[.bool t.n, .string (bs t.a), .string (bs t.b)], .bool true, .bool false, .bool false, .agg #[.int .i64 u.rank, .bool u.tn, .string (bs u.ta), .string (bs u.tb), .bool u.fn, .string (bs u.fa), .string (bs u.fb), .bool u.kn, .string (bs u.ka), .string (bs u.kb), .bool u.acc], .slice (some ⟨rb, ro, none⟩) l.length (k + 1), .int .i64 (k : Nat), .pointer (some ⟨rb, ro + k * 3, none⟩), .agg #[.bool t.n, .string (bs t.a), .string (bs t.b)], .bool false] rfl (by kernel_rfl) (by kernel_rfl) (by kernel_rfl) ?_ ?_
        refine ⟨?_, ?_, ?_, ?_, ?_, ?_, ?_, ?_, ?_, ?_, ?_, ?_, ?_, trivial⟩
        ·intro xx af wv hbx hev hev0 hd; have e1 : af.tmps[1]?.getD undef = .slice (some ⟨rb, ro, none⟩) l.length (k + 1) := hev0 1 rfl; clear hev hev0 hd; go_wp2; exact sQ rfl
        ·intro xx af wv hbx hev hev0 hd; have e7 : af.tmps[7]?.getD undef = .int .i64 (k : Nat) := hev0 7 rfl; clear hev hev0 hd; go_wp2; exact sQ rfl
        ·intro xx af wv hbx hev hev0 hd; have e17 := (hev 0 _ 17 rfl rfl).trans (hd ⟨0, .data⟩ (by simp) rfl); have e18 := (hev 1 _ 18 rfl rfl).trans (hd ⟨1, .data⟩ (by simp) rfl); clear hev hev0 hd; go_wp2; exact sQ rfl
        ·intro xx af wv hbx hev hev0 hd; have e19 := (hev 2 _ 19 rfl rfl).trans (hd ⟨2, .data⟩ (by simp) rfl); clear hev hev0 hd; have hs1 := Lib.hid (HS2.out.call hbx); obtain ⟨y0, y1, y2⟩ := kE0 (HY.out _ hs1.out.below) rfl rfl rfl; go_wp2; exact sQ rfl
        ·intro xx af wv hbx hev hev0 hd
         have e20 := (hev 3 _ 20 rfl rfl).trans (hd ⟨3, .data⟩ (by simp) rfl)
         clear hev hev0 hd
         go_wp2_with fail
         refine (HI.out _).mono ?_
         rintro e w8 ⟨rfl, hb8⟩
         go_wp2
         exact StepQ.mk _ hb8 rfl
        ·intro xx af wv hbx hev hev0 hd; have e21 := (hev 4 _ 21 rfl rfl).trans (hd ⟨4, .data⟩ (by simp) rfl); clear hev hev0 hd; go_wp2; exact sQ rfl
        ·intro xx af wv hbx hev hev0 hd; have e22 := (hev 5 _ 22 rfl rfl).trans (hd ⟨5, .data⟩ (by simp) rfl); clear hev hev0 hd; go_wp2; exact sQ rfl
        ·intro xx af wv hbx hev hev0 hd; have e23 := (hev 6 _ 23 rfl rfl).trans (hd ⟨6, .guard⟩ (by simp) rfl); have e8 : af.tmps[8]?.getD undef = .pointer (some ⟨wr.heap.size, 0, none⟩) := hev0 8 rfl; have q23 := getD_bool e23; clear hev hev0 hd; have hs1 := Lib.hid (HS2.out.call hbx); obtain ⟨y0, y1, y2, y3, y4, y5, y6, y7, y8, y9, y10⟩ := hs1.out.kA 0 rfl rfl rfl rfl rfl rfl rfl rfl rfl rfl rfl rfl; go_wp2; exact sQ rfl
        ·intro xx af wv hbx hev hev0 hd; have e23 := (hev 6 _ 23 rfl rfl).trans (hd ⟨6, .guard⟩ (by simp) rfl); have e1 : af.tmps[1]?.getD undef = .slice (some ⟨rb, ro, none⟩) l.length (k + 1) := hev0 1 rfl; have q23 := getD_bool e23; clear hev hev0 hd; go_wp2; exact sQ rfl
        ·intro xx af wv hbx hev hev0 hd; have e23 := (hev 6 _ 23 rfl rfl).trans (hd ⟨6, .guard⟩ (by simp) rfl); have e7 : af.tmps[7]?.getD undef = .int .i64 (k : Nat) := hev0 7 rfl; have q23 := getD_bool e23; clear hev hev0 hd; go_wp2; exact sQ rfl
        ·intro xx af wv hbx hev hev0 hd; have e23 := (hev 6 _ 23 rfl rfl).trans (hd ⟨6, .guard⟩ (by simp) rfl); have e25 := (hev 8 _ 25 rfl rfl).trans (hd ⟨8, .data⟩ (by simp) rfl); have e26 := (hev 9 _ 26 rfl rfl).trans (hd ⟨9, .data⟩ (by simp) rfl); have q23 := getD_bool e23; clear hev hev0 hd; go_wp2; exact sQ rfl
        ·intro xx af wv hbx hev hev0 hd; have e23 := (hev 6 _ 23 rfl rfl).trans (hd ⟨6, .guard⟩ (by simp) rfl); have e27 := (hev 10 _ 27 rfl rfl).trans (hd ⟨10, .data⟩ (by simp) rfl); have q23 := getD_bool e23; clear hev hev0 hd; have hs1 := Lib.hid (HS2.out.call hbx); obtain ⟨y0, y1, y2⟩ := kE0 (HY.out _ hs1.out.below) rfl rfl rfl; go_wp2; exact sQ rfl
        ·intro xx af wv hbx hev hev0 hd
         have e23 := (hev 6 _ 23 rfl rfl).trans (hd ⟨6, .chain⟩ (by simp) rfl)
         have e24 := (hev 7 _ 24 rfl rfl).trans (hd ⟨7, .data⟩ (by simp) rfl)
         have e28 := (hev 11 _ 28 rfl rfl).trans (hd ⟨11, .data⟩ (by simp) rfl)
         have q23 := getD_bool e23
         clear hev hev0 hd
         go_wp2_with fail
         refine (HA.out _).mono ?_
         rintro e w8 ⟨rfl, hb8⟩
         go_wp2
         exact StepQ.mk _ hb8 rfl
        intro xx w4 hb9 hv
        simp only [List.take, List.drop, fillA, Act.put]
        simp only [show xx 0 = _ from hv 0 (by decide), show xx 1 = _ from hv 1 (by decide), show xx 2 = _ from hv 2 (by decide), show xx 3 = _ from hv 3 (by decide), show xx 4 = _ from hv 4 (by decide), show xx 5 = _ from hv 5 (by decide), show xx 6 = _ from hv 6 (by decide), show xx 7 = _ from hv 7 (by decide), show xx 8 = _ from hv 8 (by decide), show xx 9 = _ from hv 9 (by decide), show xx 10 = _ from hv 10 (by decide), show xx 11 = _ from hv 11 (by decide), show xx 12 = _ from hv 12 (by decide)]
        clear hv
        have HS4 := Lib.hid (HS2.out.call hb9)
        clear hb9 HS2
        obtain ⟨x14, x15, x16⟩ := HS4.out.k0 1 rfl rfl rfl rfl
        go_wp2_with fail
        refine (HSG.out _).mono ?_
        rintro e w5 ⟨rfl, hb5⟩
        have HS5 := Lib.hid (HS4.out.call hb5)
        clear hb5 HS4
        clear x14 x15 x16
        go_wp2_with fail
        refine (HAY.out _ HS5.out.below).mono ?_
        rintro e w6 ⟨rfl, hb6⟩
        have HS6 := Lib.hid (HS5.out.call hb6)
        clear hb6 HS5
        go_wp2
        go_ret
        have HS7 := Lib.hid HS6.out
        rw [R.out]
        exact ⟨rfl, HS7.out.below⟩
       | false =>
        have R := Lib.hid (hN (by simp))
        clear hY hN hz
        have x1 : b < wr.heap.size := Nat.lt_of_lt_of_le hbb HS.out.below.size
        have x2 : ¬ b = wr.heap.size := by omega
        obtain ⟨x3, x4, x5, x6, x7, x8, x9, x10, x11, x12, x13⟩ := kE (HX.out _ HS.out.below) rfl rfl rfl rfl rfl rfl rfl rfl rfl rfl rfl
        go_wp2
        clear x1 x2 x3 x4 x5 x6 x7 x8 x9 x10 x11 x12 x13
        have HS2 := Lib.hid (St.alloc (HS.out) #[.int .i64 u.rank, .bool u.tn, .string (bs u.ta), .string (bs u.tb), .bool u.fn, .string (bs u.fa), .string (bs u.fb), .bool u.kn, .string (bs u.ka), .string (bs u.kb), .bool u.acc] 59 (wr.heap.size) (by simp))
        clear HS
        refine wp_region_eq 13 [.slice (some ⟨rb, ro, none⟩) l.length (k + 1), .int .i64 (k : Nat), .pointer (some ⟨rb, ro + k * 3, none⟩), .agg #[.bool t.n, .string (bs t.a), .string (bs t.b)], .bool true, .bool false, .bool false, .agg #[.int .i64 u.rank, .bool u.tn, .string (bs u.ta), .string (bs u.tb), .bool u.fn, .string (bs u.fa), .string (bs u.fb), .bool u.kn, .string (bs u.ka), .string (bs u.kb), .bool u.acc], .slice (some ⟨rb, ro, none⟩) l.length (k + 1), .int .i64 (k : Nat), .pointer (some ⟨rb, ro + k * 3, none⟩), .agg #[.bool t.n, .string (bs t.a), .string (bs t.b)], .bool false] rfl (by kernel_rfl) (by kernel_rfl) (by kernel_rfl) ?_ ?_
        refine ⟨?_, ?_, ?_, ?_, ?_, ?_, ?_, ?_, ?_, ?_, ?_, ?_, ?_, trivial⟩
        ·intro xx af wv hbx hev hev0 hd; have e1 : af.tmps[1]?.getD undef = .slice (some ⟨rb, ro, none⟩) l.length (k + 1) := hev0 1 rfl; clear hev hev0 hd; go_wp2; exact sQ rfl
        ·intro xx af wv hbx hev hev0 hd; have e7 : af.tmps[7]?.getD undef = .int .i64 (k : Nat) := hev0 7 rfl; clear hev hev0 hd; go_wp2; exact sQ rfl
        ·intro xx af wv hbx hev hev0 hd; have e17 := (hev 0 _ 17 rfl rfl).trans (hd ⟨0, .data⟩ (by simp) rfl); have e18 := (hev 1 _ 18 rfl rfl).trans (hd ⟨1, .data⟩ (by simp) rfl); clear hev hev0 hd; go_wp2; exact sQ rfl
        ·intro xx af wv hbx hev hev0 hd; have e19 := (hev 2 _ 19 rfl rfl).trans (hd ⟨2, .data⟩ (by simp) rfl); clear hev hev0 hd; have hs1 := Lib.hid (HS2.out.call hbx); obtain ⟨y0, y1, y2⟩ := kE0 (HY.out _ hs1.out.below) rfl rfl rfl; go_wp2; exact sQ rfl
        ·intro xx af wv hbx hev hev0 hd
         have e20 := (hev 3 _ 20 rfl rfl).trans (hd ⟨3, .data⟩ (by simp) rfl)
         clear hev hev0 hd
         go_wp2_with fail
         refine (HI.out _).mono ?_
         rintro e w8 ⟨rfl, hb8⟩
         go_wp2
         exact StepQ.mk _ hb8 rfl
        ·intro xx af wv hbx hev hev0 hd; have e21 := (hev 4 _ 21 rfl rfl).trans (hd ⟨4, .data⟩ (by simp) rfl); clear hev hev0 hd; go_wp2; exact sQ rfl
        ·intro xx af wv hbx hev hev0 hd; have e22 := (hev 5 _ 22 rfl rfl).trans (hd ⟨5, .data⟩ (by simp) rfl); clear hev hev0 hd; go_wp2; exact sQ rfl
        ·intro xx af wv hbx hev hev0 hd; have e23 := (hev 6 _ 23 rfl rfl).trans (hd ⟨6, .guard⟩ (by simp) rfl); have e8 : af.tmps[8]?.getD undef = .pointer (some ⟨wr.heap.size, 0, none⟩) := hev0 8 rfl; have q23 := getD_bool e23; clear hev hev0 hd; have hs1 := Lib.hid (HS2.out.call hbx); obtain ⟨y0, y1, y2, y3, y4, y5, y6, y7, y8, y9, y10⟩ := hs1.out.kA 0 rfl rfl rfl rfl rfl rfl rfl rfl rfl rfl rfl rfl; go_wp2; exact sQ rfl
        ·intro xx af wv hbx hev hev0 hd; have e23 := (hev 6 _ 23 rfl rfl).trans (hd ⟨6, .guard⟩ (by simp) rfl); have e1 : af.tmps[1]?.getD undef = .slice (some ⟨rb, ro, none⟩) l.length (k + 1) := hev0 1 rfl; have q23 := getD_bool e23; clear hev hev0 hd; go_wp2; exact sQ rfl
        ·intro xx af wv hbx hev hev0 hd; have e23 := (hev 6 _ 23 rfl rfl).trans (hd ⟨6, .guard⟩ (by simp) rfl); have e7 : af.tmps[7]?.getD undef = .int .i64 (k : Nat) := hev0 7 rfl; have q23 := getD_bool e23; clear hev hev0 hd; go_wp2; exact sQ rfl
        ·intro xx af wv hbx hev hev0 hd; have e23 := (hev 6 _ 23 rfl rfl).trans (hd ⟨6, .guard⟩ (by simp) rfl); have e25 := (hev 8 _ 25 rfl rfl).trans (hd ⟨8, .data⟩ (by simp) rfl); have e26 := (hev 9 _ 26 rfl rfl).trans (hd ⟨9, .data⟩ (by simp) rfl); have q23 := getD_bool e23; clear hev hev0 hd; go_wp2; exact sQ rfl
        ·intro xx af wv hbx hev hev0 hd; have e23 := (hev 6 _ 23 rfl rfl).trans (hd ⟨6, .guard⟩ (by simp) rfl); have e27 := (hev 10 _ 27 rfl rfl).trans (hd ⟨10, .data⟩ (by simp) rfl); have q23 := getD_bool e23; clear hev hev0 hd; have hs1 := Lib.hid (HS2.out.call hbx); obtain ⟨y0, y1, y2⟩ := kE0 (HY.out _ hs1.out.below) rfl rfl rfl; go_wp2; exact sQ rfl
        ·intro xx af wv hbx hev hev0 hd
         have e23 := (hev 6 _ 23 rfl rfl).trans (hd ⟨6, .chain⟩ (by simp) rfl)
         have e24 := (hev 7 _ 24 rfl rfl).trans (hd ⟨7, .data⟩ (by simp) rfl)
         have e28 := (hev 11 _ 28 rfl rfl).trans (hd ⟨11, .data⟩ (by simp) rfl)
         have q23 := getD_bool e23
         clear hev hev0 hd
         go_wp2_with fail
         refine (HA.out _).mono ?_
         rintro e w8 ⟨rfl, hb8⟩
         go_wp2
         exact StepQ.mk _ hb8 rfl
        intro xx w4 hb9 hv
        simp only [List.take, List.drop, fillA, Act.put]
        simp only [show xx 0 = _ from hv 0 (by decide), show xx 1 = _ from hv 1 (by decide), show xx 2 = _ from hv 2 (by decide), show xx 3 = _ from hv 3 (by decide), show xx 4 = _ from hv 4 (by decide), show xx 5 = _ from hv 5 (by decide), show xx 6 = _ from hv 6 (by decide), show xx 7 = _ from hv 7 (by decide), show xx 8 = _ from hv 8 (by decide), show xx 9 = _ from hv 9 (by decide), show xx 10 = _ from hv 10 (by decide), show xx 11 = _ from hv 11 (by decide), show xx 12 = _ from hv 12 (by decide)]
        clear hv
        have HS4 := Lib.hid (HS2.out.call hb9)
        clear hb9 HS2
        obtain ⟨x14, x15, x16⟩ := HS4.out.k0 1 rfl rfl rfl rfl
        go_wp2_with fail
        refine (HSG.out _).mono ?_
        rintro e w5 ⟨rfl, hb5⟩
        have HS5 := Lib.hid (HS4.out.call hb5)
        clear hb5 HS4
        clear x14 x15 x16
        go_wp2_with fail
        refine (HAY.out _ HS5.out.below).mono ?_
        rintro e w6 ⟨rfl, hb6⟩
        have HS6 := Lib.hid (HS5.out.call hb6)
        clear hb6 HS5
        go_wp2
        have HS7 := Lib.hid HS6.out
        go_roundw
        case rel => exact ⟨k + 1, by omega, by go_num, R.out, HS7.out.sub (by simp)⟩
        case measure => simp [intOf]; omega
      ·have e := HSV.out.trans (show _ = Value.slice (some ⟨rb, ro + (k + 1) * 3, none⟩) (l.length - (k + 1)) (rc - (k + 1)) by unfold Go.sliced; rw [if_neg hrc]; rfl)
       subst e
       clear HSV
       cases yB with
       | true =>
        have R := Lib.hid (hY (by simp))
        clear hY hN hz
        have x1 : b < wr.heap.size := Nat.lt_of_lt_of_le hbb HS.out.below.size
        have x2 : ¬ b = wr.heap.size := by omega
        obtain ⟨x3, x4, x5, x6, x7, x8, x9, x10, x11, x12, x13⟩ := kE (HX.out _ HS.out.below) rfl rfl rfl rfl rfl rfl rfl rfl rfl rfl rfl
        go_wp2
        clear x1 x2 x3 x4 x5 x6 x7 x8 x9 x10 x11 x12 x13
        have HS2 := Lib.hid (St.alloc (HS.out) #[.int .i64 u.rank, .bool u.tn, .string (bs u.ta), .string (bs u.tb), .bool u.fn, .string (bs u.fa), .string (bs u.fb), .bool u.kn, .string (bs u.ka), .string (bs u.kb), .bool u.acc] 59 (wr.heap.size) (by simp))
        clear HS
        refine wp_region_eq 13 [.slice (some ⟨rb, ro, none⟩) l.length rc, .int .i64 (k : Nat), .pointer (some ⟨rb, ro + k * 3, none⟩), .agg #[.bool t.n, .string (bs t.a), .string (bs t.b)], .bool true, .bool false, .bool false, .agg #[.int .i64 u.rank, .bool u.tn, .string (bs u.ta), .string (bs u.tb), .bool u.fn, .string (bs u.fa), .string (bs u.fb), .bool u.kn, .string (bs u.ka), .string (bs u.kb), .bool u.acc], .slice (some ⟨rb, ro, none⟩) l.length rc, .int .i64 (k : Nat), .pointer (some ⟨rb, ro + k * 3, none⟩), .agg #[.bool t.n, .string (bs t.a), .string (bs t.b)], .bool false] rfl (by kernel_rfl) (by kernel_rfl) (by kernel_rfl) ?_ ?_
        refine ⟨?_, ?_, ?_, ?_, ?_, ?_, ?_, ?_, ?_, ?_, ?_, ?_, ?_, trivial⟩
        ·intro xx af wv hbx hev hev0 hd; have e1 : af.tmps[1]?.getD undef = .slice (some ⟨rb, ro, none⟩) l.length rc := hev0 1 rfl; clear hev hev0 hd; go_wp2; exact sQ rfl
        ·intro xx af wv hbx hev hev0 hd; have e7 : af.tmps[7]?.getD undef = .int .i64 (k : Nat) := hev0 7 rfl; clear hev hev0 hd; go_wp2; exact sQ rfl
        ·intro xx af wv hbx hev hev0 hd; have e17 := (hev 0 _ 17 rfl rfl).trans (hd ⟨0, .data⟩ (by simp) rfl); have e18 := (hev 1 _ 18 rfl rfl).trans (hd ⟨1, .data⟩ (by simp) rfl); clear hev hev0 hd; go_wp2; exact sQ rfl
        ·intro xx af wv hbx hev hev0 hd; have e19 := (hev 2 _ 19 rfl rfl).trans (hd ⟨2, .data⟩ (by simp) rfl); clear hev hev0 hd; have hs1 := Lib.hid (HS2.out.call hbx); obtain ⟨y0, y1, y2⟩ := kE0 (HY.out _ hs1.out.below) rfl rfl rfl; go_wp2; exact sQ rfl
        ·intro xx af wv hbx hev hev0 hd
         have e20 := (hev 3 _ 20 rfl rfl).trans (hd ⟨3, .data⟩ (by simp) rfl)
         clear hev hev0 hd
         go_wp2_with fail
         refine (HI.out _).mono ?_
         rintro e w8 ⟨rfl, hb8⟩
         go_wp2
         exact StepQ.mk _ hb8 rfl
        ·intro xx af wv hbx hev hev0 hd; have e21 := (hev 4 _ 21 rfl rfl).trans (hd ⟨4, .data⟩ (by simp) rfl); clear hev hev0 hd; go_wp2; exact sQ rfl
        ·intro xx af wv hbx hev hev0 hd; have e22 := (hev 5 _ 22 rfl rfl).trans (hd ⟨5, .data⟩ (by simp) rfl); clear hev hev0 hd; go_wp2; exact sQ rfl
        ·intro xx af wv hbx hev hev0 hd; have e23 := (hev 6 _ 23 rfl rfl).trans (hd ⟨6, .guard⟩ (by simp) rfl); have e8 : af.tmps[8]?.getD undef = .pointer (some ⟨wr.heap.size, 0, none⟩) := hev0 8 rfl; have q23 := getD_bool e23; clear hev hev0 hd; have hs1 := Lib.hid (HS2.out.call hbx); obtain ⟨y0, y1, y2, y3, y4, y5, y6, y7, y8, y9, y10⟩ := hs1.out.kA 0 rfl rfl rfl rfl rfl rfl rfl rfl rfl rfl rfl rfl; go_wp2; exact sQ rfl
        ·intro xx af wv hbx hev hev0 hd; have e23 := (hev 6 _ 23 rfl rfl).trans (hd ⟨6, .guard⟩ (by simp) rfl); have e1 : af.tmps[1]?.getD undef = .slice (some ⟨rb, ro, none⟩) l.length rc := hev0 1 rfl; have q23 := getD_bool e23; clear hev hev0 hd; go_wp2; exact sQ rfl
        ·intro xx af wv hbx hev hev0 hd; have e23 := (hev 6 _ 23 rfl rfl).trans (hd ⟨6, .guard⟩ (by simp) rfl); have e7 : af.tmps[7]?.getD undef = .int .i64 (k : Nat) := hev0 7 rfl; have q23 := getD_bool e23; clear hev hev0 hd; go_wp2; exact sQ rfl
        ·intro xx af wv hbx hev hev0 hd; have e23 := (hev 6 _ 23 rfl rfl).trans (hd ⟨6, .guard⟩ (by simp) rfl); have e25 := (hev 8 _ 25 rfl rfl).trans (hd ⟨8, .data⟩ (by simp) rfl); have e26 := (hev 9 _ 26 rfl rfl).trans (hd ⟨9, .data⟩ (by simp) rfl); have q23 := getD_bool e23; clear hev hev0 hd; go_wp2; exact sQ rfl
        ·intro xx af wv hbx hev hev0 hd; have e23 := (hev 6 _ 23 rfl rfl).trans (hd ⟨6, .guard⟩ (by simp) rfl); have e27 := (hev 10 _ 27 rfl rfl).trans (hd ⟨10, .data⟩ (by simp) rfl); have q23 := getD_bool e23; clear hev hev0 hd; have hs1 := Lib.hid (HS2.out.call hbx); obtain ⟨y0, y1, y2⟩ := kE0 (HY.out _ hs1.out.below) rfl rfl rfl; go_wp2; exact sQ rfl
        ·intro xx af wv hbx hev hev0 hd
         have e23 := (hev 6 _ 23 rfl rfl).trans (hd ⟨6, .chain⟩ (by simp) rfl)
         have e24 := (hev 7 _ 24 rfl rfl).trans (hd ⟨7, .data⟩ (by simp) rfl)
         have e28 := (hev 11 _ 28 rfl rfl).trans (hd ⟨11, .data⟩ (by simp) rfl)
         have q23 := getD_bool e23
         clear hev hev0 hd
         go_wp2_with fail
         refine (HA.out _).mono ?_
         rintro e w8 ⟨rfl, hb8⟩
         go_wp2
         exact StepQ.mk _ hb8 rfl
        intro xx w4 hb9 hv
        simp only [List.take, List.drop, fillA, Act.put]
        simp only [show xx 0 = _ from hv 0 (by decide), show xx 1 = _ from hv 1 (by decide), show xx 2 = _ from hv 2 (by decide), show xx 3 = _ from hv 3 (by decide), show xx 4 = _ from hv 4 (by decide), show xx 5 = _ from hv 5 (by decide), show xx 6 = _ from hv 6 (by decide), show xx 7 = _ from hv 7 (by decide), show xx 8 = _ from hv 8 (by decide), show xx 9 = _ from hv 9 (by decide), show xx 10 = _ from hv 10 (by decide), show xx 11 = _ from hv 11 (by decide), show xx 12 = _ from hv 12 (by decide)]
        clear hv
        have HS4 := Lib.hid (HS2.out.call hb9)
        clear hb9 HS2
        obtain ⟨x14, x15, x16⟩ := HS4.out.k0 1 rfl rfl rfl rfl
        go_wp2_with fail
        refine (HSG.out _).mono ?_
        rintro e w5 ⟨rfl, hb5⟩
        have HS5 := Lib.hid (HS4.out.call hb5)
        clear hb5 HS4
        clear x14 x15 x16
        go_wp2_with fail
        refine (HAY.out _ HS5.out.below).mono ?_
        rintro e w6 ⟨rfl, hb6⟩
        have HS6 := Lib.hid (HS5.out.call hb6)
        clear hb6 HS5
        go_wp2
        go_ret
        have HS7 := Lib.hid HS6.out
        rw [R.out]
        exact ⟨rfl, HS7.out.below⟩
       | false =>
        have R := Lib.hid (hN (by simp))
        clear hY hN hz
        have x1 : b < wr.heap.size := Nat.lt_of_lt_of_le hbb HS.out.below.size
        have x2 : ¬ b = wr.heap.size := by omega
        obtain ⟨x3, x4, x5, x6, x7, x8, x9, x10, x11, x12, x13⟩ := kE (HX.out _ HS.out.below) rfl rfl rfl rfl rfl rfl rfl rfl rfl rfl rfl
        go_wp2
        clear x1 x2 x3 x4 x5 x6 x7 x8 x9 x10 x11 x12 x13
        have HS2 := Lib.hid (St.alloc (HS.out) #[.int .i64 u.rank, .bool u.tn, .string (bs u.ta), .string (bs u.tb), .bool u.fn, .string (bs u.fa), .string (bs u.fb), .bool u.kn, .string (bs u.ka), .string (bs u.kb), .bool u.acc] 59 (wr.heap.size) (by simp))
        clear HS
        refine wp_region_eq 13 [.slice (some ⟨rb, ro, none⟩) l.length rc, .int .i64 (k : Nat), .pointer (some ⟨rb, ro + k * 3, none⟩), .agg #[.bool t.n, .string (bs t.a), .string (bs t.b)], .bool true, .bool false, .bool false, .agg #[.int .i64 u.rank, .bool u.tn, .string (bs u.ta), .string (bs u.tb), .bool u.fn, .string (bs u.fa), .string (bs u.fb), .bool u.kn, .string (bs u.ka), .string (bs u.kb), .bool u.acc], .slice (some ⟨rb, ro, none⟩) l.length rc, .int .i64 (k : Nat), .pointer (some ⟨rb, ro + k * 3, none⟩), .agg #[.bool t.n, .string (bs t.a), .string (bs t.b)], .bool false] rfl (by kernel_rfl) (by kernel_rfl) (by kernel_rfl) ?_ ?_
        refine ⟨?_, ?_, ?_, ?_, ?_, ?_, ?_, ?_, ?_, ?_, ?_, ?_, ?_, trivial⟩
        ·intro xx af wv hbx hev hev0 hd; have e1 : af.tmps[1]?.getD undef = .slice (some ⟨rb, ro, none⟩) l.length rc := hev0 1 rfl; clear hev hev0 hd; go_wp2; exact sQ rfl
        ·intro xx af wv hbx hev hev0 hd; have e7 : af.tmps[7]?.getD undef = .int .i64 (k : Nat) := hev0 7 rfl; clear hev hev0 hd; go_wp2; exact sQ rfl
        ·intro xx af wv hbx hev hev0 hd; have e17 := (hev 0 _ 17 rfl rfl).trans (hd ⟨0, .data⟩ (by simp) rfl); have e18 := (hev 1 _ 18 rfl rfl).trans (hd ⟨1, .data⟩ (by simp) rfl); clear hev hev0 hd; go_wp2; exact sQ rfl
        ·intro xx af wv hbx hev hev0 hd; have e19 := (hev 2 _ 19 rfl rfl).trans (hd ⟨2, .data⟩ (by simp) rfl); clear hev hev0 hd; have hs1 := Lib.hid (HS2.out.call hbx); obtain ⟨y0, y1, y2⟩ := kE0 (HY.out _ hs1.out.below) rfl rfl rfl; go_wp2; exact sQ rfl
        ·intro xx af wv hbx hev hev0 hd
         have e20 := (hev 3 _ 20 rfl rfl).trans (hd ⟨3, .data⟩ (by simp) rfl)
         clear hev hev0 hd
         go_wp2_with fail
         refine (HI.out _).mono ?_
         rintro e w8 ⟨rfl, hb8⟩
         go_wp2
         exact StepQ.mk _ hb8 rfl
        ·intro xx af wv hbx hev hev0 hd; have e21 := (hev 4 _ 21 rfl rfl).trans (hd ⟨4, .data⟩ (by simp) rfl); clear hev hev0 hd; go_wp2; exact sQ rfl
        ·intro xx af wv hbx hev hev0 hd; have e22 := (hev 5 _ 22 rfl rfl).trans (hd ⟨5, .data⟩ (by simp) rfl); clear hev hev0 hd; go_wp2; exact sQ rfl
        ·intro xx af wv hbx hev hev0 hd; have e23 := (hev 6 _ 23 rfl rfl).trans (hd ⟨6, .guard⟩ (by simp) rfl); have e8 : af.tmps[8]?.getD undef = .pointer (some ⟨wr.heap.size, 0, none⟩) := hev0 8 rfl; have q23 := getD_bool e23; clear hev hev0 hd; have hs1 := Lib.hid (HS2.out.call hbx); obtain ⟨y0, y1, y2, y3, y4, y5, y6, y7, y8, y9, y10⟩ := hs1.out.kA 0 rfl rfl rfl rfl rfl rfl rfl rfl rfl rfl rfl rfl; go_wp2; exact sQ rfl
        ·intro xx af wv hbx hev hev0 hd; have e23 := (hev 6 _ 23 rfl rfl).trans (hd ⟨6, .guard⟩ (by simp) rfl); have e1 : af.tmps[1]?.getD undef = .slice (some ⟨rb, ro, none⟩) l.length rc := hev0 1 rfl; have q23 := getD_bool e23; clear hev hev0 hd; go_wp2; exact sQ rfl
        ·intro xx af wv hbx hev hev0 hd; have e23 := (hev 6 _ 23 rfl rfl).trans (hd ⟨6, .guard⟩ (by simp) rfl); have e7 : af.tmps[7]?.getD undef = .int .i64 (k : Nat) := hev0 7 rfl; have q23 := getD_bool e23; clear hev hev0 hd; go_wp2; exact sQ rfl
        ·intro xx af wv hbx hev hev0 hd; have e23 := (hev 6 _ 23 rfl rfl).trans (hd ⟨6, .guard⟩ (by simp) rfl); have e25 := (hev 8 _ 25 rfl rfl).trans (hd ⟨8, .data⟩ (by simp) rfl); have e26 := (hev 9 _ 26 rfl rfl).trans (hd ⟨9, .data⟩ (by simp) rfl); have q23 := getD_bool e23; clear hev hev0 hd; go_wp2; exact sQ rfl
        ·intro xx af wv hbx hev hev0 hd; have e23 := (hev 6 _ 23 rfl rfl).trans (hd ⟨6, .guard⟩ (by simp) rfl); have e27 := (hev 10 _ 27 rfl rfl).trans (hd ⟨10, .data⟩ (by simp) rfl); have q23 := getD_bool e23; clear hev hev0 hd; have hs1 := Lib.hid (HS2.out.call hbx); obtain ⟨y0, y1, y2⟩ := kE0 (HY.out _ hs1.out.below) rfl rfl rfl; go_wp2; exact sQ rfl
        ·intro xx af wv hbx hev hev0 hd
         have e23 := (hev 6 _ 23 rfl rfl).trans (hd ⟨6, .chain⟩ (by simp) rfl)
         have e24 := (hev 7 _ 24 rfl rfl).trans (hd ⟨7, .data⟩ (by simp) rfl)
         have e28 := (hev 11 _ 28 rfl rfl).trans (hd ⟨11, .data⟩ (by simp) rfl)
         have q23 := getD_bool e23
         clear hev hev0 hd
         go_wp2_with fail
         refine (HA.out _).mono ?_
         rintro e w8 ⟨rfl, hb8⟩
         go_wp2
         exact StepQ.mk _ hb8 rfl
        intro xx w4 hb9 hv
        simp only [List.take, List.drop, fillA, Act.put]
        simp only [show xx 0 = _ from hv 0 (by decide), show xx 1 = _ from hv 1 (by decide), show xx 2 = _ from hv 2 (by decide), show xx 3 = _ from hv 3 (by decide), show xx 4 = _ from hv 4 (by decide), show xx 5 = _ from hv 5 (by decide), show xx 6 = _ from hv 6 (by decide), show xx 7 = _ from hv 7 (by decide), show xx 8 = _ from hv 8 (by decide), show xx 9 = _ from hv 9 (by decide), show xx 10 = _ from hv 10 (by decide), show xx 11 = _ from hv 11 (by decide), show xx 12 = _ from hv 12 (by decide)]
        clear hv
        have HS4 := Lib.hid (HS2.out.call hb9)
        clear hb9 HS2
        obtain ⟨x14, x15, x16⟩ := HS4.out.k0 1 rfl rfl rfl rfl
        go_wp2_with fail
        refine (HSG.out _).mono ?_
        rintro e w5 ⟨rfl, hb5⟩
        have HS5 := Lib.hid (HS4.out.call hb5)
        clear hb5 HS4
        clear x14 x15 x16
        go_wp2_with fail
        refine (HAY.out _ HS5.out.below).mono ?_
        rintro e w6 ⟨rfl, hb6⟩
        have HS6 := Lib.hid (HS5.out.call hb6)
        clear hb6 HS5
        go_wp2
        have HS7 := Lib.hid HS6.out
        go_roundw
        case rel => exact ⟨k + 1, by omega, by go_num, R.out, HS7.out.sub (by simp)⟩
        case measure => simp [intOf]; omega
     ·have q2 : (s == 0) = false := beq_eq_false_iff_ne.2 hs0
      have q3 : (s != 0) = true := by rw [bne, q2]; rfl
      have R := Lib.hid (hY (by rw [q2]; simp))
      clear hY hN hz
      have x1 : b < wr.heap.size := Nat.lt_of_lt_of_le hbb HS.out.below.size
      have x2 : ¬ b = wr.heap.size := by omega
      obtain ⟨x3, x4, x5, x6, x7, x8, x9, x10, x11, x12, x13⟩ := kE (HX.out _ HS.out.below) rfl rfl rfl rfl rfl rfl rfl rfl rfl rfl rfl
      go_wp2
      clear x1 x2 x3 x4 x5 x6 x7 x8 x9 x10 x11 x12 x13
      have HS2 := Lib.hid (St.alloc (HS.out) #[.int .i64 u.rank, .bool u.tn, .string (bs u.ta), .string (bs u.tb), .bool u.fn, .string (bs u.fa), .string (bs u.fb), .bool u.kn, .string (bs u.ka), .string (bs u.kb), .bool u.acc] 59 (wr.heap.size) (by simp))
      clear HS
      refine wp_region_eq 13 [.slice (some ⟨rb, ro, none⟩) l.length rc, .int .i64 (k : Nat), .pointer (some ⟨rb, ro + k * 3, none⟩), .agg #[.bool t.n, .string (bs t.a), .string (bs t.b)], .bool true, .bool false, .bool false, .agg #[.int .i64 u.rank, .bool u.tn, .string (bs u.ta), .string (bs u.tb), .bool u.fn, .string (bs u.fa), .string (bs u.fb), .bool u.kn, .string (bs u.ka), .string (bs u.kb), .bool u.acc], .slice (some ⟨rb, ro, none⟩) l.length rc, .int .i64 (k : Nat), .pointer (some ⟨rb, ro + k * 3, none⟩), .agg #[.bool t.n, .string (bs t.a), .string (bs t.b)], .bool false] rfl (by kernel_rfl) (by kernel_rfl) (by kernel_rfl) ?_ ?_
      refine ⟨?_, ?_, ?_, ?_, ?_, ?_, ?_, ?_, ?_, ?_, ?_, ?_, ?_, trivial⟩
      ·intro xx af wv hbx hev hev0 hd; have e1 : af.tmps[1]?.getD undef = .slice (some ⟨rb, ro, none⟩) l.length rc := hev0 1 rfl; clear hev hev0 hd; go_wp2; exact sQ rfl
      ·intro xx af wv hbx hev hev0 hd; have e7 : af.tmps[7]?.getD undef = .int .i64 (k : Nat) := hev0 7 rfl; clear hev hev0 hd; go_wp2; exact sQ rfl
      ·intro xx af wv hbx hev hev0 hd; have e17 := (hev 0 _ 17 rfl rfl).trans (hd ⟨0, .data⟩ (by simp) rfl); have e18 := (hev 1 _ 18 rfl rfl).trans (hd ⟨1, .data⟩ (by simp) rfl); clear hev hev0 hd; go_wp2; exact sQ rfl
      ·intro xx af wv hbx hev hev0 hd; have e19 := (hev 2 _ 19 rfl rfl).trans (hd ⟨2, .data⟩ (by simp) rfl); clear hev hev0 hd; have hs1 := Lib.hid (HS2.out.call hbx); obtain ⟨y0, y1, y2⟩ := kE0 (HY.out _ hs1.out.below) rfl rfl rfl; go_wp2; exact sQ rfl
      ·intro xx af wv hbx hev hev0 hd
       have e20 := (hev 3 _ 20 rfl rfl).trans (hd ⟨3, .data⟩ (by simp) rfl)
       clear hev hev0 hd
       go_wp2_with fail
       refine (HI.out _).mono ?_
       rintro e w8 ⟨rfl, hb8⟩
       go_wp2
       exact StepQ.mk _ hb8 rfl
      ·intro xx af wv hbx hev hev0 hd; have e21 := (hev 4 _ 21 rfl rfl).trans (hd ⟨4, .data⟩ (by simp) rfl); clear hev hev0 hd; go_wp2; exact sQ rfl
      ·intro xx af wv hbx hev hev0 hd; have e22 := (hev 5 _ 22 rfl rfl).trans (hd ⟨5, .data⟩ (by simp) rfl); clear hev hev0 hd; go_wp2; exact sQ rfl
      ·intro xx af wv hbx hev hev0 hd; have e23 := (hev 6 _ 23 rfl rfl).trans (hd ⟨6, .guard⟩ (by simp) rfl); have e8 : af.tmps[8]?.getD undef = .pointer (some ⟨wr.heap.size, 0, none⟩) := hev0 8 rfl; have q23 := getD_bool e23; clear hev hev0 hd; have hs1 := Lib.hid (HS2.out.call hbx); obtain ⟨y0, y1, y2, y3, y4, y5, y6, y7, y8, y9, y10⟩ := hs1.out.kA 0 rfl rfl rfl rfl rfl rfl rfl rfl rfl rfl rfl rfl; go_wp2; exact sQ rfl
      ·intro xx af wv hbx hev hev0 hd; have e23 := (hev 6 _ 23 rfl rfl).trans (hd ⟨6, .guard⟩ (by simp) rfl); have e1 : af.tmps[1]?.getD undef = .slice (some ⟨rb, ro, none⟩) l.length rc := hev0 1 rfl; have q23 := getD_bool e23; clear hev hev0 hd; go_wp2; exact sQ rfl
      ·intro xx af wv hbx hev hev0 hd; have e23 := (hev 6 _ 23 rfl rfl).trans (hd ⟨6, .guard⟩ (by simp) rfl); have e7 : af.tmps[7]?.getD undef = .int .i64 (k : Nat) := hev0 7 rfl; have q23 := getD_bool e23; clear hev hev0 hd; go_wp2; exact sQ rfl
      ·intro xx af wv hbx hev hev0 hd; have e23 := (hev 6 _ 23 rfl rfl).trans (hd ⟨6, .guard⟩ (by simp) rfl); have e25 := (hev 8 _ 25 rfl rfl).trans (hd ⟨8, .data⟩ (by simp) rfl); have e26 := (hev 9 _ 26 rfl rfl).trans (hd ⟨9, .data⟩ (by simp) rfl); have q23 := getD_bool e23; clear hev hev0 hd; go_wp2; exact sQ rfl
      ·intro xx af wv hbx hev hev0 hd; have e23 := (hev 6 _ 23 rfl rfl).trans (hd ⟨6, .guard⟩ (by simp) rfl); have e27 := (hev 10 _ 27 rfl rfl).trans (hd ⟨10, .data⟩ (by simp) rfl); have q23 := getD_bool e23; clear hev hev0 hd; have hs1 := Lib.hid (HS2.out.call hbx); obtain ⟨y0, y1, y2⟩ := kE0 (HY.out _ hs1.out.below) rfl rfl rfl; go_wp2; exact sQ rfl
      ·intro xx af wv hbx hev hev0 hd
       have e23 := (hev 6 _ 23 rfl rfl).trans (hd ⟨6, .chain⟩ (by simp) rfl)
       have e24 := (hev 7 _ 24 rfl rfl).trans (hd ⟨7, .data⟩ (by simp) rfl)
       have e28 := (hev 11 _ 28 rfl rfl).trans (hd ⟨11, .data⟩ (by simp) rfl)
       have q23 := getD_bool e23
       clear hev hev0 hd
       go_wp2_with fail
       refine (HA.out _).mono ?_
       rintro e w8 ⟨rfl, hb8⟩
       go_wp2
       exact StepQ.mk _ hb8 rfl
      intro xx w4 hb9 hv
      simp only [List.take, List.drop, fillA, Act.put]
      simp only [show xx 0 = _ from hv 0 (by decide), show xx 1 = _ from hv 1 (by decide), show xx 2 = _ from hv 2 (by decide), show xx 3 = _ from hv 3 (by decide), show xx 4 = _ from hv 4 (by decide), show xx 5 = _ from hv 5 (by decide), show xx 6 = _ from hv 6 (by decide), show xx 7 = _ from hv 7 (by decide), show xx 8 = _ from hv 8 (by decide), show xx 9 = _ from hv 9 (by decide), show xx 10 = _ from hv 10 (by decide), show xx 11 = _ from hv 11 (by decide), show xx 12 = _ from hv 12 (by decide)]
      clear hv
      have HS4 := Lib.hid (HS2.out.call hb9)
      clear hb9 HS2
      obtain ⟨x14, x15, x16⟩ := HS4.out.k0 1 rfl rfl rfl rfl
      go_wp2_with fail
      refine (HSG.out _).mono ?_
      rintro e w5 ⟨rfl, hb5⟩
      have HS5 := Lib.hid (HS4.out.call hb5)
      clear hb5 HS4
      clear x14 x15 x16
      go_wp2
      go_ret
      have HS6 := Lib.hid HS5.out
      rw [R.out]
      exact ⟨rfl, HS6.out.below⟩
  ·obtain rfl : k = l.length := by omega
   have R : Hid (dd = none) := by show _ = _; rw [← HZL.out] at HD; exact HES.out HD.out
   go_wp2
   go_ret
   have HS2 := Lib.hid HS.out
   rw [R.out]
   exact ⟨rfl, HS2.out.below⟩
end Go.Proofs.YtcllocdhbicpkaaGreatDoor
