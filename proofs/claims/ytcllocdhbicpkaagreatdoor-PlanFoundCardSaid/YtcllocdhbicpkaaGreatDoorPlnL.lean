/-
A venture checked: the program's Check (printed by gen_pln2.py).
-/
import Derived.Test.YtcllocdhbicpkaaGreatDoorPlnK
namespace Go.Proofs.YtcllocdhbicpkaaGreatDoor
open Go.RowKit

theorem cv_err {a : Int} {l : List Blc} {k : Nat} {u : Blc} {n : Int} (h : a = checkBl (prevAt l k) (l.drop k)) (hq : l[k]? = some u) (he : bErr (prevAt l k) u = n) (hn : n ≠ 0) : a = n := by rw [h, checkBl_drop hq, he, if_neg hn]
theorem cv_go {a : Int} {l : List Blc} {k : Nat} {u : Blc} (h : a = checkBl (prevAt l k) (l.drop k)) (hq : l[k]? = some u) (he : bErr (prevAt l k) u = 0) : a = checkBl (prevAt l (k + 1)) (l.drop (k + 1)) := by rw [h, checkBl_drop hq, he, if_pos rfl]
theorem cv_end {a : Int} {l : List Blc} (h : a = checkBl (prevAt l l.length) (l.drop l.length)) : a = 0 := by rw [h, List.drop_length]; rfl

set_option maxRecDepth 100000 in
set_option maxHeartbeats 1000000 in
theorem plan_Check (vn : Bool) (va vb : List UInt8) (v : Value) (l : List Blc) (w : World) (h : BlocsL w v l) (hok : SmallBl 17179869184 l) (lva : va.length ≤ 17179869184) (lvb : vb.length ≤ 17179869184) :
  Calls Tryz.prog 13 #[.agg #[.bool vn, .string (bs va), .string (bs vb), v]] w fun e w' => e = .returned (.int .i64 (checkVn (decR vn va vb) l)) ∧ Below w.heap.size w w' := by
 have H := Lib.hid h
 have HOK := Lib.hid hok
 have hv := fun W => rational_Sign vn va vb W (by omega) (by omega)
 change ∀ W, Calls Tryz.prog _ _ W (fun e w' => e = .returned (.int .i64 (sgn (decR vn va vb).num)) ∧ _) at hv
 unfold raw at hv
 have hdef : checkVn (decR vn va vb) l = if sgn (decR vn va vb).num < 0 then 7 else if 16 < l.length then 2 else checkBl none l := rfl
 obtain ⟨A, c, rfl, hl, hc⟩ := h.slice
 generalize checkVn (decR vn va vb) l = ans at *
 generalize sgn (decR vn va vb).num = s at *
 have HV := Lib.hid hv
 clear h hok hv lva lvb
 by_cases hs : s < 0
 ·have ks : decide (s < 0) = true := decide_eq_true hs
  have R := Lib.hid (show ans = 7 by rw [hdef, if_pos hs])
  clear hs hdef
  go_enter Tryz.func13, Tryz.ntmps13
  have HS := Lib.hid (St.start w)
  go_wp2_with fail
  have HS2 := Lib.hid (St.alloc (HS.out) #[.bool vn, .string (bs va), .string (bs vb), .slice A l.length c] 28 (w.heap.size) (by simp))
  refine (HV.out _).mono ?_
  rintro e w3 ⟨rfl, hb3⟩
  have HS3 := Lib.hid (HS2.out.call hb3)
  clear hb3 HS HS2
  go_wp2
  go_ret
  have HS4 := Lib.hid HS3.out
  rw [R.out]
  exact ⟨rfl, HS4.out.below⟩
 ·have ks : decide (s < 0) = false := decide_eq_false hs
  rw [if_neg hs] at hdef
  clear hs
  by_cases hlen : 16 < l.length
  ·have hd : decide ((16 : Int) < (l.length : Int)) = true := decide_eq_true (by omega)
   have R := Lib.hid (show ans = 2 by rw [hdef, if_pos hlen])
   clear hdef
   go_enter Tryz.func13, Tryz.ntmps13
   have HS := Lib.hid (St.start w)
   go_wp2_with fail
   have HS2 := Lib.hid (St.alloc (HS.out) #[.bool vn, .string (bs va), .string (bs vb), .slice A l.length c] 28 (w.heap.size) (by simp))
   refine (HV.out _).mono ?_
   rintro e w3 ⟨rfl, hb3⟩
   have HS3 := Lib.hid (HS2.out.call hb3)
   clear hb3 HS HS2
   have x1 := HS3.out.cell 0 rfl 3 rfl
   go_wp2
   go_ret
   have HS4 := Lib.hid HS3.out
   rw [R.out]
   exact ⟨rfl, HS4.out.below⟩
  ·have hd : decide ((16 : Int) < (l.length : Int)) = false := decide_eq_false (by omega)
   have hlen := Nat.not_lt.1 hlen
   have H0 : Hid (ans = checkBl (prevAt l 0) (l.drop 0)) := by show _ = _; rw [hdef, if_neg (by omega)]; rfl
   clear hdef
   go_enter Tryz.func13, Tryz.ntmps13
   have HS := Lib.hid (St.start w)
   go_wp2_with fail
   have HS2 := Lib.hid (St.alloc (HS.out) #[.bool vn, .string (bs va), .string (bs vb), .slice A l.length c] 28 (w.heap.size) (by simp))
   refine (HV.out _).mono ?_
   rintro e w3 ⟨rfl, hb3⟩
   have HS3 := Lib.hid (HS2.out.call hb3)
   clear hb3 HS HS2
   have x1 := HS3.out.cell 0 rfl 3 rfl
   go_wp2
   go_loopw [16] (fun i wr => ∃ k : Nat, k ≤ l.length ∧ i = .int .i64 k ∧ Hid (ans = checkBl (prevAt l k) (l.drop k)) ∧ Hid (St w [⟨w.heap.size, #[.bool vn, .string (bs va), .string (bs vb), .slice A l.length c], 28⟩] wr)) (fun i _ => l.length - (intOf i).toNat)
   case atStart => exact ⟨0, Nat.zero_le _, rfl, H0.out, HS3.out⟩
   case round =>
    clear H0
    obtain ⟨k, hk, rfl, hck, HS⟩ := hrel
    by_cases hlt : k < l.length
    ·obtain ⟨b, o, u, rfl, hbb, hq, hx⟩ := H.out.at_ hlt
     have hin := List.mem_of_getElem? hq
     have ho := HOK.out u hin
     have hT := fun W => rational_Sign u.tn u.ta u.tb W (Nat.le_trans ho.1.1 (by decide)) (Nat.le_trans ho.1.2 (by decide))
     have hF := fun W => plan_isRate u.fn u.fa u.fb W ho.2.1.1 ho.2.1.2
     have hK := fun W => plan_isRate u.kn u.ka u.kb W ho.2.2.1 ho.2.2.2
     change ∀ W, Calls Tryz.prog _ _ W (fun e w' => e = .returned (.int .i64 (sgn u.total.num)) ∧ _) at hT
     change ∀ W, Calls Tryz.prog _ _ W (fun e w' => e = .returned (.bool (rateB u.floor)) ∧ _) at hF
     change ∀ W, Calls Tryz.prog _ _ W (fun e w' => e = .returned (.bool (rateB u.ask)) ∧ _) at hK
     unfold raw at hT hF hK
     have hr := fun h => cv_err hck.out hq (bErr_range (p := prevAt l k) (b := u) h) (by decide)
     have hor := fun h h2 => cv_err hck.out hq (bErr_order (p := prevAt l k) (b := u) h h2) (by decide)
     have hra := fun h h2 h3 => cv_err hck.out hq (bErr_rate (p := prevAt l k) (b := u) h h2 h3) (by decide)
     have hgo := fun h h2 h3 h4 h5 => cv_go hck.out hq (bErr_none (p := prevAt l k) (b := u) h h2 h3 h4 h5)
     have hn0 : k = 0 → notAfter (prevAt l k) u = false := fun h => by rw [h]; rfl
     have hn1 : ∀ j p, k = j + 1 → l[j]? = some p → notAfter (prevAt l k) u = decide (u.rank ≤ p.rank) := fun j p h hp => by rw [h, prevAt_succ hp]; rfl
     generalize notAfter (prevAt l k) u = nb at *
     generalize sgn u.total.num = t at *
     generalize rateB u.floor = fB at *
     generalize rateB u.ask = kB at *
     have HT := Lib.hid hT
     have HF := Lib.hid hF
     have HK := Lib.hid hK
     have HX := Lib.hid hx
     have e0 : (0 : Int) ≤ ((k : Nat) : Int) := by omega
     have e1 : ((k : Nat) : Int) < (l.length : Int) := by omega
     clear hT hF hK hx hin ho hck hq
     by_cases h1 : u.rank < 0
     ·have k1 : decide (u.rank < 0) = true := decide_eq_true h1
      have R := Lib.hid (hr (.inl h1))
      clear hr hor hra hgo hn0 hn1
      have x2 : b < wr.heap.size := Nat.lt_of_lt_of_le hbb HS.out.below.size
      have x3 : ¬ b = wr.heap.size := by omega
      obtain ⟨x4, x5, x6, x7, x8, x9, x10, x11, x12, x13, x14⟩ := kE (HX.out _ HS.out.below) rfl rfl rfl rfl rfl rfl rfl rfl rfl rfl rfl
      go_wp2
      go_ret
      have HS4 := Lib.hid (St.alloc (HS.out) #[.int .i64 u.rank, .bool u.tn, .string (bs u.ta), .string (bs u.tb), .bool u.fn, .string (bs u.fa), .string (bs u.fb), .bool u.kn, .string (bs u.ka), .string (bs u.kb), .bool u.acc] 59 (wr.heap.size) (by simp))
      rw [R.out]
      exact ⟨rfl, HS4.out.below⟩
     ·have k1 : decide (u.rank < 0) = false := decide_eq_false h1
      by_cases h2 : 7 < u.rank
      ·have k2 : decide (7 < u.rank) = true := decide_eq_true h2
       have R := Lib.hid (hr (.inr h2))
       clear hr hor hra hgo hn0 hn1
       have x2 : b < wr.heap.size := Nat.lt_of_lt_of_le hbb HS.out.below.size
       have x3 : ¬ b = wr.heap.size := by omega
       obtain ⟨x4, x5, x6, x7, x8, x9, x10, x11, x12, x13, x14⟩ := kE (HX.out _ HS.out.below) rfl rfl rfl rfl rfl rfl rfl rfl rfl rfl rfl
       go_wp2
       go_ret
       have HS4 := Lib.hid (St.alloc (HS.out) #[.int .i64 u.rank, .bool u.tn, .string (bs u.ta), .string (bs u.tb), .bool u.fn, .string (bs u.fa), .string (bs u.fb), .bool u.kn, .string (bs u.ka), .string (bs u.kb), .bool u.acc] 59 (wr.heap.size) (by simp))
       rw [R.out]
       exact ⟨rfl, HS4.out.below⟩
      ·have k2 : decide (7 < u.rank) = false := decide_eq_false h2
       have h12 : ¬ (u.rank < 0 ∨ 7 < u.rank) := by omega
       clear h1 h2
       by_cases hz : k = 0
       ·obtain rfl : nb = false := hn0 hz
        have kz : decide ((0 : Int) < ((k : Nat) : Int)) = false := decide_eq_false (by omega)
        have kz2 : decide (0 < k) = false := decide_eq_false (by omega)
        clear hz
        by_cases h3 : t ≤ 0
        ·have k3 : decide (t ≤ 0) = true := decide_eq_true h3
         have R := Lib.hid (hra h12 rfl (.inl h3))
         clear hr hor hra hgo hn0 hn1
         have x2 : b < wr.heap.size := Nat.lt_of_lt_of_le hbb HS.out.below.size
         have x3 : ¬ b = wr.heap.size := by omega
         obtain ⟨x4, x5, x6, x7, x8, x9, x10, x11, x12, x13, x14⟩ := kE (HX.out _ HS.out.below) rfl rfl rfl rfl rfl rfl rfl rfl rfl rfl rfl
         go_wp2
         clear x2 x3 x4 x5 x6 x7 x8 x9 x10 x11 x12 x13 x14
         have HS4 := Lib.hid (St.alloc (HS.out) #[.int .i64 u.rank, .bool u.tn, .string (bs u.ta), .string (bs u.tb), .bool u.fn, .string (bs u.fa), .string (bs u.fb), .bool u.kn, .string (bs u.ka), .string (bs u.kb), .bool u.acc] 59 (wr.heap.size) (by simp))
         clear HS
         refine wp_region_eq 14 [.int .i64 (k : Nat), .bool false, .bool false, undef, undef, undef, undef, undef, undef, undef, undef, undef, undef, .bool false] rfl (by kernel_rfl) (by kernel_rfl) (by kernel_rfl) ?_ ?_
         refine ⟨?_, ?_, ?_, ?_, ?_, ?_, ?_, ?_, ?_, ?_, ?_, ?_, ?_, ?_, trivial⟩
         ·intro xx af wv hbx hev hev0 hd; have e3 : af.tmps[3]?.getD undef = .int .i64 (k : Nat) := hev0 3 rfl; clear hev hev0 hd; go_wp2; exact sQ rfl
         ·intro xx af wv hbx hev hev0 hd; have e31 := (hev 0 _ 31 rfl rfl).trans (hd ⟨0, .data⟩ (by simp) rfl); clear hev hev0 hd; go_wp2; exact sQ rfl
         ·intro xx af wv hbx hev hev0 hd; have e32 := (hev 1 _ 32 rfl rfl).trans (hd ⟨1, .data⟩ (by simp) rfl); clear hev hev0 hd; go_wp2; exact sQ rfl
         ·intro xx af wv hbx hev hev0 hd; have e33 := (hev 2 _ 33 rfl rfl).trans (hd ⟨2, .guard⟩ (by simp) rfl); have q33 := getD_bool e33; clear hev hev0 hd; go_wp2; exact sQ rfl
         ·intro xx af wv hbx hev hev0 hd; have e33 := (hev 2 _ 33 rfl rfl).trans (hd ⟨2, .guard⟩ (by simp) rfl); have q33 := getD_bool e33; clear hev hev0 hd; go_wp2; exact sQ rfl
         ·intro xx af wv hbx hev hev0 hd; have e33 := (hev 2 _ 33 rfl rfl).trans (hd ⟨2, .guard⟩ (by simp) rfl); have q33 := getD_bool e33; clear hev hev0 hd; go_wp2; exact sQ rfl
         ·intro xx af wv hbx hev hev0 hd; have e33 := (hev 2 _ 33 rfl rfl).trans (hd ⟨2, .guard⟩ (by simp) rfl); have q33 := getD_bool e33; clear hev hev0 hd; go_wp2; exact sQ rfl
         ·intro xx af wv hbx hev hev0 hd; have e33 := (hev 2 _ 33 rfl rfl).trans (hd ⟨2, .guard⟩ (by simp) rfl); have q33 := getD_bool e33; clear hev hev0 hd; go_wp2; exact sQ rfl
         ·intro xx af wv hbx hev hev0 hd; have e33 := (hev 2 _ 33 rfl rfl).trans (hd ⟨2, .guard⟩ (by simp) rfl); have q33 := getD_bool e33; clear hev hev0 hd; go_wp2; exact sQ rfl
         ·intro xx af wv hbx hev hev0 hd; have e33 := (hev 2 _ 33 rfl rfl).trans (hd ⟨2, .guard⟩ (by simp) rfl); have q33 := getD_bool e33; clear hev hev0 hd; go_wp2; exact sQ rfl
         ·intro xx af wv hbx hev hev0 hd; have e33 := (hev 2 _ 33 rfl rfl).trans (hd ⟨2, .guard⟩ (by simp) rfl); have q33 := getD_bool e33; clear hev hev0 hd; go_wp2; exact sQ rfl
         ·intro xx af wv hbx hev hev0 hd; have e33 := (hev 2 _ 33 rfl rfl).trans (hd ⟨2, .guard⟩ (by simp) rfl); have q33 := getD_bool e33; clear hev hev0 hd; go_wp2; exact sQ rfl
         ·intro xx af wv hbx hev hev0 hd; have e33 := (hev 2 _ 33 rfl rfl).trans (hd ⟨2, .guard⟩ (by simp) rfl); have q33 := getD_bool e33; clear hev hev0 hd; go_wp2; exact sQ rfl
         ·intro xx af wv hbx hev hev0 hd; have e33 := (hev 2 _ 33 rfl rfl).trans (hd ⟨2, .data⟩ (by simp) rfl); have e43 := (hev 12 _ 43 rfl rfl).trans (hd ⟨12, .data⟩ (by simp) rfl); clear hev hev0 hd; go_wp2; exact sQ rfl
         intro xx w6 hb9 hv
         simp only [List.take, List.drop, fillA, Act.put]
         simp only [show xx 0 = _ from hv 0 (by decide), show xx 1 = _ from hv 1 (by decide), show xx 2 = _ from hv 2 (by decide), show xx 3 = _ from hv 3 (by decide), show xx 4 = _ from hv 4 (by decide), show xx 5 = _ from hv 5 (by decide), show xx 6 = _ from hv 6 (by decide), show xx 7 = _ from hv 7 (by decide), show xx 8 = _ from hv 8 (by decide), show xx 9 = _ from hv 9 (by decide), show xx 10 = _ from hv 10 (by decide), show xx 11 = _ from hv 11 (by decide), show xx 12 = _ from hv 12 (by decide), show xx 13 = _ from hv 13 (by decide)]
         clear hv
         have HS6 := Lib.hid (HS4.out.call hb9)
         clear hb9 HS4
         obtain ⟨x15, x16, x17⟩ := HS6.out.k1 0 rfl rfl rfl rfl
         go_wp2_with fail
         refine (HT.out _).mono ?_
         rintro e w7 ⟨rfl, hb7⟩
         have HS7 := Lib.hid (HS6.out.call hb7)
         clear hb7 HS6
         clear x15 x16 x17
         go_wp2
         go_ret
         have HS8 := Lib.hid HS7.out
         rw [R.out]
         exact ⟨rfl, HS8.out.below⟩
        ·have k3 : decide (t ≤ 0) = false := decide_eq_false h3
         cases fB
         ·have R := Lib.hid (hra h12 rfl (.inr (.inl rfl)))
          clear hr hor hra hgo hn0 hn1
          have x2 : b < wr.heap.size := Nat.lt_of_lt_of_le hbb HS.out.below.size
          have x3 : ¬ b = wr.heap.size := by omega
          obtain ⟨x4, x5, x6, x7, x8, x9, x10, x11, x12, x13, x14⟩ := kE (HX.out _ HS.out.below) rfl rfl rfl rfl rfl rfl rfl rfl rfl rfl rfl
          go_wp2
          clear x2 x3 x4 x5 x6 x7 x8 x9 x10 x11 x12 x13 x14
          have HS4 := Lib.hid (St.alloc (HS.out) #[.int .i64 u.rank, .bool u.tn, .string (bs u.ta), .string (bs u.tb), .bool u.fn, .string (bs u.fa), .string (bs u.fb), .bool u.kn, .string (bs u.ka), .string (bs u.kb), .bool u.acc] 59 (wr.heap.size) (by simp))
          clear HS
          refine wp_region_eq 14 [.int .i64 (k : Nat), .bool false, .bool false, undef, undef, undef, undef, undef, undef, undef, undef, undef, undef, .bool false] rfl (by kernel_rfl) (by kernel_rfl) (by kernel_rfl) ?_ ?_
          refine ⟨?_, ?_, ?_, ?_, ?_, ?_, ?_, ?_, ?_, ?_, ?_, ?_, ?_, ?_, trivial⟩
          ·intro xx af wv hbx hev hev0 hd; have e3 : af.tmps[3]?.getD undef = .int .i64 (k : Nat) := hev0 3 rfl; clear hev hev0 hd; go_wp2; exact sQ rfl
          ·intro xx af wv hbx hev hev0 hd; have e31 := (hev 0 _ 31 rfl rfl).trans (hd ⟨0, .data⟩ (by simp) rfl); clear hev hev0 hd; go_wp2; exact sQ rfl
          ·intro xx af wv hbx hev hev0 hd; have e32 := (hev 1 _ 32 rfl rfl).trans (hd ⟨1, .data⟩ (by simp) rfl); clear hev hev0 hd; go_wp2; exact sQ rfl
          ·intro xx af wv hbx hev hev0 hd; have e33 := (hev 2 _ 33 rfl rfl).trans (hd ⟨2, .guard⟩ (by simp) rfl); have q33 := getD_bool e33; clear hev hev0 hd; go_wp2; exact sQ rfl
          ·intro xx af wv hbx hev hev0 hd; have e33 := (hev 2 _ 33 rfl rfl).trans (hd ⟨2, .guard⟩ (by simp) rfl); have q33 := getD_bool e33; clear hev hev0 hd; go_wp2; exact sQ rfl
          ·intro xx af wv hbx hev hev0 hd; have e33 := (hev 2 _ 33 rfl rfl).trans (hd ⟨2, .guard⟩ (by simp) rfl); have q33 := getD_bool e33; clear hev hev0 hd; go_wp2; exact sQ rfl
          ·intro xx af wv hbx hev hev0 hd; have e33 := (hev 2 _ 33 rfl rfl).trans (hd ⟨2, .guard⟩ (by simp) rfl); have q33 := getD_bool e33; clear hev hev0 hd; go_wp2; exact sQ rfl
          ·intro xx af wv hbx hev hev0 hd; have e33 := (hev 2 _ 33 rfl rfl).trans (hd ⟨2, .guard⟩ (by simp) rfl); have q33 := getD_bool e33; clear hev hev0 hd; go_wp2; exact sQ rfl
          ·intro xx af wv hbx hev hev0 hd; have e33 := (hev 2 _ 33 rfl rfl).trans (hd ⟨2, .guard⟩ (by simp) rfl); have q33 := getD_bool e33; clear hev hev0 hd; go_wp2; exact sQ rfl
          ·intro xx af wv hbx hev hev0 hd; have e33 := (hev 2 _ 33 rfl rfl).trans (hd ⟨2, .guard⟩ (by simp) rfl); have q33 := getD_bool e33; clear hev hev0 hd; go_wp2; exact sQ rfl
          ·intro xx af wv hbx hev hev0 hd; have e33 := (hev 2 _ 33 rfl rfl).trans (hd ⟨2, .guard⟩ (by simp) rfl); have q33 := getD_bool e33; clear hev hev0 hd; go_wp2; exact sQ rfl
          ·intro xx af wv hbx hev hev0 hd; have e33 := (hev 2 _ 33 rfl rfl).trans (hd ⟨2, .guard⟩ (by simp) rfl); have q33 := getD_bool e33; clear hev hev0 hd; go_wp2; exact sQ rfl
          ·intro xx af wv hbx hev hev0 hd; have e33 := (hev 2 _ 33 rfl rfl).trans (hd ⟨2, .guard⟩ (by simp) rfl); have q33 := getD_bool e33; clear hev hev0 hd; go_wp2; exact sQ rfl
          ·intro xx af wv hbx hev hev0 hd; have e33 := (hev 2 _ 33 rfl rfl).trans (hd ⟨2, .data⟩ (by simp) rfl); have e43 := (hev 12 _ 43 rfl rfl).trans (hd ⟨12, .data⟩ (by simp) rfl); clear hev hev0 hd; go_wp2; exact sQ rfl
          intro xx w6 hb9 hv
          simp only [List.take, List.drop, fillA, Act.put]
          simp only [show xx 0 = _ from hv 0 (by decide), show xx 1 = _ from hv 1 (by decide), show xx 2 = _ from hv 2 (by decide), show xx 3 = _ from hv 3 (by decide), show xx 4 = _ from hv 4 (by decide), show xx 5 = _ from hv 5 (by decide), show xx 6 = _ from hv 6 (by decide), show xx 7 = _ from hv 7 (by decide), show xx 8 = _ from hv 8 (by decide), show xx 9 = _ from hv 9 (by decide), show xx 10 = _ from hv 10 (by decide), show xx 11 = _ from hv 11 (by decide), show xx 12 = _ from hv 12 (by decide), show xx 13 = _ from hv 13 (by decide)]
          clear hv
          have HS6 := Lib.hid (HS4.out.call hb9)
          clear hb9 HS4
          obtain ⟨x15, x16, x17⟩ := HS6.out.k1 0 rfl rfl rfl rfl
          go_wp2_with fail
          refine (HT.out _).mono ?_
          rintro e w7 ⟨rfl, hb7⟩
          have HS7 := Lib.hid (HS6.out.call hb7)
          clear hb7 HS6
          clear x15 x16 x17
          obtain ⟨x18, x19, x20⟩ := HS7.out.k4 0 rfl rfl rfl rfl
          go_wp2_with fail
          refine (HF.out _).mono ?_
          rintro e w8 ⟨rfl, hb8⟩
          have HS8 := Lib.hid (HS7.out.call hb8)
          clear hb8 HS7
          clear x18 x19 x20
          go_wp2
          go_ret
          have HS9 := Lib.hid HS8.out
          rw [R.out]
          exact ⟨rfl, HS9.out.below⟩
         ·cases kB
          ·have R := Lib.hid (hra h12 rfl (.inr (.inr rfl)))
           clear hr hor hra hgo hn0 hn1
           have x2 : b < wr.heap.size := Nat.lt_of_lt_of_le hbb HS.out.below.size
           have x3 : ¬ b = wr.heap.size := by omega
           obtain ⟨x4, x5, x6, x7, x8, x9, x10, x11, x12, x13, x14⟩ := kE (HX.out _ HS.out.below) rfl rfl rfl rfl rfl rfl rfl rfl rfl rfl rfl
           go_wp2
           clear x2 x3 x4 x5 x6 x7 x8 x9 x10 x11 x12 x13 x14
           have HS4 := Lib.hid (St.alloc (HS.out) #[.int .i64 u.rank, .bool u.tn, .string (bs u.ta), .string (bs u.tb), .bool u.fn, .string (bs u.fa), .string (bs u.fb), .bool u.kn, .string (bs u.ka), .string (bs u.kb), .bool u.acc] 59 (wr.heap.size) (by simp))
           clear HS
           refine wp_region_eq 14 [.int .i64 (k : Nat), .bool false, .bool false, undef, undef, undef, undef, undef, undef, undef, undef, undef, undef, .bool false] rfl (by kernel_rfl) (by kernel_rfl) (by kernel_rfl) ?_ ?_
           refine ⟨?_, ?_, ?_, ?_, ?_, ?_, ?_, ?_, ?_, ?_, ?_, ?_, ?_, ?_, trivial⟩
           ·intro xx af wv hbx hev hev0 hd; have e3 : af.tmps[3]?.getD undef = .int .i64 (k : Nat) := hev0 3 rfl; clear hev hev0 hd; go_wp2; exact sQ rfl
           ·intro xx af wv hbx hev hev0 hd; have e31 := (hev 0 _ 31 rfl rfl).trans (hd ⟨0, .data⟩ (by simp) rfl); clear hev hev0 hd; go_wp2; exact sQ rfl
           ·intro xx af wv hbx hev hev0 hd; have e32 := (hev 1 _ 32 rfl rfl).trans (hd ⟨1, .data⟩ (by simp) rfl); clear hev hev0 hd; go_wp2; exact sQ rfl
           ·intro xx af wv hbx hev hev0 hd; have e33 := (hev 2 _ 33 rfl rfl).trans (hd ⟨2, .guard⟩ (by simp) rfl); have q33 := getD_bool e33; clear hev hev0 hd; go_wp2; exact sQ rfl
           ·intro xx af wv hbx hev hev0 hd; have e33 := (hev 2 _ 33 rfl rfl).trans (hd ⟨2, .guard⟩ (by simp) rfl); have q33 := getD_bool e33; clear hev hev0 hd; go_wp2; exact sQ rfl
           ·intro xx af wv hbx hev hev0 hd; have e33 := (hev 2 _ 33 rfl rfl).trans (hd ⟨2, .guard⟩ (by simp) rfl); have q33 := getD_bool e33; clear hev hev0 hd; go_wp2; exact sQ rfl
           ·intro xx af wv hbx hev hev0 hd; have e33 := (hev 2 _ 33 rfl rfl).trans (hd ⟨2, .guard⟩ (by simp) rfl); have q33 := getD_bool e33; clear hev hev0 hd; go_wp2; exact sQ rfl
           ·intro xx af wv hbx hev hev0 hd; have e33 := (hev 2 _ 33 rfl rfl).trans (hd ⟨2, .guard⟩ (by simp) rfl); have q33 := getD_bool e33; clear hev hev0 hd; go_wp2; exact sQ rfl
           ·intro xx af wv hbx hev hev0 hd; have e33 := (hev 2 _ 33 rfl rfl).trans (hd ⟨2, .guard⟩ (by simp) rfl); have q33 := getD_bool e33; clear hev hev0 hd; go_wp2; exact sQ rfl
           ·intro xx af wv hbx hev hev0 hd; have e33 := (hev 2 _ 33 rfl rfl).trans (hd ⟨2, .guard⟩ (by simp) rfl); have q33 := getD_bool e33; clear hev hev0 hd; go_wp2; exact sQ rfl
           ·intro xx af wv hbx hev hev0 hd; have e33 := (hev 2 _ 33 rfl rfl).trans (hd ⟨2, .guard⟩ (by simp) rfl); have q33 := getD_bool e33; clear hev hev0 hd; go_wp2; exact sQ rfl
           ·intro xx af wv hbx hev hev0 hd; have e33 := (hev 2 _ 33 rfl rfl).trans (hd ⟨2, .guard⟩ (by simp) rfl); have q33 := getD_bool e33; clear hev hev0 hd; go_wp2; exact sQ rfl
           ·intro xx af wv hbx hev hev0 hd; have e33 := (hev 2 _ 33 rfl rfl).trans (hd ⟨2, .guard⟩ (by simp) rfl); have q33 := getD_bool e33; clear hev hev0 hd; go_wp2; exact sQ rfl
           ·intro xx af wv hbx hev hev0 hd; have e33 := (hev 2 _ 33 rfl rfl).trans (hd ⟨2, .data⟩ (by simp) rfl); have e43 := (hev 12 _ 43 rfl rfl).trans (hd ⟨12, .data⟩ (by simp) rfl); clear hev hev0 hd; go_wp2; exact sQ rfl
           intro xx w6 hb9 hv
           simp only [List.take, List.drop, fillA, Act.put]
           simp only [show xx 0 = _ from hv 0 (by decide), show xx 1 = _ from hv 1 (by decide), show xx 2 = _ from hv 2 (by decide), show xx 3 = _ from hv 3 (by decide), show xx 4 = _ from hv 4 (by decide), show xx 5 = _ from hv 5 (by decide), show xx 6 = _ from hv 6 (by decide), show xx 7 = _ from hv 7 (by decide), show xx 8 = _ from hv 8 (by decide), show xx 9 = _ from hv 9 (by decide), show xx 10 = _ from hv 10 (by decide), show xx 11 = _ from hv 11 (by decide), show xx 12 = _ from hv 12 (by decide), show xx 13 = _ from hv 13 (by decide)]
           clear hv
           have HS6 := Lib.hid (HS4.out.call hb9)
           clear hb9 HS4
           obtain ⟨x15, x16, x17⟩ := HS6.out.k1 0 rfl rfl rfl rfl
           go_wp2_with fail
           refine (HT.out _).mono ?_
           rintro e w7 ⟨rfl, hb7⟩
           have HS7 := Lib.hid (HS6.out.call hb7)
           clear hb7 HS6
           clear x15 x16 x17
           obtain ⟨x18, x19, x20⟩ := HS7.out.k4 0 rfl rfl rfl rfl
           go_wp2_with fail
           refine (HF.out _).mono ?_
           rintro e w8 ⟨rfl, hb8⟩
           have HS8 := Lib.hid (HS7.out.call hb8)
           clear hb8 HS7
           clear x18 x19 x20
           obtain ⟨x21, x22, x23⟩ := HS8.out.k7 0 rfl rfl rfl rfl
           go_wp2_with fail
           refine (HK.out _).mono ?_
           rintro e w9 ⟨rfl, hb9⟩
           have HS9 := Lib.hid (HS8.out.call hb9)
           clear hb9 HS8
           clear x21 x22 x23
           go_wp2
           go_ret
           have HS10 := Lib.hid HS9.out
           rw [R.out]
           exact ⟨rfl, HS10.out.below⟩
          ·have R := Lib.hid (hgo h12 rfl h3 rfl rfl)
           clear hr hor hra hgo hn0 hn1
           have x2 : b < wr.heap.size := Nat.lt_of_lt_of_le hbb HS.out.below.size
           have x3 : ¬ b = wr.heap.size := by omega
           obtain ⟨x4, x5, x6, x7, x8, x9, x10, x11, x12, x13, x14⟩ := kE (HX.out _ HS.out.below) rfl rfl rfl rfl rfl rfl rfl rfl rfl rfl rfl
           go_wp2
           clear x2 x3 x4 x5 x6 x7 x8 x9 x10 x11 x12 x13 x14
           have HS4 := Lib.hid (St.alloc (HS.out) #[.int .i64 u.rank, .bool u.tn, .string (bs u.ta), .string (bs u.tb), .bool u.fn, .string (bs u.fa), .string (bs u.fb), .bool u.kn, .string (bs u.ka), .string (bs u.kb), .bool u.acc] 59 (wr.heap.size) (by simp))
           clear HS
           refine wp_region_eq 14 [.int .i64 (k : Nat), .bool false, .bool false, undef, undef, undef, undef, undef, undef, undef, undef, undef, undef, .bool false] rfl (by kernel_rfl) (by kernel_rfl) (by kernel_rfl) ?_ ?_
           refine ⟨?_, ?_, ?_, ?_, ?_, ?_, ?_, ?_, ?_, ?_, ?_, ?_, ?_, ?_, trivial⟩
           ·intro xx af wv hbx hev hev0 hd; have e3 : af.tmps[3]?.getD undef = .int .i64 (k : Nat) := hev0 3 rfl; clear hev hev0 hd; go_wp2; exact sQ rfl
           ·intro xx af wv hbx hev hev0 hd; have e31 := (hev 0 _ 31 rfl rfl).trans (hd ⟨0, .data⟩ (by simp) rfl); clear hev hev0 hd; go_wp2; exact sQ rfl
           ·intro xx af wv hbx hev hev0 hd; have e32 := (hev 1 _ 32 rfl rfl).trans (hd ⟨1, .data⟩ (by simp) rfl); clear hev hev0 hd; go_wp2; exact sQ rfl
           ·intro xx af wv hbx hev hev0 hd; have e33 := (hev 2 _ 33 rfl rfl).trans (hd ⟨2, .guard⟩ (by simp) rfl); have q33 := getD_bool e33; clear hev hev0 hd; go_wp2; exact sQ rfl
           ·intro xx af wv hbx hev hev0 hd; have e33 := (hev 2 _ 33 rfl rfl).trans (hd ⟨2, .guard⟩ (by simp) rfl); have q33 := getD_bool e33; clear hev hev0 hd; go_wp2; exact sQ rfl
           ·intro xx af wv hbx hev hev0 hd; have e33 := (hev 2 _ 33 rfl rfl).trans (hd ⟨2, .guard⟩ (by simp) rfl); have q33 := getD_bool e33; clear hev hev0 hd; go_wp2; exact sQ rfl
           ·intro xx af wv hbx hev hev0 hd; have e33 := (hev 2 _ 33 rfl rfl).trans (hd ⟨2, .guard⟩ (by simp) rfl); have q33 := getD_bool e33; clear hev hev0 hd; go_wp2; exact sQ rfl
           ·intro xx af wv hbx hev hev0 hd; have e33 := (hev 2 _ 33 rfl rfl).trans (hd ⟨2, .guard⟩ (by simp) rfl); have q33 := getD_bool e33; clear hev hev0 hd; go_wp2; exact sQ rfl
           ·intro xx af wv hbx hev hev0 hd; have e33 := (hev 2 _ 33 rfl rfl).trans (hd ⟨2, .guard⟩ (by simp) rfl); have q33 := getD_bool e33; clear hev hev0 hd; go_wp2; exact sQ rfl
           ·intro xx af wv hbx hev hev0 hd; have e33 := (hev 2 _ 33 rfl rfl).trans (hd ⟨2, .guard⟩ (by simp) rfl); have q33 := getD_bool e33; clear hev hev0 hd; go_wp2; exact sQ rfl
           ·intro xx af wv hbx hev hev0 hd; have e33 := (hev 2 _ 33 rfl rfl).trans (hd ⟨2, .guard⟩ (by simp) rfl); have q33 := getD_bool e33; clear hev hev0 hd; go_wp2; exact sQ rfl
           ·intro xx af wv hbx hev hev0 hd; have e33 := (hev 2 _ 33 rfl rfl).trans (hd ⟨2, .guard⟩ (by simp) rfl); have q33 := getD_bool e33; clear hev hev0 hd; go_wp2; exact sQ rfl
           ·intro xx af wv hbx hev hev0 hd; have e33 := (hev 2 _ 33 rfl rfl).trans (hd ⟨2, .guard⟩ (by simp) rfl); have q33 := getD_bool e33; clear hev hev0 hd; go_wp2; exact sQ rfl
           ·intro xx af wv hbx hev hev0 hd; have e33 := (hev 2 _ 33 rfl rfl).trans (hd ⟨2, .data⟩ (by simp) rfl); have e43 := (hev 12 _ 43 rfl rfl).trans (hd ⟨12, .data⟩ (by simp) rfl); clear hev hev0 hd; go_wp2; exact sQ rfl
           intro xx w6 hb9 hv
           simp only [List.take, List.drop, fillA, Act.put]
           simp only [show xx 0 = _ from hv 0 (by decide), show xx 1 = _ from hv 1 (by decide), show xx 2 = _ from hv 2 (by decide), show xx 3 = _ from hv 3 (by decide), show xx 4 = _ from hv 4 (by decide), show xx 5 = _ from hv 5 (by decide), show xx 6 = _ from hv 6 (by decide), show xx 7 = _ from hv 7 (by decide), show xx 8 = _ from hv 8 (by decide), show xx 9 = _ from hv 9 (by decide), show xx 10 = _ from hv 10 (by decide), show xx 11 = _ from hv 11 (by decide), show xx 12 = _ from hv 12 (by decide), show xx 13 = _ from hv 13 (by decide)]
           clear hv
           have HS6 := Lib.hid (HS4.out.call hb9)
           clear hb9 HS4
           obtain ⟨x15, x16, x17⟩ := HS6.out.k1 0 rfl rfl rfl rfl
           go_wp2_with fail
           refine (HT.out _).mono ?_
           rintro e w7 ⟨rfl, hb7⟩
           have HS7 := Lib.hid (HS6.out.call hb7)
           clear hb7 HS6
           clear x15 x16 x17
           obtain ⟨x18, x19, x20⟩ := HS7.out.k4 0 rfl rfl rfl rfl
           go_wp2_with fail
           refine (HF.out _).mono ?_
           rintro e w8 ⟨rfl, hb8⟩
           have HS8 := Lib.hid (HS7.out.call hb8)
           clear hb8 HS7
           clear x18 x19 x20
           obtain ⟨x21, x22, x23⟩ := HS8.out.k7 0 rfl rfl rfl rfl
           go_wp2_with fail
           refine (HK.out _).mono ?_
           rintro e w9 ⟨rfl, hb9⟩
           have HS9 := Lib.hid (HS8.out.call hb9)
           clear hb9 HS8
           clear x21 x22 x23
           go_wp2
           have HS10 := Lib.hid HS9.out
           go_roundw
           case rel => exact ⟨k + 1, by omega, by go_num, R.out, HS10.out.sub (by simp)⟩
           case measure => simp [intOf]; omega
       ·obtain ⟨j, hj⟩ : ∃ j, k = j + 1 := ⟨k - 1, by omega⟩
        have kz : decide ((0 : Int) < ((k : Nat) : Int)) = true := decide_eq_true (by omega)
        have kz2 : decide (0 < k) = true := decide_eq_true (by omega)
        obtain ⟨b2, o2, p, he, hbb2, hq2, hx2⟩ := H.out.at_ (show j < l.length by omega)
        have hb2 : b = b2 := by simp at he; omega
        have ho2 : o = o2 := by simp at he; omega
        subst hb2
        subst ho2
        have hnb := hn1 j p hj hq2
        have kj : IntKind.i64.wrap (((k : Nat) : Int) - 1) = ((j : Nat) : Int) := by rw [IntWalk.i64_in _ (by omega)]; omega
        have e2 : (0 : Int) ≤ ((j : Nat) : Int) := by omega
        have e3 : ((j : Nat) : Int) < (l.length : Int) := by omega
        have HX2 := Lib.hid hx2
        have hnb2 : decide (u.rank ≤ p.rank) = nb := hnb.symm
        clear he hbb2 hq2 hx2 hnb hz hj
        cases nb
        ·by_cases h3 : t ≤ 0
         ·have k3 : decide (t ≤ 0) = true := decide_eq_true h3
          have R := Lib.hid (hra h12 rfl (.inl h3))
          clear hr hor hra hgo hn0 hn1
          have x2 : b < wr.heap.size := Nat.lt_of_lt_of_le hbb HS.out.below.size
          have x3 : ¬ b = wr.heap.size := by omega
          obtain ⟨x4, x5, x6, x7, x8, x9, x10, x11, x12, x13, x14⟩ := kE (HX.out _ HS.out.below) rfl rfl rfl rfl rfl rfl rfl rfl rfl rfl rfl
          go_wp2
          clear x2 x3 x4 x5 x6 x7 x8 x9 x10 x11 x12 x13 x14
          have HS4 := Lib.hid (St.alloc (HS.out) #[.int .i64 u.rank, .bool u.tn, .string (bs u.ta), .string (bs u.tb), .bool u.fn, .string (bs u.fa), .string (bs u.fb), .bool u.kn, .string (bs u.ka), .string (bs u.kb), .bool u.acc] 59 (wr.heap.size) (by simp))
          clear HS
          refine wp_region_eq 14 [.int .i64 (k : Nat), .bool true, .bool true, .pointer (some ⟨wr.heap.size, 0, none⟩), .int .i64 u.rank, .pointer (some ⟨w.heap.size, 3, none⟩), .slice (some ⟨b, o, none⟩) l.length c, .int .i64 (k : Nat), .int .i64 (j : Nat), .pointer (some ⟨b, o + j * 11, none⟩), .pointer (some ⟨b, o + j * 11, none⟩), .int .i64 p.rank, .bool false, .bool false] rfl (by kernel_rfl) (by kernel_rfl) (by kernel_rfl) ?_ ?_
          refine ⟨?_, ?_, ?_, ?_, ?_, ?_, ?_, ?_, ?_, ?_, ?_, ?_, ?_, ?_, trivial⟩
          ·intro xx af wv hbx hev hev0 hd; have e3 : af.tmps[3]?.getD undef = .int .i64 (k : Nat) := hev0 3 rfl; clear hev hev0 hd; go_wp2; exact sQ rfl
          ·intro xx af wv hbx hev hev0 hd; have e31 := (hev 0 _ 31 rfl rfl).trans (hd ⟨0, .data⟩ (by simp) rfl); clear hev hev0 hd; go_wp2; exact sQ rfl
          ·intro xx af wv hbx hev hev0 hd; have e32 := (hev 1 _ 32 rfl rfl).trans (hd ⟨1, .data⟩ (by simp) rfl); clear hev hev0 hd; go_wp2; exact sQ rfl
          ·intro xx af wv hbx hev hev0 hd; have e33 := (hev 2 _ 33 rfl rfl).trans (hd ⟨2, .guard⟩ (by simp) rfl); have e4 : af.tmps[4]?.getD undef = .pointer (some ⟨wr.heap.size, 0, none⟩) := hev0 4 rfl; have q33 := getD_bool e33; clear hev hev0 hd; go_wp2; exact sQ rfl
          ·intro xx af wv hbx hev hev0 hd; have e33 := (hev 2 _ 33 rfl rfl).trans (hd ⟨2, .guard⟩ (by simp) rfl); have e34 := (hev 3 _ 34 rfl rfl).trans (hd ⟨3, .data⟩ (by simp) rfl); have q33 := getD_bool e33; clear hev hev0 hd; have hs1 := Lib.hid (HS4.out.call hbx); have y0 := hs1.out.cell 0 rfl 0 rfl; go_wp2; exact sQ rfl
          ·intro xx af wv hbx hev hev0 hd; have e33 := (hev 2 _ 33 rfl rfl).trans (hd ⟨2, .guard⟩ (by simp) rfl); have e1 : af.tmps[1]?.getD undef = .pointer (some ⟨w.heap.size, 0, none⟩) := hev0 1 rfl; have q33 := getD_bool e33; clear hev hev0 hd; go_wp2; exact sQ rfl
          ·intro xx af wv hbx hev hev0 hd; have e33 := (hev 2 _ 33 rfl rfl).trans (hd ⟨2, .guard⟩ (by simp) rfl); have e36 := (hev 5 _ 36 rfl rfl).trans (hd ⟨5, .data⟩ (by simp) rfl); have q33 := getD_bool e33; clear hev hev0 hd; have hs1 := Lib.hid (HS4.out.call hbx); have y0 := hs1.out.cell 1 rfl 3 rfl; go_wp2; exact sQ rfl
          ·intro xx af wv hbx hev hev0 hd; have e33 := (hev 2 _ 33 rfl rfl).trans (hd ⟨2, .guard⟩ (by simp) rfl); have e3 : af.tmps[3]?.getD undef = .int .i64 (k : Nat) := hev0 3 rfl; have q33 := getD_bool e33; clear hev hev0 hd; go_wp2; exact sQ rfl
          ·intro xx af wv hbx hev hev0 hd; have e33 := (hev 2 _ 33 rfl rfl).trans (hd ⟨2, .guard⟩ (by simp) rfl); have e38 := (hev 7 _ 38 rfl rfl).trans (hd ⟨7, .data⟩ (by simp) rfl); have q33 := getD_bool e33; clear hev hev0 hd; go_wp2; exact sQ rfl
          ·intro xx af wv hbx hev hev0 hd; have e33 := (hev 2 _ 33 rfl rfl).trans (hd ⟨2, .guard⟩ (by simp) rfl); have e37 := (hev 6 _ 37 rfl rfl).trans (hd ⟨6, .data⟩ (by simp) rfl); have e39 := (hev 8 _ 39 rfl rfl).trans (hd ⟨8, .data⟩ (by simp) rfl); have q33 := getD_bool e33; clear hev hev0 hd; go_wp2; exact sQ rfl
          ·intro xx af wv hbx hev hev0 hd; have e33 := (hev 2 _ 33 rfl rfl).trans (hd ⟨2, .guard⟩ (by simp) rfl); have e40 := (hev 9 _ 40 rfl rfl).trans (hd ⟨9, .data⟩ (by simp) rfl); have q33 := getD_bool e33; clear hev hev0 hd; go_wp2; exact sQ rfl
          ·intro xx af wv hbx hev hev0 hd; have e33 := (hev 2 _ 33 rfl rfl).trans (hd ⟨2, .guard⟩ (by simp) rfl); have e41 := (hev 10 _ 41 rfl rfl).trans (hd ⟨10, .data⟩ (by simp) rfl); have q33 := getD_bool e33; clear hev hev0 hd; have hs1 := Lib.hid (HS4.out.call hbx); have y0 := HX2.out _ hs1.out.below 0 _ rfl; rw [Nat.add_zero] at y0; go_wp2; exact sQ rfl
          ·intro xx af wv hbx hev hev0 hd; have e33 := (hev 2 _ 33 rfl rfl).trans (hd ⟨2, .guard⟩ (by simp) rfl); have e35 := (hev 4 _ 35 rfl rfl).trans (hd ⟨4, .data⟩ (by simp) rfl); have e42 := (hev 11 _ 42 rfl rfl).trans (hd ⟨11, .data⟩ (by simp) rfl); have q33 := getD_bool e33; clear hev hev0 hd; go_wp2; exact sQ rfl
          ·intro xx af wv hbx hev hev0 hd; have e33 := (hev 2 _ 33 rfl rfl).trans (hd ⟨2, .data⟩ (by simp) rfl); have e43 := (hev 12 _ 43 rfl rfl).trans (hd ⟨12, .data⟩ (by simp) rfl); clear hev hev0 hd; go_wp2; exact sQ rfl
          intro xx w6 hb9 hv
          simp only [List.take, List.drop, fillA, Act.put]
          simp only [show xx 0 = _ from hv 0 (by decide), show xx 1 = _ from hv 1 (by decide), show xx 2 = _ from hv 2 (by decide), show xx 3 = _ from hv 3 (by decide), show xx 4 = _ from hv 4 (by decide), show xx 5 = _ from hv 5 (by decide), show xx 6 = _ from hv 6 (by decide), show xx 7 = _ from hv 7 (by decide), show xx 8 = _ from hv 8 (by decide), show xx 9 = _ from hv 9 (by decide), show xx 10 = _ from hv 10 (by decide), show xx 11 = _ from hv 11 (by decide), show xx 12 = _ from hv 12 (by decide), show xx 13 = _ from hv 13 (by decide)]
          clear hv
          have HS6 := Lib.hid (HS4.out.call hb9)
          clear hb9 HS4
          obtain ⟨x15, x16, x17⟩ := HS6.out.k1 0 rfl rfl rfl rfl
          go_wp2_with fail
          refine (HT.out _).mono ?_
          rintro e w7 ⟨rfl, hb7⟩
          have HS7 := Lib.hid (HS6.out.call hb7)
          clear hb7 HS6
          clear x15 x16 x17
          go_wp2
          go_ret
          have HS8 := Lib.hid HS7.out
          rw [R.out]
          exact ⟨rfl, HS8.out.below⟩
         ·have k3 : decide (t ≤ 0) = false := decide_eq_false h3
          cases fB
          ·have R := Lib.hid (hra h12 rfl (.inr (.inl rfl)))
           clear hr hor hra hgo hn0 hn1
           have x2 : b < wr.heap.size := Nat.lt_of_lt_of_le hbb HS.out.below.size
           have x3 : ¬ b = wr.heap.size := by omega
           obtain ⟨x4, x5, x6, x7, x8, x9, x10, x11, x12, x13, x14⟩ := kE (HX.out _ HS.out.below) rfl rfl rfl rfl rfl rfl rfl rfl rfl rfl rfl
           go_wp2
           clear x2 x3 x4 x5 x6 x7 x8 x9 x10 x11 x12 x13 x14
           have HS4 := Lib.hid (St.alloc (HS.out) #[.int .i64 u.rank, .bool u.tn, .string (bs u.ta), .string (bs u.tb), .bool u.fn, .string (bs u.fa), .string (bs u.fb), .bool u.kn, .string (bs u.ka), .string (bs u.kb), .bool u.acc] 59 (wr.heap.size) (by simp))
           clear HS
           refine wp_region_eq 14 [.int .i64 (k : Nat), .bool true, .bool true, .pointer (some ⟨wr.heap.size, 0, none⟩), .int .i64 u.rank, .pointer (some ⟨w.heap.size, 3, none⟩), .slice (some ⟨b, o, none⟩) l.length c, .int .i64 (k : Nat), .int .i64 (j : Nat), .pointer (some ⟨b, o + j * 11, none⟩), .pointer (some ⟨b, o + j * 11, none⟩), .int .i64 p.rank, .bool false, .bool false] rfl (by kernel_rfl) (by kernel_rfl) (by kernel_rfl) ?_ ?_
           refine ⟨?_, ?_, ?_, ?_, ?_, ?_, ?_, ?_, ?_, ?_, ?_, ?_, ?_, ?_, trivial⟩
           ·intro xx af wv hbx hev hev0 hd; have e3 : af.tmps[3]?.getD undef = .int .i64 (k : Nat) := hev0 3 rfl; clear hev hev0 hd; go_wp2; exact sQ rfl
           ·intro xx af wv hbx hev hev0 hd; have e31 := (hev 0 _ 31 rfl rfl).trans (hd ⟨0, .data⟩ (by simp) rfl); clear hev hev0 hd; go_wp2; exact sQ rfl
           ·intro xx af wv hbx hev hev0 hd; have e32 := (hev 1 _ 32 rfl rfl).trans (hd ⟨1, .data⟩ (by simp) rfl); clear hev hev0 hd; go_wp2; exact sQ rfl
           ·intro xx af wv hbx hev hev0 hd; have e33 := (hev 2 _ 33 rfl rfl).trans (hd ⟨2, .guard⟩ (by simp) rfl); have e4 : af.tmps[4]?.getD undef = .pointer (some ⟨wr.heap.size, 0, none⟩) := hev0 4 rfl; have q33 := getD_bool e33; clear hev hev0 hd; go_wp2; exact sQ rfl
           ·intro xx af wv hbx hev hev0 hd; have e33 := (hev 2 _ 33 rfl rfl).trans (hd ⟨2, .guard⟩ (by simp) rfl); have e34 := (hev 3 _ 34 rfl rfl).trans (hd ⟨3, .data⟩ (by simp) rfl); have q33 := getD_bool e33; clear hev hev0 hd; have hs1 := Lib.hid (HS4.out.call hbx); have y0 := hs1.out.cell 0 rfl 0 rfl; go_wp2; exact sQ rfl
           ·intro xx af wv hbx hev hev0 hd; have e33 := (hev 2 _ 33 rfl rfl).trans (hd ⟨2, .guard⟩ (by simp) rfl); have e1 : af.tmps[1]?.getD undef = .pointer (some ⟨w.heap.size, 0, none⟩) := hev0 1 rfl; have q33 := getD_bool e33; clear hev hev0 hd; go_wp2; exact sQ rfl
           ·intro xx af wv hbx hev hev0 hd; have e33 := (hev 2 _ 33 rfl rfl).trans (hd ⟨2, .guard⟩ (by simp) rfl); have e36 := (hev 5 _ 36 rfl rfl).trans (hd ⟨5, .data⟩ (by simp) rfl); have q33 := getD_bool e33; clear hev hev0 hd; have hs1 := Lib.hid (HS4.out.call hbx); have y0 := hs1.out.cell 1 rfl 3 rfl; go_wp2; exact sQ rfl
           ·intro xx af wv hbx hev hev0 hd; have e33 := (hev 2 _ 33 rfl rfl).trans (hd ⟨2, .guard⟩ (by simp) rfl); have e3 : af.tmps[3]?.getD undef = .int .i64 (k : Nat) := hev0 3 rfl; have q33 := getD_bool e33; clear hev hev0 hd; go_wp2; exact sQ rfl
           ·intro xx af wv hbx hev hev0 hd; have e33 := (hev 2 _ 33 rfl rfl).trans (hd ⟨2, .guard⟩ (by simp) rfl); have e38 := (hev 7 _ 38 rfl rfl).trans (hd ⟨7, .data⟩ (by simp) rfl); have q33 := getD_bool e33; clear hev hev0 hd; go_wp2; exact sQ rfl
           ·intro xx af wv hbx hev hev0 hd; have e33 := (hev 2 _ 33 rfl rfl).trans (hd ⟨2, .guard⟩ (by simp) rfl); have e37 := (hev 6 _ 37 rfl rfl).trans (hd ⟨6, .data⟩ (by simp) rfl); have e39 := (hev 8 _ 39 rfl rfl).trans (hd ⟨8, .data⟩ (by simp) rfl); have q33 := getD_bool e33; clear hev hev0 hd; go_wp2; exact sQ rfl
           ·intro xx af wv hbx hev hev0 hd; have e33 := (hev 2 _ 33 rfl rfl).trans (hd ⟨2, .guard⟩ (by simp) rfl); have e40 := (hev 9 _ 40 rfl rfl).trans (hd ⟨9, .data⟩ (by simp) rfl); have q33 := getD_bool e33; clear hev hev0 hd; go_wp2; exact sQ rfl
           ·intro xx af wv hbx hev hev0 hd; have e33 := (hev 2 _ 33 rfl rfl).trans (hd ⟨2, .guard⟩ (by simp) rfl); have e41 := (hev 10 _ 41 rfl rfl).trans (hd ⟨10, .data⟩ (by simp) rfl); have q33 := getD_bool e33; clear hev hev0 hd; have hs1 := Lib.hid (HS4.out.call hbx); have y0 := HX2.out _ hs1.out.below 0 _ rfl; rw [Nat.add_zero] at y0; go_wp2; exact sQ rfl
           ·intro xx af wv hbx hev hev0 hd; have e33 := (hev 2 _ 33 rfl rfl).trans (hd ⟨2, .guard⟩ (by simp) rfl); have e35 := (hev 4 _ 35 rfl rfl).trans (hd ⟨4, .data⟩ (by simp) rfl); have e42 := (hev 11 _ 42 rfl rfl).trans (hd ⟨11, .data⟩ (by simp) rfl); have q33 := getD_bool e33; clear hev hev0 hd; go_wp2; exact sQ rfl
           ·intro xx af wv hbx hev hev0 hd; have e33 := (hev 2 _ 33 rfl rfl).trans (hd ⟨2, .data⟩ (by simp) rfl); have e43 := (hev 12 _ 43 rfl rfl).trans (hd ⟨12, .data⟩ (by simp) rfl); clear hev hev0 hd; go_wp2; exact sQ rfl
           intro xx w6 hb9 hv
           simp only [List.take, List.drop, fillA, Act.put]
           simp only [show xx 0 = _ from hv 0 (by decide), show xx 1 = _ from hv 1 (by decide), show xx 2 = _ from hv 2 (by decide), show xx 3 = _ from hv 3 (by decide), show xx 4 = _ from hv 4 (by decide), show xx 5 = _ from hv 5 (by decide), show xx 6 = _ from hv 6 (by decide), show xx 7 = _ from hv 7 (by decide), show xx 8 = _ from hv 8 (by decide), show xx 9 = _ from hv 9 (by decide), show xx 10 = _ from hv 10 (by decide), show xx 11 = _ from hv 11 (by decide), show xx 12 = _ from hv 12 (by decide), show xx 13 = _ from hv 13 (by decide)]
           clear hv
           have HS6 := Lib.hid (HS4.out.call hb9)
           clear hb9 HS4
           obtain ⟨x15, x16, x17⟩ := HS6.out.k1 0 rfl rfl rfl rfl
           go_wp2_with fail
           refine (HT.out _).mono ?_
           rintro e w7 ⟨rfl, hb7⟩
           have HS7 := Lib.hid (HS6.out.call hb7)
           clear hb7 HS6
           clear x15 x16 x17
           obtain ⟨x18, x19, x20⟩ := HS7.out.k4 0 rfl rfl rfl rfl
           go_wp2_with fail
           refine (HF.out _).mono ?_
           rintro e w8 ⟨rfl, hb8⟩
           have HS8 := Lib.hid (HS7.out.call hb8)
           clear hb8 HS7
           clear x18 x19 x20
           go_wp2
           go_ret
           have HS9 := Lib.hid HS8.out
           rw [R.out]
           exact ⟨rfl, HS9.out.below⟩
          ·cases kB
           ·have R := Lib.hid (hra h12 rfl (.inr (.inr rfl)))
            clear hr hor hra hgo hn0 hn1
            have x2 : b < wr.heap.size := Nat.lt_of_lt_of_le hbb HS.out.below.size
            have x3 : ¬ b = wr.heap.size := by omega
            obtain ⟨x4, x5, x6, x7, x8, x9, x10, x11, x12, x13, x14⟩ := kE (HX.out _ HS.out.below) rfl rfl rfl rfl rfl rfl rfl rfl rfl rfl rfl
            go_wp2
            clear x2 x3 x4 x5 x6 x7 x8 x9 x10 x11 x12 x13 x14
            have HS4 := Lib.hid (St.alloc (HS.out) #[.int .i64 u.rank, .bool u.tn, .string (bs u.ta), .string (bs u.tb), .bool u.fn, .string (bs u.fa), .string (bs u.fb), .bool u.kn, .string (bs u.ka), .string (bs u.kb), .bool u.acc] 59 (wr.heap.size) (by simp))
            clear HS
            refine wp_region_eq 14 [.int .i64 (k : Nat), .bool true, .bool true, .pointer (some ⟨wr.heap.size, 0, none⟩), .int .i64 u.rank, .pointer (some ⟨w.heap.size, 3, none⟩), .slice (some ⟨b, o, none⟩) l.length c, .int .i64 (k : Nat), .int .i64 (j : Nat), .pointer (some ⟨b, o + j * 11, none⟩), .pointer (some ⟨b, o + j * 11, none⟩), .int .i64 p.rank, .bool false, .bool false] rfl (by kernel_rfl) (by kernel_rfl) (by kernel_rfl) ?_ ?_
            refine ⟨?_, ?_, ?_, ?_, ?_, ?_, ?_, ?_, ?_, ?_, ?_, ?_, ?_, ?_, trivial⟩
            ·intro xx af wv hbx hev hev0 hd; have e3 : af.tmps[3]?.getD undef = .int .i64 (k : Nat) := hev0 3 rfl; clear hev hev0 hd; go_wp2; exact sQ rfl
            ·intro xx af wv hbx hev hev0 hd; have e31 := (hev 0 _ 31 rfl rfl).trans (hd ⟨0, .data⟩ (by simp) rfl); clear hev hev0 hd; go_wp2; exact sQ rfl
            ·intro xx af wv hbx hev hev0 hd; have e32 := (hev 1 _ 32 rfl rfl).trans (hd ⟨1, .data⟩ (by simp) rfl); clear hev hev0 hd; go_wp2; exact sQ rfl
            ·intro xx af wv hbx hev hev0 hd; have e33 := (hev 2 _ 33 rfl rfl).trans (hd ⟨2, .guard⟩ (by simp) rfl); have e4 : af.tmps[4]?.getD undef = .pointer (some ⟨wr.heap.size, 0, none⟩) := hev0 4 rfl; have q33 := getD_bool e33; clear hev hev0 hd; go_wp2; exact sQ rfl
            ·intro xx af wv hbx hev hev0 hd; have e33 := (hev 2 _ 33 rfl rfl).trans (hd ⟨2, .guard⟩ (by simp) rfl); have e34 := (hev 3 _ 34 rfl rfl).trans (hd ⟨3, .data⟩ (by simp) rfl); have q33 := getD_bool e33; clear hev hev0 hd; have hs1 := Lib.hid (HS4.out.call hbx); have y0 := hs1.out.cell 0 rfl 0 rfl; go_wp2; exact sQ rfl
            ·intro xx af wv hbx hev hev0 hd; have e33 := (hev 2 _ 33 rfl rfl).trans (hd ⟨2, .guard⟩ (by simp) rfl); have e1 : af.tmps[1]?.getD undef = .pointer (some ⟨w.heap.size, 0, none⟩) := hev0 1 rfl; have q33 := getD_bool e33; clear hev hev0 hd; go_wp2; exact sQ rfl
            ·intro xx af wv hbx hev hev0 hd; have e33 := (hev 2 _ 33 rfl rfl).trans (hd ⟨2, .guard⟩ (by simp) rfl); have e36 := (hev 5 _ 36 rfl rfl).trans (hd ⟨5, .data⟩ (by simp) rfl); have q33 := getD_bool e33; clear hev hev0 hd; have hs1 := Lib.hid (HS4.out.call hbx); have y0 := hs1.out.cell 1 rfl 3 rfl; go_wp2; exact sQ rfl
            ·intro xx af wv hbx hev hev0 hd; have e33 := (hev 2 _ 33 rfl rfl).trans (hd ⟨2, .guard⟩ (by simp) rfl); have e3 : af.tmps[3]?.getD undef = .int .i64 (k : Nat) := hev0 3 rfl; have q33 := getD_bool e33; clear hev hev0 hd; go_wp2; exact sQ rfl
            ·intro xx af wv hbx hev hev0 hd; have e33 := (hev 2 _ 33 rfl rfl).trans (hd ⟨2, .guard⟩ (by simp) rfl); have e38 := (hev 7 _ 38 rfl rfl).trans (hd ⟨7, .data⟩ (by simp) rfl); have q33 := getD_bool e33; clear hev hev0 hd; go_wp2; exact sQ rfl
            ·intro xx af wv hbx hev hev0 hd; have e33 := (hev 2 _ 33 rfl rfl).trans (hd ⟨2, .guard⟩ (by simp) rfl); have e37 := (hev 6 _ 37 rfl rfl).trans (hd ⟨6, .data⟩ (by simp) rfl); have e39 := (hev 8 _ 39 rfl rfl).trans (hd ⟨8, .data⟩ (by simp) rfl); have q33 := getD_bool e33; clear hev hev0 hd; go_wp2; exact sQ rfl
            ·intro xx af wv hbx hev hev0 hd; have e33 := (hev 2 _ 33 rfl rfl).trans (hd ⟨2, .guard⟩ (by simp) rfl); have e40 := (hev 9 _ 40 rfl rfl).trans (hd ⟨9, .data⟩ (by simp) rfl); have q33 := getD_bool e33; clear hev hev0 hd; go_wp2; exact sQ rfl
            ·intro xx af wv hbx hev hev0 hd; have e33 := (hev 2 _ 33 rfl rfl).trans (hd ⟨2, .guard⟩ (by simp) rfl); have e41 := (hev 10 _ 41 rfl rfl).trans (hd ⟨10, .data⟩ (by simp) rfl); have q33 := getD_bool e33; clear hev hev0 hd; have hs1 := Lib.hid (HS4.out.call hbx); have y0 := HX2.out _ hs1.out.below 0 _ rfl; rw [Nat.add_zero] at y0; go_wp2; exact sQ rfl
            ·intro xx af wv hbx hev hev0 hd; have e33 := (hev 2 _ 33 rfl rfl).trans (hd ⟨2, .guard⟩ (by simp) rfl); have e35 := (hev 4 _ 35 rfl rfl).trans (hd ⟨4, .data⟩ (by simp) rfl); have e42 := (hev 11 _ 42 rfl rfl).trans (hd ⟨11, .data⟩ (by simp) rfl); have q33 := getD_bool e33; clear hev hev0 hd; go_wp2; exact sQ rfl
            ·intro xx af wv hbx hev hev0 hd; have e33 := (hev 2 _ 33 rfl rfl).trans (hd ⟨2, .data⟩ (by simp) rfl); have e43 := (hev 12 _ 43 rfl rfl).trans (hd ⟨12, .data⟩ (by simp) rfl); clear hev hev0 hd; go_wp2; exact sQ rfl
            intro xx w6 hb9 hv
            simp only [List.take, List.drop, fillA, Act.put]
            simp only [show xx 0 = _ from hv 0 (by decide), show xx 1 = _ from hv 1 (by decide), show xx 2 = _ from hv 2 (by decide), show xx 3 = _ from hv 3 (by decide), show xx 4 = _ from hv 4 (by decide), show xx 5 = _ from hv 5 (by decide), show xx 6 = _ from hv 6 (by decide), show xx 7 = _ from hv 7 (by decide), show xx 8 = _ from hv 8 (by decide), show xx 9 = _ from hv 9 (by decide), show xx 10 = _ from hv 10 (by decide), show xx 11 = _ from hv 11 (by decide), show xx 12 = _ from hv 12 (by decide), show xx 13 = _ from hv 13 (by decide)]
            clear hv
            have HS6 := Lib.hid (HS4.out.call hb9)
            clear hb9 HS4
            obtain ⟨x15, x16, x17⟩ := HS6.out.k1 0 rfl rfl rfl rfl
            go_wp2_with fail
            refine (HT.out _).mono ?_
            rintro e w7 ⟨rfl, hb7⟩
            have HS7 := Lib.hid (HS6.out.call hb7)
            clear hb7 HS6
            clear x15 x16 x17
            obtain ⟨x18, x19, x20⟩ := HS7.out.k4 0 rfl rfl rfl rfl
            go_wp2_with fail
            refine (HF.out _).mono ?_
            rintro e w8 ⟨rfl, hb8⟩
            have HS8 := Lib.hid (HS7.out.call hb8)
            clear hb8 HS7
            clear x18 x19 x20
            obtain ⟨x21, x22, x23⟩ := HS8.out.k7 0 rfl rfl rfl rfl
            go_wp2_with fail
            refine (HK.out _).mono ?_
            rintro e w9 ⟨rfl, hb9⟩
            have HS9 := Lib.hid (HS8.out.call hb9)
            clear hb9 HS8
            clear x21 x22 x23
            go_wp2
            go_ret
            have HS10 := Lib.hid HS9.out
            rw [R.out]
            exact ⟨rfl, HS10.out.below⟩
           ·have R := Lib.hid (hgo h12 rfl h3 rfl rfl)
            clear hr hor hra hgo hn0 hn1
            have x2 : b < wr.heap.size := Nat.lt_of_lt_of_le hbb HS.out.below.size
            have x3 : ¬ b = wr.heap.size := by omega
            obtain ⟨x4, x5, x6, x7, x8, x9, x10, x11, x12, x13, x14⟩ := kE (HX.out _ HS.out.below) rfl rfl rfl rfl rfl rfl rfl rfl rfl rfl rfl
            go_wp2
            clear x2 x3 x4 x5 x6 x7 x8 x9 x10 x11 x12 x13 x14
            have HS4 := Lib.hid (St.alloc (HS.out) #[.int .i64 u.rank, .bool u.tn, .string (bs u.ta), .string (bs u.tb), .bool u.fn, .string (bs u.fa), .string (bs u.fb), .bool u.kn, .string (bs u.ka), .string (bs u.kb), .bool u.acc] 59 (wr.heap.size) (by simp))
            clear HS
            refine wp_region_eq 14 [.int .i64 (k : Nat), .bool true, .bool true, .pointer (some ⟨wr.heap.size, 0, none⟩), .int .i64 u.rank, .pointer (some ⟨w.heap.size, 3, none⟩), .slice (some ⟨b, o, none⟩) l.length c, .int .i64 (k : Nat), .int .i64 (j : Nat), .pointer (some ⟨b, o + j * 11, none⟩), .pointer (some ⟨b, o + j * 11, none⟩), .int .i64 p.rank, .bool false, .bool false] rfl (by kernel_rfl) (by kernel_rfl) (by kernel_rfl) ?_ ?_
            refine ⟨?_, ?_, ?_, ?_, ?_, ?_, ?_, ?_, ?_, ?_, ?_, ?_, ?_, ?_, trivial⟩
            ·intro xx af wv hbx hev hev0 hd; have e3 : af.tmps[3]?.getD undef = .int .i64 (k : Nat) := hev0 3 rfl; clear hev hev0 hd; go_wp2; exact sQ rfl
            ·intro xx af wv hbx hev hev0 hd; have e31 := (hev 0 _ 31 rfl rfl).trans (hd ⟨0, .data⟩ (by simp) rfl); clear hev hev0 hd; go_wp2; exact sQ rfl
            ·intro xx af wv hbx hev hev0 hd; have e32 := (hev 1 _ 32 rfl rfl).trans (hd ⟨1, .data⟩ (by simp) rfl); clear hev hev0 hd; go_wp2; exact sQ rfl
            ·intro xx af wv hbx hev hev0 hd; have e33 := (hev 2 _ 33 rfl rfl).trans (hd ⟨2, .guard⟩ (by simp) rfl); have e4 : af.tmps[4]?.getD undef = .pointer (some ⟨wr.heap.size, 0, none⟩) := hev0 4 rfl; have q33 := getD_bool e33; clear hev hev0 hd; go_wp2; exact sQ rfl
            ·intro xx af wv hbx hev hev0 hd; have e33 := (hev 2 _ 33 rfl rfl).trans (hd ⟨2, .guard⟩ (by simp) rfl); have e34 := (hev 3 _ 34 rfl rfl).trans (hd ⟨3, .data⟩ (by simp) rfl); have q33 := getD_bool e33; clear hev hev0 hd; have hs1 := Lib.hid (HS4.out.call hbx); have y0 := hs1.out.cell 0 rfl 0 rfl; go_wp2; exact sQ rfl
            ·intro xx af wv hbx hev hev0 hd; have e33 := (hev 2 _ 33 rfl rfl).trans (hd ⟨2, .guard⟩ (by simp) rfl); have e1 : af.tmps[1]?.getD undef = .pointer (some ⟨w.heap.size, 0, none⟩) := hev0 1 rfl; have q33 := getD_bool e33; clear hev hev0 hd; go_wp2; exact sQ rfl
            ·intro xx af wv hbx hev hev0 hd; have e33 := (hev 2 _ 33 rfl rfl).trans (hd ⟨2, .guard⟩ (by simp) rfl); have e36 := (hev 5 _ 36 rfl rfl).trans (hd ⟨5, .data⟩ (by simp) rfl); have q33 := getD_bool e33; clear hev hev0 hd; have hs1 := Lib.hid (HS4.out.call hbx); have y0 := hs1.out.cell 1 rfl 3 rfl; go_wp2; exact sQ rfl
            ·intro xx af wv hbx hev hev0 hd; have e33 := (hev 2 _ 33 rfl rfl).trans (hd ⟨2, .guard⟩ (by simp) rfl); have e3 : af.tmps[3]?.getD undef = .int .i64 (k : Nat) := hev0 3 rfl; have q33 := getD_bool e33; clear hev hev0 hd; go_wp2; exact sQ rfl
            ·intro xx af wv hbx hev hev0 hd; have e33 := (hev 2 _ 33 rfl rfl).trans (hd ⟨2, .guard⟩ (by simp) rfl); have e38 := (hev 7 _ 38 rfl rfl).trans (hd ⟨7, .data⟩ (by simp) rfl); have q33 := getD_bool e33; clear hev hev0 hd; go_wp2; exact sQ rfl
            ·intro xx af wv hbx hev hev0 hd; have e33 := (hev 2 _ 33 rfl rfl).trans (hd ⟨2, .guard⟩ (by simp) rfl); have e37 := (hev 6 _ 37 rfl rfl).trans (hd ⟨6, .data⟩ (by simp) rfl); have e39 := (hev 8 _ 39 rfl rfl).trans (hd ⟨8, .data⟩ (by simp) rfl); have q33 := getD_bool e33; clear hev hev0 hd; go_wp2; exact sQ rfl
            ·intro xx af wv hbx hev hev0 hd; have e33 := (hev 2 _ 33 rfl rfl).trans (hd ⟨2, .guard⟩ (by simp) rfl); have e40 := (hev 9 _ 40 rfl rfl).trans (hd ⟨9, .data⟩ (by simp) rfl); have q33 := getD_bool e33; clear hev hev0 hd; go_wp2; exact sQ rfl
            ·intro xx af wv hbx hev hev0 hd; have e33 := (hev 2 _ 33 rfl rfl).trans (hd ⟨2, .guard⟩ (by simp) rfl); have e41 := (hev 10 _ 41 rfl rfl).trans (hd ⟨10, .data⟩ (by simp) rfl); have q33 := getD_bool e33; clear hev hev0 hd; have hs1 := Lib.hid (HS4.out.call hbx); have y0 := HX2.out _ hs1.out.below 0 _ rfl; rw [Nat.add_zero] at y0; go_wp2; exact sQ rfl
            ·intro xx af wv hbx hev hev0 hd; have e33 := (hev 2 _ 33 rfl rfl).trans (hd ⟨2, .guard⟩ (by simp) rfl); have e35 := (hev 4 _ 35 rfl rfl).trans (hd ⟨4, .data⟩ (by simp) rfl); have e42 := (hev 11 _ 42 rfl rfl).trans (hd ⟨11, .data⟩ (by simp) rfl); have q33 := getD_bool e33; clear hev hev0 hd; go_wp2; exact sQ rfl
            ·intro xx af wv hbx hev hev0 hd; have e33 := (hev 2 _ 33 rfl rfl).trans (hd ⟨2, .data⟩ (by simp) rfl); have e43 := (hev 12 _ 43 rfl rfl).trans (hd ⟨12, .data⟩ (by simp) rfl); clear hev hev0 hd; go_wp2; exact sQ rfl
            intro xx w6 hb9 hv
            simp only [List.take, List.drop, fillA, Act.put]
            simp only [show xx 0 = _ from hv 0 (by decide), show xx 1 = _ from hv 1 (by decide), show xx 2 = _ from hv 2 (by decide), show xx 3 = _ from hv 3 (by decide), show xx 4 = _ from hv 4 (by decide), show xx 5 = _ from hv 5 (by decide), show xx 6 = _ from hv 6 (by decide), show xx 7 = _ from hv 7 (by decide), show xx 8 = _ from hv 8 (by decide), show xx 9 = _ from hv 9 (by decide), show xx 10 = _ from hv 10 (by decide), show xx 11 = _ from hv 11 (by decide), show xx 12 = _ from hv 12 (by decide), show xx 13 = _ from hv 13 (by decide)]
            clear hv
            have HS6 := Lib.hid (HS4.out.call hb9)
            clear hb9 HS4
            obtain ⟨x15, x16, x17⟩ := HS6.out.k1 0 rfl rfl rfl rfl
            go_wp2_with fail
            refine (HT.out _).mono ?_
            rintro e w7 ⟨rfl, hb7⟩
            have HS7 := Lib.hid (HS6.out.call hb7)
            clear hb7 HS6
            clear x15 x16 x17
            obtain ⟨x18, x19, x20⟩ := HS7.out.k4 0 rfl rfl rfl rfl
            go_wp2_with fail
            refine (HF.out _).mono ?_
            rintro e w8 ⟨rfl, hb8⟩
            have HS8 := Lib.hid (HS7.out.call hb8)
            clear hb8 HS7
            clear x18 x19 x20
            obtain ⟨x21, x22, x23⟩ := HS8.out.k7 0 rfl rfl rfl rfl
            go_wp2_with fail
            refine (HK.out _).mono ?_
            rintro e w9 ⟨rfl, hb9⟩
            have HS9 := Lib.hid (HS8.out.call hb9)
            clear hb9 HS8
            clear x21 x22 x23
            go_wp2
            have HS10 := Lib.hid HS9.out
            go_roundw
            case rel => exact ⟨k + 1, by omega, by go_num, R.out, HS10.out.sub (by simp)⟩
            case measure => simp [intOf]; omega
        ·have R := Lib.hid (hor h12 rfl)
         clear hr hor hra hgo hn0 hn1
         have x2 : b < wr.heap.size := Nat.lt_of_lt_of_le hbb HS.out.below.size
         have x3 : ¬ b = wr.heap.size := by omega
         obtain ⟨x4, x5, x6, x7, x8, x9, x10, x11, x12, x13, x14⟩ := kE (HX.out _ HS.out.below) rfl rfl rfl rfl rfl rfl rfl rfl rfl rfl rfl
         go_wp2
         clear x2 x3 x4 x5 x6 x7 x8 x9 x10 x11 x12 x13 x14
         have HS4 := Lib.hid (St.alloc (HS.out) #[.int .i64 u.rank, .bool u.tn, .string (bs u.ta), .string (bs u.tb), .bool u.fn, .string (bs u.fa), .string (bs u.fb), .bool u.kn, .string (bs u.ka), .string (bs u.kb), .bool u.acc] 59 (wr.heap.size) (by simp))
         clear HS
         refine wp_region_eq 14 [.int .i64 (k : Nat), .bool true, .bool true, .pointer (some ⟨wr.heap.size, 0, none⟩), .int .i64 u.rank, .pointer (some ⟨w.heap.size, 3, none⟩), .slice (some ⟨b, o, none⟩) l.length c, .int .i64 (k : Nat), .int .i64 (j : Nat), .pointer (some ⟨b, o + j * 11, none⟩), .pointer (some ⟨b, o + j * 11, none⟩), .int .i64 p.rank, .bool true, .bool true] rfl (by kernel_rfl) (by kernel_rfl) (by kernel_rfl) ?_ ?_
         refine ⟨?_, ?_, ?_, ?_, ?_, ?_, ?_, ?_, ?_, ?_, ?_, ?_, ?_, ?_, trivial⟩
         ·intro xx af wv hbx hev hev0 hd; have e3 : af.tmps[3]?.getD undef = .int .i64 (k : Nat) := hev0 3 rfl; clear hev hev0 hd; go_wp2; exact sQ rfl
         ·intro xx af wv hbx hev hev0 hd; have e31 := (hev 0 _ 31 rfl rfl).trans (hd ⟨0, .data⟩ (by simp) rfl); clear hev hev0 hd; go_wp2; exact sQ rfl
         ·intro xx af wv hbx hev hev0 hd; have e32 := (hev 1 _ 32 rfl rfl).trans (hd ⟨1, .data⟩ (by simp) rfl); clear hev hev0 hd; go_wp2; exact sQ rfl
         ·intro xx af wv hbx hev hev0 hd; have e33 := (hev 2 _ 33 rfl rfl).trans (hd ⟨2, .guard⟩ (by simp) rfl); have e4 : af.tmps[4]?.getD undef = .pointer (some ⟨wr.heap.size, 0, none⟩) := hev0 4 rfl; have q33 := getD_bool e33; clear hev hev0 hd; go_wp2; exact sQ rfl
         ·intro xx af wv hbx hev hev0 hd; have e33 := (hev 2 _ 33 rfl rfl).trans (hd ⟨2, .guard⟩ (by simp) rfl); have e34 := (hev 3 _ 34 rfl rfl).trans (hd ⟨3, .data⟩ (by simp) rfl); have q33 := getD_bool e33; clear hev hev0 hd; have hs1 := Lib.hid (HS4.out.call hbx); have y0 := hs1.out.cell 0 rfl 0 rfl; go_wp2; exact sQ rfl
         ·intro xx af wv hbx hev hev0 hd; have e33 := (hev 2 _ 33 rfl rfl).trans (hd ⟨2, .guard⟩ (by simp) rfl); have e1 : af.tmps[1]?.getD undef = .pointer (some ⟨w.heap.size, 0, none⟩) := hev0 1 rfl; have q33 := getD_bool e33; clear hev hev0 hd; go_wp2; exact sQ rfl
         ·intro xx af wv hbx hev hev0 hd; have e33 := (hev 2 _ 33 rfl rfl).trans (hd ⟨2, .guard⟩ (by simp) rfl); have e36 := (hev 5 _ 36 rfl rfl).trans (hd ⟨5, .data⟩ (by simp) rfl); have q33 := getD_bool e33; clear hev hev0 hd; have hs1 := Lib.hid (HS4.out.call hbx); have y0 := hs1.out.cell 1 rfl 3 rfl; go_wp2; exact sQ rfl
         ·intro xx af wv hbx hev hev0 hd; have e33 := (hev 2 _ 33 rfl rfl).trans (hd ⟨2, .guard⟩ (by simp) rfl); have e3 : af.tmps[3]?.getD undef = .int .i64 (k : Nat) := hev0 3 rfl; have q33 := getD_bool e33; clear hev hev0 hd; go_wp2; exact sQ rfl
         ·intro xx af wv hbx hev hev0 hd; have e33 := (hev 2 _ 33 rfl rfl).trans (hd ⟨2, .guard⟩ (by simp) rfl); have e38 := (hev 7 _ 38 rfl rfl).trans (hd ⟨7, .data⟩ (by simp) rfl); have q33 := getD_bool e33; clear hev hev0 hd; go_wp2; exact sQ rfl
         ·intro xx af wv hbx hev hev0 hd; have e33 := (hev 2 _ 33 rfl rfl).trans (hd ⟨2, .guard⟩ (by simp) rfl); have e37 := (hev 6 _ 37 rfl rfl).trans (hd ⟨6, .data⟩ (by simp) rfl); have e39 := (hev 8 _ 39 rfl rfl).trans (hd ⟨8, .data⟩ (by simp) rfl); have q33 := getD_bool e33; clear hev hev0 hd; go_wp2; exact sQ rfl
         ·intro xx af wv hbx hev hev0 hd; have e33 := (hev 2 _ 33 rfl rfl).trans (hd ⟨2, .guard⟩ (by simp) rfl); have e40 := (hev 9 _ 40 rfl rfl).trans (hd ⟨9, .data⟩ (by simp) rfl); have q33 := getD_bool e33; clear hev hev0 hd; go_wp2; exact sQ rfl
         ·intro xx af wv hbx hev hev0 hd; have e33 := (hev 2 _ 33 rfl rfl).trans (hd ⟨2, .guard⟩ (by simp) rfl); have e41 := (hev 10 _ 41 rfl rfl).trans (hd ⟨10, .data⟩ (by simp) rfl); have q33 := getD_bool e33; clear hev hev0 hd; have hs1 := Lib.hid (HS4.out.call hbx); have y0 := HX2.out _ hs1.out.below 0 _ rfl; rw [Nat.add_zero] at y0; go_wp2; exact sQ rfl
         ·intro xx af wv hbx hev hev0 hd; have e33 := (hev 2 _ 33 rfl rfl).trans (hd ⟨2, .guard⟩ (by simp) rfl); have e35 := (hev 4 _ 35 rfl rfl).trans (hd ⟨4, .data⟩ (by simp) rfl); have e42 := (hev 11 _ 42 rfl rfl).trans (hd ⟨11, .data⟩ (by simp) rfl); have q33 := getD_bool e33; clear hev hev0 hd; go_wp2; exact sQ rfl
         ·intro xx af wv hbx hev hev0 hd; have e33 := (hev 2 _ 33 rfl rfl).trans (hd ⟨2, .data⟩ (by simp) rfl); have e43 := (hev 12 _ 43 rfl rfl).trans (hd ⟨12, .data⟩ (by simp) rfl); clear hev hev0 hd; go_wp2; exact sQ rfl
         intro xx w6 hb9 hv
         simp only [List.take, List.drop, fillA, Act.put]
         simp only [show xx 0 = _ from hv 0 (by decide), show xx 1 = _ from hv 1 (by decide), show xx 2 = _ from hv 2 (by decide), show xx 3 = _ from hv 3 (by decide), show xx 4 = _ from hv 4 (by decide), show xx 5 = _ from hv 5 (by decide), show xx 6 = _ from hv 6 (by decide), show xx 7 = _ from hv 7 (by decide), show xx 8 = _ from hv 8 (by decide), show xx 9 = _ from hv 9 (by decide), show xx 10 = _ from hv 10 (by decide), show xx 11 = _ from hv 11 (by decide), show xx 12 = _ from hv 12 (by decide), show xx 13 = _ from hv 13 (by decide)]
         clear hv
         have HS6 := Lib.hid (HS4.out.call hb9)
         clear hb9 HS4
         go_wp2
         go_ret
         have HS7 := Lib.hid HS6.out
         rw [R.out]
         exact ⟨rfl, HS7.out.below⟩
    ·obtain rfl : k = l.length := by omega
     have HR := Lib.hid (cv_end hck.out)
     go_wp2
     go_ret
     have HS4 := Lib.hid HS.out
     rw [HR.out]
     exact ⟨rfl, HS4.out.below⟩
end Go.Proofs.YtcllocdhbicpkaaGreatDoor
