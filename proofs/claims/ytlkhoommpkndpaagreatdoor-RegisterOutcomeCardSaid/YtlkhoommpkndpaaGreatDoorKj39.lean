/-
Part 39 of the base.
-/
import Derived.Test.YtlkhoommpkndpaaGreatDoorKj30
import Derived.Test.YtlkhoommpkndpaaGreatDoorKj38
set_option maxRecDepth 100000
set_option maxHeartbeats 8000000
namespace Go.Proofs.YtlkhoommpkndpaaGreatDoor
open Go.RowKit
theorem a6s (e : Evt) : e.enc.length = 21 := rfl
theorem info_evt : (Tryz.prog.info? 56).map (fun i => (i.zero, i.size, i.bytes)) = some (some (.agg #[.int .i64 0, .int .i64 0, .string ⟨#[]⟩, .bool false, .string ⟨#[]⟩, .string ⟨#[]⟩, .int .i64 0, .string ⟨#[]⟩, .int .i64 0, .int .i64 0, .string ⟨#[]⟩, .bool false, .string ⟨#[]⟩, .string ⟨#[]⟩, .int .i64 0, .int .i64 0, .bool false, .string ⟨#[]⟩, .string ⟨#[]⟩, .int .i64 0, .int .i64 0]), 21, 240) := by kernel_rfl
theorem c3z (v : Evt) : ∀ u ∈ v.enc, u.oneCell' = true := by
 intro u hu
 unfold Evt.enc Prf.enc at hu
 simp only [List.cons_append, List.nil_append, List.mem_cons, List.mem_nil_iff, or_false] at hu
 rcases hu with rfl | rfl | rfl | rfl | rfl | rfl | rfl | rfl | rfl | rfl | rfl | rfl | rfl | rfl | rfl | rfl | rfl | rfl | rfl | rfl | rfl <;> rfl
theorem b7s {l : List Evt} {u : Value} (h : u ∈ flat Evt.enc l) : u.oneCell' = true := by
 obtain ⟨j, hj⟩ := List.mem_iff_getElem?.1 h
 obtain ⟨q, i, y, _, hq, hi⟩ := b1j a6s l j u hj
 exact c3z y u (List.mem_of_getElem? hi)
theorem b8t {f d v : Rat} {ap : Bool} {k : Nat} {e : Evt} (h : (outE f d v ap)[k]? = some e) : e.p = prf0 := by
 have hm := List.mem_of_getElem? h
 unfold outE at hm
 cases ap
 ·rcases List.mem_cons.1 hm with rfl | hm
  ·rfl
  rcases List.mem_cons.1 hm with rfl | hm
  ·rfl
  obtain rfl : e = _ := by simpa using hm
  rfl
 rcases List.mem_cons.1 hm with rfl | hm
 ·rfl
 rcases List.mem_cons.1 hm with rfl | hm
 ·rfl
 rcases List.mem_cons.1 hm with rfl | hm
 ·rfl
 obtain rfl : e = _ := by simpa using hm
 rfl
theorem St.toPlace {w0 w : World} {R : List Own} {r : Own} (n : Nat) (h : St w0 (r :: R) w) : St w0 (R.take n ++ r :: R.drop n) w := by
 have hp : (r :: R).Perm (R.take n ++ r :: R.drop n) := by
  have h1 : (R.take n ++ R.drop n).Perm R := by rw [List.take_append_drop]
  exact (List.Perm.cons r h1.symm).trans List.perm_middle.symm
 exact ⟨h.below, fun s hs => h.ok s (hp.mem_iff.2 hs), h.apart.perm hp (fun h => Ne.symm h)⟩
theorem a6p (n : Nat) (a b : Rat) (w : World) (hn : n <= 255) (ha : Sized 60000 a) (hb : Sized 60000 b) :
  Calls Tryz.prog 30 #[.int .u8 (n : Nat), rat a, rat b] w fun e w' => e = .returned (rat (midR n a b)) /\ Below w.heap.size w w' := by
 have s1 := b1q hb ha
 have s2 := b1p n
 have s3 := s1.mul s2
 have R1 := fun W => a9c b a W (hb.mono (by decide)) (ha.mono (by decide))
 have R2 := fun W => a7x ((n % 11 : Nat) : Int) 10 W (by omega) (by omega) (by decide) (by decide)
 have R3 := fun W => a4d (negB (b - a)) (numB (b - a)) (a0a (b - a)) (negB (mkRat ((n % 11 : Nat) : Int) 10)) (numB (mkRat ((n % 11 : Nat) : Int) 10)) (a0a (mkRat ((n % 11 : Nat) : Int) 10)) W (Nat.le_trans s1.num (by decide)) (Nat.le_trans s1.denom (by decide)) (Nat.le_trans s2.num (by decide)) (Nat.le_trans s2.denom (by decide))
 have R4 := fun W => a7d (negB a) (numB a) (a0a a) (negB ((b - a) * mkRat ((n % 11 : Nat) : Int) 10)) (numB ((b - a) * mkRat ((n % 11 : Nat) : Int) 10)) (a0a ((b - a) * mkRat ((n % 11 : Nat) : Int) 10)) W (Nat.le_trans ha.num (by decide)) (Nat.le_trans ha.denom (by decide)) (Nat.le_trans s3.num (by decide)) (Nat.le_trans s3.denom (by decide))
 simp only [a3x] at R3 R4
 rw [show (10 : Int).toNat = 10 from rfl] at R2
 change ∀ W, Calls Tryz.prog _ _ W (fun e w' => e = .returned (rat (midR n a b)) /\ _) at R4
 rw [Int.natCast_emod] at R2 R3 R4
 generalize midR n a b = qm at *
 generalize (b - a) * mkRat ((n : Int) % (11 : Nat)) 10 = qt at *
 generalize mkRat ((n : Int) % (11 : Nat)) 10 = qr at *
 generalize b - a = qs at *
 unfold rat raw at *
 have t1 : Int.tmod (n : Int) 11 = (n : Int) % 11 := Int.tmod_eq_emod_of_nonneg (by omega)
 have u1 : IntKind.u8.wrap ((n : Int) % 11) = (n : Int) % 11 := by rw [IntKind.wrap_u8]; omega
 have i1 : IntKind.i64.wrap ((n : Int) % 11) = (n : Int) % 11 := IntWalk.i64_in _ (by omega)
 clear s1 s2 s3 ha hb hn
 have HQ1 := zh R1
 have HQ2 := zh R2
 have HQ3 := zh R3
 have HQ4 := zh R4
 clear R1 R2 R3 R4
 go_enter Tryz.func30, Tryz.ntmps30
 have HS := zh (St.start w)
 go_wp2
 have HS2 := zh (St.alloc ((St.alloc ((St.alloc (HS.out) #[.bool (negB (a)), .string (bs (numB (a))), .string (bs (a0a (a)))] 34 (w.heap.size) (by simp))) #[.bool (negB (b)), .string (bs (numB (b))), .string (bs (a0a (b)))] 34 (w.heap.size + 1) (by simp))) #[.bool false, .string (bs []), .string (bs [])] 34 (w.heap.size + 1 + 1) (by simp))
 clear HS
 refine a1k 10 [.agg #[.bool (negB (a)), .string (bs (numB (a))), .string (bs (a0a (a)))], .agg #[.bool (negB (b)), .string (bs (numB (b))), .string (bs (a0a (b)))], .agg #[.bool (negB (a)), .string (bs (numB (a))), .string (bs (a0a (a)))], .agg #[.bool (negB (qs)), .string (bs (numB (qs))), .string (bs (a0a (qs)))], .int .u8 (n : Nat), .int .u8 ((n : Int) % 11), .int .i64 ((n : Int) % 11), .agg #[.bool (negB (qr)), .string (bs (numB (qr))), .string (bs (a0a (qr)))], .agg #[.bool (negB (qt)), .string (bs (numB (qt))), .string (bs (a0a (qt)))], .agg #[.bool (negB (qm)), .string (bs (numB (qm))), .string (bs (a0a (qm)))]] rfl (by kernel_rfl) (by kernel_rfl) (by kernel_rfl) ?_ ?_
 refine ⟨?_, ?_, ?_, ?_, ?_, ?_, ?_, ?_, ?_, ?_, trivial⟩
 ·intro xx af wv hbx hev hev0 hd; have e4 : af.tmps[4]?.getD undef = .pointer (some ⟨w.heap.size, 0, none⟩) := hev0 4 rfl; clear hev hev0 hd; have hs1 := zh (HS2.out.call hbx); obtain ⟨y0, y1, y2⟩ := hs1.out.k0 2 rfl rfl rfl rfl; go_wp2; exact sQ rfl
 ·intro xx af wv hbx hev hev0 hd; have e5 : af.tmps[5]?.getD undef = .pointer (some ⟨w.heap.size + 1, 0, none⟩) := hev0 5 rfl; clear hev hev0 hd; have hs1 := zh (HS2.out.call hbx); obtain ⟨y0, y1, y2⟩ := hs1.out.k0 1 rfl rfl rfl rfl; go_wp2; exact sQ rfl
 ·intro xx af wv hbx hev hev0 hd; have e4 : af.tmps[4]?.getD undef = .pointer (some ⟨w.heap.size, 0, none⟩) := hev0 4 rfl; clear hev hev0 hd; have hs1 := zh (HS2.out.call hbx); obtain ⟨y0, y1, y2⟩ := hs1.out.k0 2 rfl rfl rfl rfl; go_wp2; exact sQ rfl
 ·intro xx af wv hbx hev hev0 hd
  have e8 := (hev 1 _ 8 rfl rfl).trans (hd ⟨1, .data⟩ (by simp) rfl)
  have e9 := (hev 2 _ 9 rfl rfl).trans (hd ⟨2, .data⟩ (by simp) rfl)
  clear hev hev0 hd
  go_wp2_with fail
  refine (HQ1.out _).mono ?_
  rintro e w8 ⟨rfl, hb8⟩
  go_wp2
  exact StepQ.mk _ hb8 rfl
 ·intro xx af wv hbx hev hev0 hd; have e0 : af.tmps[0]?.getD undef = .int .u8 (n : Nat) := hev0 0 rfl; clear hev hev0 hd; go_wp2; exact sQ rfl
 ·intro xx af wv hbx hev hev0 hd; have e11 := (hev 4 _ 11 rfl rfl).trans (hd ⟨4, .data⟩ (by simp) rfl); clear hev hev0 hd; go_wp2; exact sQ rfl
 ·intro xx af wv hbx hev hev0 hd; have e12 := (hev 5 _ 12 rfl rfl).trans (hd ⟨5, .data⟩ (by simp) rfl); clear hev hev0 hd; go_wp2; exact sQ rfl
 ·intro xx af wv hbx hev hev0 hd
  have e13 := (hev 6 _ 13 rfl rfl).trans (hd ⟨6, .data⟩ (by simp) rfl)
  clear hev hev0 hd
  go_wp2_with fail
  refine (HQ2.out _).mono ?_
  rintro e w8 ⟨rfl, hb8⟩
  go_wp2
  exact StepQ.mk _ hb8 rfl
 ·intro xx af wv hbx hev hev0 hd
  have e10 := (hev 3 _ 10 rfl rfl).trans (hd ⟨3, .data⟩ (by simp) rfl)
  have e14 := (hev 7 _ 14 rfl rfl).trans (hd ⟨7, .data⟩ (by simp) rfl)
  clear hev hev0 hd
  go_wp2_with fail
  refine (HQ3.out _).mono ?_
  rintro e w8 ⟨rfl, hb8⟩
  go_wp2
  exact StepQ.mk _ hb8 rfl
 ·intro xx af wv hbx hev hev0 hd
  have e7 := (hev 0 _ 7 rfl rfl).trans (hd ⟨0, .data⟩ (by simp) rfl)
  have e15 := (hev 8 _ 15 rfl rfl).trans (hd ⟨8, .data⟩ (by simp) rfl)
  clear hev hev0 hd
  go_wp2_with fail
  refine (HQ4.out _).mono ?_
  rintro e w8 ⟨rfl, hb8⟩
  go_wp2
  exact StepQ.mk _ hb8 rfl
 intro xx w6 hb9 hv
 simp only [List.take, List.drop, a0h, Act.put]
 simp only [show xx 0 = _ from hv 0 (by decide), show xx 1 = _ from hv 1 (by decide), show xx 2 = _ from hv 2 (by decide), show xx 3 = _ from hv 3 (by decide), show xx 4 = _ from hv 4 (by decide), show xx 5 = _ from hv 5 (by decide), show xx 6 = _ from hv 6 (by decide), show xx 7 = _ from hv 7 (by decide), show xx 8 = _ from hv 8 (by decide), show xx 9 = _ from hv 9 (by decide)]
 clear hv
 have HS6 := zh (HS2.out.call hb9)
 clear hb9 HS2
 obtain ⟨x1, x2, x3⟩ := HS6.out.k0 0 rfl rfl rfl rfl
 obtain ⟨x4, x5, x6⟩ := HS6.out.f0 0 rfl
 have x7 := HS6.out.ne 0 1 rfl rfl (by decide)
 have x8 := HS6.out.ne 1 0 rfl rfl (by decide)
 have x9 := HS6.out.ne 0 2 rfl rfl (by decide)
 have x10 := HS6.out.ne 2 0 rfl rfl (by decide)
 go_wp2
 have HS7 : Hid (St w [⟨w.heap.size + 1 + 1, #[.bool (negB (qm)), .string (bs (numB (qm))), .string (bs (a0a (qm)))], 34⟩, ⟨w.heap.size + 1, #[.bool (negB (b)), .string (bs (numB (b))), .string (bs (a0a (b)))], 34⟩, ⟨w.heap.size, #[.bool (negB (a)), .string (bs (numB (a))), .string (bs (a0a (a)))], 34⟩] _) := zh (St.set ((St.set ((St.set (HS6.out) 0 rfl 0 _)) 0 rfl 1 _)) 0 rfl 2 _)
 refine bodyPost_ret (a0k rfl _ _ _ _ _ _ rfl (HS7.out.blk 0 rfl)) rfl ?_
 exact ⟨rfl, HS7.out.below⟩
theorem a8k (x : Six) (n0 n1 n2 : Int) (ap : Bool) (w : World) (hx : x.ok) (h0 : 0 <= n0 /\ n0 <= 255) (h1 : 0 <= n1 /\ n1 <= 255) (h2 : 0 <= n2 /\ n2 <= 255) :
  Calls Tryz.prog 10 #[.agg #[.int .u16 (x.a : Nat), .int .u16 (x.b : Nat), .int .u16 (x.c : Nat), .int .u16 (x.d : Nat), .int .u16 (x.e : Nat), .int .u16 (x.f : Nat)], .int .u8 n0, .int .u8 n1, .int .u8 n2, .bool ap] w fun e w' => e = .returned (.bool true) /\ Below w.heap.size w w' := by
 obtain ⟨k0, rfl⟩ : ∃ k : Nat, n0 = k := ⟨n0.toNat, by omega⟩
 obtain ⟨k1, rfl⟩ : ∃ k : Nat, n1 = k := ⟨n1.toNat, by omega⟩
 obtain ⟨k2, rfl⟩ : ∃ k : Nat, n2 = k := ⟨n2.toNat, by omega⟩
 have hW := fun W => b9c W
 have hP := fun W => c1c x W hx
 have hN := fun W => b0k 50 60 W
 rw [show newR 50 60 = (⟨50, 60, 0, []⟩, 0) by decide +kernel] at hN
 dsimp only at hN
 have sc := (a7v hx).mono (show 10000 <= 60000 by decide)
 have sf := (b4q hx k0).mono (show 20020 <= 60000 by decide)
 have sd := b4p hx k0 k1
 have sv := b4p hx k0 k2
 have hI := fun W => a3q 0 W (by decide) (by decide)
 have hM0 := fun W => a6p k0 0 (outC x) W (by omega) (sized_zero.mono (by decide)) sc
 have hM1 := fun W => a6p k1 (outF x k0) (outC x) W (by omega) sf sc
 have hM2 := fun W => a6p k2 (outF x k0) (outC x) W (by omega) sf sc
 change ∀ W, Calls Tryz.prog _ _ W (fun e w' => e = .returned (rat 0) /\ _) at hI
 change ∀ W, Calls Tryz.prog _ _ W (fun e w' => e = .returned (rat (outF x k0)) /\ _) at hM0
 change ∀ W, Calls Tryz.prog _ _ W (fun e w' => e = .returned (rat (outM x k0 k1)) /\ _) at hM1
 change ∀ W, Calls Tryz.prog _ _ W (fun e w' => e = .returned (rat (outM x k0 k2)) /\ _) at hM2
 have hmid := c0h hx
 have hst := fun ap k e h => out_step (ap := ap) (k := k) (e := e) (b8u x k0) (c2z x k0 k1) (c2z x k0 k2) h
 have hfl := out_file x (outF x k0) (outM x k0 k1) (outM x k0 k2)
 have hla := out_last x (outF x k0) (outM x k0 k1) (outM x k0 k2)
 have hmd := fun ap k => out_mid (ap := ap) hx sf sd sv k
 have ham := fun ap => out_am (ap := ap) sf sd sv
 have zz : zero3.a.length <= 1000000 /\ zero3.b.length <= 1000000 := by decide
 have sB : -9223372036854775808 <= (0 : Int) /\ (0 : Int) <= 9223372036854775807 := by decide
 have cB : ([] : List UInt8).length <= 9223372036854775807 /\ ([] : List UInt8).length <= 9223372036854775807 := by decide
 have r0 : ([] : List UInt8).length <= 100 := by decide
 have hF := fun W => a2r 50 60 0 (.slice none 0 0) (.slice none 0 0) [] ⟨1, 51, [], zero3, 0, outP x⟩ [] W (Slc.nil_ _ _ _ _ _ (by decide)) (by decide) (by simp) zz (Slc.nil_ _ _ _ _ _ (by decide)) (by simp) (by simp) ⟨hmid.1.1.1, hmid.1.1.2.1⟩ hmid.2 (c3u hmid.1.2.2.2.2.2.2)
 rw [hfl true] at hF
 have hA := fun ap k e (he : (outE (outF x k0) (outM x k0 k1) (outM x k0 k2) ap)[k]? = some e) sl W (hs : b3f W sl (outR x (outF x k0) (outM x k0 k1) (outM x k0 k2) ap k).es) => a2r 50 60 ((51 + k : Nat) : Int) sl (.slice none 0 0) (outR x (outF x k0) (outM x k0 k1) (outM x k0 k2) ap k).es e [] W hs (Nat.le_of_ble_eq_true rfl) (hmd ap k) (ham ap e (List.mem_of_getElem? he)) (Slc.nil_ _ _ _ _ _ (by decide)) (by simp) (by simp) (by rw [b8t he]; exact cB) (by rw [b8t he]; exact ⟨⟨r0, r0⟩, r0, r0⟩) (by rw [b8t he]; exact sB)
 have hA2 : ∀ ap k e (he : (outE (outF x k0) (outM x k0 k1) (outM x k0 k2) ap)[k]? = some e) sl W (hs : b3f W sl [outX x (outF x k0) (outM x k0 k1) (outM x k0 k2) ap k]), Calls Tryz.prog 23 #[.agg #[.int .i64 50, .int .i64 60, .int .i64 (51 + k : Nat), sl], .agg #[.int .i64 e.kind, .int .i64 e.day, .string (bs e.id), .bool e.am.n, .string (bs e.am.a), .string (bs e.am.b), .int .i64 e.cre, .string (bs e.p.id), .int .i64 e.p.est, .int .i64 e.p.cre, .string (bs e.p.code), .bool e.p.an, .string (bs e.p.aa), .string (bs e.p.ab), .int .i64 e.p.inc, .int .i64 e.p.rank, .bool e.p.rn, .string (bs e.p.ra), .string (bs e.p.rb), .int .i64 e.p.rf, .int .i64 e.p.sec], .slice none 0 0] W (fun q w' => ∃ v', q = .returned (.tuple #[.agg #[.int .i64 50, .int .i64 60, .int .i64 (51 + (k + 1) : Nat), v'], .int .i64 0]) /\ Grows w' W.heap.size 63 30 v' 1 (flat Ent.enc [outX x (outF x k0) (outM x k0 k1) (outM x k0 k2) ap (k + 1)]) /\ Below W.heap.size W w') := by
  intro ap k e he sl W hs
  have h := hA ap k e he sl W hs
  have e1 : a2c ⟨50, 60, ((51 + k : Nat) : Int), (outR x (outF x k0) (outM x k0 k1) (outM x k0 k2) ap k).es⟩ e [] = _ := hst ap k e he
  rw [e1] at h
  exact h
 have hL := fun ap sl W (hs : b3f W sl [outX x (outF x k0) (outM x k0 k1) (outM x k0 k2) ap (if ap then 4 else 3)]) => a2r 50 60 ((51 + (if ap then 4 else 3) : Nat) : Int) sl (.slice none 0 0) [outX x (outF x k0) (outM x k0 k1) (outM x k0 k2) ap (if ap then 4 else 3)] (evO 5 60 zero3) [] W hs (Nat.le_of_ble_eq_true rfl) (hmd ap _) zz (Slc.nil_ _ _ _ _ _ (by decide)) (by simp) (by simp) cB ⟨⟨r0, r0⟩, r0, r0⟩ sB
 have hL2 : ∀ ap sl W, b3f W sl [outX x (outF x k0) (outM x k0 k1) (outM x k0 k2) ap (if ap then 4 else 3)] -> ∃ a b d es, Calls Tryz.prog 23 #[.agg #[.int .i64 50, .int .i64 60, .int .i64 (51 + (if ap then 4 else 3) : Nat), sl], .agg #[.int .i64 5, .int .i64 60, .string (bs [97]), .bool false, .string (bs []), .string (bs []), .int .i64 0, .string (bs []), .int .i64 0, .int .i64 0, .string (bs []), .bool false, .string (bs []), .string (bs []), .int .i64 0, .int .i64 0, .bool false, .string (bs []), .string (bs []), .int .i64 0, .int .i64 0], .slice none 0 0] W (fun q w' => ∃ v', q = .returned (.tuple #[.agg #[.int .i64 a, .int .i64 b, .int .i64 d, v'], .int .i64 13]) /\ Grows w' W.heap.size 63 30 v' es.length (flat Ent.enc es) /\ Below W.heap.size W w') := by
  intro ap sl W hs
  have h := hL ap sl W hs
  have e1 : (a2c ⟨50, 60, ((51 + (if ap then 4 else 3) : Nat) : Int), [outX x (outF x k0) (outM x k0 k1) (outM x k0 k2) ap (if ap then 4 else 3)]⟩ (evO 5 60 zero3) []).2 = 13 := hla ap
  rw [e1] at h
  exact ⟨_, _, _, _, h⟩
 have hF2 : ∀ W, Calls Tryz.prog 23 #[.agg #[.int .i64 50, .int .i64 60, .int .i64 0, .slice none 0 0], .agg #[.int .i64 1, .int .i64 51, .string (bs []), .bool false, .string (bs []), .string (bs []), .int .i64 0, .string (bs [97]), .int .i64 (a0y x).est, .int .i64 (a0y x).cre, .string (bs [69, 85, 82]), .bool (a0y x).an, .string (bs (a0y x).aa), .string (bs (a0y x).ab), .int .i64 3, .int .i64 (a0y x).rank, .bool (a0y x).rn, .string (bs (a0y x).ra), .string (bs (a0y x).rb), .int .i64 (a0y x).rf, .int .i64 (a0y x).sec], .slice none 0 0] W (fun q w' => ∃ v', q = .returned (.tuple #[.agg #[.int .i64 50, .int .i64 60, .int .i64 51, v'], .int .i64 0]) /\ Grows w' W.heap.size 63 30 v' 1 (flat Ent.enc [outX x (outF x k0) (outM x k0 k1) (outM x k0 k2) true 0]) /\ Below W.heap.size W w') := hF
 have hP2 : ∀ W, Calls Tryz.prog 20 #[.agg #[.int .u16 (x.a : Nat), .int .u16 (x.b : Nat), .int .u16 (x.c : Nat), .int .u16 (x.d : Nat), .int .u16 (x.e : Nat), .int .u16 (x.f : Nat)]] W (fun e w' => e = .returned (.agg #[.string (bs (a0y x).id), .int .i64 (a0y x).est, .int .i64 (a0y x).cre, .string (bs (a0y x).code), .bool (a0y x).an, .string (bs (a0y x).aa), .string (bs (a0y x).ab), .int .i64 (a0y x).inc, .int .i64 (a0y x).rank, .bool (a0y x).rn, .string (bs (a0y x).ra), .string (bs (a0y x).rb), .int .i64 (a0y x).rf, .int .i64 (a0y x).sec]) /\ Below W.heap.size W w') := hP
 have X0 : ∀ ap, (outX x (outF x k0) (outM x k0 k1) (outM x k0 k2) ap 0).enc = [.string (bs (outP x).id), .int .i64 (outP x).est, .int .i64 (outP x).cre, .string (bs (outP x).code), .bool (outP x).an, .string (bs (outP x).aa), .string (bs (outP x).ab), .int .i64 (outP x).inc, .int .i64 (outP x).rank, .bool (outP x).rn, .string (bs (outP x).ra), .string (bs (outP x).rb), .int .i64 (outP x).rf, .int .i64 (outP x).sec, .int .i64 1, .bool false, .bool (negB (outC x)), .string (bs (numB (outC x))), .string (bs (a0a (outC x))), .bool false, .string (bs []), .string (bs []), .bool false, .string (bs []), .string (bs []), .bool (negB (outC x)), .string (bs (numB (outC x))), .string (bs (a0a (outC x))), .int .i64 3, .int .i64 51] := fun _ => rfl
 have X4 : (outX x (outF x k0) (outM x k0 k1) (outM x k0 k2) true 4).enc = [.string (bs (outP x).id), .int .i64 (outP x).est, .int .i64 (outP x).cre, .string (bs (outP x).code), .bool (outP x).an, .string (bs (outP x).aa), .string (bs (outP x).ab), .int .i64 (outP x).inc, .int .i64 (outP x).rank, .bool (outP x).rn, .string (bs (outP x).ra), .string (bs (outP x).rb), .int .i64 (outP x).rf, .int .i64 (outP x).sec, .int .i64 6, .bool false, .bool (negB (outC x)), .string (bs (numB (outC x))), .string (bs (a0a (outC x))), .bool (negB (outM x k0 k2)), .string (bs (numB (outM x k0 k2))), .string (bs (a0a (outM x k0 k2))), .bool (negB (outM x k0 k2)), .string (bs (numB (outM x k0 k2))), .string (bs (a0a (outM x k0 k2))), .bool (negB (outM x k0 k2)), .string (bs (numB (outM x k0 k2))), .string (bs (a0a (outM x k0 k2))), .int .i64 3, .int .i64 55] := rfl
 have X3 : (outX x (outF x k0) (outM x k0 k1) (outM x k0 k2) false 3).enc = [.string (bs (outP x).id), .int .i64 (outP x).est, .int .i64 (outP x).cre, .string (bs (outP x).code), .bool (outP x).an, .string (bs (outP x).aa), .string (bs (outP x).ab), .int .i64 (outP x).inc, .int .i64 (outP x).rank, .bool (outP x).rn, .string (bs (outP x).ra), .string (bs (outP x).rb), .int .i64 (outP x).rf, .int .i64 (outP x).sec, .int .i64 6, .bool false, .bool (negB (outC x)), .string (bs (numB (outC x))), .string (bs (a0a (outC x))), .bool (negB (outM x k0 k1)), .string (bs (numB (outM x k0 k1))), .string (bs (a0a (outM x k0 k1))), .bool (negB (outM x k0 k1)), .string (bs (numB (outM x k0 k1))), .string (bs (a0a (outM x k0 k1))), .bool (negB (outM x k0 k1)), .string (bs (numB (outM x k0 k1))), .string (bs (a0a (outM x k0 k1))), .int .i64 3, .int .i64 54] := rfl
 have Z0 : ∀ ap, outX x (outF x k0) (outM x k0 k1) (outM x k0 k2) ap 0 = outX x (outF x k0) (outM x k0 k1) (outM x k0 k2) true 0 := fun _ => rfl
 have q1 := fun W => a9m sd (by decide) W
 have q2 := fun W => a9m sv (by decide) W
 generalize outX x (outF x k0) (outM x k0 k1) (outM x k0 k2) = X at *
 generalize outM x k0 k1 = qd at *
 generalize outM x k0 k2 = qv at *
 generalize outF x k0 = qf at *
 generalize outC x = qc at *
 generalize a0y x = p at *
 generalize outP x = po at *
 obtain ⟨z0, hz0, hz1, hz2, hz3⟩ := info_parts info_evt
 unfold rat raw at q1 q2 hM0 hM1 hM2 hI
 have HWx := zh hW
 have HNx := zh hN
 have HF2x := zh hF2
 have HP2x := zh hP2
 have HIx := zh hI
 have HM0x := zh hM0
 have HM1x := zh hM1
 have HM2x := zh hM2
 have HA2x := zh hA2
 have HL2x := zh hL2
 have X0x := zh X0
 have X3x := zh X3
 have X4x := zh X4
 have Z0x := zh Z0
 have HZ0x := zh hz0
 have Q1x := zh q1
 have Q2x := zh q2
 clear hP hA hL hF hst hfl hla hmd ham hmid zz sB cB r0 sc sf sd sv hx h0 h1 h2 hW hN hF2 hP2 hI hM0 hM1 hM2 hA2 hL2 X0 X3 X4 Z0 q1 q2
 go_enter Tryz.func10, Tryz.ntmps10
 have HS := zh (St.start w)
 go_upto_region 1 with fail
 refine c0p (R := [⟨w.heap.size, #[.int .u16 (x.a : Nat), .int .u16 (x.b : Nat), .int .u16 (x.c : Nat), .int .u16 (x.d : Nat), .int .u16 (x.e : Nat), .int .u16 (x.f : Nat)], 47⟩]) (St.alloc (HS.out) #[.int .u16 (x.a : Nat), .int .u16 (x.b : Nat), .int .u16 (x.c : Nat), .int .u16 (x.d : Nat), .int .u16 (x.e : Nat), .int .u16 (x.f : Nat)] 47 (w.heap.size) (by simp)) ?_
 intro wg2 hb
 have HS2 := zh hb
 clear hb HS
 obtain ⟨x1, x2, x3⟩ := HS2.out.k0 0 rfl rfl rfl rfl
 have x4 := HS2.out.cell 0 rfl 3 rfl
 have x5 := HS2.out.cell 0 rfl 4 rfl
 have x6 := HS2.out.cell 0 rfl 5 rfl
 go_wp2_with fail
 refine (HP2x.out _).mono ?_
 rintro e w3 ⟨rfl, hb3⟩
 have HS3 := zh (HS2.out.call hb3)
 clear hb3 HS2
 clear x1 x2 x3 x4 x5 x6
 go_wp2_with (refine a1g rfl _ _ _ rfl (St.alloc (HS3.out) #[.string (bs []), .int .i64 0, .int .i64 0, .string (bs []), .bool false, .string (bs []), .string (bs []), .int .i64 0, .int .i64 0, .bool false, .string (bs []), .string (bs []), .int .i64 0, .int .i64 0] 36 (w3.heap.size) (by simp)) 0 rfl [.string (bs p.id), .int .i64 p.est, .int .i64 p.cre, .string (bs p.code), .bool p.an, .string (bs p.aa), .string (bs p.ab), .int .i64 p.inc, .int .i64 p.rank, .bool p.rn, .string (bs p.ra), .string (bs p.rb), .int .i64 p.rf, .int .i64 p.sec] rfl rfl rfl a5k rfl ?_)
 intro w4 hS4
 have HS4 : Hid (St w [⟨w3.heap.size, #[.string (bs p.id), .int .i64 p.est, .int .i64 p.cre, .string (bs p.code), .bool p.an, .string (bs p.aa), .string (bs p.ab), .int .i64 p.inc, .int .i64 p.rank, .bool p.rn, .string (bs p.ra), .string (bs p.rb), .int .i64 p.rf, .int .i64 p.sec], 36⟩, ⟨w.heap.size, #[.int .u16 (x.a : Nat), .int .u16 (x.b : Nat), .int .u16 (x.c : Nat), .int .u16 (x.d : Nat), .int .u16 (x.e : Nat), .int .u16 (x.f : Nat)], 47⟩] w4) := zh hS4
 clear hS4 HS3
 have x7 := HS4.out.cell 0 rfl 0 rfl
 have x8 := HS4.out.cell 0 rfl 3 rfl
 have x9 := HS4.out.cell 0 rfl 7 rfl
 have x10 := HS4.out.frozen 0 rfl 0
 have x11 := HS4.out.frozen 0 rfl 3
 have x12 := HS4.out.frozen 0 rfl 7
 have x13 := HS4.out.ne 0 1 rfl rfl (by decide)
 have x14 := HS4.out.ne 1 0 rfl rfl (by decide)
 go_wp2_with fail
 have HS5 : Hid (St w [⟨w3.heap.size, #[.string (bs [97]), .int .i64 p.est, .int .i64 p.cre, .string (bs [69, 85, 82]), .bool p.an, .string (bs p.aa), .string (bs p.ab), .int .i64 3, .int .i64 p.rank, .bool p.rn, .string (bs p.ra), .string (bs p.rb), .int .i64 p.rf, .int .i64 p.sec], 36⟩, ⟨w.heap.size, #[.int .u16 (x.a : Nat), .int .u16 (x.b : Nat), .int .u16 (x.c : Nat), .int .u16 (x.d : Nat), .int .u16 (x.e : Nat), .int .u16 (x.f : Nat)], 47⟩] _) := zh (St.set ((St.set ((St.set (HS4.out) 0 rfl 0 _)) 0 rfl 3 _)) 0 rfl 7 _)
 refine (HNx.out _).mono ?_
 rintro e w6 ⟨rfl, hb6⟩
 have HS6 := zh (HS5.out.call hb6)
 clear hb6 HS4 HS5
 clear x7 x8 x9 x10 x11 x12 x13 x14
 go_wp2_with (refine wpList_load_mid rfl _ _ rfl (w3.heap.size) (0) rfl [.string (bs [97]), .int .i64 p.est, .int .i64 p.cre, .string (bs [69, 85, 82]), .bool p.an, .string (bs p.aa), .string (bs p.ab), .int .i64 3, .int .i64 p.rank, .bool p.rn, .string (bs p.ra), .string (bs p.rb), .int .i64 p.rf, .int .i64 p.sec] _ (St.whole (St.alloc (HS6.out) #[.int .i64 50, .int .i64 60, .int .i64 0, .slice none 0 0] 24 (w6.heap.size) (by simp)) 1 rfl) Tryz.underlying36 rfl a5k ?_)
 have HS7 := zh (St.alloc (HS6.out) #[.int .i64 50, .int .i64 60, .int .i64 0, .slice none 0 0] 24 (w6.heap.size) (by simp))
 refine (HF2x.out _).mono ?_
 rintro e w8 ⟨v8, rfl, hG8, hb8⟩
 obtain ⟨g8, cp8, rs8, hv8, hg8, ha8, hc8, hd8, hB8⟩ := Grows.toG hG8 (by decide)
 subst hv8
 have hst8 := St.addT (St.call HS7.out hb8) (a0m (show (24 : TypeId) ≠ 63 by decide) (a0m (show (36 : TypeId) ≠ 63 by decide) (a0m (show (47 : TypeId) ≠ 63 by decide) (fun r hr => absurd hr (by simp))))) hB8 (Nat.le_trans HS7.out.below.size hg8)
 have HA8 := zh (show 1 <= cp8 /\ cp8 <= 9223372036854775807 from ⟨ha8, Nat.le_trans hc8 (by decide)⟩)
 clear hG8 hB8 hg8 ha8 hc8 hd8 hb8
 have HS8 : Hid (St w [⟨g8, (rowG Ent.enc [X true 0] rs8), 63⟩, ⟨w6.heap.size, #[.int .i64 50, .int .i64 60, .int .i64 0, .slice none 0 0], 24⟩, ⟨w3.heap.size, #[.string (bs [97]), .int .i64 p.est, .int .i64 p.cre, .string (bs [69, 85, 82]), .bool p.an, .string (bs p.aa), .string (bs p.ab), .int .i64 3, .int .i64 p.rank, .bool p.rn, .string (bs p.ra), .string (bs p.rb), .int .i64 p.rf, .int .i64 p.sec], 36⟩, ⟨w.heap.size, #[.int .u16 (x.a : Nat), .int .u16 (x.b : Nat), .int .u16 (x.c : Nat), .int .u16 (x.d : Nat), .int .u16 (x.e : Nat), .int .u16 (x.f : Nat)], 47⟩] w8) := zh hst8
 clear hst8 HS6 HS7
 obtain ⟨x15, x16, x17⟩ := HS8.out.k0 1 rfl rfl rfl rfl
 have x18 := HS8.out.cell 1 rfl 3 rfl
 obtain ⟨x19, x20, x21⟩ := HS8.out.f0 1 rfl
 have x22 := HS8.out.frozen 1 rfl 3
 have x23 := HS8.out.ne 1 0 rfl rfl (by decide)
 have x24 := HS8.out.ne 0 1 rfl rfl (by decide)
 have x25 := HS8.out.ne 1 2 rfl rfl (by decide)
 have x26 := HS8.out.ne 2 1 rfl rfl (by decide)
 have x27 := HS8.out.ne 1 3 rfl rfl (by decide)
 have x28 := HS8.out.ne 3 1 rfl rfl (by decide)
 go_upto_region 7 with fail
 clear x15 x16 x17 x18 x19 x20 x21 x22 x23 x24 x25 x26 x27 x28
 refine c1x (p := fun W => St w [⟨g8, (rowG Ent.enc [X true 0] rs8), 63⟩, ⟨w6.heap.size, #[.int .i64 50, .int .i64 60, .int .i64 51, .slice (some ⟨g8, 0, none⟩) 1 cp8], 24⟩, ⟨w3.heap.size, #[.string (bs [97]), .int .i64 p.est, .int .i64 p.cre, .string (bs [69, 85, 82]), .bool p.an, .string (bs p.aa), .string (bs p.ab), .int .i64 3, .int .i64 p.rank, .bool p.rn, .string (bs p.ra), .string (bs p.rb), .int .i64 p.rf, .int .i64 p.sec], 36⟩, ⟨w.heap.size, #[.int .u16 (x.a : Nat), .int .u16 (x.b : Nat), .int .u16 (x.c : Nat), .int .u16 (x.d : Nat), .int .u16 (x.e : Nat), .int .u16 (x.f : Nat)], 47⟩] W) ((St.set ((St.set ((St.set ((St.set (HS8.out) 1 rfl 0 _)) 1 rfl 1 _)) 1 rfl 2 _)) 1 rfl 3 _)) ?_
 intro wg9 hb
 have HS9 := zh hb
 clear hb HS8 
 obtain ⟨b8, o8, y8, hA8, hb8, hq8, hx8⟩ := Slc.at_ (a4s a1s (HS9.out.blk 0 rfl) rfl HA8.out.1 HA8.out.2) (j := 0) (by simp)
 injection hA8 with hA8
 injection hA8 with e1 e2 e3
 subst e1; subst e2
 obtain rfl : X true 0 = y8 := Option.some.inj hq8
 rw [X0x.out true] at hx8
 simp only [Nat.zero_mul, Nat.add_zero, Nat.zero_add] at hx8
 have HE0 := zh hx8
 have LHE0 := hb8
 clear hq8 hx8 hb8
 have x29 := HS9.out.cell 1 rfl 3 rfl
 have x30 := HS9.out.lt 1 rfl
 have x31 : ¬ w6.heap.size = wg9.heap.size := by omega
 have x32 : ¬ wg9.heap.size = w6.heap.size := by omega
 have x33 : g8 < wg9.heap.size := LHE0
 have x34 : ¬ g8 = wg9.heap.size := by omega
 have x35 := HE0.out _ (Below.refl _ _) 25 _ rfl
 have x36 := HE0.out _ (Below.refl _ _) 26 _ rfl
 have x37 := HE0.out _ (Below.refl _ _) 27 _ rfl
 go_wp2
 clear x29 x30 x31 x32 x33 x34 x35 x36 x37
 refine c0p (R := [⟨wg9.heap.size, #[.bool (negB (qc)), .string (bs (numB (qc))), .string (bs (a0a (qc)))], 34⟩, ⟨g8, (rowG Ent.enc [X true 0] rs8), 63⟩, ⟨w6.heap.size, #[.int .i64 50, .int .i64 60, .int .i64 51, .slice (some ⟨g8, 0, none⟩) 1 cp8], 24⟩, ⟨w3.heap.size, #[.string (bs [97]), .int .i64 p.est, .int .i64 p.cre, .string (bs [69, 85, 82]), .bool p.an, .string (bs p.aa), .string (bs p.ab), .int .i64 3, .int .i64 p.rank, .bool p.rn, .string (bs p.ra), .string (bs p.rb), .int .i64 p.rf, .int .i64 p.sec], 36⟩, ⟨w.heap.size, #[.int .u16 (x.a : Nat), .int .u16 (x.b : Nat), .int .u16 (x.c : Nat), .int .u16 (x.d : Nat), .int .u16 (x.e : Nat), .int .u16 (x.f : Nat)], 47⟩]) (St.alloc (HS9.out) #[.bool (negB (qc)), .string (bs (numB (qc))), .string (bs (a0a (qc)))] 34 (wg9.heap.size) (by simp)) ?_
 intro wg10 hb
 have HS10 := zh hb
 clear hb HS9
 refine a0e 5 [eQ (.int .u8 (k0 : Nat)), eQ (.agg #[.bool (negB ((0 : Rat))), .string (bs (numB ((0 : Rat)))), .string (bs (a0a ((0 : Rat))))]), eQ (.agg #[.bool (negB (qc)), .string (bs (numB (qc))), .string (bs (a0a (qc)))]), eQ (.agg #[.bool (negB (qf)), .string (bs (numB (qf))), .string (bs (a0a (qf)))]), fun ww vv => ∃ g, vv = .pointer (some ⟨g, 0, none⟩) /\ wg10.heap.size <= g /\ Blk ww g #[.bool false, .string (bs []), .string (bs [])] 34] rfl (by kernel_rfl) (by kernel_rfl) (by kernel_rfl) ⟨stE, stE, stE, stE, fun _ _ _ ⟨g, e, hg, h⟩ hb => ⟨g, e, hg, h.below hb h.lt⟩, trivial⟩ ?_ ?_
 refine ⟨?_, ?_, ?_, ?_, ?_, trivial⟩
 ·intro xx af wv hbx hev hev0 hd; have e1 : af.tmps[1]?.getD undef = .int .u8 (k0 : Nat) := hev0 1 rfl; clear hev hev0 hd; go_wp2; exact sQ rfl
 ·intro xx af wv hbx hev hev0 hd
  clear hev hev0 hd
  go_wp2_with fail
  refine (HIx.out _).mono ?_
  rintro e w8 ⟨rfl, hb8⟩
  go_wp2
  exact StepQ.mk _ hb8 rfl
 ·intro xx af wv hbx hev hev0 hd; have e15 : af.tmps[15]?.getD undef = .pointer (some ⟨wg9.heap.size, 0, none⟩) := hev0 15 rfl; clear hev hev0 hd; have hs1 := zh (HS10.out.call hbx); obtain ⟨y0, y1, y2⟩ := hs1.out.k0 0 rfl rfl rfl rfl; go_wp2; exact sQ rfl
 ·intro xx af wv hbx hev hev0 hd
  have e57 := (hev 0 _ 57 rfl rfl).trans (hd ⟨0, .data⟩ (by simp) rfl)
  have e58 := (hev 1 _ 58 rfl rfl).trans (hd ⟨1, .data⟩ (by simp) rfl)
  have e59 := (hev 2 _ 59 rfl rfl).trans (hd ⟨2, .data⟩ (by simp) rfl)
  clear hev hev0 hd
  go_wp2_with fail
  refine (HM0x.out _).mono ?_
  rintro e w8 ⟨rfl, hb8⟩
  go_wp2
  exact StepQ.mk _ hb8 rfl
 ·intro xx af wv hbx hev hev0 hd; clear hev hev0 hd; go_wp2; exact StepQ.mk _ (Ext.alloc (Below.refl _ _) _) ⟨_, rfl, hbx.size, Blk.new _ _ _⟩
 intro xx w12 hb9 hv
 obtain ⟨g12, hv4, hlg4, hB4⟩ := hv 4 (by decide)
 simp only [List.take, List.drop, a0h, Act.put]
 simp only [show xx 0 = _ from hv 0 (by decide), show xx 1 = _ from hv 1 (by decide), show xx 2 = _ from hv 2 (by decide), show xx 3 = _ from hv 3 (by decide), hv4]
 clear hv hv4
 have HS12 := zh (HS10.out.fill hb9 hlg4 hB4)
 clear hlg4 hB4
 clear hb9 HS10
 obtain ⟨x38, x39, x40⟩ := HS12.out.k0 0 rfl rfl rfl rfl
 obtain ⟨x41, x42, x43⟩ := HS12.out.f0 0 rfl
 have x44 := HS12.out.ne 0 1 rfl rfl (by decide)
 have x45 := HS12.out.ne 1 0 rfl rfl (by decide)
 have x46 := HS12.out.ne 0 2 rfl rfl (by decide)
 have x47 := HS12.out.ne 2 0 rfl rfl (by decide)
 have x48 := HS12.out.ne 0 3 rfl rfl (by decide)
 have x49 := HS12.out.ne 3 0 rfl rfl (by decide)
 have x50 := HS12.out.ne 0 4 rfl rfl (by decide)
 have x51 := HS12.out.ne 4 0 rfl rfl (by decide)
 have x52 := HS12.out.ne 0 5 rfl rfl (by decide)
 have x53 := HS12.out.ne 5 0 rfl rfl (by decide)
 go_wp2
 clear x38 x39 x40 x41 x42 x43 x44 x45 x46 x47 x48 x49 x50 x51 x52 x53
 refine c0p (R := [⟨g12, #[.bool (negB (qf)), .string (bs (numB (qf))), .string (bs (a0a (qf)))], 34⟩, ⟨wg9.heap.size, #[.bool (negB (qc)), .string (bs (numB (qc))), .string (bs (a0a (qc)))], 34⟩, ⟨g8, (rowG Ent.enc [X true 0] rs8), 63⟩, ⟨w6.heap.size, #[.int .i64 50, .int .i64 60, .int .i64 51, .slice (some ⟨g8, 0, none⟩) 1 cp8], 24⟩, ⟨w3.heap.size, #[.string (bs [97]), .int .i64 p.est, .int .i64 p.cre, .string (bs [69, 85, 82]), .bool p.an, .string (bs p.aa), .string (bs p.ab), .int .i64 3, .int .i64 p.rank, .bool p.rn, .string (bs p.ra), .string (bs p.rb), .int .i64 p.rf, .int .i64 p.sec], 36⟩, ⟨w.heap.size, #[.int .u16 (x.a : Nat), .int .u16 (x.b : Nat), .int .u16 (x.c : Nat), .int .u16 (x.d : Nat), .int .u16 (x.e : Nat), .int .u16 (x.f : Nat)], 47⟩]) (St.set ((St.set ((St.set (HS12.out) 0 rfl 0 _)) 0 rfl 1 _)) 0 rfl 2 _) ?_
 intro wg13 hb
 have HS13 := zh hb
 clear hb HS12
 refine b5e 10 8 9 [.int .u8 (k1 : Nat), .agg #[.bool (negB (qf)), .string (bs (numB (qf))), .string (bs (a0a (qf)))], .agg #[.bool (negB (qc)), .string (bs (numB (qc))), .string (bs (a0a (qc)))], .agg #[.bool (negB (qd)), .string (bs (numB (qd))), .string (bs (a0a (qd)))], .int .u8 (k2 : Nat), .agg #[.bool (negB (qf)), .string (bs (numB (qf))), .string (bs (a0a (qf)))], .agg #[.bool (negB (qc)), .string (bs (numB (qc))), .string (bs (a0a (qc)))], .agg #[.bool (negB (qv)), .string (bs (numB (qv))), .string (bs (a0a (qv)))], undef, undef] #[.bool false, .string (bs []), .string (bs [])] 34 #[.bool false, .string (bs []), .string (bs [])] 34 rfl (by kernel_rfl) (by kernel_rfl) (by kernel_rfl) (by decide) (by decide) (by decide) ?_ ?_
 refine ⟨?_, ?_, ?_, ?_, ?_, ?_, ?_, ?_, ?_, ?_, trivial⟩
 ·intro xx af wv hbx hev hev0 hd; have e2 : af.tmps[2]?.getD undef = .int .u8 (k1 : Nat) := hev0 2 rfl; clear hev hev0 hd; rw [if_neg (by decide), if_neg (by decide)]; go_wp2; exact sQ rfl
 ·intro xx af wv hbx hev hev0 hd; have e16 : af.tmps[16]?.getD undef = .pointer (some ⟨g12, 0, none⟩) := hev0 16 rfl; clear hev hev0 hd; rw [if_neg (by decide), if_neg (by decide)]; have hs1 := zh (HS13.out.call hbx); obtain ⟨y0, y1, y2⟩ := hs1.out.k0 0 rfl rfl rfl rfl; go_wp2; exact sQ rfl
 ·intro xx af wv hbx hev hev0 hd; have e15 : af.tmps[15]?.getD undef = .pointer (some ⟨wg9.heap.size, 0, none⟩) := hev0 15 rfl; clear hev hev0 hd; rw [if_neg (by decide), if_neg (by decide)]; have hs1 := zh (HS13.out.call hbx); obtain ⟨y0, y1, y2⟩ := hs1.out.k0 1 rfl rfl rfl rfl; go_wp2; exact sQ rfl
 ·intro xx af wv hbx hev hev0 hd
  have e61 := hev 0 _ 61 rfl rfl
  have d0 : xx 0 = .int .u8 (k1 : Nat) := hd ⟨0, .data⟩ (by simp) rfl (by decide) (by decide)
  rw [d0] at e61
  clear d0
  have e62 := hev 1 _ 62 rfl rfl
  have d1 : xx 1 = .agg #[.bool (negB (qf)), .string (bs (numB (qf))), .string (bs (a0a (qf)))] := hd ⟨1, .data⟩ (by simp) rfl (by decide) (by decide)
  rw [d1] at e62
  clear d1
  have e63 := hev 2 _ 63 rfl rfl
  have d2 : xx 2 = .agg #[.bool (negB (qc)), .string (bs (numB (qc))), .string (bs (a0a (qc)))] := hd ⟨2, .data⟩ (by simp) rfl (by decide) (by decide)
  rw [d2] at e63
  clear d2
  clear hev hev0 hd
  rw [if_neg (by decide), if_neg (by decide)]
  go_wp2_with fail
  refine (HM1x.out _).mono ?_
  rintro e w8 ⟨rfl, hb8⟩
  go_wp2
  exact StepQ.mk _ hb8 rfl
 ·intro xx af wv hbx hev hev0 hd; have e3 : af.tmps[3]?.getD undef = .int .u8 (k2 : Nat) := hev0 3 rfl; clear hev hev0 hd; rw [if_neg (by decide), if_neg (by decide)]; go_wp2; exact sQ rfl
 ·intro xx af wv hbx hev hev0 hd; have e16 : af.tmps[16]?.getD undef = .pointer (some ⟨g12, 0, none⟩) := hev0 16 rfl; clear hev hev0 hd; rw [if_neg (by decide), if_neg (by decide)]; have hs1 := zh (HS13.out.call hbx); obtain ⟨y0, y1, y2⟩ := hs1.out.k0 0 rfl rfl rfl rfl; go_wp2; exact sQ rfl
 ·intro xx af wv hbx hev hev0 hd; have e15 : af.tmps[15]?.getD undef = .pointer (some ⟨wg9.heap.size, 0, none⟩) := hev0 15 rfl; clear hev hev0 hd; rw [if_neg (by decide), if_neg (by decide)]; have hs1 := zh (HS13.out.call hbx); obtain ⟨y0, y1, y2⟩ := hs1.out.k0 1 rfl rfl rfl rfl; go_wp2; exact sQ rfl
 ·intro xx af wv hbx hev hev0 hd
  have e65 := hev 4 _ 65 rfl rfl
  have d4 : xx 4 = .int .u8 (k2 : Nat) := hd ⟨4, .data⟩ (by simp) rfl (by decide) (by decide)
  rw [d4] at e65
  clear d4
  have e66 := hev 5 _ 66 rfl rfl
  have d5 : xx 5 = .agg #[.bool (negB (qf)), .string (bs (numB (qf))), .string (bs (a0a (qf)))] := hd ⟨5, .data⟩ (by simp) rfl (by decide) (by decide)
  rw [d5] at e66
  clear d5
  have e67 := hev 6 _ 67 rfl rfl
  have d6 : xx 6 = .agg #[.bool (negB (qc)), .string (bs (numB (qc))), .string (bs (a0a (qc)))] := hd ⟨6, .data⟩ (by simp) rfl (by decide) (by decide)
  rw [d6] at e67
  clear d6
  clear hev hev0 hd
  rw [if_neg (by decide), if_neg (by decide)]
  go_wp2_with fail
  refine (HM2x.out _).mono ?_
  rintro e w8 ⟨rfl, hb8⟩
  go_wp2
  exact StepQ.mk _ hb8 rfl
 ·intro xx af wv hbx hev hev0 hd; clear hev hev0 hd; rw [if_pos rfl]; go_wp2; exact StepQ.mk _ (Ext.alloc (Below.refl _ _) _) ⟨_, rfl, Nat.le_refl _, Blk.new _ _ _⟩
 ·intro xx af wv hbx hev hev0 hd; clear hev hev0 hd; rw [if_neg (by decide), if_pos rfl]; go_wp2; exact StepQ.mk _ (Ext.alloc (Below.refl _ _) _) ⟨_, rfl, Nat.le_refl _, Blk.new _ _ _⟩
 intro xx w14 ga14 gb14 hb9 hv hxa hxb hla hlb hBa hBb hne
 have hv0 : xx 0 = .int .u8 (k1 : Nat) := hv 0 (by decide) (by decide) (by decide)
 have hv1 : xx 1 = .agg #[.bool (negB (qf)), .string (bs (numB (qf))), .string (bs (a0a (qf)))] := hv 1 (by decide) (by decide) (by decide)
 have hv2 : xx 2 = .agg #[.bool (negB (qc)), .string (bs (numB (qc))), .string (bs (a0a (qc)))] := hv 2 (by decide) (by decide) (by decide)
 have hv3 : xx 3 = .agg #[.bool (negB (qd)), .string (bs (numB (qd))), .string (bs (a0a (qd)))] := hv 3 (by decide) (by decide) (by decide)
 have hv4 : xx 4 = .int .u8 (k2 : Nat) := hv 4 (by decide) (by decide) (by decide)
 have hv5 : xx 5 = .agg #[.bool (negB (qf)), .string (bs (numB (qf))), .string (bs (a0a (qf)))] := hv 5 (by decide) (by decide) (by decide)
 have hv6 : xx 6 = .agg #[.bool (negB (qc)), .string (bs (numB (qc))), .string (bs (a0a (qc)))] := hv 6 (by decide) (by decide) (by decide)
 have hv7 : xx 7 = .agg #[.bool (negB (qv)), .string (bs (numB (qv))), .string (bs (a0a (qv)))] := hv 7 (by decide) (by decide) (by decide)
 clear hv
 simp only [List.take, List.drop, a0h, Act.put]
 simp only [hxa, hxb, hv0, hv1, hv2, hv3, hv4, hv5, hv6, hv7]
 clear hxa hxb hv0 hv1 hv2 hv3 hv4 hv5 hv6 hv7
 have HS14 := zh (HS13.out.fill2 hb9 hla hBa hlb hBb hne)
 clear hb9 hla hlb hBa hBb hne HS13
 obtain ⟨x54, x55, x56⟩ := HS14.out.k0 1 rfl rfl rfl rfl
 obtain ⟨x57, x58, x59⟩ := HS14.out.k0 0 rfl rfl rfl rfl
 obtain ⟨x60, x61, x62⟩ := HS14.out.f0 1 rfl
 obtain ⟨x63, x64, x65⟩ := HS14.out.f0 0 rfl
 have x66 := HS14.out.ne 1 0 rfl rfl (by decide)
 have x67 := HS14.out.ne 0 1 rfl rfl (by decide)
 have x68 := HS14.out.ne 1 2 rfl rfl (by decide)
 have x69 := HS14.out.ne 2 1 rfl rfl (by decide)
 have x70 := HS14.out.ne 1 3 rfl rfl (by decide)
 have x71 := HS14.out.ne 3 1 rfl rfl (by decide)
 have x72 := HS14.out.ne 1 4 rfl rfl (by decide)
 have x73 := HS14.out.ne 4 1 rfl rfl (by decide)
 have x74 := HS14.out.ne 1 5 rfl rfl (by decide)
 have x75 := HS14.out.ne 5 1 rfl rfl (by decide)
 have x76 := HS14.out.ne 1 6 rfl rfl (by decide)
 have x77 := HS14.out.ne 6 1 rfl rfl (by decide)
 have x78 := HS14.out.ne 1 7 rfl rfl (by decide)
 have x79 := HS14.out.ne 7 1 rfl rfl (by decide)
 have x80 := HS14.out.ne 0 1 rfl rfl (by decide)
 have x81 := HS14.out.ne 1 0 rfl rfl (by decide)
 have x82 := HS14.out.ne 0 2 rfl rfl (by decide)
 have x83 := HS14.out.ne 2 0 rfl rfl (by decide)
 have x84 := HS14.out.ne 0 3 rfl rfl (by decide)
 have x85 := HS14.out.ne 3 0 rfl rfl (by decide)
 have x86 := HS14.out.ne 0 4 rfl rfl (by decide)
 have x87 := HS14.out.ne 4 0 rfl rfl (by decide)
 have x88 := HS14.out.ne 0 5 rfl rfl (by decide)
 have x89 := HS14.out.ne 5 0 rfl rfl (by decide)
 have x90 := HS14.out.ne 0 6 rfl rfl (by decide)
 have x91 := HS14.out.ne 6 0 rfl rfl (by decide)
 have x92 := HS14.out.ne 0 7 rfl rfl (by decide)
 have x93 := HS14.out.ne 7 0 rfl rfl (by decide)
 go_upto_region 10 with fail
 clear x54 x55 x56 x57 x58 x59 x60 x61 x62 x63 x64 x65 x66 x67 x68 x69 x70 x71 x72 x73 x74 x75 x76 x77 x78 x79 x80 x81 x82 x83 x84 x85 x86 x87 x88 x89 x90 x91 x92 x93
 have HP15 : Hid (St w [⟨gb14, #[.bool false, .string (bs []), .string (bs [])], 34⟩, ⟨ga14, #[.bool (negB (qd)), .string (bs (numB (qd))), .string (bs (a0a (qd)))], 34⟩, ⟨g12, #[.bool (negB (qf)), .string (bs (numB (qf))), .string (bs (a0a (qf)))], 34⟩, ⟨wg9.heap.size, #[.bool (negB (qc)), .string (bs (numB (qc))), .string (bs (a0a (qc)))], 34⟩, ⟨g8, (rowG Ent.enc [X true 0] rs8), 63⟩, ⟨w6.heap.size, #[.int .i64 50, .int .i64 60, .int .i64 51, .slice (some ⟨g8, 0, none⟩) 1 cp8], 24⟩, ⟨w3.heap.size, #[.string (bs [97]), .int .i64 p.est, .int .i64 p.cre, .string (bs [69, 85, 82]), .bool p.an, .string (bs p.aa), .string (bs p.ab), .int .i64 3, .int .i64 p.rank, .bool p.rn, .string (bs p.ra), .string (bs p.rb), .int .i64 p.rf, .int .i64 p.sec], 36⟩, ⟨w.heap.size, #[.int .u16 (x.a : Nat), .int .u16 (x.b : Nat), .int .u16 (x.c : Nat), .int .u16 (x.d : Nat), .int .u16 (x.e : Nat), .int .u16 (x.f : Nat)], 47⟩] _) := zh (St.set ((St.set ((St.set (HS14.out) 1 rfl 0 _)) 1 rfl 1 _)) 1 rfl 2 _)
 have HP16 : Hid (St w [⟨gb14, #[.bool (negB (qv)), .string (bs (numB (qv))), .string (bs (a0a (qv)))], 34⟩, ⟨ga14, #[.bool (negB (qd)), .string (bs (numB (qd))), .string (bs (a0a (qd)))], 34⟩, ⟨g12, #[.bool (negB (qf)), .string (bs (numB (qf))), .string (bs (a0a (qf)))], 34⟩, ⟨wg9.heap.size, #[.bool (negB (qc)), .string (bs (numB (qc))), .string (bs (a0a (qc)))], 34⟩, ⟨g8, (rowG Ent.enc [X true 0] rs8), 63⟩, ⟨w6.heap.size, #[.int .i64 50, .int .i64 60, .int .i64 51, .slice (some ⟨g8, 0, none⟩) 1 cp8], 24⟩, ⟨w3.heap.size, #[.string (bs [97]), .int .i64 p.est, .int .i64 p.cre, .string (bs [69, 85, 82]), .bool p.an, .string (bs p.aa), .string (bs p.ab), .int .i64 3, .int .i64 p.rank, .bool p.rn, .string (bs p.ra), .string (bs p.rb), .int .i64 p.rf, .int .i64 p.sec], 36⟩, ⟨w.heap.size, #[.int .u16 (x.a : Nat), .int .u16 (x.b : Nat), .int .u16 (x.c : Nat), .int .u16 (x.d : Nat), .int .u16 (x.e : Nat), .int .u16 (x.f : Nat)], 47⟩] _) := zh (St.set ((St.set ((St.set (HP15.out) 0 rfl 0 _)) 0 rfl 1 _)) 0 rfl 2 _)
 refine c1x (p := fun W => St w [⟨gb14, #[.bool (negB (qv)), .string (bs (numB (qv))), .string (bs (a0a (qv)))], 34⟩, ⟨ga14, #[.bool (negB (qd)), .string (bs (numB (qd))), .string (bs (a0a (qd)))], 34⟩, ⟨g12, #[.bool (negB (qf)), .string (bs (numB (qf))), .string (bs (a0a (qf)))], 34⟩, ⟨wg9.heap.size, #[.bool (negB (qc)), .string (bs (numB (qc))), .string (bs (a0a (qc)))], 34⟩, ⟨g8, (rowG Ent.enc [X true 0] rs8), 63⟩, ⟨w6.heap.size, #[.int .i64 50, .int .i64 60, .int .i64 51, .slice (some ⟨g8, 0, none⟩) 1 cp8], 24⟩, ⟨w3.heap.size, #[.string (bs [97]), .int .i64 p.est, .int .i64 p.cre, .string (bs [69, 85, 82]), .bool p.an, .string (bs p.aa), .string (bs p.ab), .int .i64 3, .int .i64 p.rank, .bool p.rn, .string (bs p.ra), .string (bs p.rb), .int .i64 p.rf, .int .i64 p.sec], 36⟩, ⟨w.heap.size, #[.int .u16 (x.a : Nat), .int .u16 (x.b : Nat), .int .u16 (x.c : Nat), .int .u16 (x.d : Nat), .int .u16 (x.e : Nat), .int .u16 (x.f : Nat)], 47⟩] W) (HP16.out) ?_
 intro wg17 hb
 have HS17 := zh hb
 clear hb HS14 
 obtain ⟨x94, x95, x96⟩ := HS17.out.k0 2 rfl rfl rfl rfl
 obtain ⟨x97, x98, x99⟩ := HS17.out.k0 1 rfl rfl rfl rfl
 have x100 := HS17.out.lt 2 rfl
 have x101 : ¬ g12 = wg17.heap.size := by omega
 have x102 : ¬ wg17.heap.size = g12 := by omega
 have x103 : ¬ g12 = wg17.heap.size + 1 := by omega
 have x104 : ¬ wg17.heap.size + 1 = g12 := by omega
 have x105 := HS17.out.lt 1 rfl
 have x106 : ¬ ga14 = wg17.heap.size := by omega
 have x107 : ¬ wg17.heap.size = ga14 := by omega
 have x108 : ¬ ga14 = wg17.heap.size + 1 := by omega
 have x109 : ¬ wg17.heap.size + 1 = ga14 := by omega
 go_upto_if 75 with fail
 clear x94 x95 x96 x97 x98 x99 x100 x101 x102 x103 x104 x105 x106 x107 x108 x109 HP15 HP16
 cases ap
 ·have HS18 := zh (St.alloc ((St.alloc ((St.alloc (HS17.out) #[.int .i64 3, .int .i64 52, .string (bs [97]), .bool (negB (qf)), .string (bs (numB (qf))), .string (bs (a0a (qf))), .int .i64 0, .string (bs []), .int .i64 0, .int .i64 0, .string (bs []), .bool false, .string (bs []), .string (bs []), .int .i64 0, .int .i64 0, .bool false, .string (bs []), .string (bs []), .int .i64 0, .int .i64 0, .int .i64 4, .int .i64 53, .string (bs [97]), .bool (negB (qd)), .string (bs (numB (qd))), .string (bs (a0a (qd))), .int .i64 0, .string (bs []), .int .i64 0, .int .i64 0, .string (bs []), .bool false, .string (bs []), .string (bs []), .int .i64 0, .int .i64 0, .bool false, .string (bs []), .string (bs []), .int .i64 0, .int .i64 0] 56 (wg17.heap.size) (by simp))) #[.bool (negB (qd)), .string (bs (numB (qd))), .string (bs (a0a (qd)))] 34 (wg17.heap.size + 1) (by simp))) #[.int .i64 9, .int .i64 54, .string (bs [97]), .bool false, .string (bs []), .string (bs []), .int .i64 0, .string (bs []), .int .i64 0, .int .i64 0, .string (bs []), .bool false, .string (bs []), .string (bs []), .int .i64 0, .int .i64 0, .bool false, .string (bs []), .string (bs []), .int .i64 0, .int .i64 0] 56 (wg17.heap.size + 1 + 1) (by simp))
  have hown := (a7u (w := _) (base := w.heap.size) a6s (l := ([⟨3, 52, [97], enc3 qf, 0, prf0⟩, ⟨4, 53, [97], enc3 qd, 0, prf0⟩] : List Evt)) (rest := []) (cap := 2) (HS18.out.blk 2 rfl) (HS18.out.ge 2 rfl) (Nat.le_refl 2) (by decide) rfl)
  have hsrc := Slc.of_blk a6s (xs := ([⟨9, 54, [97], zero3, 0, prf0⟩] : List Evt)) (n := 1) (c := 1) (HS18.out.blk 0 rfl) rfl rfl (Nat.le_refl _) (by decide)
  have HO := zh hown
  have HSRC := zh hsrc
  clear hown hsrc
  go_wp2_with (at_builtin; refine wpList_append_own _ rfl _ _ 72 rfl w.heap.size 56 z0 _ 21 _ Tryz.underlying72 HZ0x.out hz1 hz2 hz3 rfl (by decide) _ 2 (flat Evt.enc [⟨3, 52, [97], enc3 qf, 0, prf0⟩, ⟨4, 53, [97], enc3 qd, 0, prf0⟩]) (by simp [Act.eval]) HO.out ⟨wg17.heap.size + 1 + 1, 0, none⟩ 1 1 (flat Evt.enc [⟨9, 54, [97], zero3, 0, prf0⟩]) (by simp [Act.eval]) rfl (HSRC.out.flat_cells a6s (Below.refl _ _)) (fun u hu => b7s hu) (by decide) (by decide) HS18.out.below.size ?_)
  intro v9 w9 hown9 hg9 hnil9
  have hst9 := St.sub (St.grownApart (St.front HS18.out 2 rfl) hg9) (List.Sublist.cons _ (List.Sublist.refl _))
  have hown10 : Grows w9 w.heap.size 56 21 v9 3 (flat Evt.enc (outE qf qd qv false)) := by have h := hown9; rw [<- a5e] at h; exact h
  obtain ⟨gL, cL, rL, hv9, hgL, ha9, hc9, hd9, hB9⟩ := Grows.toG hown10 (by decide)
  subst hv9
  have HS9 : Hid (St w [⟨wg17.heap.size + 1, #[.bool (negB (qd)), .string (bs (numB (qd))), .string (bs (a0a (qd)))], 34⟩, ⟨gb14, #[.bool (negB (qv)), .string (bs (numB (qv))), .string (bs (a0a (qv)))], 34⟩, ⟨ga14, #[.bool (negB (qd)), .string (bs (numB (qd))), .string (bs (a0a (qd)))], 34⟩, ⟨g12, #[.bool (negB (qf)), .string (bs (numB (qf))), .string (bs (a0a (qf)))], 34⟩, ⟨wg9.heap.size, #[.bool (negB (qc)), .string (bs (numB (qc))), .string (bs (a0a (qc)))], 34⟩, ⟨g8, (rowG Ent.enc [X true 0] rs8), 63⟩, ⟨w6.heap.size, #[.int .i64 50, .int .i64 60, .int .i64 51, .slice (some ⟨g8, 0, none⟩) 1 cp8], 24⟩, ⟨w3.heap.size, #[.string (bs [97]), .int .i64 p.est, .int .i64 p.cre, .string (bs [69, 85, 82]), .bool p.an, .string (bs p.aa), .string (bs p.ab), .int .i64 3, .int .i64 p.rank, .bool p.rn, .string (bs p.ra), .string (bs p.rb), .int .i64 p.rf, .int .i64 p.sec], 36⟩, ⟨w.heap.size, #[.int .u16 (x.a : Nat), .int .u16 (x.b : Nat), .int .u16 (x.c : Nat), .int .u16 (x.d : Nat), .int .u16 (x.e : Nat), .int .u16 (x.f : Nat)], 47⟩] w9) := zh hst9
  have HSA := zh (St.addT HS9.out (a0m (show (34 : TypeId) ≠ 56 by decide) (a0m (show (34 : TypeId) ≠ 56 by decide) (a0m (show (34 : TypeId) ≠ 56 by decide) (a0m (show (34 : TypeId) ≠ 56 by decide) (a0m (show (34 : TypeId) ≠ 56 by decide) (a0m (show (63 : TypeId) ≠ 56 by decide) (a0m (show (24 : TypeId) ≠ 56 by decide) (a0m (show (36 : TypeId) ≠ 56 by decide) (a0m (show (47 : TypeId) ≠ 56 by decide) (fun r hr => absurd hr (by simp))))))))))) hB9 hgL)
  have HL9 := zh (show 3 <= cL /\ cL <= 9223372036854775807 from ⟨ha9, Nat.le_trans hc9 (by decide)⟩)
  clear hown9 hown10 hg9 hnil9 hst9 hgL ha9 hc9 hd9 hB9 HS9 HO HSRC HS18 HS17
  go_wp2
  have HSX : Hid (St w [⟨gL, (rowG Evt.enc (outE qf qd qv false) rL), 56⟩, ⟨wg17.heap.size + 1, #[.bool (negB (qd)), .string (bs (numB (qd))), .string (bs (a0a (qd)))], 34⟩, ⟨gb14, #[.bool (negB (qv)), .string (bs (numB (qv))), .string (bs (a0a (qv)))], 34⟩, ⟨ga14, #[.bool (negB (qd)), .string (bs (numB (qd))), .string (bs (a0a (qd)))], 34⟩, ⟨g12, #[.bool (negB (qf)), .string (bs (numB (qf))), .string (bs (a0a (qf)))], 34⟩, ⟨wg9.heap.size, #[.bool (negB (qc)), .string (bs (numB (qc))), .string (bs (a0a (qc)))], 34⟩, ⟨g8, (rowG Ent.enc [X false 0] rs8), 63⟩, ⟨w6.heap.size, #[.int .i64 50, .int .i64 60, .int .i64 (51 + 0 : Nat), .slice (some ⟨g8, 0, none⟩) 1 cp8], 24⟩, ⟨w3.heap.size, #[.string (bs [97]), .int .i64 p.est, .int .i64 p.cre, .string (bs [69, 85, 82]), .bool p.an, .string (bs p.aa), .string (bs p.ab), .int .i64 3, .int .i64 p.rank, .bool p.rn, .string (bs p.ra), .string (bs p.rb), .int .i64 p.rf, .int .i64 p.sec], 36⟩, ⟨w.heap.size, #[.int .u16 (x.a : Nat), .int .u16 (x.b : Nat), .int .u16 (x.c : Nat), .int .u16 (x.d : Nat), .int .u16 (x.e : Nat), .int .u16 (x.f : Nat)], 47⟩] _) := zh (by have h9 := HSA.out; rw [<- Z0x.out false] at h9; exact h9)
  clear HSA
  go_loopw [89] (fun i wr => ∃ (k gN cN : Nat) (rN : List Value), k <= 3 /\ i = .int .i64 k /\ Hid (1 <= cN /\ cN <= 9223372036854775807) /\ Hid (St w [⟨gL, (rowG Evt.enc (outE qf qd qv false) rL), 56⟩, ⟨wg17.heap.size + 1, #[.bool (negB (qd)), .string (bs (numB (qd))), .string (bs (a0a (qd)))], 34⟩, ⟨gb14, #[.bool (negB (qv)), .string (bs (numB (qv))), .string (bs (a0a (qv)))], 34⟩, ⟨ga14, #[.bool (negB (qd)), .string (bs (numB (qd))), .string (bs (a0a (qd)))], 34⟩, ⟨g12, #[.bool (negB (qf)), .string (bs (numB (qf))), .string (bs (a0a (qf)))], 34⟩, ⟨wg9.heap.size, #[.bool (negB (qc)), .string (bs (numB (qc))), .string (bs (a0a (qc)))], 34⟩, ⟨gN, (rowG Ent.enc [X false k] rN), 63⟩, ⟨w6.heap.size, #[.int .i64 50, .int .i64 60, .int .i64 (51 + k : Nat), .slice (some ⟨gN, 0, none⟩) 1 cN], 24⟩, ⟨w3.heap.size, #[.string (bs [97]), .int .i64 p.est, .int .i64 p.cre, .string (bs [69, 85, 82]), .bool p.an, .string (bs p.aa), .string (bs p.ab), .int .i64 3, .int .i64 p.rank, .bool p.rn, .string (bs p.ra), .string (bs p.rb), .int .i64 p.rf, .int .i64 p.sec], 36⟩, ⟨w.heap.size, #[.int .u16 (x.a : Nat), .int .u16 (x.b : Nat), .int .u16 (x.c : Nat), .int .u16 (x.d : Nat), .int .u16 (x.e : Nat), .int .u16 (x.f : Nat)], 47⟩] wr)) (fun i _ => 3 - (intOf i).toNat)
  case atStart => exact ⟨0, g8, cp8, rs8, Nat.zero_le _, rfl, HA8, HSX⟩
  case round =>
   obtain ⟨k, gN, cN, rN, hk, rfl, HAN, HS⟩ := hrel
   by_cases hlt : k < 3
   ·obtain ⟨b8, o8, e, hA8, hb8, hq8, hx8⟩ := Slc.at_ (a4s a6s (HS.out.blk 0 rfl) (show (outE qf qd qv false).length = 3 from rfl) HL9.out.1 HL9.out.2) (j := k) hlt
    injection hA8 with hA8
    injection hA8 with e1 e2 e3
    subst e1; subst e2
    simp only [Nat.zero_add] at hx8
    have HAP := zh (HA2x.out false k e hq8)
    have HE := zh hx8
    have LHE := hb8
    clear hq8 hx8 hb8
    have e0 : (0 : Int) <= ((k : Nat) : Int) := by omega
    have e1 : ((k : Nat) : Int) < 3 := by omega
    have e2 : decide (((k : Nat) : Int) < 3) = true := decide_eq_true e1
    have e4 : decide (k < 3) = true := decide_eq_true hlt
    have i5 : IntKind.i64.wrap ((k : Int) + 1) = ((k + 1 : Nat) : Int) := by rw [IntWalk.i64_in _ (by omega)]; rfl
    go_wp2_with (first | (refine wpList_load_mid rfl _ _ rfl (gL) (k * 21) rfl [.int .i64 e.kind, .int .i64 e.day, .string (bs e.id), .bool e.am.n, .string (bs e.am.a), .string (bs e.am.b), .int .i64 e.cre, .string (bs e.p.id), .int .i64 e.p.est, .int .i64 e.p.cre, .string (bs e.p.code), .bool e.p.an, .string (bs e.p.aa), .string (bs e.p.ab), .int .i64 e.p.inc, .int .i64 e.p.rank, .bool e.p.rn, .string (bs e.p.ra), .string (bs e.p.rb), .int .i64 e.p.rf, .int .i64 e.p.sec] _ (fun j v hv => HE.out _ (Below.refl wr.heap.size wr) j v hv) Tryz.underlying56 rfl a4m ?_) | (refine a1g rfl _ _ _ rfl (St.alloc (HS.out) #[.int .i64 0, .int .i64 0, .string (bs []), .bool false, .string (bs []), .string (bs []), .int .i64 0, .string (bs []), .int .i64 0, .int .i64 0, .string (bs []), .bool false, .string (bs []), .string (bs []), .int .i64 0, .int .i64 0, .bool false, .string (bs []), .string (bs []), .int .i64 0, .int .i64 0] 56 (wr.heap.size) (by simp)) 0 rfl [.int .i64 e.kind, .int .i64 e.day, .string (bs e.id), .bool e.am.n, .string (bs e.am.a), .string (bs e.am.b), .int .i64 e.cre, .string (bs e.p.id), .int .i64 e.p.est, .int .i64 e.p.cre, .string (bs e.p.code), .bool e.p.an, .string (bs e.p.aa), .string (bs e.p.ab), .int .i64 e.p.inc, .int .i64 e.p.rank, .bool e.p.rn, .string (bs e.p.ra), .string (bs e.p.rb), .int .i64 e.p.rf, .int .i64 e.p.sec] rfl rfl rfl a4m rfl ?_))
    intro w19 hS19
    have HS19 : Hid (St w [⟨wr.heap.size, #[.int .i64 e.kind, .int .i64 e.day, .string (bs e.id), .bool e.am.n, .string (bs e.am.a), .string (bs e.am.b), .int .i64 e.cre, .string (bs e.p.id), .int .i64 e.p.est, .int .i64 e.p.cre, .string (bs e.p.code), .bool e.p.an, .string (bs e.p.aa), .string (bs e.p.ab), .int .i64 e.p.inc, .int .i64 e.p.rank, .bool e.p.rn, .string (bs e.p.ra), .string (bs e.p.rb), .int .i64 e.p.rf, .int .i64 e.p.sec], 56⟩, ⟨gL, (rowG Evt.enc (outE qf qd qv false) rL), 56⟩, ⟨wg17.heap.size + 1, #[.bool (negB (qd)), .string (bs (numB (qd))), .string (bs (a0a (qd)))], 34⟩, ⟨gb14, #[.bool (negB (qv)), .string (bs (numB (qv))), .string (bs (a0a (qv)))], 34⟩, ⟨ga14, #[.bool (negB (qd)), .string (bs (numB (qd))), .string (bs (a0a (qd)))], 34⟩, ⟨g12, #[.bool (negB (qf)), .string (bs (numB (qf))), .string (bs (a0a (qf)))], 34⟩, ⟨wg9.heap.size, #[.bool (negB (qc)), .string (bs (numB (qc))), .string (bs (a0a (qc)))], 34⟩, ⟨gN, (rowG Ent.enc [X false k] rN), 63⟩, ⟨w6.heap.size, #[.int .i64 50, .int .i64 60, .int .i64 (51 + k : Nat), .slice (some ⟨gN, 0, none⟩) 1 cN], 24⟩, ⟨w3.heap.size, #[.string (bs [97]), .int .i64 p.est, .int .i64 p.cre, .string (bs [69, 85, 82]), .bool p.an, .string (bs p.aa), .string (bs p.ab), .int .i64 3, .int .i64 p.rank, .bool p.rn, .string (bs p.ra), .string (bs p.rb), .int .i64 p.rf, .int .i64 p.sec], 36⟩, ⟨w.heap.size, #[.int .u16 (x.a : Nat), .int .u16 (x.b : Nat), .int .u16 (x.c : Nat), .int .u16 (x.d : Nat), .int .u16 (x.e : Nat), .int .u16 (x.f : Nat)], 47⟩] w19) := zh hS19
    clear hS19 HS
    obtain ⟨x110, x111, x112⟩ := HS19.out.k0 8 rfl rfl rfl rfl
    have x113 := HS19.out.cell 8 rfl 3 rfl
    go_wp2_with (refine wpList_load_mid rfl _ _ rfl (wr.heap.size) (0) rfl [.int .i64 e.kind, .int .i64 e.day, .string (bs e.id), .bool e.am.n, .string (bs e.am.a), .string (bs e.am.b), .int .i64 e.cre, .string (bs e.p.id), .int .i64 e.p.est, .int .i64 e.p.cre, .string (bs e.p.code), .bool e.p.an, .string (bs e.p.aa), .string (bs e.p.ab), .int .i64 e.p.inc, .int .i64 e.p.rank, .bool e.p.rn, .string (bs e.p.ra), .string (bs e.p.rb), .int .i64 e.p.rf, .int .i64 e.p.sec] _ (St.whole HS19.out 0 rfl) Tryz.underlying56 rfl a4m ?_)
    refine (HAP.out _ _ (a4s a1s (HS19.out.blk 7 rfl) rfl HAN.out.1 HAN.out.2)).mono ?_
    rintro e w20 ⟨v20, rfl, hG20, hb20⟩
    obtain ⟨g20, cp20, rs20, hv20, hg20, ha20, hc20, hd20, hB20⟩ := Grows.toG hG20 (by decide)
    subst hv20
    have hst20 := St.addT (St.sub (St.call HS19.out hb20) (List.Sublist.cons_cons _ (List.Sublist.cons_cons _ (List.Sublist.cons_cons _ (List.Sublist.cons_cons _ (List.Sublist.cons_cons _ (List.Sublist.cons_cons _ (List.Sublist.cons_cons _ (List.Sublist.cons _ (List.Sublist.refl _)))))))))) (a0m (show (56 : TypeId) ≠ 63 by decide) (a0m (show (56 : TypeId) ≠ 63 by decide) (a0m (show (34 : TypeId) ≠ 63 by decide) (a0m (show (34 : TypeId) ≠ 63 by decide) (a0m (show (34 : TypeId) ≠ 63 by decide) (a0m (show (34 : TypeId) ≠ 63 by decide) (a0m (show (34 : TypeId) ≠ 63 by decide) (a0m (show (24 : TypeId) ≠ 63 by decide) (a0m (show (36 : TypeId) ≠ 63 by decide) (a0m (show (47 : TypeId) ≠ 63 by decide) (fun r hr => absurd hr (by simp)))))))))))) hB20 (Nat.le_trans HS19.out.below.size hg20)
    have HA20 := zh (show 1 <= cp20 /\ cp20 <= 9223372036854775807 from ⟨ha20, Nat.le_trans hc20 (by decide)⟩)
    clear hG20 hB20 hg20 ha20 hc20 hd20 hb20
    have HS20 : Hid (St w [⟨g20, (rowG Ent.enc [X false (k + 1)] rs20), 63⟩, ⟨wr.heap.size, #[.int .i64 e.kind, .int .i64 e.day, .string (bs e.id), .bool e.am.n, .string (bs e.am.a), .string (bs e.am.b), .int .i64 e.cre, .string (bs e.p.id), .int .i64 e.p.est, .int .i64 e.p.cre, .string (bs e.p.code), .bool e.p.an, .string (bs e.p.aa), .string (bs e.p.ab), .int .i64 e.p.inc, .int .i64 e.p.rank, .bool e.p.rn, .string (bs e.p.ra), .string (bs e.p.rb), .int .i64 e.p.rf, .int .i64 e.p.sec], 56⟩, ⟨gL, (rowG Evt.enc (outE qf qd qv false) rL), 56⟩, ⟨wg17.heap.size + 1, #[.bool (negB (qd)), .string (bs (numB (qd))), .string (bs (a0a (qd)))], 34⟩, ⟨gb14, #[.bool (negB (qv)), .string (bs (numB (qv))), .string (bs (a0a (qv)))], 34⟩, ⟨ga14, #[.bool (negB (qd)), .string (bs (numB (qd))), .string (bs (a0a (qd)))], 34⟩, ⟨g12, #[.bool (negB (qf)), .string (bs (numB (qf))), .string (bs (a0a (qf)))], 34⟩, ⟨wg9.heap.size, #[.bool (negB (qc)), .string (bs (numB (qc))), .string (bs (a0a (qc)))], 34⟩, ⟨w6.heap.size, #[.int .i64 50, .int .i64 60, .int .i64 (51 + k : Nat), .slice (some ⟨gN, 0, none⟩) 1 cN], 24⟩, ⟨w3.heap.size, #[.string (bs [97]), .int .i64 p.est, .int .i64 p.cre, .string (bs [69, 85, 82]), .bool p.an, .string (bs p.aa), .string (bs p.ab), .int .i64 3, .int .i64 p.rank, .bool p.rn, .string (bs p.ra), .string (bs p.rb), .int .i64 p.rf, .int .i64 p.sec], 36⟩, ⟨w.heap.size, #[.int .u16 (x.a : Nat), .int .u16 (x.b : Nat), .int .u16 (x.c : Nat), .int .u16 (x.d : Nat), .int .u16 (x.e : Nat), .int .u16 (x.f : Nat)], 47⟩] w20) := zh hst20
    clear hst20 HS19
    clear x110 x111 x112 x113
    obtain ⟨x114, x115, x116⟩ := HS20.out.k0 8 rfl rfl rfl rfl
    have x117 := HS20.out.cell 8 rfl 3 rfl
    obtain ⟨x118, x119, x120⟩ := HS20.out.f0 8 rfl
    have x121 := HS20.out.frozen 8 rfl 3
    have x122 := HS20.out.ne 8 0 rfl rfl (by decide)
    have x123 := HS20.out.ne 0 8 rfl rfl (by decide)
    have x124 := HS20.out.ne 8 1 rfl rfl (by decide)
    have x125 := HS20.out.ne 1 8 rfl rfl (by decide)
    have x126 := HS20.out.ne 8 2 rfl rfl (by decide)
    have x127 := HS20.out.ne 2 8 rfl rfl (by decide)
    have x128 := HS20.out.ne 8 3 rfl rfl (by decide)
    have x129 := HS20.out.ne 3 8 rfl rfl (by decide)
    have x130 := HS20.out.ne 8 4 rfl rfl (by decide)
    have x131 := HS20.out.ne 4 8 rfl rfl (by decide)
    have x132 := HS20.out.ne 8 5 rfl rfl (by decide)
    have x133 := HS20.out.ne 5 8 rfl rfl (by decide)
    have x134 := HS20.out.ne 8 6 rfl rfl (by decide)
    have x135 := HS20.out.ne 6 8 rfl rfl (by decide)
    have x136 := HS20.out.ne 8 7 rfl rfl (by decide)
    have x137 := HS20.out.ne 7 8 rfl rfl (by decide)
    have x138 := HS20.out.ne 8 9 rfl rfl (by decide)
    have x139 := HS20.out.ne 9 8 rfl rfl (by decide)
    have x140 := HS20.out.ne 8 10 rfl rfl (by decide)
    have x141 := HS20.out.ne 10 8 rfl rfl (by decide)
    have x142 := HS20.out.lt 8 rfl
    have x143 : ¬ w6.heap.size = w20.heap.size := by omega
    have x144 : ¬ w20.heap.size = w6.heap.size := by omega
    go_wp2
    have HS21 : Hid (St w [⟨w20.heap.size, #[.int .i64 50, .int .i64 60, .int .i64 (51 + (k + 1) : Nat), .slice (some ⟨g20, 0, none⟩) 1 cp20], 24⟩, ⟨g20, (rowG Ent.enc [X false (k + 1)] rs20), 63⟩, ⟨wr.heap.size, #[.int .i64 e.kind, .int .i64 e.day, .string (bs e.id), .bool e.am.n, .string (bs e.am.a), .string (bs e.am.b), .int .i64 e.cre, .string (bs e.p.id), .int .i64 e.p.est, .int .i64 e.p.cre, .string (bs e.p.code), .bool e.p.an, .string (bs e.p.aa), .string (bs e.p.ab), .int .i64 e.p.inc, .int .i64 e.p.rank, .bool e.p.rn, .string (bs e.p.ra), .string (bs e.p.rb), .int .i64 e.p.rf, .int .i64 e.p.sec], 56⟩, ⟨gL, (rowG Evt.enc (outE qf qd qv false) rL), 56⟩, ⟨wg17.heap.size + 1, #[.bool (negB (qd)), .string (bs (numB (qd))), .string (bs (a0a (qd)))], 34⟩, ⟨gb14, #[.bool (negB (qv)), .string (bs (numB (qv))), .string (bs (a0a (qv)))], 34⟩, ⟨ga14, #[.bool (negB (qd)), .string (bs (numB (qd))), .string (bs (a0a (qd)))], 34⟩, ⟨g12, #[.bool (negB (qf)), .string (bs (numB (qf))), .string (bs (a0a (qf)))], 34⟩, ⟨wg9.heap.size, #[.bool (negB (qc)), .string (bs (numB (qc))), .string (bs (a0a (qc)))], 34⟩, ⟨w6.heap.size, #[.int .i64 50, .int .i64 60, .int .i64 (51 + (k + 1) : Nat), .slice (some ⟨g20, 0, none⟩) 1 cp20], 24⟩, ⟨w3.heap.size, #[.string (bs [97]), .int .i64 p.est, .int .i64 p.cre, .string (bs [69, 85, 82]), .bool p.an, .string (bs p.aa), .string (bs p.ab), .int .i64 3, .int .i64 p.rank, .bool p.rn, .string (bs p.ra), .string (bs p.rb), .int .i64 p.rf, .int .i64 p.sec], 36⟩, ⟨w.heap.size, #[.int .u16 (x.a : Nat), .int .u16 (x.b : Nat), .int .u16 (x.c : Nat), .int .u16 (x.d : Nat), .int .u16 (x.e : Nat), .int .u16 (x.f : Nat)], 47⟩] _) := zh (St.alloc ((St.set ((St.set ((St.set ((St.set (HS20.out) 8 rfl 0 _)) 8 rfl 1 _)) 8 rfl 2 _)) 8 rfl 3 _)) #[.int .i64 50, .int .i64 60, .int .i64 (51 + (k + 1) : Nat), .slice (some ⟨g20, 0, none⟩) 1 cp20] 24 (w20.heap.size) (by simp))
    have hfr := St.front HS21.out 1 rfl
    have hpl := St.toPlace 6 (hfr.sub (List.Sublist.cons_cons _ (List.Sublist.cons _ (List.Sublist.cons _ (List.Sublist.refl _)))))
    clear hfr
    go_roundw
    case rel => exact ⟨k + 1, g20, cp20, rs20, by omega, by go_num, HA20, zh hpl⟩
    case measure => simp [intOf]; omega
   obtain rfl : k = 3 := by omega
   have e2 : decide (((3 : Nat) : Int) < 3) = false := rfl
   obtain ⟨b8, o8, y8, hA8, hb8, hq8, hx8⟩ := Slc.at_ (a4s a1s (HS.out.blk 6 rfl) rfl HAN.out.1 HAN.out.2) (j := 0) (by simp)
   injection hA8 with hA8
   injection hA8 with e1 e2 e3
   subst e1; subst e2
   obtain rfl : X false 3 = y8 := Option.some.inj hq8
   rw [X3x.out] at hx8
   simp only [Nat.zero_mul, Nat.add_zero] at hx8
   have HE := zh hx8
   have LHE := hb8
   clear hq8 hx8 hb8
   have x110 := HS.out.cell 7 rfl 3 rfl
   have x111 := HS.out.lt 7 rfl
   have x112 : ¬ w6.heap.size = wr.heap.size := by omega
   have x113 : ¬ wr.heap.size = w6.heap.size := by omega
   go_wp2_with (first | (refine wpList_load_mid rfl _ _ rfl (gN) (0) rfl [.string (bs po.id), .int .i64 po.est, .int .i64 po.cre, .string (bs po.code), .bool po.an, .string (bs po.aa), .string (bs po.ab), .int .i64 po.inc, .int .i64 po.rank, .bool po.rn, .string (bs po.ra), .string (bs po.rb), .int .i64 po.rf, .int .i64 po.sec, .int .i64 6, .bool false, .bool (negB (qc)), .string (bs (numB (qc))), .string (bs (a0a (qc))), .bool (negB (qd)), .string (bs (numB (qd))), .string (bs (a0a (qd))), .bool (negB (qd)), .string (bs (numB (qd))), .string (bs (a0a (qd))), .bool (negB (qd)), .string (bs (numB (qd))), .string (bs (a0a (qd))), .int .i64 3, .int .i64 54] _ (fun j v hv => HE.out _ (Below.refl wr.heap.size wr) j v hv) Tryz.underlying63 rfl a5s ?_) | (refine a1g rfl _ _ _ rfl (St.alloc (HS.out) #[.string (bs []), .int .i64 0, .int .i64 0, .string (bs []), .bool false, .string (bs []), .string (bs []), .int .i64 0, .int .i64 0, .bool false, .string (bs []), .string (bs []), .int .i64 0, .int .i64 0, .int .i64 0, .bool false, .bool false, .string (bs []), .string (bs []), .bool false, .string (bs []), .string (bs []), .bool false, .string (bs []), .string (bs []), .bool false, .string (bs []), .string (bs []), .int .i64 0, .int .i64 0] 63 (wr.heap.size) (by simp)) 0 rfl [.string (bs po.id), .int .i64 po.est, .int .i64 po.cre, .string (bs po.code), .bool po.an, .string (bs po.aa), .string (bs po.ab), .int .i64 po.inc, .int .i64 po.rank, .bool po.rn, .string (bs po.ra), .string (bs po.rb), .int .i64 po.rf, .int .i64 po.sec, .int .i64 6, .bool false, .bool (negB (qc)), .string (bs (numB (qc))), .string (bs (a0a (qc))), .bool (negB (qd)), .string (bs (numB (qd))), .string (bs (a0a (qd))), .bool (negB (qd)), .string (bs (numB (qd))), .string (bs (a0a (qd))), .bool (negB (qd)), .string (bs (numB (qd))), .string (bs (a0a (qd))), .int .i64 3, .int .i64 54] rfl rfl rfl a5s rfl ?_))
   intro w19 hS19
   have HS19 : Hid (St w [⟨wr.heap.size, #[.string (bs po.id), .int .i64 po.est, .int .i64 po.cre, .string (bs po.code), .bool po.an, .string (bs po.aa), .string (bs po.ab), .int .i64 po.inc, .int .i64 po.rank, .bool po.rn, .string (bs po.ra), .string (bs po.rb), .int .i64 po.rf, .int .i64 po.sec, .int .i64 6, .bool false, .bool (negB (qc)), .string (bs (numB (qc))), .string (bs (a0a (qc))), .bool (negB (qd)), .string (bs (numB (qd))), .string (bs (a0a (qd))), .bool (negB (qd)), .string (bs (numB (qd))), .string (bs (a0a (qd))), .bool (negB (qd)), .string (bs (numB (qd))), .string (bs (a0a (qd))), .int .i64 3, .int .i64 54], 63⟩, ⟨gL, (rowG Evt.enc (outE qf qd qv false) rL), 56⟩, ⟨wg17.heap.size + 1, #[.bool (negB (qd)), .string (bs (numB (qd))), .string (bs (a0a (qd)))], 34⟩, ⟨gb14, #[.bool (negB (qv)), .string (bs (numB (qv))), .string (bs (a0a (qv)))], 34⟩, ⟨ga14, #[.bool (negB (qd)), .string (bs (numB (qd))), .string (bs (a0a (qd)))], 34⟩, ⟨g12, #[.bool (negB (qf)), .string (bs (numB (qf))), .string (bs (a0a (qf)))], 34⟩, ⟨wg9.heap.size, #[.bool (negB (qc)), .string (bs (numB (qc))), .string (bs (a0a (qc)))], 34⟩, ⟨gN, (rowG Ent.enc [X false 3] rN), 63⟩, ⟨w6.heap.size, #[.int .i64 50, .int .i64 60, .int .i64 (51 + 3 : Nat), .slice (some ⟨gN, 0, none⟩) 1 cN], 24⟩, ⟨w3.heap.size, #[.string (bs [97]), .int .i64 p.est, .int .i64 p.cre, .string (bs [69, 85, 82]), .bool p.an, .string (bs p.aa), .string (bs p.ab), .int .i64 3, .int .i64 p.rank, .bool p.rn, .string (bs p.ra), .string (bs p.rb), .int .i64 p.rf, .int .i64 p.sec], 36⟩, ⟨w.heap.size, #[.int .u16 (x.a : Nat), .int .u16 (x.b : Nat), .int .u16 (x.c : Nat), .int .u16 (x.d : Nat), .int .u16 (x.e : Nat), .int .u16 (x.f : Nat)], 47⟩] w19) := zh hS19
   clear hS19 HS
   clear x110 x111 x112 x113
   obtain ⟨x114, x115, x116⟩ := HS19.out.k0 8 rfl rfl rfl rfl
   have x117 := HS19.out.cell 8 rfl 3 rfl
   obtain ⟨aL, bL, dL, eL, hL9⟩ := HL2x.out false _ _ (a4s a1s ((HS19.out).blk 7 rfl) rfl HAN.out.1 HAN.out.2)
   have HL0 := zh hL9
   clear hL9
   go_wp2_with fail
   refine (HL0.out).mono ?_
   rintro e w20 ⟨v20, rfl, hG20, hb20⟩
   obtain ⟨A20, c20, hv20, _, _⟩ := (Slc.of_own a1s hG20 rfl).slice
   subst hv20
   have HS20 := zh (HS19.out.call hb20)
   clear hG20
   clear hb20 HS19
   go_wp2_with fail
   have HS21 := zh (St.alloc (HS20.out) #[.int .i64 aL, .int .i64 bL, .int .i64 dL, .slice A20 eL.length c20] 24 (w20.heap.size) (by simp))
   refine (HWx.out _).mono ?_
   rintro e w22 ⟨rfl, hb22⟩
   have HS22 := zh (HS21.out.call hb22)
   clear hb22 HS20 HS21
   have x118 := HS22.out.cell 1 rfl 14 rfl
   have x119 := HS22.out.cell 1 rfl 19 rfl
   have x120 := HS22.out.cell 1 rfl 20 rfl
   have x121 := HS22.out.cell 1 rfl 21 rfl
   obtain ⟨x122, x123, x124⟩ := HS22.out.k0 3 rfl rfl rfl rfl
   have x125 := HS22.out.cell 1 rfl 22 rfl
   have x126 := HS22.out.cell 1 rfl 23 rfl
   have x127 := HS22.out.cell 1 rfl 24 rfl
   have x128 := HS22.out.cell 1 rfl 25 rfl
   have x129 := HS22.out.cell 1 rfl 26 rfl
   have x130 := HS22.out.cell 1 rfl 27 rfl
   have en := Q1x.out
   go_wp2
   go_ret
   have HS23 := zh HS22.out
   exact ⟨rfl, HS23.out.below⟩
 have x110 := HS17.out.cell 0 rfl 0 rfl
 have x111 := HS17.out.cell 0 rfl 1 rfl
 have x112 := HS17.out.cell 0 rfl 2 rfl
 have x113 := HS17.out.lt 0 rfl
 have x114 : ¬ gb14 = wg17.heap.size := by omega
 have x115 : ¬ wg17.heap.size = gb14 := by omega
 have x116 : ¬ gb14 = wg17.heap.size + 1 := by omega
 have x117 : ¬ wg17.heap.size + 1 = gb14 := by omega
 have x118 : ¬ gb14 = wg17.heap.size + 1 + 1 := by omega
 have x119 : ¬ wg17.heap.size + 1 + 1 = gb14 := by omega
 have HS18 := zh (St.alloc ((St.alloc ((St.alloc (HS17.out) #[.int .i64 3, .int .i64 52, .string (bs [97]), .bool (negB (qf)), .string (bs (numB (qf))), .string (bs (a0a (qf))), .int .i64 0, .string (bs []), .int .i64 0, .int .i64 0, .string (bs []), .bool false, .string (bs []), .string (bs []), .int .i64 0, .int .i64 0, .bool false, .string (bs []), .string (bs []), .int .i64 0, .int .i64 0, .int .i64 4, .int .i64 53, .string (bs [97]), .bool (negB (qd)), .string (bs (numB (qd))), .string (bs (a0a (qd))), .int .i64 0, .string (bs []), .int .i64 0, .int .i64 0, .string (bs []), .bool false, .string (bs []), .string (bs []), .int .i64 0, .int .i64 0, .bool false, .string (bs []), .string (bs []), .int .i64 0, .int .i64 0] 56 (wg17.heap.size) (by simp))) #[.bool (negB (qd)), .string (bs (numB (qd))), .string (bs (a0a (qd)))] 34 (wg17.heap.size + 1) (by simp))) #[.int .i64 5, .int .i64 54, .string (bs [97]), .bool false, .string (bs []), .string (bs []), .int .i64 0, .string (bs []), .int .i64 0, .int .i64 0, .string (bs []), .bool false, .string (bs []), .string (bs []), .int .i64 0, .int .i64 0, .bool false, .string (bs []), .string (bs []), .int .i64 0, .int .i64 0, .int .i64 6, .int .i64 55, .string (bs [97]), .bool (negB (qv)), .string (bs (numB (qv))), .string (bs (a0a (qv))), .int .i64 0, .string (bs []), .int .i64 0, .int .i64 0, .string (bs []), .bool false, .string (bs []), .string (bs []), .int .i64 0, .int .i64 0, .bool false, .string (bs []), .string (bs []), .int .i64 0, .int .i64 0] 56 (wg17.heap.size + 1 + 1) (by simp))
 have hown := (a7u (w := _) (base := w.heap.size) a6s (l := ([⟨3, 52, [97], enc3 qf, 0, prf0⟩, ⟨4, 53, [97], enc3 qd, 0, prf0⟩] : List Evt)) (rest := []) (cap := 2) (HS18.out.blk 2 rfl) (HS18.out.ge 2 rfl) (Nat.le_refl 2) (by decide) rfl)
 have hsrc := Slc.of_blk a6s (xs := ([⟨5, 54, [97], zero3, 0, prf0⟩, ⟨6, 55, [97], enc3 qv, 0, prf0⟩] : List Evt)) (n := 2) (c := 2) (HS18.out.blk 0 rfl) rfl rfl (Nat.le_refl _) (by decide)
 have HO := zh hown
 have HSRC := zh hsrc
 clear hown hsrc
 go_wp2_with (at_builtin; refine wpList_append_own _ rfl _ _ 72 rfl w.heap.size 56 z0 _ 21 _ Tryz.underlying72 HZ0x.out hz1 hz2 hz3 rfl (by decide) _ 2 (flat Evt.enc [⟨3, 52, [97], enc3 qf, 0, prf0⟩, ⟨4, 53, [97], enc3 qd, 0, prf0⟩]) (by simp [Act.eval]) HO.out ⟨wg17.heap.size + 1 + 1, 0, none⟩ 2 2 (flat Evt.enc [⟨5, 54, [97], zero3, 0, prf0⟩, ⟨6, 55, [97], enc3 qv, 0, prf0⟩]) (by simp [Act.eval]) rfl (HSRC.out.flat_cells a6s (Below.refl _ _)) (fun u hu => b7s hu) (by decide) (by decide) HS18.out.below.size ?_)
 intro v9 w9 hown9 hg9 hnil9
 have hst9 := St.sub (St.grownApart (St.front HS18.out 2 rfl) hg9) (List.Sublist.cons _ (List.Sublist.refl _))
 have hown10 : Grows w9 w.heap.size 56 21 v9 4 (flat Evt.enc (outE qf qd qv true)) := by have h := hown9; rw [<- a5e] at h; exact h
 obtain ⟨gL, cL, rL, hv9, hgL, ha9, hc9, hd9, hB9⟩ := Grows.toG hown10 (by decide)
 subst hv9
 have HS9 : Hid (St w [⟨wg17.heap.size + 1, #[.bool (negB (qd)), .string (bs (numB (qd))), .string (bs (a0a (qd)))], 34⟩, ⟨gb14, #[.bool (negB (qv)), .string (bs (numB (qv))), .string (bs (a0a (qv)))], 34⟩, ⟨ga14, #[.bool (negB (qd)), .string (bs (numB (qd))), .string (bs (a0a (qd)))], 34⟩, ⟨g12, #[.bool (negB (qf)), .string (bs (numB (qf))), .string (bs (a0a (qf)))], 34⟩, ⟨wg9.heap.size, #[.bool (negB (qc)), .string (bs (numB (qc))), .string (bs (a0a (qc)))], 34⟩, ⟨g8, (rowG Ent.enc [X true 0] rs8), 63⟩, ⟨w6.heap.size, #[.int .i64 50, .int .i64 60, .int .i64 51, .slice (some ⟨g8, 0, none⟩) 1 cp8], 24⟩, ⟨w3.heap.size, #[.string (bs [97]), .int .i64 p.est, .int .i64 p.cre, .string (bs [69, 85, 82]), .bool p.an, .string (bs p.aa), .string (bs p.ab), .int .i64 3, .int .i64 p.rank, .bool p.rn, .string (bs p.ra), .string (bs p.rb), .int .i64 p.rf, .int .i64 p.sec], 36⟩, ⟨w.heap.size, #[.int .u16 (x.a : Nat), .int .u16 (x.b : Nat), .int .u16 (x.c : Nat), .int .u16 (x.d : Nat), .int .u16 (x.e : Nat), .int .u16 (x.f : Nat)], 47⟩] w9) := zh hst9
 have HSA := zh (St.addT HS9.out (a0m (show (34 : TypeId) ≠ 56 by decide) (a0m (show (34 : TypeId) ≠ 56 by decide) (a0m (show (34 : TypeId) ≠ 56 by decide) (a0m (show (34 : TypeId) ≠ 56 by decide) (a0m (show (34 : TypeId) ≠ 56 by decide) (a0m (show (63 : TypeId) ≠ 56 by decide) (a0m (show (24 : TypeId) ≠ 56 by decide) (a0m (show (36 : TypeId) ≠ 56 by decide) (a0m (show (47 : TypeId) ≠ 56 by decide) (fun r hr => absurd hr (by simp))))))))))) hB9 hgL)
 have HL9 := zh (show 4 <= cL /\ cL <= 9223372036854775807 from ⟨ha9, Nat.le_trans hc9 (by decide)⟩)
 clear hown9 hown10 hg9 hnil9 hst9 hgL ha9 hc9 hd9 hB9 HS9 HO HSRC HS18 HS17
 obtain ⟨x120, x121, x122⟩ := HSA.out.k0 2 rfl rfl rfl rfl
 obtain ⟨x123, x124, x125⟩ := HSA.out.k0 1 rfl rfl rfl rfl
 obtain ⟨x126, x127, x128⟩ := HSA.out.f0 1 rfl
 have x129 := HSA.out.ne 1 0 rfl rfl (by decide)
 have x130 := HSA.out.ne 0 1 rfl rfl (by decide)
 have x131 := HSA.out.ne 1 2 rfl rfl (by decide)
 have x132 := HSA.out.ne 2 1 rfl rfl (by decide)
 have x133 := HSA.out.ne 1 3 rfl rfl (by decide)
 have x134 := HSA.out.ne 3 1 rfl rfl (by decide)
 have x135 := HSA.out.ne 1 4 rfl rfl (by decide)
 have x136 := HSA.out.ne 4 1 rfl rfl (by decide)
 have x137 := HSA.out.ne 1 5 rfl rfl (by decide)
 have x138 := HSA.out.ne 5 1 rfl rfl (by decide)
 have x139 := HSA.out.ne 1 6 rfl rfl (by decide)
 have x140 := HSA.out.ne 6 1 rfl rfl (by decide)
 have x141 := HSA.out.ne 1 7 rfl rfl (by decide)
 have x142 := HSA.out.ne 7 1 rfl rfl (by decide)
 have x143 := HSA.out.ne 1 8 rfl rfl (by decide)
 have x144 := HSA.out.ne 8 1 rfl rfl (by decide)
 have x145 := HSA.out.ne 1 9 rfl rfl (by decide)
 have x146 := HSA.out.ne 9 1 rfl rfl (by decide)
 go_wp2
 have HSX : Hid (St w [⟨gL, (rowG Evt.enc (outE qf qd qv true) rL), 56⟩, ⟨wg17.heap.size + 1, #[.bool (negB (qv)), .string (bs (numB (qv))), .string (bs (a0a (qv)))], 34⟩, ⟨gb14, #[.bool (negB (qv)), .string (bs (numB (qv))), .string (bs (a0a (qv)))], 34⟩, ⟨ga14, #[.bool (negB (qd)), .string (bs (numB (qd))), .string (bs (a0a (qd)))], 34⟩, ⟨g12, #[.bool (negB (qf)), .string (bs (numB (qf))), .string (bs (a0a (qf)))], 34⟩, ⟨wg9.heap.size, #[.bool (negB (qc)), .string (bs (numB (qc))), .string (bs (a0a (qc)))], 34⟩, ⟨g8, (rowG Ent.enc [X true 0] rs8), 63⟩, ⟨w6.heap.size, #[.int .i64 50, .int .i64 60, .int .i64 (51 + 0 : Nat), .slice (some ⟨g8, 0, none⟩) 1 cp8], 24⟩, ⟨w3.heap.size, #[.string (bs [97]), .int .i64 p.est, .int .i64 p.cre, .string (bs [69, 85, 82]), .bool p.an, .string (bs p.aa), .string (bs p.ab), .int .i64 3, .int .i64 p.rank, .bool p.rn, .string (bs p.ra), .string (bs p.rb), .int .i64 p.rf, .int .i64 p.sec], 36⟩, ⟨w.heap.size, #[.int .u16 (x.a : Nat), .int .u16 (x.b : Nat), .int .u16 (x.c : Nat), .int .u16 (x.d : Nat), .int .u16 (x.e : Nat), .int .u16 (x.f : Nat)], 47⟩] _) := zh (St.set ((St.set ((St.set (HSA.out) 1 rfl 0 _)) 1 rfl 1 _)) 1 rfl 2 _)
 clear HSA
 go_loopw [89] (fun i wr => ∃ (k gN cN : Nat) (rN : List Value), k <= 4 /\ i = .int .i64 k /\ Hid (1 <= cN /\ cN <= 9223372036854775807) /\ Hid (St w [⟨gL, (rowG Evt.enc (outE qf qd qv true) rL), 56⟩, ⟨wg17.heap.size + 1, #[.bool (negB (qv)), .string (bs (numB (qv))), .string (bs (a0a (qv)))], 34⟩, ⟨gb14, #[.bool (negB (qv)), .string (bs (numB (qv))), .string (bs (a0a (qv)))], 34⟩, ⟨ga14, #[.bool (negB (qd)), .string (bs (numB (qd))), .string (bs (a0a (qd)))], 34⟩, ⟨g12, #[.bool (negB (qf)), .string (bs (numB (qf))), .string (bs (a0a (qf)))], 34⟩, ⟨wg9.heap.size, #[.bool (negB (qc)), .string (bs (numB (qc))), .string (bs (a0a (qc)))], 34⟩, ⟨gN, (rowG Ent.enc [X true k] rN), 63⟩, ⟨w6.heap.size, #[.int .i64 50, .int .i64 60, .int .i64 (51 + k : Nat), .slice (some ⟨gN, 0, none⟩) 1 cN], 24⟩, ⟨w3.heap.size, #[.string (bs [97]), .int .i64 p.est, .int .i64 p.cre, .string (bs [69, 85, 82]), .bool p.an, .string (bs p.aa), .string (bs p.ab), .int .i64 3, .int .i64 p.rank, .bool p.rn, .string (bs p.ra), .string (bs p.rb), .int .i64 p.rf, .int .i64 p.sec], 36⟩, ⟨w.heap.size, #[.int .u16 (x.a : Nat), .int .u16 (x.b : Nat), .int .u16 (x.c : Nat), .int .u16 (x.d : Nat), .int .u16 (x.e : Nat), .int .u16 (x.f : Nat)], 47⟩] wr)) (fun i _ => 4 - (intOf i).toNat)
 case atStart => exact ⟨0, g8, cp8, rs8, Nat.zero_le _, rfl, HA8, HSX⟩
 case round =>
  obtain ⟨k, gN, cN, rN, hk, rfl, HAN, HS⟩ := hrel
  by_cases hlt : k < 4
  ·obtain ⟨b8, o8, e, hA8, hb8, hq8, hx8⟩ := Slc.at_ (a4s a6s (HS.out.blk 0 rfl) (show (outE qf qd qv true).length = 4 from rfl) HL9.out.1 HL9.out.2) (j := k) hlt
   injection hA8 with hA8
   injection hA8 with e1 e2 e3
   subst e1; subst e2
   simp only [Nat.zero_add] at hx8
   have HAP := zh (HA2x.out true k e hq8)
   have HE := zh hx8
   have LHE := hb8
   clear hq8 hx8 hb8
   have e0 : (0 : Int) <= ((k : Nat) : Int) := by omega
   have e1 : ((k : Nat) : Int) < 4 := by omega
   have e2 : decide (((k : Nat) : Int) < 4) = true := decide_eq_true e1
   have e4 : decide (k < 4) = true := decide_eq_true hlt
   have i5 : IntKind.i64.wrap ((k : Int) + 1) = ((k + 1 : Nat) : Int) := by rw [IntWalk.i64_in _ (by omega)]; rfl
   go_wp2_with (first | (refine wpList_load_mid rfl _ _ rfl (gL) (k * 21) rfl [.int .i64 e.kind, .int .i64 e.day, .string (bs e.id), .bool e.am.n, .string (bs e.am.a), .string (bs e.am.b), .int .i64 e.cre, .string (bs e.p.id), .int .i64 e.p.est, .int .i64 e.p.cre, .string (bs e.p.code), .bool e.p.an, .string (bs e.p.aa), .string (bs e.p.ab), .int .i64 e.p.inc, .int .i64 e.p.rank, .bool e.p.rn, .string (bs e.p.ra), .string (bs e.p.rb), .int .i64 e.p.rf, .int .i64 e.p.sec] _ (fun j v hv => HE.out _ (Below.refl wr.heap.size wr) j v hv) Tryz.underlying56 rfl a4m ?_) | (refine a1g rfl _ _ _ rfl (St.alloc (HS.out) #[.int .i64 0, .int .i64 0, .string (bs []), .bool false, .string (bs []), .string (bs []), .int .i64 0, .string (bs []), .int .i64 0, .int .i64 0, .string (bs []), .bool false, .string (bs []), .string (bs []), .int .i64 0, .int .i64 0, .bool false, .string (bs []), .string (bs []), .int .i64 0, .int .i64 0] 56 (wr.heap.size) (by simp)) 0 rfl [.int .i64 e.kind, .int .i64 e.day, .string (bs e.id), .bool e.am.n, .string (bs e.am.a), .string (bs e.am.b), .int .i64 e.cre, .string (bs e.p.id), .int .i64 e.p.est, .int .i64 e.p.cre, .string (bs e.p.code), .bool e.p.an, .string (bs e.p.aa), .string (bs e.p.ab), .int .i64 e.p.inc, .int .i64 e.p.rank, .bool e.p.rn, .string (bs e.p.ra), .string (bs e.p.rb), .int .i64 e.p.rf, .int .i64 e.p.sec] rfl rfl rfl a4m rfl ?_))
   intro w19 hS19
   have HS19 : Hid (St w [⟨wr.heap.size, #[.int .i64 e.kind, .int .i64 e.day, .string (bs e.id), .bool e.am.n, .string (bs e.am.a), .string (bs e.am.b), .int .i64 e.cre, .string (bs e.p.id), .int .i64 e.p.est, .int .i64 e.p.cre, .string (bs e.p.code), .bool e.p.an, .string (bs e.p.aa), .string (bs e.p.ab), .int .i64 e.p.inc, .int .i64 e.p.rank, .bool e.p.rn, .string (bs e.p.ra), .string (bs e.p.rb), .int .i64 e.p.rf, .int .i64 e.p.sec], 56⟩, ⟨gL, (rowG Evt.enc (outE qf qd qv true) rL), 56⟩, ⟨wg17.heap.size + 1, #[.bool (negB (qv)), .string (bs (numB (qv))), .string (bs (a0a (qv)))], 34⟩, ⟨gb14, #[.bool (negB (qv)), .string (bs (numB (qv))), .string (bs (a0a (qv)))], 34⟩, ⟨ga14, #[.bool (negB (qd)), .string (bs (numB (qd))), .string (bs (a0a (qd)))], 34⟩, ⟨g12, #[.bool (negB (qf)), .string (bs (numB (qf))), .string (bs (a0a (qf)))], 34⟩, ⟨wg9.heap.size, #[.bool (negB (qc)), .string (bs (numB (qc))), .string (bs (a0a (qc)))], 34⟩, ⟨gN, (rowG Ent.enc [X true k] rN), 63⟩, ⟨w6.heap.size, #[.int .i64 50, .int .i64 60, .int .i64 (51 + k : Nat), .slice (some ⟨gN, 0, none⟩) 1 cN], 24⟩, ⟨w3.heap.size, #[.string (bs [97]), .int .i64 p.est, .int .i64 p.cre, .string (bs [69, 85, 82]), .bool p.an, .string (bs p.aa), .string (bs p.ab), .int .i64 3, .int .i64 p.rank, .bool p.rn, .string (bs p.ra), .string (bs p.rb), .int .i64 p.rf, .int .i64 p.sec], 36⟩, ⟨w.heap.size, #[.int .u16 (x.a : Nat), .int .u16 (x.b : Nat), .int .u16 (x.c : Nat), .int .u16 (x.d : Nat), .int .u16 (x.e : Nat), .int .u16 (x.f : Nat)], 47⟩] w19) := zh hS19
   clear hS19 HS
   obtain ⟨x147, x148, x149⟩ := HS19.out.k0 8 rfl rfl rfl rfl
   have x150 := HS19.out.cell 8 rfl 3 rfl
   go_wp2_with (refine wpList_load_mid rfl _ _ rfl (wr.heap.size) (0) rfl [.int .i64 e.kind, .int .i64 e.day, .string (bs e.id), .bool e.am.n, .string (bs e.am.a), .string (bs e.am.b), .int .i64 e.cre, .string (bs e.p.id), .int .i64 e.p.est, .int .i64 e.p.cre, .string (bs e.p.code), .bool e.p.an, .string (bs e.p.aa), .string (bs e.p.ab), .int .i64 e.p.inc, .int .i64 e.p.rank, .bool e.p.rn, .string (bs e.p.ra), .string (bs e.p.rb), .int .i64 e.p.rf, .int .i64 e.p.sec] _ (St.whole HS19.out 0 rfl) Tryz.underlying56 rfl a4m ?_)
   refine (HAP.out _ _ (a4s a1s (HS19.out.blk 7 rfl) rfl HAN.out.1 HAN.out.2)).mono ?_
   rintro e w20 ⟨v20, rfl, hG20, hb20⟩
   obtain ⟨g20, cp20, rs20, hv20, hg20, ha20, hc20, hd20, hB20⟩ := Grows.toG hG20 (by decide)
   subst hv20
   have hst20 := St.addT (St.sub (St.call HS19.out hb20) (List.Sublist.cons_cons _ (List.Sublist.cons_cons _ (List.Sublist.cons_cons _ (List.Sublist.cons_cons _ (List.Sublist.cons_cons _ (List.Sublist.cons_cons _ (List.Sublist.cons_cons _ (List.Sublist.cons _ (List.Sublist.refl _)))))))))) (a0m (show (56 : TypeId) ≠ 63 by decide) (a0m (show (56 : TypeId) ≠ 63 by decide) (a0m (show (34 : TypeId) ≠ 63 by decide) (a0m (show (34 : TypeId) ≠ 63 by decide) (a0m (show (34 : TypeId) ≠ 63 by decide) (a0m (show (34 : TypeId) ≠ 63 by decide) (a0m (show (34 : TypeId) ≠ 63 by decide) (a0m (show (24 : TypeId) ≠ 63 by decide) (a0m (show (36 : TypeId) ≠ 63 by decide) (a0m (show (47 : TypeId) ≠ 63 by decide) (fun r hr => absurd hr (by simp)))))))))))) hB20 (Nat.le_trans HS19.out.below.size hg20)
   have HA20 := zh (show 1 <= cp20 /\ cp20 <= 9223372036854775807 from ⟨ha20, Nat.le_trans hc20 (by decide)⟩)
   clear hG20 hB20 hg20 ha20 hc20 hd20 hb20
   have HS20 : Hid (St w [⟨g20, (rowG Ent.enc [X true (k + 1)] rs20), 63⟩, ⟨wr.heap.size, #[.int .i64 e.kind, .int .i64 e.day, .string (bs e.id), .bool e.am.n, .string (bs e.am.a), .string (bs e.am.b), .int .i64 e.cre, .string (bs e.p.id), .int .i64 e.p.est, .int .i64 e.p.cre, .string (bs e.p.code), .bool e.p.an, .string (bs e.p.aa), .string (bs e.p.ab), .int .i64 e.p.inc, .int .i64 e.p.rank, .bool e.p.rn, .string (bs e.p.ra), .string (bs e.p.rb), .int .i64 e.p.rf, .int .i64 e.p.sec], 56⟩, ⟨gL, (rowG Evt.enc (outE qf qd qv true) rL), 56⟩, ⟨wg17.heap.size + 1, #[.bool (negB (qv)), .string (bs (numB (qv))), .string (bs (a0a (qv)))], 34⟩, ⟨gb14, #[.bool (negB (qv)), .string (bs (numB (qv))), .string (bs (a0a (qv)))], 34⟩, ⟨ga14, #[.bool (negB (qd)), .string (bs (numB (qd))), .string (bs (a0a (qd)))], 34⟩, ⟨g12, #[.bool (negB (qf)), .string (bs (numB (qf))), .string (bs (a0a (qf)))], 34⟩, ⟨wg9.heap.size, #[.bool (negB (qc)), .string (bs (numB (qc))), .string (bs (a0a (qc)))], 34⟩, ⟨w6.heap.size, #[.int .i64 50, .int .i64 60, .int .i64 (51 + k : Nat), .slice (some ⟨gN, 0, none⟩) 1 cN], 24⟩, ⟨w3.heap.size, #[.string (bs [97]), .int .i64 p.est, .int .i64 p.cre, .string (bs [69, 85, 82]), .bool p.an, .string (bs p.aa), .string (bs p.ab), .int .i64 3, .int .i64 p.rank, .bool p.rn, .string (bs p.ra), .string (bs p.rb), .int .i64 p.rf, .int .i64 p.sec], 36⟩, ⟨w.heap.size, #[.int .u16 (x.a : Nat), .int .u16 (x.b : Nat), .int .u16 (x.c : Nat), .int .u16 (x.d : Nat), .int .u16 (x.e : Nat), .int .u16 (x.f : Nat)], 47⟩] w20) := zh hst20
   clear hst20 HS19
   clear x147 x148 x149 x150
   obtain ⟨x151, x152, x153⟩ := HS20.out.k0 8 rfl rfl rfl rfl
   have x154 := HS20.out.cell 8 rfl 3 rfl
   obtain ⟨x155, x156, x157⟩ := HS20.out.f0 8 rfl
   have x158 := HS20.out.frozen 8 rfl 3
   have x159 := HS20.out.ne 8 0 rfl rfl (by decide)
   have x160 := HS20.out.ne 0 8 rfl rfl (by decide)
   have x161 := HS20.out.ne 8 1 rfl rfl (by decide)
   have x162 := HS20.out.ne 1 8 rfl rfl (by decide)
   have x163 := HS20.out.ne 8 2 rfl rfl (by decide)
   have x164 := HS20.out.ne 2 8 rfl rfl (by decide)
   have x165 := HS20.out.ne 8 3 rfl rfl (by decide)
   have x166 := HS20.out.ne 3 8 rfl rfl (by decide)
   have x167 := HS20.out.ne 8 4 rfl rfl (by decide)
   have x168 := HS20.out.ne 4 8 rfl rfl (by decide)
   have x169 := HS20.out.ne 8 5 rfl rfl (by decide)
   have x170 := HS20.out.ne 5 8 rfl rfl (by decide)
   have x171 := HS20.out.ne 8 6 rfl rfl (by decide)
   have x172 := HS20.out.ne 6 8 rfl rfl (by decide)
   have x173 := HS20.out.ne 8 7 rfl rfl (by decide)
   have x174 := HS20.out.ne 7 8 rfl rfl (by decide)
   have x175 := HS20.out.ne 8 9 rfl rfl (by decide)
   have x176 := HS20.out.ne 9 8 rfl rfl (by decide)
   have x177 := HS20.out.ne 8 10 rfl rfl (by decide)
   have x178 := HS20.out.ne 10 8 rfl rfl (by decide)
   have x179 := HS20.out.lt 8 rfl
   have x180 : ¬ w6.heap.size = w20.heap.size := by omega
   have x181 : ¬ w20.heap.size = w6.heap.size := by omega
   go_wp2
   have HS21 : Hid (St w [⟨w20.heap.size, #[.int .i64 50, .int .i64 60, .int .i64 (51 + (k + 1) : Nat), .slice (some ⟨g20, 0, none⟩) 1 cp20], 24⟩, ⟨g20, (rowG Ent.enc [X true (k + 1)] rs20), 63⟩, ⟨wr.heap.size, #[.int .i64 e.kind, .int .i64 e.day, .string (bs e.id), .bool e.am.n, .string (bs e.am.a), .string (bs e.am.b), .int .i64 e.cre, .string (bs e.p.id), .int .i64 e.p.est, .int .i64 e.p.cre, .string (bs e.p.code), .bool e.p.an, .string (bs e.p.aa), .string (bs e.p.ab), .int .i64 e.p.inc, .int .i64 e.p.rank, .bool e.p.rn, .string (bs e.p.ra), .string (bs e.p.rb), .int .i64 e.p.rf, .int .i64 e.p.sec], 56⟩, ⟨gL, (rowG Evt.enc (outE qf qd qv true) rL), 56⟩, ⟨wg17.heap.size + 1, #[.bool (negB (qv)), .string (bs (numB (qv))), .string (bs (a0a (qv)))], 34⟩, ⟨gb14, #[.bool (negB (qv)), .string (bs (numB (qv))), .string (bs (a0a (qv)))], 34⟩, ⟨ga14, #[.bool (negB (qd)), .string (bs (numB (qd))), .string (bs (a0a (qd)))], 34⟩, ⟨g12, #[.bool (negB (qf)), .string (bs (numB (qf))), .string (bs (a0a (qf)))], 34⟩, ⟨wg9.heap.size, #[.bool (negB (qc)), .string (bs (numB (qc))), .string (bs (a0a (qc)))], 34⟩, ⟨w6.heap.size, #[.int .i64 50, .int .i64 60, .int .i64 (51 + (k + 1) : Nat), .slice (some ⟨g20, 0, none⟩) 1 cp20], 24⟩, ⟨w3.heap.size, #[.string (bs [97]), .int .i64 p.est, .int .i64 p.cre, .string (bs [69, 85, 82]), .bool p.an, .string (bs p.aa), .string (bs p.ab), .int .i64 3, .int .i64 p.rank, .bool p.rn, .string (bs p.ra), .string (bs p.rb), .int .i64 p.rf, .int .i64 p.sec], 36⟩, ⟨w.heap.size, #[.int .u16 (x.a : Nat), .int .u16 (x.b : Nat), .int .u16 (x.c : Nat), .int .u16 (x.d : Nat), .int .u16 (x.e : Nat), .int .u16 (x.f : Nat)], 47⟩] _) := zh (St.alloc ((St.set ((St.set ((St.set ((St.set (HS20.out) 8 rfl 0 _)) 8 rfl 1 _)) 8 rfl 2 _)) 8 rfl 3 _)) #[.int .i64 50, .int .i64 60, .int .i64 (51 + (k + 1) : Nat), .slice (some ⟨g20, 0, none⟩) 1 cp20] 24 (w20.heap.size) (by simp))
   have hfr := St.front HS21.out 1 rfl
   have hpl := St.toPlace 6 (hfr.sub (List.Sublist.cons_cons _ (List.Sublist.cons _ (List.Sublist.cons _ (List.Sublist.refl _)))))
   clear hfr
   go_roundw
   case rel => exact ⟨k + 1, g20, cp20, rs20, by omega, by go_num, HA20, zh hpl⟩
   case measure => simp [intOf]; omega
  obtain rfl : k = 4 := by omega
  have e2 : decide (((4 : Nat) : Int) < 4) = false := rfl
  obtain ⟨b8, o8, y8, hA8, hb8, hq8, hx8⟩ := Slc.at_ (a4s a1s (HS.out.blk 6 rfl) rfl HAN.out.1 HAN.out.2) (j := 0) (by simp)
  injection hA8 with hA8
  injection hA8 with e1 e2 e3
  subst e1; subst e2
  obtain rfl : X true 4 = y8 := Option.some.inj hq8
  rw [X4x.out] at hx8
  simp only [Nat.zero_mul, Nat.add_zero] at hx8
  have HE := zh hx8
  have LHE := hb8
  clear hq8 hx8 hb8
  have x147 := HS.out.cell 7 rfl 3 rfl
  have x148 := HS.out.lt 7 rfl
  have x149 : ¬ w6.heap.size = wr.heap.size := by omega
  have x150 : ¬ wr.heap.size = w6.heap.size := by omega
  go_wp2_with (first | (refine wpList_load_mid rfl _ _ rfl (gN) (0) rfl [.string (bs po.id), .int .i64 po.est, .int .i64 po.cre, .string (bs po.code), .bool po.an, .string (bs po.aa), .string (bs po.ab), .int .i64 po.inc, .int .i64 po.rank, .bool po.rn, .string (bs po.ra), .string (bs po.rb), .int .i64 po.rf, .int .i64 po.sec, .int .i64 6, .bool false, .bool (negB (qc)), .string (bs (numB (qc))), .string (bs (a0a (qc))), .bool (negB (qv)), .string (bs (numB (qv))), .string (bs (a0a (qv))), .bool (negB (qv)), .string (bs (numB (qv))), .string (bs (a0a (qv))), .bool (negB (qv)), .string (bs (numB (qv))), .string (bs (a0a (qv))), .int .i64 3, .int .i64 55] _ (fun j v hv => HE.out _ (Below.refl wr.heap.size wr) j v hv) Tryz.underlying63 rfl a5s ?_) | (refine a1g rfl _ _ _ rfl (St.alloc (HS.out) #[.string (bs []), .int .i64 0, .int .i64 0, .string (bs []), .bool false, .string (bs []), .string (bs []), .int .i64 0, .int .i64 0, .bool false, .string (bs []), .string (bs []), .int .i64 0, .int .i64 0, .int .i64 0, .bool false, .bool false, .string (bs []), .string (bs []), .bool false, .string (bs []), .string (bs []), .bool false, .string (bs []), .string (bs []), .bool false, .string (bs []), .string (bs []), .int .i64 0, .int .i64 0] 63 (wr.heap.size) (by simp)) 0 rfl [.string (bs po.id), .int .i64 po.est, .int .i64 po.cre, .string (bs po.code), .bool po.an, .string (bs po.aa), .string (bs po.ab), .int .i64 po.inc, .int .i64 po.rank, .bool po.rn, .string (bs po.ra), .string (bs po.rb), .int .i64 po.rf, .int .i64 po.sec, .int .i64 6, .bool false, .bool (negB (qc)), .string (bs (numB (qc))), .string (bs (a0a (qc))), .bool (negB (qv)), .string (bs (numB (qv))), .string (bs (a0a (qv))), .bool (negB (qv)), .string (bs (numB (qv))), .string (bs (a0a (qv))), .bool (negB (qv)), .string (bs (numB (qv))), .string (bs (a0a (qv))), .int .i64 3, .int .i64 55] rfl rfl rfl a5s rfl ?_))
  intro w19 hS19
  have HS19 : Hid (St w [⟨wr.heap.size, #[.string (bs po.id), .int .i64 po.est, .int .i64 po.cre, .string (bs po.code), .bool po.an, .string (bs po.aa), .string (bs po.ab), .int .i64 po.inc, .int .i64 po.rank, .bool po.rn, .string (bs po.ra), .string (bs po.rb), .int .i64 po.rf, .int .i64 po.sec, .int .i64 6, .bool false, .bool (negB (qc)), .string (bs (numB (qc))), .string (bs (a0a (qc))), .bool (negB (qv)), .string (bs (numB (qv))), .string (bs (a0a (qv))), .bool (negB (qv)), .string (bs (numB (qv))), .string (bs (a0a (qv))), .bool (negB (qv)), .string (bs (numB (qv))), .string (bs (a0a (qv))), .int .i64 3, .int .i64 55], 63⟩, ⟨gL, (rowG Evt.enc (outE qf qd qv true) rL), 56⟩, ⟨wg17.heap.size + 1, #[.bool (negB (qv)), .string (bs (numB (qv))), .string (bs (a0a (qv)))], 34⟩, ⟨gb14, #[.bool (negB (qv)), .string (bs (numB (qv))), .string (bs (a0a (qv)))], 34⟩, ⟨ga14, #[.bool (negB (qd)), .string (bs (numB (qd))), .string (bs (a0a (qd)))], 34⟩, ⟨g12, #[.bool (negB (qf)), .string (bs (numB (qf))), .string (bs (a0a (qf)))], 34⟩, ⟨wg9.heap.size, #[.bool (negB (qc)), .string (bs (numB (qc))), .string (bs (a0a (qc)))], 34⟩, ⟨gN, (rowG Ent.enc [X true 4] rN), 63⟩, ⟨w6.heap.size, #[.int .i64 50, .int .i64 60, .int .i64 (51 + 4 : Nat), .slice (some ⟨gN, 0, none⟩) 1 cN], 24⟩, ⟨w3.heap.size, #[.string (bs [97]), .int .i64 p.est, .int .i64 p.cre, .string (bs [69, 85, 82]), .bool p.an, .string (bs p.aa), .string (bs p.ab), .int .i64 3, .int .i64 p.rank, .bool p.rn, .string (bs p.ra), .string (bs p.rb), .int .i64 p.rf, .int .i64 p.sec], 36⟩, ⟨w.heap.size, #[.int .u16 (x.a : Nat), .int .u16 (x.b : Nat), .int .u16 (x.c : Nat), .int .u16 (x.d : Nat), .int .u16 (x.e : Nat), .int .u16 (x.f : Nat)], 47⟩] w19) := zh hS19
  clear hS19 HS
  clear x147 x148 x149 x150
  obtain ⟨x151, x152, x153⟩ := HS19.out.k0 8 rfl rfl rfl rfl
  have x154 := HS19.out.cell 8 rfl 3 rfl
  obtain ⟨aL, bL, dL, eL, hL9⟩ := HL2x.out true _ _ (a4s a1s ((HS19.out).blk 7 rfl) rfl HAN.out.1 HAN.out.2)
  have HL0 := zh hL9
  clear hL9
  go_wp2_with fail
  refine (HL0.out).mono ?_
  rintro e w20 ⟨v20, rfl, hG20, hb20⟩
  obtain ⟨A20, c20, hv20, _, _⟩ := (Slc.of_own a1s hG20 rfl).slice
  subst hv20
  have HS20 := zh (HS19.out.call hb20)
  clear hG20
  clear hb20 HS19
  go_wp2_with fail
  have HS21 := zh (St.alloc (HS20.out) #[.int .i64 aL, .int .i64 bL, .int .i64 dL, .slice A20 eL.length c20] 24 (w20.heap.size) (by simp))
  refine (HWx.out _).mono ?_
  rintro e w22 ⟨rfl, hb22⟩
  have HS22 := zh (HS21.out.call hb22)
  clear hb22 HS20 HS21
  have x155 := HS22.out.cell 1 rfl 14 rfl
  have x156 := HS22.out.cell 1 rfl 19 rfl
  have x157 := HS22.out.cell 1 rfl 20 rfl
  have x158 := HS22.out.cell 1 rfl 21 rfl
  obtain ⟨x159, x160, x161⟩ := HS22.out.k0 3 rfl rfl rfl rfl
  have x162 := HS22.out.cell 1 rfl 22 rfl
  have x163 := HS22.out.cell 1 rfl 23 rfl
  have x164 := HS22.out.cell 1 rfl 24 rfl
  have x165 := HS22.out.cell 1 rfl 25 rfl
  have x166 := HS22.out.cell 1 rfl 26 rfl
  have x167 := HS22.out.cell 1 rfl 27 rfl
  have en := Q2x.out
  go_wp2
  go_ret
  have HS23 := zh HS22.out
  exact ⟨rfl, HS23.out.below⟩
end Go.Proofs.YtlkhoommpkndpaaGreatDoor
