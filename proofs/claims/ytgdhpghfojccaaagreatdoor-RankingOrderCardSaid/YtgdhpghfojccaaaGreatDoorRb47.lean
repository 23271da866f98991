/-
Part 47 of the base.
-/
import Derived.Test.YtgdhpghfojccaaaGreatDoorRb46
import Derived.Test.YtgdhpghfojccaaaGreatDoorRb43
set_option maxRecDepth 100000
set_option maxHeartbeats 4000000
namespace Go.Proofs.YtgdhpghfojccaaaGreatDoor
open Go.RowKit
theorem a9v (v1 : Value) (ts : List Duo) (v2 : Value) (xs : List Qua) (w : World) (h1 : Duos w v1 ts) (k1 : ∀ t ∈ ts, t.ok) (h2 : Quas w v2 xs) (k2 : ∀ t ∈ xs, t.ok) : Calls Tryz.prog 4 #[v1, v2] w fun e w' => e = .returned (.bool true) /\ Below w.heap.size w w' := by
 have dN := fun W (hb : Below w.heap.size w W) => b1g v1 ts W (h1.below hb) k1
 have dL := fun W (hb : Below w.heap.size w W) => a7q v2 xs W (h2.below hb) k2
 have hF := b5p k1 k2
 have dA := fun W => a6p W
 obtain ⟨A1, c1, rfl, _, _⟩ := Slc.slice h1
 obtain ⟨A2, c2, rfl, _, _⟩ := Slc.slice h2
 have hcl := a9r ts
 have hll := a6u xs
 generalize a5r ts = cl at *
 generalize a3c xs = l at *
 have dC := fun a b W (ha : NmdL W a cl) (hb : ClsL W b l) => a1v a b cl l W ha hb hF
 have DC := zh dC
 have DN := zh dN
 have DL := zh dL
 have DA := zh dA
 have LC := zh hcl
 have LL := zh hll
 have dR := fun a b W (ha : NmdL W a cl) (hb : ClsL W b l) => b1t a b cl l W ha hb hF
 have DR := zh dR
 clear h1 k1 h2 k2 dN dL hF dA dC dR hcl hll
 go_enter Tryz.func4, Tryz.ntmps4
 have HS := zh (St.start w)
 go_wp2_with fail
 refine (DN.out _ HS.out.below).mono ?_
 rintro e w2 ⟨vn, rfl, hN, hb2⟩
 obtain ⟨An, cn, rfl, _, _⟩ := Slc.slice hN
 have HS2 := zh (HS.out.call hb2)
 have N_2 := zh hN
 clear hN hb2 HS
 go_wp2_with fail
 refine (DL.out _ HS2.out.below).mono ?_
 rintro e w3 ⟨vl, rfl, hL, hb3⟩
 obtain ⟨Al, dn, rfl, _, _⟩ := ClsL.slice hL
 have HS3 := zh (HS2.out.call hb3)
 have N_3 := zh (N_2.out.below hb3)
 clear N_2
 have L_3 := zh hL
 clear hL hb3 HS2
 go_wp2_with fail
 refine (((DC.out _ _ _ N_3.out L_3.out).mono fun _ _ h => h.open)).mono ?_
 rintro e w4 ⟨Ap, cp, Bp, dp, Rp, Gp, ip, ep, rfl, hPp, hCp, hb4⟩
 have HCp := zh hCp
 clear hCp
 have HS4 := zh (HS3.out.call hb4)
 have N_4 := zh (N_3.out.below hb4)
 clear N_3
 have L_4 := zh (L_3.out.below hb4)
 clear L_3
 have Pp_4 := zh hPp
 clear hPp hb4 HS3
 go_wp2_with fail
 have HS5 := aL HS4 #[.slice Ap Rp.length cp, .slice Bp Gp.length dp] 29 w4.heap.size
 refine (((DR.out _ _ _ (N_4.out.below (Ext.alloc (Below.refl w4.heap.size w4) (Obj.cells #[.slice Ap Rp.length cp, .slice Bp Gp.length dp] 29))) (L_4.out.below (Ext.alloc (Below.refl w4.heap.size w4) (Obj.cells #[.slice Ap Rp.length cp, .slice Bp Gp.length dp] 29)))).mono fun _ _ h => h.open)).mono ?_
 rintro e w6 ⟨Aq, cq, Bq, dq, Rq, Gq, iq, eq, rfl, hPq, hCq, hb6⟩
 obtain ⟨ea, eb, ec, ed⟩ := (HCp.out).one hCq
 subst ea eb ec ed
 clear hCq
 have HS6 := zh (HS5.out.call hb6)
 have N_6 := zh (N_4.out.below (Ext.trans (Ext.alloc (Below.refl w4.heap.size w4) (Obj.cells #[.slice Ap Rp.length cp, .slice Bp Gp.length dp] 29)) hb6))
 clear N_4
 have L_6 := zh (L_4.out.below (Ext.trans (Ext.alloc (Below.refl w4.heap.size w4) (Obj.cells #[.slice Ap Rp.length cp, .slice Bp Gp.length dp] 29)) hb6))
 clear L_4
 have Pp_6 := zh (Pp_4.out.below (Ext.trans (Ext.alloc (Below.refl w4.heap.size w4) (Obj.cells #[.slice Ap Rp.length cp, .slice Bp Gp.length dp] 29)) hb6))
 clear Pp_4
 have Pq_6 := zh hPq
 clear hPq hb6 HS4 HS5
 go_wp2_with fail
 have HS7 := aL HS6 #[.slice Aq Rp.length cq, .slice Bq Gp.length dq] 29 w6.heap.size
 refine (DA.out _).mono ?_
 rintro e w8 ⟨rfl, hb8⟩
 have HS8 := zh (HS7.out.call hb8)
 have N_8 := zh (N_6.out.below (Ext.trans (Ext.alloc (Below.refl w6.heap.size w6) (Obj.cells #[.slice Aq Rp.length cq, .slice Bq Gp.length dq] 29)) hb8))
 clear N_6
 have L_8 := zh (L_6.out.below (Ext.trans (Ext.alloc (Below.refl w6.heap.size w6) (Obj.cells #[.slice Aq Rp.length cq, .slice Bq Gp.length dq] 29)) hb8))
 clear L_6
 have Pp_8 := zh (Pp_6.out.below (Ext.trans (Ext.alloc (Below.refl w6.heap.size w6) (Obj.cells #[.slice Aq Rp.length cq, .slice Bq Gp.length dq] 29)) hb8))
 clear Pp_6
 have Pq_8 := zh (Pq_6.out.below (Ext.trans (Ext.alloc (Below.refl w6.heap.size w6) (Obj.cells #[.slice Aq Rp.length cq, .slice Bq Gp.length dq] 29)) hb8))
 clear Pq_6 hb8 HS6 HS7
 have x1 := cC HS8 1 0
 have x2 := cC HS8 1 1
 have x3 := cC HS8 0 0
 have x4 := cC HS8 0 1
 go_wp2_with fail
 refine (a4f _ _ _ _ _ _ _ Pp_8.out.1 Pp_8.out.2 Pq_8.out.1 Pq_8.out.2).mono ?_
 rintro e w9 ⟨rfl, hb9⟩
 have HS9 := zh (HS8.out.call hb9)
 have N_9 := zh (N_8.out.below hb9)
 clear N_8
 have L_9 := zh (L_8.out.below hb9)
 clear L_8
 have Pp_9 := zh (Pp_8.out.below hb9)
 clear Pp_8
 have Pq_9 := zh (Pq_8.out.below hb9)
 clear Pq_8 hb9 HS8 x1 x2 x3 x4
 go_wp2
 go_ret
 exact ⟨rfl, HS9.out.below⟩
def c2s (k : Int) (n : Nat) : Nat := if n = 0 then 0 else (k % (n : Int)).toNat
theorem pickZ_le (k : Int) (n : Nat) : c2s k n <= n := by
 unfold c2s
 split
 ·omega
 rename_i h
 have h1 := Int.emod_lt_of_pos k (show (0 : Int) < n by omega)
 have h2 := Int.emod_nonneg k (show (n : Int) ≠ 0 by omega)
 omega
theorem c9u (k : Int) (n : Nat) (w : World) (hk : 0 <= k /\ k <= 1000000) (hn : n <= 1000000) :
  Calls Tryz.prog 20 #[.int .i64 k, .int .i64 (n : Nat)] w fun e w' => e = .returned (.int .i64 (c2s k n : Nat)) /\ Below w.heap.size w w' := by
 by_cases h0 : n = 0
 subst h0
 have R : Hid (c2s k 0 = 0) := rfl
 have d1 : decide (((0 : Nat) : Int) <= 0) = true := rfl
 rotate_left
 have d1 : decide ((n : Int) <= 0) = false := decide_eq_false (by omega)
 have d2 : ¬ ((n : Int) = 0) := by omega
 have d3 : ((n : Int) == 0) = false := by rw [beq_eq_false_iff_ne]; exact d2
 have d4 : ¬ n = 0 := h0
 have h1 := Int.emod_lt_of_pos k (show (0 : Int) < n by omega)
 have h2 := Int.emod_nonneg k (show (n : Int) ≠ 0 by omega)
 have e1 : Int.tmod k n = k % n := Int.tmod_eq_emod_of_nonneg hk.1
 have e2 : IntKind.i64.wrap (k % n) = k % n := IntWalk.i64_in _ (by omega)
 have e3 : IntKind.i64.wrap (k % n + n) = k % n + n := IntWalk.i64_in _ (by omega)
 have e4 : Int.tmod (k % n + n) n = k % n := by
  rw [Int.tmod_eq_emod_of_nonneg (by omega), Int.add_emod_right, Int.emod_emod_of_dvd _ (Int.dvd_refl _)]
 have R : Hid ((c2s k n : Int) = k % n) := by
  show _ = _
  unfold c2s
  rw [if_neg h0, Int.toNat_of_nonneg h2]
 obtain ⟨q, hq⟩ : ∃ q, q = k % (n : Int) := ⟨_, rfl⟩
 rw [<- hq] at e1 e2 e3 e4 R
 have e5 : k % (n : Int) = q := hq.symm
 clear hq h1 h2
 rotate_left
 all_goals
   go_enter Tryz.func20, Tryz.ntmps20
   have HS := zh (St.start w)
   go_wp2
   go_ret
   have HS2 := zh HS.out
   rw [R.out]
 ·exact ⟨rfl, HS2.out.below⟩
 exact ⟨rfl, HS2.out.below⟩
theorem Fit.perm {cl : List Nmd} {l m : List Cls} (h : Fit cl l) (hp : m.Perm l) : Fit cl m := ⟨h.ncl, by rw [hp.length_eq]; exact h.nl, h.nmd, fun x hx => h.cls x (hp.mem_iff.1 hx)⟩
theorem b2g (v1 : Value) (ts : List Duo) (v2 : Value) (xs : List Qua) (k : Int) (w : World) (h1 : Duos w v1 ts) (k1 : ∀ t ∈ ts, t.ok) (h2 : Quas w v2 xs) (k2 : ∀ t ∈ xs, t.ok) (k3 : 0 <= k /\ k <= 255) : Calls Tryz.prog 6 #[v1, v2, .int .u8 k] w fun e w' => e = .returned (.bool true) /\ Below w.heap.size w w' := by
 obtain ⟨ic, hic, hcz, hc1, hc8⟩ := b2y
 have HC0 := zh hic
 have HCZ := zh hcz
 clear hic hcz
 have dN := fun W (hb : Below w.heap.size w W) => b1g v1 ts W (h1.below hb) k1
 have dL := fun W (hb : Below w.heap.size w W) => a7q v2 xs W (h2.below hb) k2
 have hF := b5p k1 k2
 have dA := fun W => a6p W
 obtain ⟨A1, c1, rfl, _, _⟩ := Slc.slice h1
 obtain ⟨A2, c2, rfl, _, _⟩ := Slc.slice h2
 have hcl := a9r ts
 have hll := a6u xs
 generalize a5r ts = cl at *
 generalize a3c xs = l at *
 have dC := fun a b W (ha : NmdL W a cl) (hb : ClsL W b l) => a1v a b cl l W ha hb hF
 have DC := zh dC
 have DN := zh dN
 have DL := zh dL
 have DA := zh dA
 have LC := zh hcl
 have LL := zh hll
 have HFF := zh hF
 have e4 : IntKind.i64.wrap k = k := IntWalk.i64_in _ (by omega)
 have hPk := fun W => c9u k l.length W (by omega) (by omega)
 have hpl := pickZ_le k l.length
 generalize c2s k l.length = kk at *
 have HPK := zh hPk
 have HPL := zh hpl
 have i1 : IntKind.i64.wrap ((l.length : Int) - 1) = (l.length : Int) - 1 := IntWalk.i64_in _ (by omega)
 clear hPk hpl k3 h1 k1 h2 k2 dN dL hF dA dC hcl hll
 go_enter Tryz.func6, Tryz.ntmps6
 have HS := zh (St.start w)
 go_wp2_with fail
 refine (DN.out _ HS.out.below).mono ?_
 rintro e w2 ⟨vn, rfl, hN, hb2⟩
 obtain ⟨An, cn, rfl, _, _⟩ := Slc.slice hN
 have HS2 := zh (HS.out.call hb2)
 have N_2 := zh hN
 clear hN hb2 HS
 go_wp2_with fail
 refine (DL.out _ HS2.out.below).mono ?_
 rintro e w3 ⟨vl, rfl, hL, hb3⟩
 obtain ⟨Al, dn, rfl, _, _⟩ := ClsL.slice hL
 have HS3 := zh (HS2.out.call hb3)
 have N_3 := zh (N_2.out.below hb3)
 clear N_2
 have L_3 := zh hL
 clear hL hb3 HS2
 have HB0 := zh HS3.out.below
 have HT := zh (St.start w3)
 clear HS3
 obtain ⟨rs, hrs1, hrs2, hrs3⟩ := L_3.out
 have hrl : rs.length = l.length := by rw [<- hrs2, List.length_map]
 have HR1 := zh hrs1
 have HR2 := zh hrs2
 have HR3 := zh hrs3
 have HRL := zh hrl
 clear hrs1 hrs2 hrs3 hrl
 go_wp2_with fail
 refine (HPK.out _).mono ?_
 rintro e w4 ⟨rfl, hb4⟩
 have HT4 := zh (HT.out.call hb4)
 clear hb4 HT
 go_wp2
 go_loopw [10, 11] (fun lv j_ wr => ∃ (j : Nat) (z : Int), j <= l.length /\ j_ = .int .i64 z /\ Hid (z = (j : Int) - 1) /\ Hid (Grows wr w3.heap.size 61 8 lv (l.length - j) (flat CRow.enc (a6w (a8t rs kk) j))) /\ Hid (St w3 [] wr)) (fun _ j_ _ => (intOf j_ + 1).toNat)
 case atStart => exact ⟨l.length, _, Nat.le_refl _, rfl, rfl, by rw [show a6w (a8t rs kk) l.length = [] by rw [<- HRL.out, <- b9n rs kk]; exact d0x _, Nat.sub_self]; exact World.ownsRow_nil _ _ _ _, HT4.out⟩
 case round =>
  clear HT4
  obtain ⟨j, z, hj, rfl, HZ, HG, HS⟩ := hrel
  obtain ⟨wo, hwo⟩ : ∃ wo : World, wo = wr := ⟨_, rfl⟩
  subst hwo
  cases j with
  | succ p =>
   have hz : z = (p : Int) := by have := HZ.out; omega
   subst hz
   clear HZ
   obtain ⟨m, hm⟩ : ∃ m, m = (kk + p) % l.length := ⟨_, rfl⟩
   have hml : m < l.length := by rw [hm]; exact Nat.mod_lt _ (by omega)
   have hta : (a8t rs kk)[p]? = rs[m]? := by rw [turnR_at (by have := HPL.out; have := HRL.out; omega) (by have := HRL.out; omega), HRL.out, <- hm]
   have t1 : Int.tmod ((kk : Int) + (p : Int)) (l.length : Int) = (m : Int) := by rw [Int.tmod_eq_emod_of_nonneg (by omega), hm]; rfl
   have t2 : IntKind.i64.wrap ((kk : Int) + (p : Int)) = (kk : Int) + (p : Int) := by have := HPL.out; have := LL.out; exact IntWalk.i64_in _ (by omega)
   have t2' : IntKind.i64.wrap (m : Int) = (m : Int) := by have := LL.out; exact IntWalk.i64_in _ (by omega)
   have t3 : ¬ ((l.length : Int) = 0) := by omega
   have t4 : ((l.length : Int) == 0) = false := by rw [beq_eq_false_iff_ne]; exact t3
   have t5 : ¬ l.length = 0 := by omega
   have t6 : decide ((0 : Int) <= (p : Int)) = true := decide_eq_true (by omega)
   have t7 : IntKind.i64.wrap ((p : Int) - 1) = (p : Int) - 1 := by have := LL.out; exact IntWalk.i64_in _ (by omega)
   have t8 : (0 : Int) <= (m : Int) := by omega
   have t9 : (m : Int) < (l.length : Int) := by omega
   obtain ⟨b, o, y, rfl, hbb, hq, hx⟩ := Slc.at_ HR1.out (j := m) (by rw [HRL.out]; exact hml)
   have HU := zh (HR3.out y (List.mem_of_getElem? hq))
   have HBS := zh (c7h (hta.trans hq))
   obtain ⟨x, u⟩ := y
   obtain ⟨A5, c5, hu, _, _⟩ := Slc.slice HU.out
   dsimp only at hu
   subst hu
   unfold CRow.enc at hx
   dsimp only at hx
   have HX := zh hx
   clear hx hta hm hq
   have x1 : b < wo.heap.size := Nat.lt_of_lt_of_le hbb HS.out.below.size
   have x2 : ¬ b = wo.heap.size := by omega
   obtain ⟨x3, x4, x5⟩ := kE0 (HX.out _ HS.out.below) rfl rfl rfl
   have x6 := HX.out _ HS.out.below 3 _ rfl
   obtain ⟨x7, x8, x9⟩ := kE4 (HX.out _ HS.out.below) rfl rfl rfl
   have x10 := HX.out _ HS.out.below 7 _ rfl
   have HS5 := aL HS #[.int .i64 x.kind, .string (bs x.name), .string (bs x.other), .slice A5 x.list.length c5, .bool x.am.n, .string (bs x.am.a), .string (bs x.am.b), .int .i64 x.at_] 61 wo.heap.size
   have hgr : World.ownsRow _ w3.heap.size 61 8 u10 (l.length - (p + 1)) (flat CRow.enc (a6w (a8t rs kk) (p + 1))) := (HG.out.below (Ext.alloc (Below.refl wo.heap.size wo) (Obj.cells #[.int .i64 x.kind, .string (bs x.name), .string (bs x.other), .slice A5 x.list.length c5, .bool x.am.n, .string (bs x.am.a), .string (bs x.am.b), .int .i64 x.at_] 61)))
   have HB9 := zh HS5.out.below
   go_wp2_with (at_builtin; refine a3a _ rfl _ _ 23 rfl w3.heap.size 61 ic _ 8 112 Tryz.underlying23 HC0.out HCZ.out hc1 hc8 rfl (by decide) a2x u10 (l.length - (p + 1)) (a6w (a8t rs kk) (p + 1)) (by simp [Act.eval]) hgr ⟨x, .slice A5 x.list.length c5⟩ wo.heap.size _ (HS5.out.blk 0 rfl) rfl (by simp [Act.eval]) (a6c _ rfl) (by have := LL.out; unfold maxLen; omega) (by have := LL.out; omega) HS5.out.below.size ?_)
   intro v9 w9 hown9 hb9
   rw [<- HBS.out, show l.length - (p + 1) + 1 = l.length - p by omega] at hown9
   have HG9 := zh hown9
   have HS9 : Hid (St w3 [] w9) := zh (St.of (HB9.out.trans hb9))
   clear hown9 hb9 hgr HS5 HG HS x1 x2 x3 x4 x5 x6 x7 x8 x9 x10
   go_wp2
   go_roundw
   case rel => exact ⟨p, _, by omega, by go_num, rfl, HG9.out, HS9.out⟩
   case measure => simp [intOf]
  | zero =>
   have hz : z = -1 := by have := HZ.out; omega
   subst hz
   clear HZ
   obtain ⟨ms, hms⟩ : ∃ ms, ms = (a6w (a8t rs kk) 0).map (·.c) := ⟨_, rfl⟩
   have hpm : ms.Perm l := by rw [hms, d0v, c7r, HR2.out]; exact (c7j _).trans (b6j _ _)
   have hK : ClsL wo u10 ms := ⟨_, Slc.of_own a2x HG.out (by rw [d0w, b9n, HRL.out]), hms.symm, fun r hr => (HR3.out r ((b6j rs kk).mem_iff.1 (d0u hr))).below HS.out.below⟩
   have hml := hpm.length_eq
   obtain ⟨Ak, ck, rfl, _, _⟩ := ClsL.slice hK
   have HK := zh hK
   have HPM := zh hpm.symm
   have DC2 := zh (fun a b W (ha : NmdL W a cl) (hb : ClsL W b ms) => a1v a b cl ms W ha hb (HFF.out.perm hpm))
   clear hms hpm hK hml HG
   have t6 : decide ((0 : Int) <= -1) = false := rfl
   go_wp2_with fail
   refine (((DC.out _ _ _ (N_3.out.below HS.out.below) (L_3.out.below HS.out.below)).mono fun _ _ h => h.open)).mono ?_
   rintro e w5 ⟨Ap, cp, Bp, dp, Rp, Gp, ip, ep, rfl, hPp, hCp, hb5⟩
   have HCp := zh hCp
   clear hCp
   have HS5 := zh (HS.out.call hb5)
   have K_5 := zh (HK.out.below hb5)
   clear HK
   have Pp_5 := zh hPp
   clear hPp hb5 HS
   go_wp2_with fail
   have HS6 := aL HS5 #[.slice Ap Rp.length cp, .slice Bp Gp.length dp] 29 w5.heap.size
   refine (((DC2.out _ _ _ (N_3.out.below HS6.out.below) (K_5.out.below (Ext.alloc (Below.refl w5.heap.size w5) (Obj.cells #[.slice Ap Rp.length cp, .slice Bp Gp.length dp] 29)))).mono fun _ _ h => h.open)).mono ?_
   rintro e w7 ⟨Aq, cq, Bq, dq, Rq, Gq, iq, eq, rfl, hPq, hCq, hb7⟩
   obtain ⟨ed, ea, eb⟩ := d0q HPM.out HCp.out hCq
   subst ea eb
   obtain ⟨q, hq⟩ : ∃ q, q = (ep == 0) := ⟨_, rfl⟩
   have q1 : (ep == 0) = q := hq.symm
   have q2 : (eq == 0) = q := by rw [hq, Bool.eq_iff_iff, beq_iff_eq, beq_iff_eq]; exact ed.symm
   clear hCq hq ed
   have HS7 := zh (HS6.out.call hb7)
   have K_7 := zh (K_5.out.below (Ext.trans (Ext.alloc (Below.refl w5.heap.size w5) (Obj.cells #[.slice Ap Rp.length cp, .slice Bp Gp.length dp] 29)) hb7))
   clear K_5
   have Pp_7 := zh (Pp_5.out.below (Ext.trans (Ext.alloc (Below.refl w5.heap.size w5) (Obj.cells #[.slice Ap Rp.length cp, .slice Bp Gp.length dp] 29)) hb7))
   clear Pp_5
   have Pq_7 := zh hPq
   clear hPq hb7 HS5 HS6
   go_wp2_with fail
   have HS8 := aL HS7 #[.slice Aq Rp.length cq, .slice Bq Gp.length dq] 29 w7.heap.size
   refine (DA.out _).mono ?_
   rintro e w9 ⟨rfl, hb9⟩
   have HS9 := zh (HS8.out.call hb9)
   have K_9 := zh (K_7.out.below (Ext.trans (Ext.alloc (Below.refl w7.heap.size w7) (Obj.cells #[.slice Aq Rp.length cq, .slice Bq Gp.length dq] 29)) hb9))
   clear K_7
   have Pp_9 := zh (Pp_7.out.below (Ext.trans (Ext.alloc (Below.refl w7.heap.size w7) (Obj.cells #[.slice Aq Rp.length cq, .slice Bq Gp.length dq] 29)) hb9))
   clear Pp_7
   have Pq_9 := zh (Pq_7.out.below (Ext.trans (Ext.alloc (Below.refl w7.heap.size w7) (Obj.cells #[.slice Aq Rp.length cq, .slice Bq Gp.length dq] 29)) hb9))
   clear Pq_7 hb9 HS7 HS8
   have x1 := cC HS9 1 0
   have x2 := cC HS9 1 1
   have x3 := cC HS9 0 0
   have x4 := cC HS9 0 1
   go_wp2_with fail
   refine (a4f _ _ _ _ _ _ _ Pp_9.out.1 Pp_9.out.2 Pq_9.out.1 Pq_9.out.2).mono ?_
   rintro e w10 ⟨rfl, hb10⟩
   have HS10 := zh (HS9.out.call hb10)
   have K_10 := zh (K_9.out.below hb10)
   clear K_9
   have Pp_10 := zh (Pp_9.out.below hb10)
   clear Pp_9
   have Pq_10 := zh (Pq_9.out.below hb10)
   clear Pq_9 hb10 HS9 x1 x2 x3 x4
   go_wp2
   go_ret
   exact ⟨rfl, HB0.out.trans (HS10.out.below.mono HB0.out.size)⟩
end Go.Proofs.YtgdhpghfojccaaaGreatDoor
