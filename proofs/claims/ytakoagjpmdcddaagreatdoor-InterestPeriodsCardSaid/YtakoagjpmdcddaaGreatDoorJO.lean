/-
Compound interest: the document's (printed by gen_int8.py).
-/
import Derived.Test.YtakoagjpmdcddaaGreatDoorW4
import Derived.Test.YtakoagjpmdcddaaGreatDoorRcA
namespace Go.Proofs.YtakoagjpmdcddaaGreatDoor
open Go.RowKit

theorem long_ref {d e : Int} (h : 1 ≤ e) : (64 < d / e ∨ (d / e = 64 ∧ 0 < d % e)) ↔ 64 * e < d := by
  have h1 := Int.emod_add_mul_ediv d e
  have h2 := Int.emod_nonneg d (show e ≠ 0 by omega)
  have h3 := Int.emod_lt_of_pos d (show 0 < e by omega)
  generalize d / e = q at *
  generalize d % e = r at *
  constructor
  · rintro (hq | ⟨rfl, hr⟩)
    · have := Int.mul_le_mul_of_nonneg_left (show 65 ≤ q by omega) (show 0 ≤ e by omega)
      omega
    · omega
  · intro hd
    by_cases hq : 64 < q
    · exact .inl hq
    · by_cases hq2 : q = 64
      · subst hq2; exact .inr ⟨rfl, by omega⟩
      · have := Int.mul_le_mul_of_nonneg_left (show q ≤ 63 by omega) (show 0 ≤ e by omega)
        omega

set_option maxRecDepth 100000 in
set_option maxHeartbeats 8000000 in
theorem ref_Compound (n : Bool) (a b : List UInt8) (v : Value) (l : List Stp) (src dst base every : Int) (w : World) (h : StepsL w v l) (hok : ∀ s ∈ l, s.num.length ≤ 1000 ∧ s.den.length ≤ 1000) (la : a.length ≤ 100000) (lb : b.length ≤ 100000) (hev : every ≤ 9223372036854775807) :
    Calls Tryz.prog 13 #[raw n a b, v, .int .i64 src, .int .i64 dst, .int .i64 base, .int .i64 every] w fun e w' => e = .returned (.tuple #[rat (compR (decR n a b) l src dst base every).1, .int .i64 (compR (decR n a b) l src dst base every).2]) ∧ Below w.heap.size w w' := by
  have hC := fun W (hb : Below w.heap.size w W) => ref_interval n a b v l src dst base every W (h.below hb) (fun s hs => by have := hok s hs; omega) (by omega) (by omega)
  have K1 := @compR_err (decR n a b) l src dst base every
  have K2 := @compR_long (decR n a b) l src dst base every
  have K3 := @compR_ok (decR n a b) l src dst base every
  have K0 := @args_zero (decR n a b) l src dst base every
  have sp := sized_dec (neg := n) la lb (by decide)
  have hA0 := fun W => ref_Fix n a b W (by omega) (by omega)
  have hA := fun (hri : Rising l) (hl : l.length ≤ 64) W (hb : Below w.heap.size w W) (d1 d2 : Int) h1 h2 => ref_accrued v l d1 d2 W (h.below hb) hok hri hl h1 h2
  have hok' := hok
  generalize hp : decR n a b = p at *
  clear hp
  obtain ⟨m, hm⟩ : ∃ m, m = argsErr p l src dst base every := ⟨_, rfl⟩
  rw [← hm] at hC K1 K2 K3 K0
  unfold raw at hC hA0
  unfold raw
  by_cases h0 : m = 0
  · subst h0
    obtain ⟨z1, z2, z3, z4, z5, z6, z7⟩ := K0 rfl
    have hri := checkS_rising z1
    have hlen := (checkS_zero z1).1
    obtain ⟨q1, q1'⟩ := dayB_in z2
    obtain ⟨q2, q2'⟩ := dayB_in z3
    have hlong := long_ref (d := dst - src) z5
    have u1 : IntKind.i64.wrap (dst - src) = dst - src := IntWalk.i64_in _ (by omega)
    have u2 : Int.tdiv (dst - src) every = (dst - src) / every := Int.tdiv_eq_ediv_of_nonneg (by omega)
    have u3 : Int.tmod (dst - src) every = (dst - src) % every := Int.tmod_eq_emod_of_nonneg (by omega)
    have g1 := Int.ediv_nonneg (show 0 ≤ dst - src by omega) (show 0 ≤ every by omega)
    have g2 := Int.ediv_le_self every (show 0 ≤ dst - src by omega)
    have g3 := Int.emod_nonneg (dst - src) (show every ≠ 0 by omega)
    have g4 := Int.emod_lt_of_pos (dst - src) (show 0 < every by omega)
    obtain ⟨qq, hqq⟩ : ∃ x, x = (dst - src) / every := ⟨_, rfl⟩
    obtain ⟨rr, hrr⟩ : ∃ x, x = (dst - src) % every := ⟨_, rfl⟩
    rw [← hqq] at u2 g1 g2 hlong
    rw [← hrr] at u3 g3 g4 hlong
    have u4 : IntKind.i64.wrap qq = qq := IntWalk.i64_in _ (by omega)
    have u5 : IntKind.i64.wrap rr = rr := IntWalk.i64_in _ (by omega)
    have u6 : ¬ every = 0 := by omega
    have u7 : (every == 0) = false := by rw [beq_eq_false_iff_ne]; exact u6
    have HC := Lib.hid hC
    clear hC K0 K1 hm z1 z2 z3 hqq hrr
    by_cases hl1 : 64 < qq
    · have R := Lib.hid (K2 rfl (hlong.1 (.inl hl1)))
      have d1 : decide (64 < qq) = true := decide_eq_true hl1
      clear hlong K2 K3 hA hA0 sp hri hok hok' h
      go_enter Tryz.func13, Tryz.ntmps13
      have HS := Lib.hid (St.start w)
      go_wp2_with fail
      have HS2 : Hid (St w [⟨w.heap.size + 1, #[.bool false, .string (bs []), .string (bs [])], 23⟩, ⟨w.heap.size, #[.bool n, .string (bs a), .string (bs b)], 23⟩] _) := Lib.hid (St.alloc ((St.alloc (HS.out) #[.bool n, .string (bs a), .string (bs b)] 23 _ (by simp))) #[.bool false, .string (bs []), .string (bs [])] 23 _ (by simp))
      refine (HC.out _ HS2.out.below).mono ?_
      rintro e w3 ⟨rfl, hb3⟩
      have HS3 := Lib.hid (HS2.out.call hb3)
      clear hb3 HS HS2
      have x1 := HS3.out.cell 0 rfl 0 rfl
      have x2 := HS3.out.cell 0 rfl 1 rfl
      have x3 := HS3.out.cell 0 rfl 2 rfl
      have x4 := HS3.out.frozen 0 rfl 0
      have x5 := HS3.out.frozen 0 rfl 1
      have x6 := HS3.out.frozen 0 rfl 2
      have x7 := HS3.out.ne 0 1 rfl rfl (by decide)
      have x8 := HS3.out.ne 1 0 rfl rfl (by decide)
      go_wp2
      have HS4 : Hid (St w [⟨w.heap.size + 1, #[.bool false, .string (bs []), .string (bs [])], 23⟩, ⟨w.heap.size, #[.bool n, .string (bs a), .string (bs b)], 23⟩] _) := Lib.hid (St.set ((St.set ((St.set (HS3.out) 0 rfl 0 _)) 0 rfl 1 _)) 0 rfl 2 _)
      refine bodyPost_ret (raw_result2 rfl _ _ _ _ _ _ rfl (HS4.out.blk 0 rfl)) rfl ?_
      rw [R.out, rat_zero]
      exact ⟨rfl, HS4.out.below⟩
    · have d1 : decide (64 < qq) = false := decide_eq_false hl1
      by_cases hl2 : qq = 64
      · by_cases hl3 : 0 < rr
        · have R := Lib.hid (K2 rfl (hlong.1 (.inr ⟨hl2, hl3⟩)))
          have d2 : (qq == 64) = true := by rw [beq_iff_eq]; exact hl2
          have d3 : decide (0 < rr) = true := decide_eq_true hl3
          clear hl2
          clear hlong K2 K3 hA hA0 sp hri hok hok' h
          go_enter Tryz.func13, Tryz.ntmps13
          have HS := Lib.hid (St.start w)
          go_wp2_with fail
          have HS2 : Hid (St w [⟨w.heap.size + 1, #[.bool false, .string (bs []), .string (bs [])], 23⟩, ⟨w.heap.size, #[.bool n, .string (bs a), .string (bs b)], 23⟩] _) := Lib.hid (St.alloc ((St.alloc (HS.out) #[.bool n, .string (bs a), .string (bs b)] 23 _ (by simp))) #[.bool false, .string (bs []), .string (bs [])] 23 _ (by simp))
          refine (HC.out _ HS2.out.below).mono ?_
          rintro e w3 ⟨rfl, hb3⟩
          have HS3 := Lib.hid (HS2.out.call hb3)
          clear hb3 HS HS2
          have x1 := HS3.out.cell 0 rfl 0 rfl
          have x2 := HS3.out.cell 0 rfl 1 rfl
          have x3 := HS3.out.cell 0 rfl 2 rfl
          have x4 := HS3.out.frozen 0 rfl 0
          have x5 := HS3.out.frozen 0 rfl 1
          have x6 := HS3.out.frozen 0 rfl 2
          have x7 := HS3.out.ne 0 1 rfl rfl (by decide)
          have x8 := HS3.out.ne 1 0 rfl rfl (by decide)
          go_wp2
          have HS4 : Hid (St w [⟨w.heap.size + 1, #[.bool false, .string (bs []), .string (bs [])], 23⟩, ⟨w.heap.size, #[.bool n, .string (bs a), .string (bs b)], 23⟩] _) := Lib.hid (St.set ((St.set ((St.set (HS3.out) 0 rfl 0 _)) 0 rfl 1 _)) 0 rfl 2 _)
          refine bodyPost_ret (raw_result2 rfl _ _ _ _ _ _ rfl (HS4.out.blk 0 rfl)) rfl ?_
          rw [R.out, rat_zero]
          exact ⟨rfl, HS4.out.below⟩
        · have hd64 : dst - src ≤ 64 * every := by have := mt hlong.2 (by omega); omega
          have R := Lib.hid (K3 rfl (by omega))
          unfold rat raw at hA0
          have HA0 := Lib.hid hA0
          have HCS := Lib.hid (fun k => comp_sized (base := base) (every := every) (src := src) (dst := dst) hri hlen (rates_in (by decide) hok') sp q1 (by omega) (by omega) (by omega) (by omega) k)
          have HDS := Lib.hid (fun d1 n (h1 : 0 ≤ d1 ∧ d1 ≤ 1048576) (h2 : n ≤ 1048576) => days_sized (src := d1) (n := n) hri hlen (rates_in (by decide) hok') (by omega) (by omega))
          have HAC := Lib.hid (fun W hb d1 d2 h1 h2 => hA hri hlen W hb d1 d2 h1 h2)
          have HSP := Lib.hid sp
          have d2 : (qq == 64) = true := by rw [beq_iff_eq]; exact hl2
          have d3 : decide (0 < rr) = false := decide_eq_false hl3
          clear hlong K2 K3 hA hA0 sp hri hok hok' h
          go_enter Tryz.func13, Tryz.ntmps13
          have HS := Lib.hid (St.start w)
          go_wp2_with fail
          have HS2 : Hid (St w [⟨w.heap.size + 1, #[.bool false, .string (bs []), .string (bs [])], 23⟩, ⟨w.heap.size, #[.bool n, .string (bs a), .string (bs b)], 23⟩] _) := Lib.hid (St.alloc ((St.alloc (HS.out) #[.bool n, .string (bs a), .string (bs b)] 23 _ (by simp))) #[.bool false, .string (bs []), .string (bs [])] 23 _ (by simp))
          refine (HC.out _ HS2.out.below).mono ?_
          rintro e w3 ⟨rfl, hb3⟩
          have HS3 := Lib.hid (HS2.out.call hb3)
          clear hb3 HS HS2
          have x1 := HS3.out.cell 1 rfl 0 rfl
          have x2 := HS3.out.cell 1 rfl 1 rfl
          have x3 := HS3.out.cell 1 rfl 2 rfl
          go_wp2_with fail
          refine (HA0.out _).mono ?_
          rintro e w4 ⟨rfl, hb4⟩
          have HS4 := Lib.hid (HS3.out.call hb4)
          clear hb4 HS3
          clear x1 x2 x3
          go_wp2
          go_loopw [2] (fun i wr => ∃ (k : Nat) (dy : Int), k ≤ 64 ∧ i = .int .i64 dy ∧ Hid (dy = min dst (src + k * every)) ∧ src ≤ dy ∧ dy ≤ dst ∧ Hid (k = 0 ∨ src + ((k : Int) - 1) * every < dst) ∧ Hid (St w [⟨w4.heap.size, #[.bool (negB (compTo l base every src dst p k)), .string (bs (numB (compTo l base every src dst p k))), .string (bs (denomB (compTo l base every src dst p k)))], 23⟩, ⟨w.heap.size + 1, #[.bool false, .string (bs []), .string (bs [])], 23⟩, ⟨w.heap.size, #[.bool n, .string (bs a), .string (bs b)], 23⟩] wr)) (fun i _ => (dst - intOf i).toNat)
          case atStart => exact ⟨0, src, by decide, rfl, by show _ = _; omega, by omega, by omega, .inl rfl, (St.alloc (HS4.out) #[.bool (negB (p)), .string (bs (numB (p))), .string (bs (denomB (p)))] 23 _ (by simp))⟩
          case round =>
            obtain ⟨k, dy, hk, rfl, hdy, hy1, hy2, hkk, HS⟩ := hrel
            by_cases hlt : dy < dst
            · have hl2 : decide (dy < dst) = true := decide_eq_true hlt
              have hd' : dy = src + k * every := by have := hdy.out; omega
              have hk64 : k < 64 := per_lt (d := dst - src) (by omega) hd64 (by omega)
              obtain ⟨en, hen⟩ : ∃ x, x = min dst (src + ((k : Int) + 1) * every) := ⟨_, rfl⟩
              have hmul : ((k : Int) + 1) * every = k * every + every := by rw [Int.add_mul, Int.one_mul]
              have n1 : 0 ≤ en := by omega
              have n2 : en ≤ dst := by omega
              have hst := compTo_step (l := l) (base := base) (every := every) (src := src) (dst := dst) (p := p) k
              rw [← hd', show min dst dy = dy by omega, ← hen] at hst
              have hy0 := HCS.out k
              have hx0 := HDS.out dy (en - dy).toNat ⟨by omega, by omega⟩ (by omega)
              have hbig : 100000 + k * (64 * (1000 + 9) + 11) ≤ 4300000 := by omega
              have hB := fun W (hb : Below w.heap.size w W) => HAC.out W hb dy en ⟨by omega, by omega⟩ ⟨by omega, by omega⟩
              have hbs := (sized_int8 (n := base) (by omega)).mono (show 8 ≤ 17179869184 by decide)
              have hM := fun W => ref_Times (compTo l base every src dst p k) (daySum l dy (en - dy).toNat) W (hy0.mono (by omega)) (hx0.mono (by decide))
              have hI := fun W => ref_Int base W (by omega) (by omega)
              have hO := fun W => ref_Over (compTo l base every src dst p k * daySum l dy (en - dy).toNat) (base : Rat) W ((hy0.mul hx0).mono (by omega)) hbs (intCast_ne (by omega))
              rw [simp_over] at hO
              have hmo := ((hy0.mul hx0).div (sized_int8 (n := base) (by omega))).mono (show _ ≤ 17179869184 by omega)
              rw [simp_over] at hmo
              have hP := fun W => ref_Plus (compTo l base every src dst p k) (compTo l base every src dst p k * simpS l dy en base) W (hy0.mono (by omega)) hmo
              rw [← hst] at hP
              obtain ⟨z, hzz⟩ : ∃ z, z = compTo l base every src dst p (k + 1) := ⟨_, rfl⟩
              rw [← hzz] at hP
              have HZZ := Lib.hid hzz
              have HEN := Lib.hid hen
              have HDD := Lib.hid hd'
              have HML := Lib.hid hmul
              have hn3 : src ≤ en := by omega
              clear hst hzz hy0 hx0 hbs hd' hmul hen hmo
              generalize compTo l base every src dst p k * simpS l dy en base = mo at *
              generalize compTo l base every src dst p k * daySum l dy (en - dy).toNat = mm at *
              generalize compTo l base every src dst p k = y at *
              generalize daySum l dy (en - dy).toNat = x at *
              generalize hbr : (base : Rat) = br at *
              unfold rat raw at hB hM hI hO hP
              have HB1 := Lib.hid hB
              have HM1 := Lib.hid hM
              have HI1 := Lib.hid hI
              have HO1 := Lib.hid hO
              have HP1 := Lib.hid hP
              clear hB hM hI hO hP hbr
              have w1 : IntKind.i64.wrap (dst - dy) = dst - dy := IntWalk.i64_in _ (by omega)
              by_cases hes : every < dst - dy
              · have d5 : decide (every < dst - dy) = true := decide_eq_true hes
                have d6 : dy + every = en := by have := HEN.out; have := HDD.out; have := HML.out; omega
                have d7 : IntKind.i64.wrap (dy + every) = en := by rw [d6]; exact IntWalk.i64_in _ (by omega)
                go_wp2
                refine wp_region_facts 11 [fun _ vv => vv = .agg #[.bool (negB (y)), .string (bs (numB (y))), .string (bs (denomB (y)))], fun _ vv => vv = .agg #[.bool (negB (y)), .string (bs (numB (y))), .string (bs (denomB (y)))], fun _ vv => vv = v, fun _ vv => vv = .int .i64 dy, fun _ vv => vv = .int .i64 en, fun _ vv => vv = .agg #[.bool (negB (x)), .string (bs (numB (x))), .string (bs (denomB (x)))], fun _ vv => vv = .agg #[.bool (negB (mm)), .string (bs (numB (mm))), .string (bs (denomB (mm)))], fun _ vv => vv = .int .i64 base, fun _ vv => vv = .agg #[.bool (negB (br)), .string (bs (numB (br))), .string (bs (denomB (br)))], fun _ vv => vv = .agg #[.bool (negB (mo)), .string (bs (numB (mo))), .string (bs (denomB (mo)))], fun _ vv => vv = .agg #[.bool (negB (z)), .string (bs (numB (z))), .string (bs (denomB (z)))]] rfl (by kernel_rfl) (by kernel_rfl) (by kernel_rfl) ⟨fun _ _ _ h _ => h, fun _ _ _ h _ => h, fun _ _ _ h _ => h, fun _ _ _ h _ => h, fun _ _ _ h _ => h, fun _ _ _ h _ => h, fun _ _ _ h _ => h, fun _ _ _ h _ => h, fun _ _ _ h _ => h, fun _ _ _ h _ => h, fun _ _ _ h _ => h, trivial⟩ ?_ ?_
                refine ⟨?_, ?_, ?_, ?_, ?_, ?_, ?_, ?_, ?_, ?_, ?_, trivial⟩
                · intro xx af wv hbx hev hev0 hd
                  have e15 : af.tmps[15]?.getD undef = .pointer (some ⟨w4.heap.size, 0, none⟩) := hev0 15 rfl
                  clear hev hev0 hd
                  have hs1 := Lib.hid (HS.out.call hbx)
                  have y0 := hs1.out.cell 0 rfl 0 rfl
                  have y1 := hs1.out.cell 0 rfl 1 rfl
                  have y2 := hs1.out.cell 0 rfl 2 rfl
                  go_wp2
                  exact StepQ.mk _ (Below.refl _ _) rfl
                · intro xx af wv hbx hev hev0 hd
                  have e15 : af.tmps[15]?.getD undef = .pointer (some ⟨w4.heap.size, 0, none⟩) := hev0 15 rfl
                  clear hev hev0 hd
                  have hs1 := Lib.hid (HS.out.call hbx)
                  have y0 := hs1.out.cell 0 rfl 0 rfl
                  have y1 := hs1.out.cell 0 rfl 1 rfl
                  have y2 := hs1.out.cell 0 rfl 2 rfl
                  go_wp2
                  exact StepQ.mk _ (Below.refl _ _) rfl
                · intro xx af wv hbx hev hev0 hd
                  have e1 : af.tmps[1]?.getD undef = v := hev0 1 rfl
                  clear hev hev0 hd
                  go_wp2
                  exact StepQ.mk _ (Below.refl _ _) rfl
                · intro xx af wv hbx hev hev0 hd
                  have e2 : af.tmps[2]?.getD undef = .int .i64 dy := hev0 2 rfl
                  clear hev hev0 hd
                  go_wp2
                  exact StepQ.mk _ (Below.refl _ _) rfl
                · intro xx af wv hbx hev hev0 hd
                  have e16 : af.tmps[16]?.getD undef = .int .i64 en := hev0 16 rfl
                  clear hev hev0 hd
                  go_wp2
                  exact StepQ.mk _ (Below.refl _ _) rfl
                · intro xx af wv hbx hev hev0 hd
                  have e67 := hev 2 _ 67 rfl rfl
                  have d2 : xx 2 = v := hd ⟨2, .data⟩ (by simp) rfl
                  rw [d2] at e67
                  clear d2
                  have e68 := hev 3 _ 68 rfl rfl
                  have d3 : xx 3 = .int .i64 dy := hd ⟨3, .data⟩ (by simp) rfl
                  rw [d3] at e68
                  clear d3
                  have e69 := hev 4 _ 69 rfl rfl
                  have d4 : xx 4 = .int .i64 en := hd ⟨4, .data⟩ (by simp) rfl
                  rw [d4] at e69
                  clear d4
                  clear hev hev0 hd
                  have hs1 := Lib.hid (HS.out.call hbx)
                  go_wp2_with fail
                  refine (HB1.out _ hs1.out.below).mono ?_
                  rintro e w8 ⟨rfl, hb8⟩
                  go_wp2
                  exact StepQ.mk _ hb8 rfl
                · intro xx af wv hbx hev hev0 hd
                  have e66 := hev 1 _ 66 rfl rfl
                  have d1 : xx 1 = .agg #[.bool (negB (y)), .string (bs (numB (y))), .string (bs (denomB (y)))] := hd ⟨1, .data⟩ (by simp) rfl
                  rw [d1] at e66
                  clear d1
                  have e70 := hev 5 _ 70 rfl rfl
                  have d5 : xx 5 = .agg #[.bool (negB (x)), .string (bs (numB (x))), .string (bs (denomB (x)))] := hd ⟨5, .data⟩ (by simp) rfl
                  rw [d5] at e70
                  clear d5
                  clear hev hev0 hd
                  go_wp2_with fail
                  refine (HM1.out _).mono ?_
                  rintro e w8 ⟨rfl, hb8⟩
                  go_wp2
                  exact StepQ.mk _ hb8 rfl
                · intro xx af wv hbx hev hev0 hd
                  have e4 : af.tmps[4]?.getD undef = .int .i64 base := hev0 4 rfl
                  clear hev hev0 hd
                  go_wp2
                  exact StepQ.mk _ (Below.refl _ _) rfl
                · intro xx af wv hbx hev hev0 hd
                  have e72 := hev 7 _ 72 rfl rfl
                  have d7 : xx 7 = .int .i64 base := hd ⟨7, .data⟩ (by simp) rfl
                  rw [d7] at e72
                  clear d7
                  clear hev hev0 hd
                  go_wp2_with fail
                  refine (HI1.out _).mono ?_
                  rintro e w8 ⟨rfl, hb8⟩
                  go_wp2
                  exact StepQ.mk _ hb8 rfl
                · intro xx af wv hbx hev hev0 hd
                  have e71 := hev 6 _ 71 rfl rfl
                  have d6 : xx 6 = .agg #[.bool (negB (mm)), .string (bs (numB (mm))), .string (bs (denomB (mm)))] := hd ⟨6, .data⟩ (by simp) rfl
                  rw [d6] at e71
                  clear d6
                  have e73 := hev 8 _ 73 rfl rfl
                  have d8 : xx 8 = .agg #[.bool (negB (br)), .string (bs (numB (br))), .string (bs (denomB (br)))] := hd ⟨8, .data⟩ (by simp) rfl
                  rw [d8] at e73
                  clear d8
                  clear hev hev0 hd
                  go_wp2_with fail
                  refine (HO1.out _).mono ?_
                  rintro e w8 ⟨rfl, hb8⟩
                  go_wp2
                  exact StepQ.mk _ hb8 rfl
                · intro xx af wv hbx hev hev0 hd
                  have e65 := hev 0 _ 65 rfl rfl
                  have d0 : xx 0 = .agg #[.bool (negB (y)), .string (bs (numB (y))), .string (bs (denomB (y)))] := hd ⟨0, .data⟩ (by simp) rfl
                  rw [d0] at e65
                  clear d0
                  have e74 := hev 9 _ 74 rfl rfl
                  have d9 : xx 9 = .agg #[.bool (negB (mo)), .string (bs (numB (mo))), .string (bs (denomB (mo)))] := hd ⟨9, .data⟩ (by simp) rfl
                  rw [d9] at e74
                  clear d9
                  clear hev hev0 hd
                  go_wp2_with fail
                  refine (HP1.out _).mono ?_
                  rintro e w8 ⟨rfl, hb8⟩
                  go_wp2
                  exact StepQ.mk _ hb8 rfl
                intro xx w5 hb9 hv
                have hv0 : xx 0 = .agg #[.bool (negB (y)), .string (bs (numB (y))), .string (bs (denomB (y)))] := hv 0 (by decide)
                have hv1 : xx 1 = .agg #[.bool (negB (y)), .string (bs (numB (y))), .string (bs (denomB (y)))] := hv 1 (by decide)
                have hv2 : xx 2 = v := hv 2 (by decide)
                have hv3 : xx 3 = .int .i64 dy := hv 3 (by decide)
                have hv4 : xx 4 = .int .i64 en := hv 4 (by decide)
                have hv5 : xx 5 = .agg #[.bool (negB (x)), .string (bs (numB (x))), .string (bs (denomB (x)))] := hv 5 (by decide)
                have hv6 : xx 6 = .agg #[.bool (negB (mm)), .string (bs (numB (mm))), .string (bs (denomB (mm)))] := hv 6 (by decide)
                have hv7 : xx 7 = .int .i64 base := hv 7 (by decide)
                have hv8 : xx 8 = .agg #[.bool (negB (br)), .string (bs (numB (br))), .string (bs (denomB (br)))] := hv 8 (by decide)
                have hv9 : xx 9 = .agg #[.bool (negB (mo)), .string (bs (numB (mo))), .string (bs (denomB (mo)))] := hv 9 (by decide)
                have hv10 : xx 10 = .agg #[.bool (negB (z)), .string (bs (numB (z))), .string (bs (denomB (z)))] := hv 10 (by decide)
                clear hv
                simp only [List.take, List.drop, fillA, Act.put]
                simp only [hv0, hv1, hv2, hv3, hv4, hv5, hv6, hv7, hv8, hv9, hv10]
                clear hv0 hv1 hv2 hv3 hv4 hv5 hv6 hv7 hv8 hv9 hv10
                have HS5 := Lib.hid (HS.out.call hb9)
                clear hb9 HS
                have x4 := HS5.out.cell 0 rfl 0 rfl
                have x5 := HS5.out.cell 0 rfl 1 rfl
                have x6 := HS5.out.cell 0 rfl 2 rfl
                have x7 := HS5.out.frozen 0 rfl 0
                have x8 := HS5.out.frozen 0 rfl 1
                have x9 := HS5.out.frozen 0 rfl 2
                have x10 := HS5.out.ne 0 1 rfl rfl (by decide)
                have x11 := HS5.out.ne 1 0 rfl rfl (by decide)
                have x12 := HS5.out.ne 0 2 rfl rfl (by decide)
                have x13 := HS5.out.ne 2 0 rfl rfl (by decide)
                go_wp2
                have HS6 : Hid (St w [⟨w4.heap.size, #[.bool (negB (z)), .string (bs (numB (z))), .string (bs (denomB (z)))], 23⟩, ⟨w.heap.size + 1, #[.bool false, .string (bs []), .string (bs [])], 23⟩, ⟨w.heap.size, #[.bool n, .string (bs a), .string (bs b)], 23⟩] _) := Lib.hid (St.set ((St.set ((St.set (HS5.out) 0 rfl 0 _)) 0 rfl 1 _)) 0 rfl 2 _)
                go_roundw
                case rel => exact ⟨k + 1, en, by omega, rfl, by show _ = _; rw [Int.natCast_add]; exact HEN.out, by omega, by omega, .inr (by rw [show ((k + 1 : Nat) : Int) - 1 = (k : Int) by omega]; have := HDD.out; omega), by show St _ _ _; rw [← HZZ.out]; exact HS6.out⟩
                case measure => simp [intOf]; omega
              · have d5 : decide (every < dst - dy) = false := decide_eq_false hes
                obtain rfl : dst = en := by have := HEN.out; have := HDD.out; have := HML.out; omega
                go_wp2
                refine wp_region_facts 11 [fun _ vv => vv = .agg #[.bool (negB (y)), .string (bs (numB (y))), .string (bs (denomB (y)))], fun _ vv => vv = .agg #[.bool (negB (y)), .string (bs (numB (y))), .string (bs (denomB (y)))], fun _ vv => vv = v, fun _ vv => vv = .int .i64 dy, fun _ vv => vv = .int .i64 dst, fun _ vv => vv = .agg #[.bool (negB (x)), .string (bs (numB (x))), .string (bs (denomB (x)))], fun _ vv => vv = .agg #[.bool (negB (mm)), .string (bs (numB (mm))), .string (bs (denomB (mm)))], fun _ vv => vv = .int .i64 base, fun _ vv => vv = .agg #[.bool (negB (br)), .string (bs (numB (br))), .string (bs (denomB (br)))], fun _ vv => vv = .agg #[.bool (negB (mo)), .string (bs (numB (mo))), .string (bs (denomB (mo)))], fun _ vv => vv = .agg #[.bool (negB (z)), .string (bs (numB (z))), .string (bs (denomB (z)))]] rfl (by kernel_rfl) (by kernel_rfl) (by kernel_rfl) ⟨fun _ _ _ h _ => h, fun _ _ _ h _ => h, fun _ _ _ h _ => h, fun _ _ _ h _ => h, fun _ _ _ h _ => h, fun _ _ _ h _ => h, fun _ _ _ h _ => h, fun _ _ _ h _ => h, fun _ _ _ h _ => h, fun _ _ _ h _ => h, fun _ _ _ h _ => h, trivial⟩ ?_ ?_
                refine ⟨?_, ?_, ?_, ?_, ?_, ?_, ?_, ?_, ?_, ?_, ?_, trivial⟩
                · intro xx af wv hbx hev hev0 hd
                  have e15 : af.tmps[15]?.getD undef = .pointer (some ⟨w4.heap.size, 0, none⟩) := hev0 15 rfl
                  clear hev hev0 hd
                  have hs1 := Lib.hid (HS.out.call hbx)
                  have y0 := hs1.out.cell 0 rfl 0 rfl
                  have y1 := hs1.out.cell 0 rfl 1 rfl
                  have y2 := hs1.out.cell 0 rfl 2 rfl
                  go_wp2
                  exact StepQ.mk _ (Below.refl _ _) rfl
                · intro xx af wv hbx hev hev0 hd
                  have e15 : af.tmps[15]?.getD undef = .pointer (some ⟨w4.heap.size, 0, none⟩) := hev0 15 rfl
                  clear hev hev0 hd
                  have hs1 := Lib.hid (HS.out.call hbx)
                  have y0 := hs1.out.cell 0 rfl 0 rfl
                  have y1 := hs1.out.cell 0 rfl 1 rfl
                  have y2 := hs1.out.cell 0 rfl 2 rfl
                  go_wp2
                  exact StepQ.mk _ (Below.refl _ _) rfl
                · intro xx af wv hbx hev hev0 hd
                  have e1 : af.tmps[1]?.getD undef = v := hev0 1 rfl
                  clear hev hev0 hd
                  go_wp2
                  exact StepQ.mk _ (Below.refl _ _) rfl
                · intro xx af wv hbx hev hev0 hd
                  have e2 : af.tmps[2]?.getD undef = .int .i64 dy := hev0 2 rfl
                  clear hev hev0 hd
                  go_wp2
                  exact StepQ.mk _ (Below.refl _ _) rfl
                · intro xx af wv hbx hev hev0 hd
                  have e16 : af.tmps[16]?.getD undef = .int .i64 dst := hev0 16 rfl
                  clear hev hev0 hd
                  go_wp2
                  exact StepQ.mk _ (Below.refl _ _) rfl
                · intro xx af wv hbx hev hev0 hd
                  have e67 := hev 2 _ 67 rfl rfl
                  have d2 : xx 2 = v := hd ⟨2, .data⟩ (by simp) rfl
                  rw [d2] at e67
                  clear d2
                  have e68 := hev 3 _ 68 rfl rfl
                  have d3 : xx 3 = .int .i64 dy := hd ⟨3, .data⟩ (by simp) rfl
                  rw [d3] at e68
                  clear d3
                  have e69 := hev 4 _ 69 rfl rfl
                  have d4 : xx 4 = .int .i64 dst := hd ⟨4, .data⟩ (by simp) rfl
                  rw [d4] at e69
                  clear d4
                  clear hev hev0 hd
                  have hs1 := Lib.hid (HS.out.call hbx)
                  go_wp2_with fail
                  refine (HB1.out _ hs1.out.below).mono ?_
                  rintro e w8 ⟨rfl, hb8⟩
                  go_wp2
                  exact StepQ.mk _ hb8 rfl
                · intro xx af wv hbx hev hev0 hd
                  have e66 := hev 1 _ 66 rfl rfl
                  have d1 : xx 1 = .agg #[.bool (negB (y)), .string (bs (numB (y))), .string (bs (denomB (y)))] := hd ⟨1, .data⟩ (by simp) rfl
                  rw [d1] at e66
                  clear d1
                  have e70 := hev 5 _ 70 rfl rfl
                  have d5 : xx 5 = .agg #[.bool (negB (x)), .string (bs (numB (x))), .string (bs (denomB (x)))] := hd ⟨5, .data⟩ (by simp) rfl
                  rw [d5] at e70
                  clear d5
                  clear hev hev0 hd
                  go_wp2_with fail
                  refine (HM1.out _).mono ?_
                  rintro e w8 ⟨rfl, hb8⟩
                  go_wp2
                  exact StepQ.mk _ hb8 rfl
                · intro xx af wv hbx hev hev0 hd
                  have e4 : af.tmps[4]?.getD undef = .int .i64 base := hev0 4 rfl
                  clear hev hev0 hd
                  go_wp2
                  exact StepQ.mk _ (Below.refl _ _) rfl
                · intro xx af wv hbx hev hev0 hd
                  have e72 := hev 7 _ 72 rfl rfl
                  have d7 : xx 7 = .int .i64 base := hd ⟨7, .data⟩ (by simp) rfl
                  rw [d7] at e72
                  clear d7
                  clear hev hev0 hd
                  go_wp2_with fail
                  refine (HI1.out _).mono ?_
                  rintro e w8 ⟨rfl, hb8⟩
                  go_wp2
                  exact StepQ.mk _ hb8 rfl
                · intro xx af wv hbx hev hev0 hd
                  have e71 := hev 6 _ 71 rfl rfl
                  have d6 : xx 6 = .agg #[.bool (negB (mm)), .string (bs (numB (mm))), .string (bs (denomB (mm)))] := hd ⟨6, .data⟩ (by simp) rfl
                  rw [d6] at e71
                  clear d6
                  have e73 := hev 8 _ 73 rfl rfl
                  have d8 : xx 8 = .agg #[.bool (negB (br)), .string (bs (numB (br))), .string (bs (denomB (br)))] := hd ⟨8, .data⟩ (by simp) rfl
                  rw [d8] at e73
                  clear d8
                  clear hev hev0 hd
                  go_wp2_with fail
                  refine (HO1.out _).mono ?_
                  rintro e w8 ⟨rfl, hb8⟩
                  go_wp2
                  exact StepQ.mk _ hb8 rfl
                · intro xx af wv hbx hev hev0 hd
                  have e65 := hev 0 _ 65 rfl rfl
                  have d0 : xx 0 = .agg #[.bool (negB (y)), .string (bs (numB (y))), .string (bs (denomB (y)))] := hd ⟨0, .data⟩ (by simp) rfl
                  rw [d0] at e65
                  clear d0
                  have e74 := hev 9 _ 74 rfl rfl
                  have d9 : xx 9 = .agg #[.bool (negB (mo)), .string (bs (numB (mo))), .string (bs (denomB (mo)))] := hd ⟨9, .data⟩ (by simp) rfl
                  rw [d9] at e74
                  clear d9
                  clear hev hev0 hd
                  go_wp2_with fail
                  refine (HP1.out _).mono ?_
                  rintro e w8 ⟨rfl, hb8⟩
                  go_wp2
                  exact StepQ.mk _ hb8 rfl
                intro xx w5 hb9 hv
                have hv0 : xx 0 = .agg #[.bool (negB (y)), .string (bs (numB (y))), .string (bs (denomB (y)))] := hv 0 (by decide)
                have hv1 : xx 1 = .agg #[.bool (negB (y)), .string (bs (numB (y))), .string (bs (denomB (y)))] := hv 1 (by decide)
                have hv2 : xx 2 = v := hv 2 (by decide)
                have hv3 : xx 3 = .int .i64 dy := hv 3 (by decide)
                have hv4 : xx 4 = .int .i64 dst := hv 4 (by decide)
                have hv5 : xx 5 = .agg #[.bool (negB (x)), .string (bs (numB (x))), .string (bs (denomB (x)))] := hv 5 (by decide)
                have hv6 : xx 6 = .agg #[.bool (negB (mm)), .string (bs (numB (mm))), .string (bs (denomB (mm)))] := hv 6 (by decide)
                have hv7 : xx 7 = .int .i64 base := hv 7 (by decide)
                have hv8 : xx 8 = .agg #[.bool (negB (br)), .string (bs (numB (br))), .string (bs (denomB (br)))] := hv 8 (by decide)
                have hv9 : xx 9 = .agg #[.bool (negB (mo)), .string (bs (numB (mo))), .string (bs (denomB (mo)))] := hv 9 (by decide)
                have hv10 : xx 10 = .agg #[.bool (negB (z)), .string (bs (numB (z))), .string (bs (denomB (z)))] := hv 10 (by decide)
                clear hv
                simp only [List.take, List.drop, fillA, Act.put]
                simp only [hv0, hv1, hv2, hv3, hv4, hv5, hv6, hv7, hv8, hv9, hv10]
                clear hv0 hv1 hv2 hv3 hv4 hv5 hv6 hv7 hv8 hv9 hv10
                have HS5 := Lib.hid (HS.out.call hb9)
                clear hb9 HS
                have x4 := HS5.out.cell 0 rfl 0 rfl
                have x5 := HS5.out.cell 0 rfl 1 rfl
                have x6 := HS5.out.cell 0 rfl 2 rfl
                have x7 := HS5.out.frozen 0 rfl 0
                have x8 := HS5.out.frozen 0 rfl 1
                have x9 := HS5.out.frozen 0 rfl 2
                have x10 := HS5.out.ne 0 1 rfl rfl (by decide)
                have x11 := HS5.out.ne 1 0 rfl rfl (by decide)
                have x12 := HS5.out.ne 0 2 rfl rfl (by decide)
                have x13 := HS5.out.ne 2 0 rfl rfl (by decide)
                go_wp2
                have HS6 : Hid (St w [⟨w4.heap.size, #[.bool (negB (z)), .string (bs (numB (z))), .string (bs (denomB (z)))], 23⟩, ⟨w.heap.size + 1, #[.bool false, .string (bs []), .string (bs [])], 23⟩, ⟨w.heap.size, #[.bool n, .string (bs a), .string (bs b)], 23⟩] _) := Lib.hid (St.set ((St.set ((St.set (HS5.out) 0 rfl 0 _)) 0 rfl 1 _)) 0 rfl 2 _)
                go_roundw
                case rel => exact ⟨k + 1, dst, by omega, rfl, by show _ = _; rw [Int.natCast_add]; exact HEN.out, by omega, by omega, .inr (by rw [show ((k + 1 : Nat) : Int) - 1 = (k : Int) by omega]; have := HDD.out; omega), by show St _ _ _; rw [← HZZ.out]; exact HS6.out⟩
                case measure => simp [intOf]; omega
            · have hl2 : decide (dy < dst) = false := decide_eq_false hlt
              have hce := comp_end (l := l) (base := base) (every := every) (src := src) (dst := dst) (p := p) z5 (k := k) (by have := hdy.out; omega) hkk.out
              have hy0 := HCS.out k
              have hM := fun W => ref_Minus (compTo l base every src dst p k) p W (hy0.mono (by omega)) (HSP.out.mono (by decide))
              have HR := R.out
              rw [hce] at HR
              clear hce hy0
              obtain ⟨y, hyy⟩ : ∃ y, y = compTo l base every src dst p k := ⟨_, rfl⟩
              rw [← hyy] at hM HR
              have HS' := HS.out
              rw [← hyy] at HS'
              have HR := Lib.hid HR
              have HS2 := Lib.hid HS'
              clear HS' HS hyy
              obtain ⟨z, hzz⟩ : ∃ z, z = y - p := ⟨_, rfl⟩
              rw [← hzz] at hM
              have HZZ := Lib.hid hzz
              clear hzz
              unfold rat raw at hM
              have HM3 := Lib.hid hM
              clear hM
              go_wp2
              refine wp_region_facts 4 [fun _ vv => vv = .agg #[.bool (negB (y)), .string (bs (numB (y))), .string (bs (denomB (y)))], fun _ vv => vv = .agg #[.bool n, .string (bs a), .string (bs b)], fun _ vv => vv = .agg #[.bool (negB (p)), .string (bs (numB (p))), .string (bs (denomB (p)))], fun _ vv => vv = .agg #[.bool (negB (z)), .string (bs (numB (z))), .string (bs (denomB (z)))]] rfl (by kernel_rfl) (by kernel_rfl) (by kernel_rfl) ⟨fun _ _ _ h _ => h, fun _ _ _ h _ => h, fun _ _ _ h _ => h, fun _ _ _ h _ => h, trivial⟩ ?_ ?_
              refine ⟨?_, ?_, ?_, ?_, trivial⟩
              · intro xx af wv hbx hev hev0 hd
                have e15 : af.tmps[15]?.getD undef = .pointer (some ⟨w4.heap.size, 0, none⟩) := hev0 15 rfl
                clear hev hev0 hd
                have hs1 := Lib.hid (HS2.out.call hbx)
                have y0 := hs1.out.cell 0 rfl 0 rfl
                have y1 := hs1.out.cell 0 rfl 1 rfl
                have y2 := hs1.out.cell 0 rfl 2 rfl
                go_wp2
                exact StepQ.mk _ (Below.refl _ _) rfl
              · intro xx af wv hbx hev hev0 hd
                have e6 : af.tmps[6]?.getD undef = .pointer (some ⟨w.heap.size, 0, none⟩) := hev0 6 rfl
                clear hev hev0 hd
                have hs1 := Lib.hid (HS2.out.call hbx)
                have y0 := hs1.out.cell 2 rfl 0 rfl
                have y1 := hs1.out.cell 2 rfl 1 rfl
                have y2 := hs1.out.cell 2 rfl 2 rfl
                go_wp2
                exact StepQ.mk _ (Below.refl _ _) rfl
              · intro xx af wv hbx hev hev0 hd
                have e78 := hev 1 _ 78 rfl rfl
                have d1 : xx 1 = .agg #[.bool n, .string (bs a), .string (bs b)] := hd ⟨1, .data⟩ (by simp) rfl
                rw [d1] at e78
                clear d1
                clear hev hev0 hd
                go_wp2_with fail
                refine (HA0.out _).mono ?_
                rintro e w8 ⟨rfl, hb8⟩
                go_wp2
                exact StepQ.mk _ hb8 rfl
              · intro xx af wv hbx hev hev0 hd
                have e77 := hev 0 _ 77 rfl rfl
                have d0 : xx 0 = .agg #[.bool (negB (y)), .string (bs (numB (y))), .string (bs (denomB (y)))] := hd ⟨0, .data⟩ (by simp) rfl
                rw [d0] at e77
                clear d0
                have e79 := hev 2 _ 79 rfl rfl
                have d2 : xx 2 = .agg #[.bool (negB (p)), .string (bs (numB (p))), .string (bs (denomB (p)))] := hd ⟨2, .data⟩ (by simp) rfl
                rw [d2] at e79
                clear d2
                clear hev hev0 hd
                go_wp2_with fail
                refine (HM3.out _).mono ?_
                rintro e w8 ⟨rfl, hb8⟩
                go_wp2
                exact StepQ.mk _ hb8 rfl
              intro xx w5 hb9 hv
              have hv0 : xx 0 = .agg #[.bool (negB (y)), .string (bs (numB (y))), .string (bs (denomB (y)))] := hv 0 (by decide)
              have hv1 : xx 1 = .agg #[.bool n, .string (bs a), .string (bs b)] := hv 1 (by decide)
              have hv2 : xx 2 = .agg #[.bool (negB (p)), .string (bs (numB (p))), .string (bs (denomB (p)))] := hv 2 (by decide)
              have hv3 : xx 3 = .agg #[.bool (negB (z)), .string (bs (numB (z))), .string (bs (denomB (z)))] := hv 3 (by decide)
              clear hv
              simp only [List.take, List.drop, fillA, Act.put]
              simp only [hv0, hv1, hv2, hv3]
              clear hv0 hv1 hv2 hv3
              have HS5 := Lib.hid (HS2.out.call hb9)
              clear hb9 HS2
              have x4 := HS5.out.cell 1 rfl 0 rfl
              have x5 := HS5.out.cell 1 rfl 1 rfl
              have x6 := HS5.out.cell 1 rfl 2 rfl
              have x7 := HS5.out.frozen 1 rfl 0
              have x8 := HS5.out.frozen 1 rfl 1
              have x9 := HS5.out.frozen 1 rfl 2
              have x10 := HS5.out.ne 1 0 rfl rfl (by decide)
              have x11 := HS5.out.ne 0 1 rfl rfl (by decide)
              have x12 := HS5.out.ne 1 2 rfl rfl (by decide)
              have x13 := HS5.out.ne 2 1 rfl rfl (by decide)
              go_wp2
              have HS6 : Hid (St w [⟨w4.heap.size, #[.bool (negB (y)), .string (bs (numB (y))), .string (bs (denomB (y)))], 23⟩, ⟨w.heap.size + 1, #[.bool (negB (z)), .string (bs (numB (z))), .string (bs (denomB (z)))], 23⟩, ⟨w.heap.size, #[.bool n, .string (bs a), .string (bs b)], 23⟩] _) := Lib.hid (St.set ((St.set ((St.set (HS5.out) 1 rfl 0 _)) 1 rfl 1 _)) 1 rfl 2 _)
              refine bodyPost_ret (raw_result2 rfl _ _ _ _ _ _ rfl (HS6.out.blk 1 rfl)) rfl ?_
              rw [HR.out, ← HZZ.out]
              exact ⟨rfl, HS6.out.below⟩
      · have hd64 : dst - src ≤ 64 * every := by have := mt hlong.2 (by omega); omega
        have R := Lib.hid (K3 rfl (by omega))
        unfold rat raw at hA0
        have HA0 := Lib.hid hA0
        have HCS := Lib.hid (fun k => comp_sized (base := base) (every := every) (src := src) (dst := dst) hri hlen (rates_in (by decide) hok') sp q1 (by omega) (by omega) (by omega) (by omega) k)
        have HDS := Lib.hid (fun d1 n (h1 : 0 ≤ d1 ∧ d1 ≤ 1048576) (h2 : n ≤ 1048576) => days_sized (src := d1) (n := n) hri hlen (rates_in (by decide) hok') (by omega) (by omega))
        have HAC := Lib.hid (fun W hb d1 d2 h1 h2 => hA hri hlen W hb d1 d2 h1 h2)
        have HSP := Lib.hid sp
        have d2 : (qq == 64) = false := by rw [beq_eq_false_iff_ne]; exact hl2
        clear hlong K2 K3 hA hA0 sp hri hok hok' h
        go_enter Tryz.func13, Tryz.ntmps13
        have HS := Lib.hid (St.start w)
        go_wp2_with fail
        have HS2 : Hid (St w [⟨w.heap.size + 1, #[.bool false, .string (bs []), .string (bs [])], 23⟩, ⟨w.heap.size, #[.bool n, .string (bs a), .string (bs b)], 23⟩] _) := Lib.hid (St.alloc ((St.alloc (HS.out) #[.bool n, .string (bs a), .string (bs b)] 23 _ (by simp))) #[.bool false, .string (bs []), .string (bs [])] 23 _ (by simp))
        refine (HC.out _ HS2.out.below).mono ?_
        rintro e w3 ⟨rfl, hb3⟩
        have HS3 := Lib.hid (HS2.out.call hb3)
        clear hb3 HS HS2
        have x1 := HS3.out.cell 1 rfl 0 rfl
        have x2 := HS3.out.cell 1 rfl 1 rfl
        have x3 := HS3.out.cell 1 rfl 2 rfl
        go_wp2_with fail
        refine (HA0.out _).mono ?_
        rintro e w4 ⟨rfl, hb4⟩
        have HS4 := Lib.hid (HS3.out.call hb4)
        clear hb4 HS3
        clear x1 x2 x3
        go_wp2
        go_loopw [2] (fun i wr => ∃ (k : Nat) (dy : Int), k ≤ 64 ∧ i = .int .i64 dy ∧ Hid (dy = min dst (src + k * every)) ∧ src ≤ dy ∧ dy ≤ dst ∧ Hid (k = 0 ∨ src + ((k : Int) - 1) * every < dst) ∧ Hid (St w [⟨w4.heap.size, #[.bool (negB (compTo l base every src dst p k)), .string (bs (numB (compTo l base every src dst p k))), .string (bs (denomB (compTo l base every src dst p k)))], 23⟩, ⟨w.heap.size + 1, #[.bool false, .string (bs []), .string (bs [])], 23⟩, ⟨w.heap.size, #[.bool n, .string (bs a), .string (bs b)], 23⟩] wr)) (fun i _ => (dst - intOf i).toNat)
        case atStart => exact ⟨0, src, by decide, rfl, by show _ = _; omega, by omega, by omega, .inl rfl, (St.alloc (HS4.out) #[.bool (negB (p)), .string (bs (numB (p))), .string (bs (denomB (p)))] 23 _ (by simp))⟩
        case round =>
          obtain ⟨k, dy, hk, rfl, hdy, hy1, hy2, hkk, HS⟩ := hrel
          by_cases hlt : dy < dst
          · have hl2 : decide (dy < dst) = true := decide_eq_true hlt
            have hd' : dy = src + k * every := by have := hdy.out; omega
            have hk64 : k < 64 := per_lt (d := dst - src) (by omega) hd64 (by omega)
            obtain ⟨en, hen⟩ : ∃ x, x = min dst (src + ((k : Int) + 1) * every) := ⟨_, rfl⟩
            have hmul : ((k : Int) + 1) * every = k * every + every := by rw [Int.add_mul, Int.one_mul]
            have n1 : 0 ≤ en := by omega
            have n2 : en ≤ dst := by omega
            have hst := compTo_step (l := l) (base := base) (every := every) (src := src) (dst := dst) (p := p) k
            rw [← hd', show min dst dy = dy by omega, ← hen] at hst
            have hy0 := HCS.out k
            have hx0 := HDS.out dy (en - dy).toNat ⟨by omega, by omega⟩ (by omega)
            have hbig : 100000 + k * (64 * (1000 + 9) + 11) ≤ 4300000 := by omega
            have hB := fun W (hb : Below w.heap.size w W) => HAC.out W hb dy en ⟨by omega, by omega⟩ ⟨by omega, by omega⟩
            have hbs := (sized_int8 (n := base) (by omega)).mono (show 8 ≤ 17179869184 by decide)
            have hM := fun W => ref_Times (compTo l base every src dst p k) (daySum l dy (en - dy).toNat) W (hy0.mono (by omega)) (hx0.mono (by decide))
            have hI := fun W => ref_Int base W (by omega) (by omega)
            have hO := fun W => ref_Over (compTo l base every src dst p k * daySum l dy (en - dy).toNat) (base : Rat) W ((hy0.mul hx0).mono (by omega)) hbs (intCast_ne (by omega))
            rw [simp_over] at hO
            have hmo := ((hy0.mul hx0).div (sized_int8 (n := base) (by omega))).mono (show _ ≤ 17179869184 by omega)
            rw [simp_over] at hmo
            have hP := fun W => ref_Plus (compTo l base every src dst p k) (compTo l base every src dst p k * simpS l dy en base) W (hy0.mono (by omega)) hmo
            rw [← hst] at hP
            obtain ⟨z, hzz⟩ : ∃ z, z = compTo l base every src dst p (k + 1) := ⟨_, rfl⟩
            rw [← hzz] at hP
            have HZZ := Lib.hid hzz
            have HEN := Lib.hid hen
            have HDD := Lib.hid hd'
            have HML := Lib.hid hmul
            have hn3 : src ≤ en := by omega
            clear hst hzz hy0 hx0 hbs hd' hmul hen hmo
            generalize compTo l base every src dst p k * simpS l dy en base = mo at *
            generalize compTo l base every src dst p k * daySum l dy (en - dy).toNat = mm at *
            generalize compTo l base every src dst p k = y at *
            generalize daySum l dy (en - dy).toNat = x at *
            generalize hbr : (base : Rat) = br at *
            unfold rat raw at hB hM hI hO hP
            have HB1 := Lib.hid hB
            have HM1 := Lib.hid hM
            have HI1 := Lib.hid hI
            have HO1 := Lib.hid hO
            have HP1 := Lib.hid hP
            clear hB hM hI hO hP hbr
            have w1 : IntKind.i64.wrap (dst - dy) = dst - dy := IntWalk.i64_in _ (by omega)
            by_cases hes : every < dst - dy
            · have d5 : decide (every < dst - dy) = true := decide_eq_true hes
              have d6 : dy + every = en := by have := HEN.out; have := HDD.out; have := HML.out; omega
              have d7 : IntKind.i64.wrap (dy + every) = en := by rw [d6]; exact IntWalk.i64_in _ (by omega)
              go_wp2
              refine wp_region_facts 11 [fun _ vv => vv = .agg #[.bool (negB (y)), .string (bs (numB (y))), .string (bs (denomB (y)))], fun _ vv => vv = .agg #[.bool (negB (y)), .string (bs (numB (y))), .string (bs (denomB (y)))], fun _ vv => vv = v, fun _ vv => vv = .int .i64 dy, fun _ vv => vv = .int .i64 en, fun _ vv => vv = .agg #[.bool (negB (x)), .string (bs (numB (x))), .string (bs (denomB (x)))], fun _ vv => vv = .agg #[.bool (negB (mm)), .string (bs (numB (mm))), .string (bs (denomB (mm)))], fun _ vv => vv = .int .i64 base, fun _ vv => vv = .agg #[.bool (negB (br)), .string (bs (numB (br))), .string (bs (denomB (br)))], fun _ vv => vv = .agg #[.bool (negB (mo)), .string (bs (numB (mo))), .string (bs (denomB (mo)))], fun _ vv => vv = .agg #[.bool (negB (z)), .string (bs (numB (z))), .string (bs (denomB (z)))]] rfl (by kernel_rfl) (by kernel_rfl) (by kernel_rfl) ⟨fun _ _ _ h _ => h, fun _ _ _ h _ => h, fun _ _ _ h _ => h, fun _ _ _ h _ => h, fun _ _ _ h _ => h, fun _ _ _ h _ => h, fun _ _ _ h _ => h, fun _ _ _ h _ => h, fun _ _ _ h _ => h, fun _ _ _ h _ => h, fun _ _ _ h _ => h, trivial⟩ ?_ ?_
              refine ⟨?_, ?_, ?_, ?_, ?_, ?_, ?_, ?_, ?_, ?_, ?_, trivial⟩
              · intro xx af wv hbx hev hev0 hd
                have e15 : af.tmps[15]?.getD undef = .pointer (some ⟨w4.heap.size, 0, none⟩) := hev0 15 rfl
                clear hev hev0 hd
                have hs1 := Lib.hid (HS.out.call hbx)
                have y0 := hs1.out.cell 0 rfl 0 rfl
                have y1 := hs1.out.cell 0 rfl 1 rfl
                have y2 := hs1.out.cell 0 rfl 2 rfl
                go_wp2
                exact StepQ.mk _ (Below.refl _ _) rfl
              · intro xx af wv hbx hev hev0 hd
                have e15 : af.tmps[15]?.getD undef = .pointer (some ⟨w4.heap.size, 0, none⟩) := hev0 15 rfl
                clear hev hev0 hd
                have hs1 := Lib.hid (HS.out.call hbx)
                have y0 := hs1.out.cell 0 rfl 0 rfl
                have y1 := hs1.out.cell 0 rfl 1 rfl
                have y2 := hs1.out.cell 0 rfl 2 rfl
                go_wp2
                exact StepQ.mk _ (Below.refl _ _) rfl
              · intro xx af wv hbx hev hev0 hd
                have e1 : af.tmps[1]?.getD undef = v := hev0 1 rfl
                clear hev hev0 hd
                go_wp2
                exact StepQ.mk _ (Below.refl _ _) rfl
              · intro xx af wv hbx hev hev0 hd
                have e2 : af.tmps[2]?.getD undef = .int .i64 dy := hev0 2 rfl
                clear hev hev0 hd
                go_wp2
                exact StepQ.mk _ (Below.refl _ _) rfl
              · intro xx af wv hbx hev hev0 hd
                have e16 : af.tmps[16]?.getD undef = .int .i64 en := hev0 16 rfl
                clear hev hev0 hd
                go_wp2
                exact StepQ.mk _ (Below.refl _ _) rfl
              · intro xx af wv hbx hev hev0 hd
                have e67 := hev 2 _ 67 rfl rfl
                have d2 : xx 2 = v := hd ⟨2, .data⟩ (by simp) rfl
                rw [d2] at e67
                clear d2
                have e68 := hev 3 _ 68 rfl rfl
                have d3 : xx 3 = .int .i64 dy := hd ⟨3, .data⟩ (by simp) rfl
                rw [d3] at e68
                clear d3
                have e69 := hev 4 _ 69 rfl rfl
                have d4 : xx 4 = .int .i64 en := hd ⟨4, .data⟩ (by simp) rfl
                rw [d4] at e69
                clear d4
                clear hev hev0 hd
                have hs1 := Lib.hid (HS.out.call hbx)
                go_wp2_with fail
                refine (HB1.out _ hs1.out.below).mono ?_
                rintro e w8 ⟨rfl, hb8⟩
                go_wp2
                exact StepQ.mk _ hb8 rfl
              · intro xx af wv hbx hev hev0 hd
                have e66 := hev 1 _ 66 rfl rfl
                have d1 : xx 1 = .agg #[.bool (negB (y)), .string (bs (numB (y))), .string (bs (denomB (y)))] := hd ⟨1, .data⟩ (by simp) rfl
                rw [d1] at e66
                clear d1
                have e70 := hev 5 _ 70 rfl rfl
                have d5 : xx 5 = .agg #[.bool (negB (x)), .string (bs (numB (x))), .string (bs (denomB (x)))] := hd ⟨5, .data⟩ (by simp) rfl
                rw [d5] at e70
                clear d5
                clear hev hev0 hd
                go_wp2_with fail
                refine (HM1.out _).mono ?_
                rintro e w8 ⟨rfl, hb8⟩
                go_wp2
                exact StepQ.mk _ hb8 rfl
              · intro xx af wv hbx hev hev0 hd
                have e4 : af.tmps[4]?.getD undef = .int .i64 base := hev0 4 rfl
                clear hev hev0 hd
                go_wp2
                exact StepQ.mk _ (Below.refl _ _) rfl
              · intro xx af wv hbx hev hev0 hd
                have e72 := hev 7 _ 72 rfl rfl
                have d7 : xx 7 = .int .i64 base := hd ⟨7, .data⟩ (by simp) rfl
                rw [d7] at e72
                clear d7
                clear hev hev0 hd
                go_wp2_with fail
                refine (HI1.out _).mono ?_
                rintro e w8 ⟨rfl, hb8⟩
                go_wp2
                exact StepQ.mk _ hb8 rfl
              · intro xx af wv hbx hev hev0 hd
                have e71 := hev 6 _ 71 rfl rfl
                have d6 : xx 6 = .agg #[.bool (negB (mm)), .string (bs (numB (mm))), .string (bs (denomB (mm)))] := hd ⟨6, .data⟩ (by simp) rfl
                rw [d6] at e71
                clear d6
                have e73 := hev 8 _ 73 rfl rfl
                have d8 : xx 8 = .agg #[.bool (negB (br)), .string (bs (numB (br))), .string (bs (denomB (br)))] := hd ⟨8, .data⟩ (by simp) rfl
                rw [d8] at e73
                clear d8
                clear hev hev0 hd
                go_wp2_with fail
                refine (HO1.out _).mono ?_
                rintro e w8 ⟨rfl, hb8⟩
                go_wp2
                exact StepQ.mk _ hb8 rfl
              · intro xx af wv hbx hev hev0 hd
                have e65 := hev 0 _ 65 rfl rfl
                have d0 : xx 0 = .agg #[.bool (negB (y)), .string (bs (numB (y))), .string (bs (denomB (y)))] := hd ⟨0, .data⟩ (by simp) rfl
                rw [d0] at e65
                clear d0
                have e74 := hev 9 _ 74 rfl rfl
                have d9 : xx 9 = .agg #[.bool (negB (mo)), .string (bs (numB (mo))), .string (bs (denomB (mo)))] := hd ⟨9, .data⟩ (by simp) rfl
                rw [d9] at e74
                clear d9
                clear hev hev0 hd
                go_wp2_with fail
                refine (HP1.out _).mono ?_
                rintro e w8 ⟨rfl, hb8⟩
                go_wp2
                exact StepQ.mk _ hb8 rfl
              intro xx w5 hb9 hv
              have hv0 : xx 0 = .agg #[.bool (negB (y)), .string (bs (numB (y))), .string (bs (denomB (y)))] := hv 0 (by decide)
              have hv1 : xx 1 = .agg #[.bool (negB (y)), .string (bs (numB (y))), .string (bs (denomB (y)))] := hv 1 (by decide)
              have hv2 : xx 2 = v := hv 2 (by decide)
              have hv3 : xx 3 = .int .i64 dy := hv 3 (by decide)
              have hv4 : xx 4 = .int .i64 en := hv 4 (by decide)
              have hv5 : xx 5 = .agg #[.bool (negB (x)), .string (bs (numB (x))), .string (bs (denomB (x)))] := hv 5 (by decide)
              have hv6 : xx 6 = .agg #[.bool (negB (mm)), .string (bs (numB (mm))), .string (bs (denomB (mm)))] := hv 6 (by decide)
              have hv7 : xx 7 = .int .i64 base := hv 7 (by decide)
              have hv8 : xx 8 = .agg #[.bool (negB (br)), .string (bs (numB (br))), .string (bs (denomB (br)))] := hv 8 (by decide)
              have hv9 : xx 9 = .agg #[.bool (negB (mo)), .string (bs (numB (mo))), .string (bs (denomB (mo)))] := hv 9 (by decide)
              have hv10 : xx 10 = .agg #[.bool (negB (z)), .string (bs (numB (z))), .string (bs (denomB (z)))] := hv 10 (by decide)
              clear hv
              simp only [List.take, List.drop, fillA, Act.put]
              simp only [hv0, hv1, hv2, hv3, hv4, hv5, hv6, hv7, hv8, hv9, hv10]
              clear hv0 hv1 hv2 hv3 hv4 hv5 hv6 hv7 hv8 hv9 hv10
              have HS5 := Lib.hid (HS.out.call hb9)
              clear hb9 HS
              have x4 := HS5.out.cell 0 rfl 0 rfl
              have x5 := HS5.out.cell 0 rfl 1 rfl
              have x6 := HS5.out.cell 0 rfl 2 rfl
              have x7 := HS5.out.frozen 0 rfl 0
              have x8 := HS5.out.frozen 0 rfl 1
              have x9 := HS5.out.frozen 0 rfl 2
              have x10 := HS5.out.ne 0 1 rfl rfl (by decide)
              have x11 := HS5.out.ne 1 0 rfl rfl (by decide)
              have x12 := HS5.out.ne 0 2 rfl rfl (by decide)
              have x13 := HS5.out.ne 2 0 rfl rfl (by decide)
              go_wp2
              have HS6 : Hid (St w [⟨w4.heap.size, #[.bool (negB (z)), .string (bs (numB (z))), .string (bs (denomB (z)))], 23⟩, ⟨w.heap.size + 1, #[.bool false, .string (bs []), .string (bs [])], 23⟩, ⟨w.heap.size, #[.bool n, .string (bs a), .string (bs b)], 23⟩] _) := Lib.hid (St.set ((St.set ((St.set (HS5.out) 0 rfl 0 _)) 0 rfl 1 _)) 0 rfl 2 _)
              go_roundw
              case rel => exact ⟨k + 1, en, by omega, rfl, by show _ = _; rw [Int.natCast_add]; exact HEN.out, by omega, by omega, .inr (by rw [show ((k + 1 : Nat) : Int) - 1 = (k : Int) by omega]; have := HDD.out; omega), by show St _ _ _; rw [← HZZ.out]; exact HS6.out⟩
              case measure => simp [intOf]; omega
            · have d5 : decide (every < dst - dy) = false := decide_eq_false hes
              obtain rfl : dst = en := by have := HEN.out; have := HDD.out; have := HML.out; omega
              go_wp2
              refine wp_region_facts 11 [fun _ vv => vv = .agg #[.bool (negB (y)), .string (bs (numB (y))), .string (bs (denomB (y)))], fun _ vv => vv = .agg #[.bool (negB (y)), .string (bs (numB (y))), .string (bs (denomB (y)))], fun _ vv => vv = v, fun _ vv => vv = .int .i64 dy, fun _ vv => vv = .int .i64 dst, fun _ vv => vv = .agg #[.bool (negB (x)), .string (bs (numB (x))), .string (bs (denomB (x)))], fun _ vv => vv = .agg #[.bool (negB (mm)), .string (bs (numB (mm))), .string (bs (denomB (mm)))], fun _ vv => vv = .int .i64 base, fun _ vv => vv = .agg #[.bool (negB (br)), .string (bs (numB (br))), .string (bs (denomB (br)))], fun _ vv => vv = .agg #[.bool (negB (mo)), .string (bs (numB (mo))), .string (bs (denomB (mo)))], fun _ vv => vv = .agg #[.bool (negB (z)), .string (bs (numB (z))), .string (bs (denomB (z)))]] rfl (by kernel_rfl) (by kernel_rfl) (by kernel_rfl) ⟨fun _ _ _ h _ => h, fun _ _ _ h _ => h, fun _ _ _ h _ => h, fun _ _ _ h _ => h, fun _ _ _ h _ => h, fun _ _ _ h _ => h, fun _ _ _ h _ => h, fun _ _ _ h _ => h, fun _ _ _ h _ => h, fun _ _ _ h _ => h, fun _ _ _ h _ => h, trivial⟩ ?_ ?_
              refine ⟨?_, ?_, ?_, ?_, ?_, ?_, ?_, ?_, ?_, ?_, ?_, trivial⟩
              · intro xx af wv hbx hev hev0 hd
                have e15 : af.tmps[15]?.getD undef = .pointer (some ⟨w4.heap.size, 0, none⟩) := hev0 15 rfl
                clear hev hev0 hd
                have hs1 := Lib.hid (HS.out.call hbx)
                have y0 := hs1.out.cell 0 rfl 0 rfl
                have y1 := hs1.out.cell 0 rfl 1 rfl
                have y2 := hs1.out.cell 0 rfl 2 rfl
                go_wp2
                exact StepQ.mk _ (Below.refl _ _) rfl
              · intro xx af wv hbx hev hev0 hd
                have e15 : af.tmps[15]?.getD undef = .pointer (some ⟨w4.heap.size, 0, none⟩) := hev0 15 rfl
                clear hev hev0 hd
                have hs1 := Lib.hid (HS.out.call hbx)
                have y0 := hs1.out.cell 0 rfl 0 rfl
                have y1 := hs1.out.cell 0 rfl 1 rfl
                have y2 := hs1.out.cell 0 rfl 2 rfl
                go_wp2
                exact StepQ.mk _ (Below.refl _ _) rfl
              · intro xx af wv hbx hev hev0 hd
                have e1 : af.tmps[1]?.getD undef = v := hev0 1 rfl
                clear hev hev0 hd
                go_wp2
                exact StepQ.mk _ (Below.refl _ _) rfl
              · intro xx af wv hbx hev hev0 hd
                have e2 : af.tmps[2]?.getD undef = .int .i64 dy := hev0 2 rfl
                clear hev hev0 hd
                go_wp2
                exact StepQ.mk _ (Below.refl _ _) rfl
              · intro xx af wv hbx hev hev0 hd
                have e16 : af.tmps[16]?.getD undef = .int .i64 dst := hev0 16 rfl
                clear hev hev0 hd
                go_wp2
                exact StepQ.mk _ (Below.refl _ _) rfl
              · intro xx af wv hbx hev hev0 hd
                have e67 := hev 2 _ 67 rfl rfl
                have d2 : xx 2 = v := hd ⟨2, .data⟩ (by simp) rfl
                rw [d2] at e67
                clear d2
                have e68 := hev 3 _ 68 rfl rfl
                have d3 : xx 3 = .int .i64 dy := hd ⟨3, .data⟩ (by simp) rfl
                rw [d3] at e68
                clear d3
                have e69 := hev 4 _ 69 rfl rfl
                have d4 : xx 4 = .int .i64 dst := hd ⟨4, .data⟩ (by simp) rfl
                rw [d4] at e69
                clear d4
                clear hev hev0 hd
                have hs1 := Lib.hid (HS.out.call hbx)
                go_wp2_with fail
                refine (HB1.out _ hs1.out.below).mono ?_
                rintro e w8 ⟨rfl, hb8⟩
                go_wp2
                exact StepQ.mk _ hb8 rfl
              · intro xx af wv hbx hev hev0 hd
                have e66 := hev 1 _ 66 rfl rfl
                have d1 : xx 1 = .agg #[.bool (negB (y)), .string (bs (numB (y))), .string (bs (denomB (y)))] := hd ⟨1, .data⟩ (by simp) rfl
                rw [d1] at e66
                clear d1
                have e70 := hev 5 _ 70 rfl rfl
                have d5 : xx 5 = .agg #[.bool (negB (x)), .string (bs (numB (x))), .string (bs (denomB (x)))] := hd ⟨5, .data⟩ (by simp) rfl
                rw [d5] at e70
                clear d5
                clear hev hev0 hd
                go_wp2_with fail
                refine (HM1.out _).mono ?_
                rintro e w8 ⟨rfl, hb8⟩
                go_wp2
                exact StepQ.mk _ hb8 rfl
              · intro xx af wv hbx hev hev0 hd
                have e4 : af.tmps[4]?.getD undef = .int .i64 base := hev0 4 rfl
                clear hev hev0 hd
                go_wp2
                exact StepQ.mk _ (Below.refl _ _) rfl
              · intro xx af wv hbx hev hev0 hd
                have e72 := hev 7 _ 72 rfl rfl
                have d7 : xx 7 = .int .i64 base := hd ⟨7, .data⟩ (by simp) rfl
                rw [d7] at e72
                clear d7
                clear hev hev0 hd
                go_wp2_with fail
                refine (HI1.out _).mono ?_
                rintro e w8 ⟨rfl, hb8⟩
                go_wp2
                exact StepQ.mk _ hb8 rfl
              · intro xx af wv hbx hev hev0 hd
                have e71 := hev 6 _ 71 rfl rfl
                have d6 : xx 6 = .agg #[.bool (negB (mm)), .string (bs (numB (mm))), .string (bs (denomB (mm)))] := hd ⟨6, .data⟩ (by simp) rfl
                rw [d6] at e71
                clear d6
                have e73 := hev 8 _ 73 rfl rfl
                have d8 : xx 8 = .agg #[.bool (negB (br)), .string (bs (numB (br))), .string (bs (denomB (br)))] := hd ⟨8, .data⟩ (by simp) rfl
                rw [d8] at e73
                clear d8
                clear hev hev0 hd
                go_wp2_with fail
                refine (HO1.out _).mono ?_
                rintro e w8 ⟨rfl, hb8⟩
                go_wp2
                exact StepQ.mk _ hb8 rfl
              · intro xx af wv hbx hev hev0 hd
                have e65 := hev 0 _ 65 rfl rfl
                have d0 : xx 0 = .agg #[.bool (negB (y)), .string (bs (numB (y))), .string (bs (denomB (y)))] := hd ⟨0, .data⟩ (by simp) rfl
                rw [d0] at e65
                clear d0
                have e74 := hev 9 _ 74 rfl rfl
                have d9 : xx 9 = .agg #[.bool (negB (mo)), .string (bs (numB (mo))), .string (bs (denomB (mo)))] := hd ⟨9, .data⟩ (by simp) rfl
                rw [d9] at e74
                clear d9
                clear hev hev0 hd
                go_wp2_with fail
                refine (HP1.out _).mono ?_
                rintro e w8 ⟨rfl, hb8⟩
                go_wp2
                exact StepQ.mk _ hb8 rfl
              intro xx w5 hb9 hv
              have hv0 : xx 0 = .agg #[.bool (negB (y)), .string (bs (numB (y))), .string (bs (denomB (y)))] := hv 0 (by decide)
              have hv1 : xx 1 = .agg #[.bool (negB (y)), .string (bs (numB (y))), .string (bs (denomB (y)))] := hv 1 (by decide)
              have hv2 : xx 2 = v := hv 2 (by decide)
              have hv3 : xx 3 = .int .i64 dy := hv 3 (by decide)
              have hv4 : xx 4 = .int .i64 dst := hv 4 (by decide)
              have hv5 : xx 5 = .agg #[.bool (negB (x)), .string (bs (numB (x))), .string (bs (denomB (x)))] := hv 5 (by decide)
              have hv6 : xx 6 = .agg #[.bool (negB (mm)), .string (bs (numB (mm))), .string (bs (denomB (mm)))] := hv 6 (by decide)
              have hv7 : xx 7 = .int .i64 base := hv 7 (by decide)
              have hv8 : xx 8 = .agg #[.bool (negB (br)), .string (bs (numB (br))), .string (bs (denomB (br)))] := hv 8 (by decide)
              have hv9 : xx 9 = .agg #[.bool (negB (mo)), .string (bs (numB (mo))), .string (bs (denomB (mo)))] := hv 9 (by decide)
              have hv10 : xx 10 = .agg #[.bool (negB (z)), .string (bs (numB (z))), .string (bs (denomB (z)))] := hv 10 (by decide)
              clear hv
              simp only [List.take, List.drop, fillA, Act.put]
              simp only [hv0, hv1, hv2, hv3, hv4, hv5, hv6, hv7, hv8, hv9, hv10]
              clear hv0 hv1 hv2 hv3 hv4 hv5 hv6 hv7 hv8 hv9 hv10
              have HS5 := Lib.hid (HS.out.call hb9)
              clear hb9 HS
              have x4 := HS5.out.cell 0 rfl 0 rfl
              have x5 := HS5.out.cell 0 rfl 1 rfl
              have x6 := HS5.out.cell 0 rfl 2 rfl
              have x7 := HS5.out.frozen 0 rfl 0
              have x8 := HS5.out.frozen 0 rfl 1
              have x9 := HS5.out.frozen 0 rfl 2
              have x10 := HS5.out.ne 0 1 rfl rfl (by decide)
              have x11 := HS5.out.ne 1 0 rfl rfl (by decide)
              have x12 := HS5.out.ne 0 2 rfl rfl (by decide)
              have x13 := HS5.out.ne 2 0 rfl rfl (by decide)
              go_wp2
              have HS6 : Hid (St w [⟨w4.heap.size, #[.bool (negB (z)), .string (bs (numB (z))), .string (bs (denomB (z)))], 23⟩, ⟨w.heap.size + 1, #[.bool false, .string (bs []), .string (bs [])], 23⟩, ⟨w.heap.size, #[.bool n, .string (bs a), .string (bs b)], 23⟩] _) := Lib.hid (St.set ((St.set ((St.set (HS5.out) 0 rfl 0 _)) 0 rfl 1 _)) 0 rfl 2 _)
              go_roundw
              case rel => exact ⟨k + 1, dst, by omega, rfl, by show _ = _; rw [Int.natCast_add]; exact HEN.out, by omega, by omega, .inr (by rw [show ((k + 1 : Nat) : Int) - 1 = (k : Int) by omega]; have := HDD.out; omega), by show St _ _ _; rw [← HZZ.out]; exact HS6.out⟩
              case measure => simp [intOf]; omega
          · have hl2 : decide (dy < dst) = false := decide_eq_false hlt
            have hce := comp_end (l := l) (base := base) (every := every) (src := src) (dst := dst) (p := p) z5 (k := k) (by have := hdy.out; omega) hkk.out
            have hy0 := HCS.out k
            have hM := fun W => ref_Minus (compTo l base every src dst p k) p W (hy0.mono (by omega)) (HSP.out.mono (by decide))
            have HR := R.out
            rw [hce] at HR
            clear hce hy0
            obtain ⟨y, hyy⟩ : ∃ y, y = compTo l base every src dst p k := ⟨_, rfl⟩
            rw [← hyy] at hM HR
            have HS' := HS.out
            rw [← hyy] at HS'
            have HR := Lib.hid HR
            have HS2 := Lib.hid HS'
            clear HS' HS hyy
            obtain ⟨z, hzz⟩ : ∃ z, z = y - p := ⟨_, rfl⟩
            rw [← hzz] at hM
            have HZZ := Lib.hid hzz
            clear hzz
            unfold rat raw at hM
            have HM3 := Lib.hid hM
            clear hM
            go_wp2
            refine wp_region_facts 4 [fun _ vv => vv = .agg #[.bool (negB (y)), .string (bs (numB (y))), .string (bs (denomB (y)))], fun _ vv => vv = .agg #[.bool n, .string (bs a), .string (bs b)], fun _ vv => vv = .agg #[.bool (negB (p)), .string (bs (numB (p))), .string (bs (denomB (p)))], fun _ vv => vv = .agg #[.bool (negB (z)), .string (bs (numB (z))), .string (bs (denomB (z)))]] rfl (by kernel_rfl) (by kernel_rfl) (by kernel_rfl) ⟨fun _ _ _ h _ => h, fun _ _ _ h _ => h, fun _ _ _ h _ => h, fun _ _ _ h _ => h, trivial⟩ ?_ ?_
            refine ⟨?_, ?_, ?_, ?_, trivial⟩
            · intro xx af wv hbx hev hev0 hd
              have e15 : af.tmps[15]?.getD undef = .pointer (some ⟨w4.heap.size, 0, none⟩) := hev0 15 rfl
              clear hev hev0 hd
              have hs1 := Lib.hid (HS2.out.call hbx)
              have y0 := hs1.out.cell 0 rfl 0 rfl
              have y1 := hs1.out.cell 0 rfl 1 rfl
              have y2 := hs1.out.cell 0 rfl 2 rfl
              go_wp2
              exact StepQ.mk _ (Below.refl _ _) rfl
            · intro xx af wv hbx hev hev0 hd
              have e6 : af.tmps[6]?.getD undef = .pointer (some ⟨w.heap.size, 0, none⟩) := hev0 6 rfl
              clear hev hev0 hd
              have hs1 := Lib.hid (HS2.out.call hbx)
              have y0 := hs1.out.cell 2 rfl 0 rfl
              have y1 := hs1.out.cell 2 rfl 1 rfl
              have y2 := hs1.out.cell 2 rfl 2 rfl
              go_wp2
              exact StepQ.mk _ (Below.refl _ _) rfl
            · intro xx af wv hbx hev hev0 hd
              have e78 := hev 1 _ 78 rfl rfl
              have d1 : xx 1 = .agg #[.bool n, .string (bs a), .string (bs b)] := hd ⟨1, .data⟩ (by simp) rfl
              rw [d1] at e78
              clear d1
              clear hev hev0 hd
              go_wp2_with fail
              refine (HA0.out _).mono ?_
              rintro e w8 ⟨rfl, hb8⟩
              go_wp2
              exact StepQ.mk _ hb8 rfl
            · intro xx af wv hbx hev hev0 hd
              have e77 := hev 0 _ 77 rfl rfl
              have d0 : xx 0 = .agg #[.bool (negB (y)), .string (bs (numB (y))), .string (bs (denomB (y)))] := hd ⟨0, .data⟩ (by simp) rfl
              rw [d0] at e77
              clear d0
              have e79 := hev 2 _ 79 rfl rfl
              have d2 : xx 2 = .agg #[.bool (negB (p)), .string (bs (numB (p))), .string (bs (denomB (p)))] := hd ⟨2, .data⟩ (by simp) rfl
              rw [d2] at e79
              clear d2
              clear hev hev0 hd
              go_wp2_with fail
              refine (HM3.out _).mono ?_
              rintro e w8 ⟨rfl, hb8⟩
              go_wp2
              exact StepQ.mk _ hb8 rfl
            intro xx w5 hb9 hv
            have hv0 : xx 0 = .agg #[.bool (negB (y)), .string (bs (numB (y))), .string (bs (denomB (y)))] := hv 0 (by decide)
            have hv1 : xx 1 = .agg #[.bool n, .string (bs a), .string (bs b)] := hv 1 (by decide)
            have hv2 : xx 2 = .agg #[.bool (negB (p)), .string (bs (numB (p))), .string (bs (denomB (p)))] := hv 2 (by decide)
            have hv3 : xx 3 = .agg #[.bool (negB (z)), .string (bs (numB (z))), .string (bs (denomB (z)))] := hv 3 (by decide)
            clear hv
            simp only [List.take, List.drop, fillA, Act.put]
            simp only [hv0, hv1, hv2, hv3]
            clear hv0 hv1 hv2 hv3
            have HS5 := Lib.hid (HS2.out.call hb9)
            clear hb9 HS2
            have x4 := HS5.out.cell 1 rfl 0 rfl
            have x5 := HS5.out.cell 1 rfl 1 rfl
            have x6 := HS5.out.cell 1 rfl 2 rfl
            have x7 := HS5.out.frozen 1 rfl 0
            have x8 := HS5.out.frozen 1 rfl 1
            have x9 := HS5.out.frozen 1 rfl 2
            have x10 := HS5.out.ne 1 0 rfl rfl (by decide)
            have x11 := HS5.out.ne 0 1 rfl rfl (by decide)
            have x12 := HS5.out.ne 1 2 rfl rfl (by decide)
            have x13 := HS5.out.ne 2 1 rfl rfl (by decide)
            go_wp2
            have HS6 : Hid (St w [⟨w4.heap.size, #[.bool (negB (y)), .string (bs (numB (y))), .string (bs (denomB (y)))], 23⟩, ⟨w.heap.size + 1, #[.bool (negB (z)), .string (bs (numB (z))), .string (bs (denomB (z)))], 23⟩, ⟨w.heap.size, #[.bool n, .string (bs a), .string (bs b)], 23⟩] _) := Lib.hid (St.set ((St.set ((St.set (HS5.out) 1 rfl 0 _)) 1 rfl 1 _)) 1 rfl 2 _)
            refine bodyPost_ret (raw_result2 rfl _ _ _ _ _ _ rfl (HS6.out.blk 1 rfl)) rfl ?_
            rw [HR.out, ← HZZ.out]
            exact ⟨rfl, HS6.out.below⟩
  · have R := Lib.hid (K1 rfl h0)
    have hn0 : (m == 0) = false := by rw [beq_eq_false_iff_ne]; exact h0
    have hn1 : (m != 0) = true := by rw [bne, hn0]; rfl
    have HC := Lib.hid hC
    clear hC hA hm K0 K1 K2 K3 sp h hok hok' hA0
    go_enter Tryz.func13, Tryz.ntmps13
    have HS := Lib.hid (St.start w)
    go_wp2_with fail
    have HS2 : Hid (St w [⟨w.heap.size + 1, #[.bool false, .string (bs []), .string (bs [])], 23⟩, ⟨w.heap.size, #[.bool n, .string (bs a), .string (bs b)], 23⟩] _) := Lib.hid (St.alloc ((St.alloc (HS.out) #[.bool n, .string (bs a), .string (bs b)] 23 _ (by simp))) #[.bool false, .string (bs []), .string (bs [])] 23 _ (by simp))
    refine (HC.out _ HS2.out.below).mono ?_
    rintro e w3 ⟨rfl, hb3⟩
    have HS3 := Lib.hid (HS2.out.call hb3)
    clear hb3 HS HS2
    have x1 := HS3.out.cell 0 rfl 0 rfl
    have x2 := HS3.out.cell 0 rfl 1 rfl
    have x3 := HS3.out.cell 0 rfl 2 rfl
    have x4 := HS3.out.frozen 0 rfl 0
    have x5 := HS3.out.frozen 0 rfl 1
    have x6 := HS3.out.frozen 0 rfl 2
    have x7 := HS3.out.ne 0 1 rfl rfl (by decide)
    have x8 := HS3.out.ne 1 0 rfl rfl (by decide)
    go_wp2
    have HS4 : Hid (St w [⟨w.heap.size + 1, #[.bool false, .string (bs []), .string (bs [])], 23⟩, ⟨w.heap.size, #[.bool n, .string (bs a), .string (bs b)], 23⟩] _) := Lib.hid (St.set ((St.set ((St.set (HS3.out) 0 rfl 0 _)) 0 rfl 1 _)) 0 rfl 2 _)
    refine bodyPost_ret (raw_result2 rfl _ _ _ _ _ _ rfl (HS4.out.blk 0 rfl)) rfl ?_
    rw [R.out, rat_zero]
    exact ⟨rfl, HS4.out.below⟩
end Go.Proofs.YtakoagjpmdcddaaGreatDoor
