/-
Part 43 of the base.
-/
import Derived.Test.YtlkhoommpkndpaaGreatDoorKd42
import Derived.Test.YtlkhoommpkndpaaGreatDoorKd47
import Derived.Test.YtlkhoommpkndpaaGreatDoorKd48
set_option maxRecDepth 100000
set_option maxHeartbeats 8000000
namespace Go.Proofs.YtlkhoommpkndpaaGreatDoor
open Go.RowKit
theorem ent_neq2 (x y : Ent) (hx : x.fit) (hy : y.fit) : ∃ b, (x = y → b = false) ∧ ∀ w : World, (binOp .neq 63 (entV x) (entV y)).run Tryz.prog w = .ok (.bool b) w := by
 by_cases h : x = y
 ·subst h
  exact ⟨false, fun _ => rfl, fun w => ent_neq x hx w⟩
 ·obtain ⟨k, hk⟩ := ent_key x hx
  obtain ⟨k2, hk2⟩ := ent_key y hy
  by_cases hkk : k = k2
  ·refine ⟨false, fun e => absurd e h, fun w => ?_⟩
   obtain ⟨r, hr, hiff⟩ := run_equal_deep w (m := 5) (by omega) ent_deep ent_wide hk hk2
   have hry : r = true := hiff.2 hkk
   subst hry
   unfold entV at hr ⊢
   simp only [binOp]
   simp [hr, Result.andThen]
  ·refine ⟨true, fun e => absurd e h, fun w => ?_⟩
   obtain ⟨r, hr, hiff⟩ := run_equal_deep w (m := 5) (by omega) ent_deep ent_wide hk hk2
   have hry : r = false := by
    cases r
    ·rfl
    ·exact absurd (hiff.1 rfl) hkk
   subst hry
   unfold entV at hr ⊢
   simp only [binOp]
   simp [hr, Result.andThen]
theorem day_range {d : Int} (h : dayB d = true) : 0 ≤ d ∧ d ≤ 1048576 := by
 unfold dayB at h
 simpa using h
theorem foldA_day {qs : List Quo} : ∀ (acts : List ActN) (s : Rgs × Int), (0 ≤ s.1.day ∧ s.1.day ≤ 1048576) → 0 ≤ (acts.foldl (stepA qs) s).1.day ∧ (acts.foldl (stepA qs) s).1.day ≤ 1048576
 | [], _, hs => hs
 | a :: t, s, hs => by
  rw [List.foldl_cons]
  refine foldA_day t _ ?_
  unfold stepA
  split
  ·exact hs
  ·rename_i h
   have h0 := Classical.not_not.1 h
   dsimp only
   rw [(apply_same h0).2.2]
   exact day_range (applyR_cases h0).1.2.1
theorem runA_day (cut bar : Nat) (acts : List ActN) (qs : List Quo) : 0 ≤ (runA cut bar acts qs).day ∧ (runA cut bar acts qs).day ≤ 1048576 := by
 unfold runA
 refine foldA_day _ _ ?_
 have h0 : (newR (cut % 60 : Nat) (bar % 90 : Nat)).1.day = 0 := by unfold newR; split <;> rfl
 rw [h0]
 decide
theorem law_RegisterNarrows (n0 n1 : Int) (v : Value) (acts : List ActN) (v2 : Value) (ts : List Tri) (a : ActN) (w : World) (h0 : 0 ≤ n0 ∧ n0 ≤ 255) (h1 : 0 ≤ n1 ∧ n1 ≤ 255) (hA : ActsL w v acts) (hok : ∀ a ∈ acts, a.ok) (hT : Tris w v2 ts) (htok : ∀ t ∈ ts, t.ok) (ha : a.ok) :
  Calls Tryz.prog 8 #[.int .u8 n0, .int .u8 n1, v, v2, .agg #[.int .u8 (a.kind : Nat), .int .u8 (a.pass : Nat), .int .u8 (a.claim : Nat), .int .u16 (a.am : Nat), .int .u16 (a.p.a : Nat), .int .u16 (a.p.b : Nat), .int .u16 (a.p.c : Nat), .int .u16 (a.p.d : Nat), .int .u16 (a.p.e : Nat), .int .u16 (a.p.f : Nat)]] w fun e w' => e = .returned (.bool true) ∧ Below w.heap.size w w' := by
 obtain ⟨cut, rfl⟩ : ∃ k : Nat, n0 = k := ⟨n0.toNat, by omega⟩
 obtain ⟨bar, rfl⟩ : ∃ k : Nat, n1 = k := ⟨n1.toNat, by omega⟩
 have hW := fun W => law10_awake W
 have lo := quotesR_low htok
 have ok := quotesR_ok htok
 have hQ := fun W (hb : Below w.heap.size w W) => law10_quotes v2 ts W (hT.below hb) htok
 have hR := fun q W (hb : Below w.heap.size w W) (hq : Quotes W q (quotesR ts)) => law10_run cut bar v q acts (quotesR ts) W (by omega) (by omega) (hA.below hb) hok hq ok lo
 have hcl := runA_cl (cut := cut) (bar := bar) hok lo
 have hgood : (runA cut bar acts (quotesR ts)).good ∧ (runA cut bar acts (quotesR ts)).es.length ≤ 40 := by
  by_cases h40 : acts.length ≤ 40
  ·rw [← runK_end (k := acts.length) (.inl ⟨rfl, h40⟩)]
   obtain ⟨g1, g2, _⟩ := runK_good (cut := cut) (bar := bar) hok lo acts.length h40
   exact ⟨g1, g2⟩
  ·rw [← runK_end (k := 40) (.inr rfl)]
   obtain ⟨g1, g2, _⟩ := runK_good (cut := cut) (bar := bar) hok lo 40 (by omega)
   exact ⟨g1, g2⟩
 have hday := runA_day cut bar acts (quotesR ts)
 obtain ⟨d, hd⟩ : ∃ d, d = (runA cut bar acts (quotesR ts)).day + (a.pass : Int) % 4 := ⟨_, rfl⟩
 have hE := fun W => law10_event a d W ha
 have hmd := evOf_mid ha d
 have hAp := fun sl q W (hs : EntsL W sl (runA cut bar acts (quotesR ts)).es) (hq : Quotes W q (quotesR ts)) => apply_call (v := sl) (qv := q) hgood.1 (by omega) hmd ok lo W hs hq
 have hnar := fun h => apply_narrows (e := evOf a d) (qs := quotesR ts) hgood.1.1 h
 have herr := fun h => applyR_err (r := runA cut bar acts (quotesR ts)) (e := evOf a d) (qs := quotesR ts) h
 have hmy := apply_mid (e := evOf a d) hgood.1.2 hmd lo
 generalize runA cut bar acts (quotesR ts) = r at *
 generalize quotesR ts = qs at *
 generalize evOf a d = e at *
 generalize applyR r e qs = ans at *
 have hl40 := hgood.2
 have i3 : IntKind.i64.wrap ((a.pass : Int) % 4) = (a.pass : Int) % 4 := IntWalk.i64_in _ (by omega)
 have t3 : Int.tmod (a.pass : Int) 4 = (a.pass : Int) % 4 := Int.tmod_eq_emod_of_nonneg (by omega)
 have u3 : IntKind.u8.wrap ((a.pass : Int) % 4) = (a.pass : Int) % 4 := by rw [IntKind.wrap_u8]; omega
 have i4 : IntKind.i64.wrap (r.day + (a.pass : Int) % 4) = d := by rw [← hd]; exact IntWalk.i64_in _ (by omega)
 have i5 : IntKind.i64.wrap ((r.es.length : Int) + 1) = ((r.es.length + 1 : Nat) : Int) := by rw [IntWalk.i64_in _ (by omega)]; rfl
 have HW := Lib.hid hW
 have HQ := Lib.hid hQ
 have HR := Lib.hid hR
 have HEV := Lib.hid hE
 have HAP := Lib.hid hAp
 have HNAR := Lib.hid hnar
 have HERR := Lib.hid herr
 have HMX := Lib.hid hgood.1.2
 have HMY := Lib.hid hmy
 have HI5 := Lib.hid i5
 clear hW hQ hR hgood hcl lo ok hA hok hT htok h0 h1 hE hAp ha hmd hnar herr hmy hday hd i5 hl40
 go_enter Tryz.func8, Tryz.ntmps8
 have HS := Lib.hid (St.start w)
 go_wp2_with fail
 have HS2 := Lib.hid (St.alloc (HS.out) #[.int .u8 (a.kind : Nat), .int .u8 (a.pass : Nat), .int .u8 (a.claim : Nat), .int .u16 (a.am : Nat), .int .u16 (a.p.a : Nat), .int .u16 (a.p.b : Nat), .int .u16 (a.p.c : Nat), .int .u16 (a.p.d : Nat), .int .u16 (a.p.e : Nat), .int .u16 (a.p.f : Nat)] 54 (w.heap.size) (by simp))
 refine (HQ.out _ HS2.out.below).mono ?_
 rintro e w3 ⟨v3, rfl, hl3, hb3⟩
 have HS3 := Lib.hid (HS2.out.call hb3)
 have Z_3 := Lib.hid hl3
 clear hl3 hb3 HS HS2
 go_wp2_with fail
 refine (HR.out _ _ HS3.out.below Z_3.out).mono ?_
 rintro e w4 ⟨v4, m4, rfl, hG4, hb4⟩
 obtain ⟨A4, c4, hv4, _, _⟩ := (Slc.of_own ent_len hG4 rfl).slice
 subst hv4
 have hE4 := Slc.of_own ent_len hG4 rfl
 have HS4 := Lib.hid (HS3.out.call hb4)
 have Z_4 := Lib.hid (Z_3.out.below hb4)
 clear Z_3
 have E_4 := Lib.hid hE4
 clear hE4 hb4 HS3
 have hb9 := HS4.out.blk 0 rfl
 have H9 := Lib.hid (fun w' (hb : Below w4.heap.size w4 w') i u (hu : ([.int .u8 (a.kind : Nat), .int .u8 (a.pass : Nat), .int .u8 (a.claim : Nat), .int .u16 (a.am : Nat), .int .u16 (a.p.a : Nat), .int .u16 (a.p.b : Nat), .int .u16 (a.p.c : Nat), .int .u16 (a.p.d : Nat), .int .u16 (a.p.e : Nat), .int .u16 (a.p.f : Nat)] : List Value)[i]? = some u) => (hb9.below hb hb9.lt).cell i u (by rw [← Array.getElem?_toList]; exact hu))
 have l9 := hb9.lt
 clear hb9
 have HB0 := Lib.hid HS4.out.below
 clear HS4
 have HT4 := Lib.hid (St.start w4)
 have HZ := Z_4.out
 have HZ := Lib.hid HZ
 clear Z_4
 have HE := E_4.out
 have HE := Lib.hid HE
 clear E_4
 go_wp2
 refine wp_ren (p := fun W => St w4 [⟨w4.heap.size, #[.int .i64 r.cut, .int .i64 r.bar, .int .i64 r.day, .slice A4 r.es.length c4], 24⟩] W) ((St.alloc (HT4.out) #[.int .i64 r.cut, .int .i64 r.bar, .int .i64 r.day, .slice A4 r.es.length c4] 24 (w4.heap.size) (by simp))) ?_
 intro wg5 hb
 have HT5 := Lib.hid hb
 clear hb HT4 
 have HLT := Lib.hid (fun r hr => (HT5.out.ok r hr).1.lt)
 have HL0 := Lib.hid HT5.out.below.size
 refine wp_region_mixC 17 16 15 [12, 14] [eQ (.agg #[.int .i64 r.cut, .int .i64 r.bar, .int .i64 r.day, .slice A4 r.es.length c4]), eQ (.agg #[.int .u8 (a.kind : Nat), .int .u8 (a.pass : Nat), .int .u8 (a.claim : Nat), .int .u16 (a.am : Nat), .int .u16 (a.p.a : Nat), .int .u16 (a.p.b : Nat), .int .u16 (a.p.c : Nat), .int .u16 (a.p.d : Nat), .int .u16 (a.p.e : Nat), .int .u16 (a.p.f : Nat)]), eQ (.pointer (some ⟨w4.heap.size, 2, none⟩)), eQ (.int .i64 r.day), eQ (.pointer (some ⟨w.heap.size, 1, none⟩)), eQ (.int .u8 (a.pass : Nat)), eQ (.int .u8 ((a.pass : Int) % 4)), eQ (.int .i64 ((a.pass : Int) % 4)), eQ (.int .i64 d), eQ (.agg #[.int .i64 e.kind, .int .i64 e.day, .string (bs e.id), .bool e.am.n, .string (bs e.am.a), .string (bs e.am.b), .int .i64 e.cre, .string (bs e.p.id), .int .i64 e.p.est, .int .i64 e.p.cre, .string (bs e.p.code), .bool e.p.an, .string (bs e.p.aa), .string (bs e.p.ab), .int .i64 e.p.inc, .int .i64 e.p.rank, .bool e.p.rn, .string (bs e.p.ra), .string (bs e.p.rb), .int .i64 e.p.rf, .int .i64 e.p.sec]), eQ (v3), fun ww vv => ∃ A c, vv = Value.tuple #[Value.agg #[.int .i64 ans.1.cut, .int .i64 ans.1.bar, .int .i64 ans.1.day, .slice A ans.1.es.length c], .int .i64 ans.2] ∧ Grows ww w4.heap.size 63 30 (.slice A ans.1.es.length c) ans.1.es.length (flat Ent.enc ans.1.es), fun ww vv => ∃ A c, vv = Value.tuple #[Value.agg #[.int .i64 ans.1.cut, .int .i64 ans.1.bar, .int .i64 ans.1.day, .slice A ans.1.es.length c], .int .i64 ans.2] ∧ Grows ww w4.heap.size 63 30 (.slice A ans.1.es.length c) ans.1.es.length (flat Ent.enc ans.1.es), fun ww vv => ∃ A c, vv = Value.agg #[.int .i64 ans.1.cut, .int .i64 ans.1.bar, .int .i64 ans.1.day, .slice A ans.1.es.length c] ∧ Grows ww w4.heap.size 63 30 (.slice A ans.1.es.length c) ans.1.es.length (flat Ent.enc ans.1.es), fun ww vv => vv = .int .i64 ans.2, fun ww vv => ∃ g, vv = Value.pointer (some ⟨g, 0, none⟩) ∧ wg5.heap.size ≤ g ∧ Blk ww g #[.int .i64 0, .int .i64 0, .int .i64 0, .slice none 0 0] 24, fun ww vv => True] (fun wv => Hid (St w4 [⟨w4.heap.size, #[.int .i64 r.cut, .int .i64 r.bar, .int .i64 r.day, .slice A4 r.es.length c4], 24⟩] wv) ∧ Hid (Bnd wg5.heap.size wv)) (AppI w4 [⟨w4.heap.size, #[.int .i64 r.cut, .int .i64 r.bar, .int .i64 r.day, .slice A4 r.es.length c4], 24⟩] (.int .i64 ans.1.cut) (.int .i64 ans.1.bar) (.int .i64 ans.1.day) w4.heap.size (ans.1.es.length) (ans.1.es) (fun W => True)) (by kernel_rfl) (by decide) (by decide) rfl (by kernel_rfl) (by kernel_rfl) (by kernel_rfl) (by decide) (by decide) (phi_stable ?_) (fun _ _ h hb => ⟨Lib.hid (h.1.out.call hb), Lib.hid (Bnd.below h.2.out hb)⟩) (fun _ _ _ hh hb => hh.below hb (fun _ _ hp _ => hp)) ⟨Lib.hid HT5.out.drew, Lib.hid (show Bnd wg5.heap.size wg5.drew from Nat.le_refl _)⟩ ?_ ?_
 ·intro φ hφ
  rcases List.mem_cons.1 hφ with rfl | hφ
  ·exact fun _ _ _ h _ => h
  rcases List.mem_cons.1 hφ with rfl | hφ
  ·exact fun _ _ _ h _ => h
  rcases List.mem_cons.1 hφ with rfl | hφ
  ·exact fun _ _ _ h _ => h
  rcases List.mem_cons.1 hφ with rfl | hφ
  ·exact fun _ _ _ h _ => h
  rcases List.mem_cons.1 hφ with rfl | hφ
  ·exact fun _ _ _ h _ => h
  rcases List.mem_cons.1 hφ with rfl | hφ
  ·exact fun _ _ _ h _ => h
  rcases List.mem_cons.1 hφ with rfl | hφ
  ·exact fun _ _ _ h _ => h
  rcases List.mem_cons.1 hφ with rfl | hφ
  ·exact fun _ _ _ h _ => h
  rcases List.mem_cons.1 hφ with rfl | hφ
  ·exact fun _ _ _ h _ => h
  rcases List.mem_cons.1 hφ with rfl | hφ
  ·exact fun _ _ _ h _ => h
  rcases List.mem_cons.1 hφ with rfl | hφ
  ·exact fun _ _ _ h _ => h
  rcases List.mem_cons.1 hφ with rfl | hφ
  ·exact fun _ _ _ ⟨A, c, h, hg⟩ hb => ⟨A, c, h, Grows.below hg hb⟩
  rcases List.mem_cons.1 hφ with rfl | hφ
  ·exact fun _ _ _ ⟨A, c, h, hg⟩ hb => ⟨A, c, h, Grows.below hg hb⟩
  rcases List.mem_cons.1 hφ with rfl | hφ
  ·exact fun _ _ _ ⟨A, c, h, hg⟩ hb => ⟨A, c, h, Grows.below hg hb⟩
  rcases List.mem_cons.1 hφ with rfl | hφ
  ·exact fun _ _ _ h _ => h
  rcases List.mem_cons.1 hφ with rfl | hφ
  ·exact fun _ _ _ ⟨g, h, hg, hB⟩ hb => ⟨g, h, hg, hB.below hb hB.lt⟩
  rcases List.mem_cons.1 hφ with rfl | hφ
  ·exact fun _ _ _ h _ => h
  cases hφ
 ·refine ⟨?_, ?_, ?_, ?_, ?_, ?_, ?_, ?_, ?_, ?_, ?_, ?_, ?_, ?_, ?_, ?_, ?_, trivial⟩
  ·intro xx af wv h0 hev hev0 hd
   have e12 : af.tmps[12]?.getD undef = .pointer (some ⟨w4.heap.size, 0, none⟩) := hev0 12 rfl
   rw [if_neg (by decide)]
   obtain ⟨hs1, hbnd⟩ := h0 (by kernel_rfl)
   clear hev hev0 hd h0
   obtain ⟨y0, y1, y2⟩ := hs1.out.k0 0 rfl rfl rfl rfl
   have y3 := cC hs1 0 3
   go_wp2
   exact sQ rfl
  ·intro xx af wv h0 hev hev0 hd
   have e9 : af.tmps[9]?.getD undef = .pointer (some ⟨w.heap.size, 0, none⟩) := hev0 9 rfl
   rw [if_neg (by decide)]
   obtain ⟨hs1, hbnd⟩ := h0 (by kernel_rfl)
   clear hev hev0 hd h0
   have yx0 := H9.out _ hs1.out.below 0 _ rfl
   have yx1 := H9.out _ hs1.out.below 1 _ rfl
   have yx2 := H9.out _ hs1.out.below 2 _ rfl
   have yx3 := H9.out _ hs1.out.below 3 _ rfl
   have yx4 := H9.out _ hs1.out.below 4 _ rfl
   have yx5 := H9.out _ hs1.out.below 5 _ rfl
   have yx6 := H9.out _ hs1.out.below 6 _ rfl
   have yx7 := H9.out _ hs1.out.below 7 _ rfl
   have yx8 := H9.out _ hs1.out.below 8 _ rfl
   have yx9 := H9.out _ hs1.out.below 9 _ rfl
   go_wp2
   exact sQ rfl
  ·intro xx af wv h0 hev hev0 hd
   have e12 : af.tmps[12]?.getD undef = .pointer (some ⟨w4.heap.size, 0, none⟩) := hev0 12 rfl
   rw [if_neg (by decide)]
   clear hev hev0 hd h0
   go_wp2
   exact sQ rfl
  ·intro xx af wv h0 hev hev0 hd
   have e34 := hev 2 _ 34 rfl rfl
   have d2 : xx 2 = .pointer (some ⟨w4.heap.size, 2, none⟩) := hd ⟨2, .data⟩ (by simp) rfl (by decide) (.inr (.inl (by kernel_rfl)))
   rw [d2] at e34
   clear d2
   rw [if_neg (by decide)]
   obtain ⟨hs1, hbnd⟩ := h0 (by kernel_rfl)
   clear hev hev0 hd h0
   have y0 := cC hs1 0 2
   go_wp2
   exact sQ rfl
  ·intro xx af wv h0 hev hev0 hd
   have e9 : af.tmps[9]?.getD undef = .pointer (some ⟨w.heap.size, 0, none⟩) := hev0 9 rfl
   rw [if_neg (by decide)]
   clear hev hev0 hd h0
   go_wp2
   exact sQ rfl
  ·intro xx af wv h0 hev hev0 hd
   have e36 := hev 4 _ 36 rfl rfl
   have d4 : xx 4 = .pointer (some ⟨w.heap.size, 1, none⟩) := hd ⟨4, .data⟩ (by simp) rfl (by decide) (.inr (.inl (by kernel_rfl)))
   rw [d4] at e36
   clear d4
   rw [if_neg (by decide)]
   obtain ⟨hs1, hbnd⟩ := h0 (by kernel_rfl)
   clear hev hev0 hd h0
   have yx0 := H9.out _ hs1.out.below 1 _ rfl
   go_wp2
   exact sQ rfl
  ·intro xx af wv h0 hev hev0 hd
   have e37 := hev 5 _ 37 rfl rfl
   have d5 : xx 5 = .int .u8 (a.pass : Nat) := hd ⟨5, .data⟩ (by simp) rfl (by decide) (.inr (.inl (by kernel_rfl)))
   rw [d5] at e37
   clear d5
   rw [if_neg (by decide)]
   clear hev hev0 hd h0
   go_wp2
   exact sQ rfl
  ·intro xx af wv h0 hev hev0 hd
   have e38 := hev 6 _ 38 rfl rfl
   have d6 : xx 6 = .int .u8 ((a.pass : Int) % 4) := hd ⟨6, .data⟩ (by simp) rfl (by decide) (.inr (.inl (by kernel_rfl)))
   rw [d6] at e38
   clear d6
   rw [if_neg (by decide)]
   clear hev hev0 hd h0
   go_wp2
   exact sQ rfl
  ·intro xx af wv h0 hev hev0 hd
   have e35 := hev 3 _ 35 rfl rfl
   have d3 : xx 3 = .int .i64 r.day := hd ⟨3, .data⟩ (by simp) rfl (by decide) (.inr (.inl (by kernel_rfl)))
   rw [d3] at e35
   clear d3
   have e39 := hev 7 _ 39 rfl rfl
   have d7 : xx 7 = .int .i64 ((a.pass : Int) % 4) := hd ⟨7, .data⟩ (by simp) rfl (by decide) (.inr (.inl (by kernel_rfl)))
   rw [d7] at e39
   clear d7
   rw [if_neg (by decide)]
   clear hev hev0 hd h0
   go_wp2
   exact sQ rfl
  ·intro xx af wv h0 hev hev0 hd
   have e33 := hev 1 _ 33 rfl rfl
   have d1 : xx 1 = .agg #[.int .u8 (a.kind : Nat), .int .u8 (a.pass : Nat), .int .u8 (a.claim : Nat), .int .u16 (a.am : Nat), .int .u16 (a.p.a : Nat), .int .u16 (a.p.b : Nat), .int .u16 (a.p.c : Nat), .int .u16 (a.p.d : Nat), .int .u16 (a.p.e : Nat), .int .u16 (a.p.f : Nat)] := hd ⟨1, .data⟩ (by simp) rfl (by decide) (.inr (.inl (by kernel_rfl)))
   rw [d1] at e33
   clear d1
   have e40 := hev 8 _ 40 rfl rfl
   have d8 : xx 8 = .int .i64 d := hd ⟨8, .data⟩ (by simp) rfl (by decide) (.inr (.inl (by kernel_rfl)))
   rw [d8] at e40
   clear d8
   rw [if_neg (by decide)]
   obtain ⟨hs1, hbnd⟩ := h0 (by kernel_rfl)
   clear hev hev0 hd h0
   go_wp2_with fail
   refine (HEV.out _).mono ?_
   rintro e w8 ⟨rfl, hb8⟩
   go_wp2
   exact StepQ.mk _ hb8 rfl
  ·intro xx af wv h0 hev hev0 hd
   have e11 : af.tmps[11]?.getD undef = v3 := hev0 11 rfl
   rw [if_neg (by decide)]
   clear hev hev0 hd h0
   go_wp2
   exact sQ rfl
  ·intro xx af wv h0 hev hev0 hd
   have e32 := hev 0 _ 32 rfl rfl
   have d0 : xx 0 = .agg #[.int .i64 r.cut, .int .i64 r.bar, .int .i64 r.day, .slice A4 r.es.length c4] := hd ⟨0, .data⟩ (by simp) rfl (by decide) (.inr (.inl (by kernel_rfl)))
   rw [d0] at e32
   clear d0
   have e41 := hev 9 _ 41 rfl rfl
   have d9 : xx 9 = .agg #[.int .i64 e.kind, .int .i64 e.day, .string (bs e.id), .bool e.am.n, .string (bs e.am.a), .string (bs e.am.b), .int .i64 e.cre, .string (bs e.p.id), .int .i64 e.p.est, .int .i64 e.p.cre, .string (bs e.p.code), .bool e.p.an, .string (bs e.p.aa), .string (bs e.p.ab), .int .i64 e.p.inc, .int .i64 e.p.rank, .bool e.p.rn, .string (bs e.p.ra), .string (bs e.p.rb), .int .i64 e.p.rf, .int .i64 e.p.sec] := hd ⟨9, .data⟩ (by simp) rfl (by decide) (.inr (.inl (by kernel_rfl)))
   rw [d9] at e41
   clear d9
   have e42 := hev 10 _ 42 rfl rfl
   have d10 : xx 10 = v3 := hd ⟨10, .data⟩ (by simp) rfl (by decide) (.inr (.inl (by kernel_rfl)))
   rw [d10] at e42
   clear d10
   rw [if_neg (by decide)]
   obtain ⟨hs1, hbnd⟩ := h0 (by kernel_rfl)
   clear hev hev0 hd h0
   go_wp2_with fail
   refine (HAP.out _ _ _ (HE.out.below hs1.out.below) (HZ.out.below hs1.out.below)).mono ?_
   rintro e w8 ⟨v8, rfl, hG8, hb8⟩
   obtain ⟨A8, c8, hv8, _, _⟩ := (Slc.of_own ent_len hG8 rfl).slice
   subst hv8
   have hl8 : ∃ A c, (Value.tuple #[Value.agg #[.int .i64 ans.1.cut, .int .i64 ans.1.bar, .int .i64 ans.1.day, .slice A8 ans.1.es.length c8], .int .i64 ans.2]) = Value.tuple #[Value.agg #[.int .i64 ans.1.cut, .int .i64 ans.1.bar, .int .i64 ans.1.day, .slice A ans.1.es.length c], .int .i64 ans.2] ∧ Grows w8 w4.heap.size 63 30 (.slice A ans.1.es.length c) ans.1.es.length (flat Ent.enc ans.1.es) := ⟨A8, c8, rfl, Grows.base hG8 hs1.out.below.size⟩
   go_wp2
   exact StepQ.mk _ hb8 hl8
  ·intro xx af wv h0 hev hev0 hd
   have e43 := hev 11 _ 43 rfl rfl
   have d11 : ∃ A c, (xx 11) = Value.tuple #[Value.agg #[.int .i64 ans.1.cut, .int .i64 ans.1.bar, .int .i64 ans.1.day, .slice A ans.1.es.length c], .int .i64 ans.2] ∧ Grows wv w4.heap.size 63 30 (.slice A ans.1.es.length c) ans.1.es.length (flat Ent.enc ans.1.es) := hd ⟨11, .data⟩ (by simp) rfl (by decide) (.inr (.inl (by kernel_rfl)))
   rw [if_neg (by decide)]
   obtain ⟨hs1, hbnd⟩ := h0 (by kernel_rfl)
   clear hev hev0 hd h0
   obtain ⟨A8, c8, hx8, hG8⟩ := d11
   rw [hx8] at e43
   go_wp2
   exact StepQ.mk _ (Below.refl _ _) ⟨A8, c8, rfl, hG8⟩
  ·intro xx af wv h0 hev hev0 hd
   have e31 := hev 12 _ 31 rfl rfl
   have d12 : ∃ A c, (xx 12) = Value.tuple #[Value.agg #[.int .i64 ans.1.cut, .int .i64 ans.1.bar, .int .i64 ans.1.day, .slice A ans.1.es.length c], .int .i64 ans.2] ∧ Grows wv w4.heap.size 63 30 (.slice A ans.1.es.length c) ans.1.es.length (flat Ent.enc ans.1.es) := hd ⟨12, .data⟩ (by simp) rfl (by decide) (.inr (.inl (by kernel_rfl)))
   rw [if_neg (by decide)]
   obtain ⟨hs1, hbnd⟩ := h0 (by kernel_rfl)
   clear hev hev0 hd h0
   obtain ⟨A8, c8, hx8, hG8⟩ := d12
   rw [hx8] at e31
   go_wp2
   exact StepQ.mk _ (Below.refl _ _) ⟨A8, c8, rfl, hG8⟩
  ·intro xx af wv h0 hev hev0 hd
   have e31 := hev 12 _ 31 rfl rfl
   have d12 : ∃ A c, (xx 12) = Value.tuple #[Value.agg #[.int .i64 ans.1.cut, .int .i64 ans.1.bar, .int .i64 ans.1.day, .slice A ans.1.es.length c], .int .i64 ans.2] ∧ Grows wv w4.heap.size 63 30 (.slice A ans.1.es.length c) ans.1.es.length (flat Ent.enc ans.1.es) := hd ⟨12, .data⟩ (by simp) rfl (by decide) (.inr (.inr (by decide)))
   rw [if_neg (by decide)]
   clear hev hev0 hd h0
   obtain ⟨A8, c8, hx8, hG8⟩ := d12
   rw [hx8] at e31
   go_wp2
   exact sQ rfl
  ·intro xx af wv h0 hev hev0 hd
   rw [if_neg (by decide)]
   obtain ⟨hs1, hbnd⟩ := h0 (by kernel_rfl)
   clear hev hev0 hd h0
   go_wp2
   exact StepQ.mk _ (Ext.alloc (Below.refl _ _) _) ⟨_, rfl, hbnd.out, Blk.new _ _ _⟩
  ·intro xx af wv h0 hev hev0 hd
   have e14 := hev 15 _ 14 rfl rfl
   have d15 : ∃ g, (xx 15) = Value.pointer (some ⟨g, 0, none⟩) ∧ wg5.heap.size ≤ g ∧ Blk wv g #[.int .i64 0, .int .i64 0, .int .i64 0, .slice none 0 0] 24 := hd ⟨15, .data⟩ (by simp) rfl (by decide) (.inl rfl)
   have e44 := hev 13 _ 44 rfl rfl
   have d13 : ∃ A c, (xx 13) = Value.agg #[.int .i64 ans.1.cut, .int .i64 ans.1.bar, .int .i64 ans.1.day, .slice A ans.1.es.length c] ∧ Grows wv w4.heap.size 63 30 (.slice A ans.1.es.length c) ans.1.es.length (flat Ent.enc ans.1.es) := hd ⟨13, .data⟩ (by simp) rfl (by decide) (.inl rfl)
   clear hev hev0 hd h0
   rw [if_pos rfl]
   intro hI0
   obtain ⟨hs1, hbnd⟩ := hI0
   obtain ⟨g8, hxg, hge, hBk⟩ := d15
   rw [hxg] at e14
   have HXG := Lib.hid hxg
   clear hxg
   obtain ⟨A8, c8, hx8, hG8⟩ := d13
   rw [hx8] at e44
   have h1 := St.addNew hs1.out hBk HLT.out hge HL0.out
   have f0 := h1.frozen 0 rfl 0
   have f1 := h1.frozen 0 rfl 1
   have f2 := h1.frozen 0 rfl 2
   have f3 := h1.frozen 0 rfl 3
   have y0 := h1.cell 0 rfl 0 rfl
   have y1 := h1.cell 0 rfl 1 rfl
   have y2 := h1.cell 0 rfl 2 rfl
   have y3 := h1.cell 0 rfl 3 rfl
   have s0 := St.set h1 0 rfl 0 (.int .i64 ans.1.cut)
   have s1 := St.set s0 0 rfl 1 (.int .i64 ans.1.bar)
   have s2 := St.set s1 0 rfl 2 (.int .i64 ans.1.day)
   have s3 := St.set s2 0 rfl 3 (.slice A8 ans.1.es.length c8)
   have gw0 := Grows.setCell (j := 0) hG8 (h1.blk 0 rfl) (.int .i64 ans.1.cut)
   have gw1 := Grows.setCell (j := 1) gw0 (s0.blk 0 rfl) (.int .i64 ans.1.bar)
   have gw2 := Grows.setCell (j := 2) gw1 (s1.blk 0 rfl) (.int .i64 ans.1.day)
   have gw3 := Grows.setCell (j := 3) gw2 (s2.blk 0 rfl) (.slice A8 ans.1.es.length c8)
   go_wp2
   refine StepM.mk ⟨g8, A8, c8, HXG.out, Lib.hid s3, Lib.hid gw3, Lib.hid trivial⟩ (fun j hj u hu => ?_)
   rcases List.mem_cons.1 hj with rfl | hj
   ·obtain ⟨A9, c9, hu9, hG9⟩ := hu
    have gx0 := Grows.setCell (j := 0) hG9 (h1.blk 0 rfl) (.int .i64 ans.1.cut)
    have gx1 := Grows.setCell (j := 1) gx0 (s0.blk 0 rfl) (.int .i64 ans.1.bar)
    have gx2 := Grows.setCell (j := 2) gx1 (s1.blk 0 rfl) (.int .i64 ans.1.day)
    have gx3 := Grows.setCell (j := 3) gx2 (s2.blk 0 rfl) (.slice A8 ans.1.es.length c8)
    exact ⟨A9, c9, hu9, gx3⟩
   rcases List.mem_cons.1 hj with rfl | hj
   ·exact hu
   cases hj
 intro xx w6 hI hv
 obtain ⟨g6, A6, c6, hxC, hS9, hG9, hP9⟩ := hI
 have HS6 : Hid (St w4 [⟨g6, #[.int .i64 ans.1.cut, .int .i64 ans.1.bar, .int .i64 ans.1.day, .slice A6 ans.1.es.length c6], 24⟩, ⟨w4.heap.size, #[.int .i64 r.cut, .int .i64 r.bar, .int .i64 r.day, .slice A4 r.es.length c4], 24⟩] w6) := hS9
 have N_6 := hG9
 clear hS9 hG9 hP9 HT5  HLT HL0
 simp only [List.take, List.drop, fillA, Act.put]
 simp only [show xx 14 = _ from hv 14 (by decide), hxC]
 clear hv hxC
 go_upto_if 47 with fail
 by_cases hn : ans.2 = 0
 ·have z1 : (ans.2 != 0) = false := by rw [hn]; rfl
  simp only [z1]
  clear z1
  obtain ⟨hlo, hhi, i0, hnr⟩ := HNAR.out hn
  have HNR := Lib.hid hnr
  clear HNAR HERR hnr hn
  have hb9 := HS6.out.blk 1 rfl
  have HG12 := Lib.hid (fun w' (hb : Below w6.heap.size w6 w') i u (hu : ([.int .i64 r.cut, .int .i64 r.bar, .int .i64 r.day, .slice A4 r.es.length c4] : List Value)[i]? = some u) => (hb9.below hb hb9.lt).cell i u (by rw [← Array.getElem?_toList]; exact hu))
  have lHG12 := hb9.lt
  clear hb9
  have hb9 := HS6.out.blk 0 rfl
  have HG14 := Lib.hid (fun w' (hb : Below w6.heap.size w6 w') i u (hu : ([.int .i64 ans.1.cut, .int .i64 ans.1.bar, .int .i64 ans.1.day, .slice A6 ans.1.es.length c6] : List Value)[i]? = some u) => (hb9.below hb hb9.lt).cell i u (by rw [← Array.getElem?_toList]; exact hu))
  have lHG14 := hb9.lt
  clear hb9
  have HX2 := Lib.hid (HE.out.below HS6.out.below)
  have HY2 := Lib.hid (Slc.of_own ent_len N_6.out rfl)
  have HB1 := Lib.hid HS6.out.below
  have HT := Lib.hid (St.start w6)
  clear HS6 N_6 HE HZ
  have x1 := HG12.out _ HT.out.below 3 _ rfl
  go_wp2
  go_loopw [16, 58] (fun o i wr => ∃ k m : Nat, k ≤ r.es.length ∧ i = .int .i64 k ∧ o = .int .i64 m ∧ m ≤ 1 ∧ (k ≤ i0 → m = 0) ∧ Hid (St w6 [] wr)) (fun _ i _ => r.es.length - (intOf i).toNat)
  case atStart => exact ⟨0, 0, Nat.zero_le _, rfl, rfl, by omega, fun _ => rfl, HT.out⟩
  case round =>
   obtain ⟨k, m, hk, rfl, rfl, hm1, hmi, HS⟩ := hrel
   by_cases hlt : k < r.es.length
   ·obtain ⟨b, o, x, hA1, hbb, hq, hx⟩ := HX2.out.at_ hlt
    subst hA1
    obtain ⟨b2, o2, y, hA2, hbb2, hq2, hy⟩ := HY2.out.at_ (Nat.lt_of_lt_of_le hlt hlo)
    subst hA2
    obtain ⟨hxy, hnw⟩ := HNR.out k x y hq hq2
    obtain ⟨mx0, ⟨l1, l2⟩, _, ⟨l5, l6⟩⟩ := HMX.out x (List.mem_of_getElem? hq)
    obtain ⟨my0, ⟨p1, p2⟩, _, ⟨p5, p6⟩⟩ := HMY.out y (List.mem_of_getElem? hq2)
    obtain ⟨nb, hnb, hne⟩ := ent_neq2 x y mx0 my0
    have k1 := fun W => rational_Compare y.fl.n y.fl.a y.fl.b x.fl.n x.fl.a x.fl.b W (by omega) (by omega) (by omega) (by omega)
    have k2 := fun W => rational_Compare y.ce.n y.ce.a y.ce.b x.ce.n x.ce.a x.ce.b W (by omega) (by omega) (by omega) (by omega)
    change ∀ W, Calls Tryz.prog _ _ W (fun e w' => e = .returned (.int .i64 (sgn (y.fl.val - x.fl.val).num)) ∧ _) at k1
    change ∀ W, Calls Tryz.prog _ _ W (fun e w' => e = .returned (.int .i64 (sgn (y.ce.val - x.ce.val).num)) ∧ _) at k2
    have hnw2 : (0 ≤ sgn (y.fl.val - x.fl.val).num ∧ sgn (y.ce.val - x.ce.val).num ≤ 0) ∨ y.st = 7 := hnw.imp (fun h => ⟨ge_sgnR.2 h.1, le_sgnR.2 h.2⟩) id
    generalize sgn (y.fl.val - x.fl.val).num = s1 at *
    generalize sgn (y.ce.val - x.ce.val).num = s2 at *
    have hmn : nb = true → k = i0 ∧ m = 0 := fun h => by
     by_cases hki : k = i0
     ·exact ⟨hki, hmi (by omega)⟩
     ·rw [hnb (hxy hki)] at h; cases h
    unfold raw at k1 k2
    unfold entV at hne
    have HX := Lib.hid hx
    have HY := Lib.hid hy
    have K1 := Lib.hid k1
    have K2 := Lib.hid k2
    have HNE := Lib.hid hne
    have HMN := Lib.hid hmn
    have HMI := Lib.hid hmi
    have HNW := Lib.hid hnw2
    have e0 : (0 : Int) ≤ ((k : Nat) : Int) := by omega
    have e1 : ((k : Nat) : Int) < (r.es.length : Int) := by omega
    have e2 : decide (((k : Nat) : Int) < (r.es.length : Int)) = true := decide_eq_true e1
    have e3 : ((k : Nat) : Int) < (ans.1.es.length : Int) := by omega
    have e4 : decide ((ans.1.es.length : Int) ≤ ((k : Nat) : Int)) = false := decide_eq_false (by omega)
    have e5 : decide (ans.1.es.length ≤ k) = false := decide_eq_false (by omega)
    clear hx hy hq hq2 hxy hnw hnw2 mx0 my0 l1 l2 l5 l6 p1 p2 p5 p6 hnb hne k1 k2 hmn hmi
    have en := HNE.out
    go_wp2_with (first | (refine wpList_load_mid rfl _ _ rfl (b) (o + k * 30) rfl [.string (bs x.p.id), .int .i64 x.p.est, .int .i64 x.p.cre, .string (bs x.p.code), .bool x.p.an, .string (bs x.p.aa), .string (bs x.p.ab), .int .i64 x.p.inc, .int .i64 x.p.rank, .bool x.p.rn, .string (bs x.p.ra), .string (bs x.p.rb), .int .i64 x.p.rf, .int .i64 x.p.sec, .int .i64 x.st, .bool x.late, .bool x.cl.n, .string (bs x.cl.a), .string (bs x.cl.b), .bool x.fl.n, .string (bs x.fl.a), .string (bs x.fl.b), .bool x.ad.n, .string (bs x.ad.a), .string (bs x.ad.b), .bool x.ce.n, .string (bs x.ce.a), .string (bs x.ce.b), .int .i64 x.acq, .int .i64 x.chg] _ (fun j v hv => HX.out _ (HS.out).below j v hv) Tryz.underlying63 rfl ent_size ?_) | (refine wpList_store_own rfl _ _ _ rfl (St.alloc (HS.out) entO 63 (wr.heap.size) (by simp)) 0 rfl [.string (bs x.p.id), .int .i64 x.p.est, .int .i64 x.p.cre, .string (bs x.p.code), .bool x.p.an, .string (bs x.p.aa), .string (bs x.p.ab), .int .i64 x.p.inc, .int .i64 x.p.rank, .bool x.p.rn, .string (bs x.p.ra), .string (bs x.p.rb), .int .i64 x.p.rf, .int .i64 x.p.sec, .int .i64 x.st, .bool x.late, .bool x.cl.n, .string (bs x.cl.a), .string (bs x.cl.b), .bool x.fl.n, .string (bs x.fl.a), .string (bs x.fl.b), .bool x.ad.n, .string (bs x.ad.a), .string (bs x.ad.b), .bool x.ce.n, .string (bs x.ce.a), .string (bs x.ce.b), .int .i64 x.acq, .int .i64 x.chg] rfl rfl rfl ent_size rfl ?_))
    intro w7 hS7
    have HS7 : Hid (St w6 [⟨wr.heap.size, (entC x), 63⟩] w7) := Lib.hid hS7
    clear hS7 HS
    have x2 : g6 < w7.heap.size := Nat.lt_of_lt_of_le lHG14 HS7.out.below.size
    have x3 : ¬ g6 = w7.heap.size := by omega
    have x4 := HG14.out _ HS7.out.below 3 _ rfl
    go_wp2_with (first | (refine wpList_load_mid rfl _ _ rfl (b2) (o2 + k * 30) rfl [.string (bs y.p.id), .int .i64 y.p.est, .int .i64 y.p.cre, .string (bs y.p.code), .bool y.p.an, .string (bs y.p.aa), .string (bs y.p.ab), .int .i64 y.p.inc, .int .i64 y.p.rank, .bool y.p.rn, .string (bs y.p.ra), .string (bs y.p.rb), .int .i64 y.p.rf, .int .i64 y.p.sec, .int .i64 y.st, .bool y.late, .bool y.cl.n, .string (bs y.cl.a), .string (bs y.cl.b), .bool y.fl.n, .string (bs y.fl.a), .string (bs y.fl.b), .bool y.ad.n, .string (bs y.ad.a), .string (bs y.ad.b), .bool y.ce.n, .string (bs y.ce.a), .string (bs y.ce.b), .int .i64 y.acq, .int .i64 y.chg] _ (fun j v hv => HY.out _ (HS7.out).below j v hv) Tryz.underlying63 rfl ent_size ?_) | (refine wpList_store_own rfl _ _ _ rfl (St.alloc (HS7.out) entO 63 (w7.heap.size) (by simp)) 0 rfl [.string (bs y.p.id), .int .i64 y.p.est, .int .i64 y.p.cre, .string (bs y.p.code), .bool y.p.an, .string (bs y.p.aa), .string (bs y.p.ab), .int .i64 y.p.inc, .int .i64 y.p.rank, .bool y.p.rn, .string (bs y.p.ra), .string (bs y.p.rb), .int .i64 y.p.rf, .int .i64 y.p.sec, .int .i64 y.st, .bool y.late, .bool y.cl.n, .string (bs y.cl.a), .string (bs y.cl.b), .bool y.fl.n, .string (bs y.fl.a), .string (bs y.fl.b), .bool y.ad.n, .string (bs y.ad.a), .string (bs y.ad.b), .bool y.ce.n, .string (bs y.ce.a), .string (bs y.ce.b), .int .i64 y.acq, .int .i64 y.chg] rfl rfl rfl ent_size rfl ?_))
    intro w8 hS8
    have HS8 : Hid (St w6 [⟨w7.heap.size, (entC y), 63⟩, ⟨wr.heap.size, (entC x), 63⟩] w8) := Lib.hid hS8
    clear hS8 HS7 x2 x3 x4
    go_upto_if 75 with (first | (refine wpList_load_mid rfl _ _ rfl (wr.heap.size) (0) rfl [.string (bs x.p.id), .int .i64 x.p.est, .int .i64 x.p.cre, .string (bs x.p.code), .bool x.p.an, .string (bs x.p.aa), .string (bs x.p.ab), .int .i64 x.p.inc, .int .i64 x.p.rank, .bool x.p.rn, .string (bs x.p.ra), .string (bs x.p.rb), .int .i64 x.p.rf, .int .i64 x.p.sec, .int .i64 x.st, .bool x.late, .bool x.cl.n, .string (bs x.cl.a), .string (bs x.cl.b), .bool x.fl.n, .string (bs x.fl.a), .string (bs x.fl.b), .bool x.ad.n, .string (bs x.ad.a), .string (bs x.ad.b), .bool x.ce.n, .string (bs x.ce.a), .string (bs x.ce.b), .int .i64 x.acq, .int .i64 x.chg] _ (St.whole HS8.out 1 rfl) Tryz.underlying63 rfl ent_size ?_) | (refine wpList_load_mid rfl _ _ rfl (w7.heap.size) (0) rfl [.string (bs y.p.id), .int .i64 y.p.est, .int .i64 y.p.cre, .string (bs y.p.code), .bool y.p.an, .string (bs y.p.aa), .string (bs y.p.ab), .int .i64 y.p.inc, .int .i64 y.p.rank, .bool y.p.rn, .string (bs y.p.ra), .string (bs y.p.rb), .int .i64 y.p.rf, .int .i64 y.p.sec, .int .i64 y.st, .bool y.late, .bool y.cl.n, .string (bs y.cl.a), .string (bs y.cl.b), .bool y.fl.n, .string (bs y.fl.a), .string (bs y.fl.b), .bool y.ad.n, .string (bs y.ad.a), .string (bs y.ad.b), .bool y.ce.n, .string (bs y.ce.a), .string (bs y.ce.b), .int .i64 y.acq, .int .i64 y.chg] _ (St.whole HS8.out 0 rfl) Tryz.underlying63 rfl ent_size ?_))
    clear en HNE
    cases nb
    ·by_cases hn1 : 0 ≤ s1
     ·by_cases hn2 : s2 ≤ 0
      ·have n1 : decide (0 ≤ s1) = true := decide_eq_true hn1
       have n2 : decide (s2 ≤ 0) = true := decide_eq_true hn2
       clear HNW hn1 hn2 HMN
       have x5 := cC HS8 0 19
       have x6 := cC HS8 0 20
       have x7 := cC HS8 0 21
       have x8 := cC HS8 1 19
       have x9 := cC HS8 1 20
       have x10 := cC HS8 1 21
       go_wp2_with fail
       refine cL (K1.out _) HS8 fun w9 HS9 => ?_
       clear HS8 x5 x6 x7 x8 x9 x10
       have x11 := cC HS9 0 25
       have x12 := cC HS9 0 26
       have x13 := cC HS9 0 27
       have x14 := cC HS9 1 25
       have x15 := cC HS9 1 26
       have x16 := cC HS9 1 27
       go_wp2_with fail
       refine cL (K2.out _) HS9 fun w10 HS10 => ?_
       clear HS9 x11 x12 x13 x14 x15 x16
       go_wp2
       have HS11 := Lib.hid HS10.out
       go_roundw
       case rel => exact ⟨k + 1, m, by omega, by go_num, rfl, by omega, fun h => HMI.out (by omega), HS11.out.sub (List.Sublist.cons _ (List.Sublist.cons _ (List.Sublist.refl _)))⟩
       case measure => simp [intOf]; omega
      ·have n1 : decide (0 ≤ s1) = true := decide_eq_true hn1
       have n2 : decide (s2 ≤ 0) = false := decide_eq_false hn2
       have n3 : (y.st != 7) = false := by rw [HNW.out.resolve_left (fun h => hn2 h.2)]; rfl
       clear HNW hn1 hn2 HMN
       have x5 := cC HS8 0 19
       have x6 := cC HS8 0 20
       have x7 := cC HS8 0 21
       have x8 := cC HS8 1 19
       have x9 := cC HS8 1 20
       have x10 := cC HS8 1 21
       go_wp2_with fail
       refine cL (K1.out _) HS8 fun w9 HS9 => ?_
       clear HS8 x5 x6 x7 x8 x9 x10
       have x11 := cC HS9 0 25
       have x12 := cC HS9 0 26
       have x13 := cC HS9 0 27
       have x14 := cC HS9 1 25
       have x15 := cC HS9 1 26
       have x16 := cC HS9 1 27
       go_wp2_with fail
       refine cL (K2.out _) HS9 fun w10 HS10 => ?_
       clear HS9 x11 x12 x13 x14 x15 x16
       have x17 := cC HS10 0 14
       go_wp2
       have HS11 := Lib.hid HS10.out
       go_roundw
       case rel => exact ⟨k + 1, m, by omega, by go_num, rfl, by omega, fun h => HMI.out (by omega), HS11.out.sub (List.Sublist.cons _ (List.Sublist.cons _ (List.Sublist.refl _)))⟩
       case measure => simp [intOf]; omega
     ·have n1 : decide (0 ≤ s1) = false := decide_eq_false hn1
      have n3 : (y.st != 7) = false := by rw [HNW.out.resolve_left (fun h => hn1 h.1)]; rfl
      clear HNW hn1 HMN
      have x5 := cC HS8 0 19
      have x6 := cC HS8 0 20
      have x7 := cC HS8 0 21
      have x8 := cC HS8 1 19
      have x9 := cC HS8 1 20
      have x10 := cC HS8 1 21
      go_wp2_with fail
      refine cL (K1.out _) HS8 fun w9 HS9 => ?_
      clear HS8 x5 x6 x7 x8 x9 x10
      have x11 := cC HS9 0 14
      go_wp2
      have HS10 := Lib.hid HS9.out
      go_roundw
      case rel => exact ⟨k + 1, m, by omega, by go_num, rfl, by omega, fun h => HMI.out (by omega), HS10.out.sub (List.Sublist.cons _ (List.Sublist.cons _ (List.Sublist.refl _)))⟩
      case measure => simp [intOf]; omega
    ·by_cases hn1 : 0 ≤ s1
     ·by_cases hn2 : s2 ≤ 0
      ·have n1 : decide (0 ≤ s1) = true := decide_eq_true hn1
       have n2 : decide (s2 ≤ 0) = true := decide_eq_true hn2
       clear HNW hn1 hn2
       obtain ⟨hki, rfl⟩ := HMN.out rfl
       have HKI := Lib.hid hki
       clear hki HMN
       have x5 := cC HS8 0 19
       have x6 := cC HS8 0 20
       have x7 := cC HS8 0 21
       have x8 := cC HS8 1 19
       have x9 := cC HS8 1 20
       have x10 := cC HS8 1 21
       go_wp2_with fail
       refine cL (K1.out _) HS8 fun w9 HS9 => ?_
       clear HS8 x5 x6 x7 x8 x9 x10
       have x11 := cC HS9 0 25
       have x12 := cC HS9 0 26
       have x13 := cC HS9 0 27
       have x14 := cC HS9 1 25
       have x15 := cC HS9 1 26
       have x16 := cC HS9 1 27
       go_wp2_with fail
       refine cL (K2.out _) HS9 fun w10 HS10 => ?_
       clear HS9 x11 x12 x13 x14 x15 x16
       go_wp2
       have HS11 := Lib.hid HS10.out
       go_roundw
       case rel => exact ⟨k + 1, 1, by omega, by go_num, rfl, by omega, fun h => by have := HKI.out; omega, HS11.out.sub (List.Sublist.cons _ (List.Sublist.cons _ (List.Sublist.refl _)))⟩
       case measure => simp [intOf]; omega
      ·have n1 : decide (0 ≤ s1) = true := decide_eq_true hn1
       have n2 : decide (s2 ≤ 0) = false := decide_eq_false hn2
       have n3 : (y.st != 7) = false := by rw [HNW.out.resolve_left (fun h => hn2 h.2)]; rfl
       clear HNW hn1 hn2
       obtain ⟨hki, rfl⟩ := HMN.out rfl
       have HKI := Lib.hid hki
       clear hki HMN
       have x5 := cC HS8 0 19
       have x6 := cC HS8 0 20
       have x7 := cC HS8 0 21
       have x8 := cC HS8 1 19
       have x9 := cC HS8 1 20
       have x10 := cC HS8 1 21
       go_wp2_with fail
       refine cL (K1.out _) HS8 fun w9 HS9 => ?_
       clear HS8 x5 x6 x7 x8 x9 x10
       have x11 := cC HS9 0 25
       have x12 := cC HS9 0 26
       have x13 := cC HS9 0 27
       have x14 := cC HS9 1 25
       have x15 := cC HS9 1 26
       have x16 := cC HS9 1 27
       go_wp2_with fail
       refine cL (K2.out _) HS9 fun w10 HS10 => ?_
       clear HS9 x11 x12 x13 x14 x15 x16
       have x17 := cC HS10 0 14
       go_wp2
       have HS11 := Lib.hid HS10.out
       go_roundw
       case rel => exact ⟨k + 1, 1, by omega, by go_num, rfl, by omega, fun h => by have := HKI.out; omega, HS11.out.sub (List.Sublist.cons _ (List.Sublist.cons _ (List.Sublist.refl _)))⟩
       case measure => simp [intOf]; omega
     ·have n1 : decide (0 ≤ s1) = false := decide_eq_false hn1
      have n3 : (y.st != 7) = false := by rw [HNW.out.resolve_left (fun h => hn1 h.1)]; rfl
      clear HNW hn1
      obtain ⟨hki, rfl⟩ := HMN.out rfl
      have HKI := Lib.hid hki
      clear hki HMN
      have x5 := cC HS8 0 19
      have x6 := cC HS8 0 20
      have x7 := cC HS8 0 21
      have x8 := cC HS8 1 19
      have x9 := cC HS8 1 20
      have x10 := cC HS8 1 21
      go_wp2_with fail
      refine cL (K1.out _) HS8 fun w9 HS9 => ?_
      clear HS8 x5 x6 x7 x8 x9 x10
      have x11 := cC HS9 0 14
      go_wp2
      have HS10 := Lib.hid HS9.out
      go_roundw
      case rel => exact ⟨k + 1, 1, by omega, by go_num, rfl, by omega, fun h => by have := HKI.out; omega, HS10.out.sub (List.Sublist.cons _ (List.Sublist.cons _ (List.Sublist.refl _)))⟩
      case measure => simp [intOf]; omega
   ·obtain rfl : k = r.es.length := by omega
    have e2 : decide (((r.es.length : Nat) : Int) < (r.es.length : Int)) = false := decide_eq_false (by omega)
    have e3 : decide ((m : Int) ≤ 1) = true := decide_eq_true (by omega)
    have e4 : decide (m ≤ 1) = true := decide_eq_true hm1
    have e5 : decide ((ans.1.es.length : Int) ≤ ((r.es.length + 1 : Nat) : Int)) = true := decide_eq_true (by omega)
    have e6 : decide (ans.1.es.length ≤ r.es.length + 1) = true := decide_eq_true hhi
    have e7 : decide ((ans.1.es.length : Int) ≤ (r.es.length : Int) + 1) = true := decide_eq_true (by omega)
    have i5 := HI5.out
    go_wp2_with fail
    refine cL (HW.out _) HS fun w7 HS7 => ?_
    clear HS
    have x2 := HG14.out _ HS7.out.below 3 _ rfl
    have x3 := HG12.out _ HS7.out.below 3 _ rfl
    go_wp2
    go_ret
    have HS8 := Lib.hid HS7.out
    exact ⟨rfl, Ext.trans HB0.out (Ext.trans HB1.out HS8.out.below)⟩
 ·have z1 : (ans.2 != 0) = true := by rw [bne_iff_ne]; exact hn
  have hl0 : ans.1.es.length = 0 := by rw [HERR.out hn]; rfl
  have z2 : ((ans.1.es.length : Int) == 0) = true := by rw [hl0]; rfl
  have z3 : (ans.1.es.length == 0) = true := by rw [hl0]; rfl
  clear HNAR HERR hl0 hn N_6
  go_wp2_with fail
  refine cL (HW.out _) HS6 fun w7 HS7 => ?_
  clear HS6
  have x1 := cC HS7 0 3
  go_wp2
  go_ret
  have HS8 := Lib.hid HS7.out
  exact ⟨rfl, Ext.trans HB0.out HS8.out.below⟩
end Go.Proofs.YtlkhoommpkndpaaGreatDoor
