/-
Part 47 of the base.
-/
import Derived.Test.YtoighiepglclkaaGreatDoorKf38
import Derived.Test.YtoighiepglclkaaGreatDoorKf46
set_option maxRecDepth 100000
set_option maxHeartbeats 4000000
namespace Go.Proofs.YtoighiepglclkaaGreatDoor
open Go.RowKit
theorem b3d (n0 n1 : Int) (v : Value) (acts : List ActN) (v2 : Value) (ts : List Tri) (a : ActN) (w : World) (h0 : 0 <= n0 /\ n0 <= 255) (h1 : 0 <= n1 /\ n1 <= 255) (hA : ActsL w v acts) (hok : ∀ a ∈ acts, a.ok) (hT : Tris w v2 ts) (htok : ∀ t ∈ ts, t.ok) (ha : a.ok) :
  Calls Tryz.prog 3 #[.int .u8 n0, .int .u8 n1, v, v2, .agg #[.int .u8 (a.kind : Nat), .int .u8 (a.pass : Nat), .int .u8 (a.claim : Nat), .int .u16 (a.am : Nat), .int .u16 (a.p.a : Nat), .int .u16 (a.p.b : Nat), .int .u16 (a.p.c : Nat), .int .u16 (a.p.d : Nat), .int .u16 (a.p.e : Nat), .int .u16 (a.p.f : Nat)]] w fun e w' => e = .returned (.bool true) /\ Below w.heap.size w w' := by
 obtain ⟨cut, rfl⟩ : ∃ k : Nat, n0 = k := ⟨n0.toNat, by omega⟩
 obtain ⟨bar, rfl⟩ : ∃ k : Nat, n1 = k := ⟨n1.toNat, by omega⟩
 have hW := fun W => c4p W
 have lo := c3y htok
 have ok := c7s htok
 have hQ := fun W (hb : Below w.heap.size w W) => c2p v2 ts W (hT.below hb) htok
 have hR := fun q W (hb : Below w.heap.size w W) (hq : a3f W q (a2g ts)) => d0n cut bar v q acts (a2g ts) W (by omega) (by omega) (hA.below hb) hok hq ok lo
 have hcl := runA_cl (cut := cut) (bar := bar) hok lo
 have hgood : (runA cut bar acts (a2g ts)).good /\ (runA cut bar acts (a2g ts)).es.length <= 40 := by
  by_cases h40 : acts.length <= 40
  ·rw [<- c0b (k := acts.length) (.inl ⟨rfl, h40⟩)]
   obtain ⟨g1, g2, _⟩ := b5j (cut := cut) (bar := bar) hok lo acts.length h40
   exact ⟨g1, g2⟩
  rw [<- c0b (k := 40) (.inr rfl)]
  obtain ⟨g1, g2, _⟩ := b5j (cut := cut) (bar := bar) hok lo 40 (by omega)
  exact ⟨g1, g2⟩
 have hE := fun W => b6h a (runA cut bar acts (a2g ts)).day W ha
 have hmd := b4w ha (runA cut bar acts (a2g ts)).day
 have hAp := fun sl q W (hs : a5d W sl (runA cut bar acts (a2g ts)).es) (hq : a3f W q (a2g ts)) => b9u (v := sl) (qv := q) hgood.1 (by omega) hmd ok lo W hs hq
 have hRp := fun sl q W (hs : a5d W sl (runA cut bar acts (a2g ts)).es) (hq : a3f W q (a2g ts)) => b7g (v := sl) (qv := q) hgood.1 (by omega) hmd ok lo W hs hq
 have hCp := fun sl W (hs : a5d W sl (runA cut bar acts (a2g ts)).es) => b5w (runA cut bar acts (a2g ts)).cut (runA cut bar acts (a2g ts)).bar (runA cut bar acts (a2g ts)).day sl (runA cut bar acts (a2g ts)).es W hs (by omega)
 have hSr := fun s1 s2 W (hs1 : a5d W s1 (runA cut bar acts (a2g ts)).es) (hs2 : a5d W s2 (runA cut bar acts (a2g ts)).es) => b2w (runA cut bar acts (a2g ts)).cut (runA cut bar acts (a2g ts)).bar (runA cut bar acts (a2g ts)).day s1 s2 (runA cut bar acts (a2g ts)).es W hs1 hs2 (fun x hx => (hgood.1.2 x hx).1)
 generalize runA cut bar acts (a2g ts) = r at *
 generalize a2g ts = qs at *
 generalize evOf a r.day = e at *
 generalize a0q r e qs = ans at *
 have q1 : (ans.2 == ans.2) = true := by simp
 have HW := zh hW
 have HQ := zh hQ
 have HR := zh hR
 have HEV := zh hE
 have HAP := zh hAp
 have HRP := zh hRp
 have HCP := zh hCp
 have HSR := zh hSr
 clear hW hQ hR hgood hcl lo ok hA hok hT htok h0 h1 hE hAp hRp hCp hSr ha hmd
 go_enter Tryz.func3, Tryz.ntmps3
 have HS := zh (St.start w)
 go_wp2_with fail
 have HS2 := aL HS #[.int .u8 (a.kind : Nat), .int .u8 (a.pass : Nat), .int .u8 (a.claim : Nat), .int .u16 (a.am : Nat), .int .u16 (a.p.a : Nat), .int .u16 (a.p.b : Nat), .int .u16 (a.p.c : Nat), .int .u16 (a.p.d : Nat), .int .u16 (a.p.e : Nat), .int .u16 (a.p.f : Nat)] 27 w.heap.size
 refine (HQ.out _ HS2.out.below).mono ?_
 rintro e w3 ⟨v3, rfl, hl3, hb3⟩
 have HS3 := zh (HS2.out.call hb3)
 have Z_3 := zh hl3
 clear hl3 hb3 HS HS2
 go_wp2_with fail
 refine (HR.out _ _ HS3.out.below Z_3.out).mono ?_
 rintro e w4 ⟨v4, m4, rfl, hG4, hb4⟩
 obtain ⟨A4, c4, hv4, _, _⟩ := (Slc.of_own a1g hG4 rfl).slice
 subst hv4
 have hE4 := Slc.of_own a1g hG4 rfl
 have HS4 := zh (HS3.out.call hb4)
 have Z_4 := zh (Z_3.out.below hb4)
 clear Z_3
 have E_4 := zh hE4
 clear hE4 hb4 HS3
 have hb9 := HS4.out.blk 0 rfl
 have H9 := zh (fun w' (hb : Below w4.heap.size w4 w') i u (hu : ([.int .u8 (a.kind : Nat), .int .u8 (a.pass : Nat), .int .u8 (a.claim : Nat), .int .u16 (a.am : Nat), .int .u16 (a.p.a : Nat), .int .u16 (a.p.b : Nat), .int .u16 (a.p.c : Nat), .int .u16 (a.p.d : Nat), .int .u16 (a.p.e : Nat), .int .u16 (a.p.f : Nat)] : List Value)[i]? = some u) => (hb9.below hb hb9.lt).cell i u (by rw [<- Array.getElem?_toList]; exact hu))
 have l9 := hb9.lt
 clear hb9
 have HB0 := zh HS4.out.below
 clear HS4
 have HT4 := zh (St.start w4)
 have HZ := Z_4.out
 have HZ := zh HZ
 clear Z_4
 have HE := E_4.out
 have HE := zh HE
 clear E_4
 go_wp2_with fail
 have HT5 := aL HT4 #[.int .i64 r.cut, .int .i64 r.bar, .int .i64 r.day, .slice A4 r.es.length c4] 32 w4.heap.size
 refine (HCP.out _ _ (HE.out.below HT5.out.below)).mono ?_
 rintro e w6 ⟨A6, c6, rfl, hG6, hb6⟩
 have hO6 := Grows.base hG6 HT5.out.below.size
 have HT6 := zh (HT5.out.call hb6)
 have O_6 := zh hO6
 clear hO6 hb6 HT4 HT5
 go_wp2
 refine wp_ren (p := fun W => St w4 [⟨w6.heap.size, #[.int .i64 r.cut, .int .i64 r.bar, .int .i64 r.day, .slice A6 r.es.length c6], 32⟩, ⟨w4.heap.size, #[.int .i64 r.cut, .int .i64 r.bar, .int .i64 r.day, .slice A4 r.es.length c4], 32⟩] W /\ Grows W w4.heap.size 57 30 (.slice A6 r.es.length c6) r.es.length (flat Ent.enc r.es)) ⟨(St.alloc (HT6.out) #[.int .i64 r.cut, .int .i64 r.bar, .int .i64 r.day, .slice A6 r.es.length c6] 32 (w6.heap.size) (by simp)), (O_6.out.below (Ext.alloc (Below.refl w6.heap.size w6) (Obj.cells #[.int .i64 r.cut, .int .i64 r.bar, .int .i64 r.day, .slice A6 r.es.length c6] 32)))⟩ ?_
 rintro wg7 ⟨hb, hg0⟩
 have HT7 := zh hb
 have O_7 := zh hg0
 clear hb HT6 hg0 O_6
 have HLT := zh (fun r hr => (HT7.out.ok r hr).1.lt)
 have HL0 := zh HT7.out.below.size
 refine a5r 12 11 10 [7, 9] [eQ (.agg #[.int .i64 r.cut, .int .i64 r.bar, .int .i64 r.day, .slice A4 r.es.length c4]), eQ (.agg #[.int .u8 (a.kind : Nat), .int .u8 (a.pass : Nat), .int .u8 (a.claim : Nat), .int .u16 (a.am : Nat), .int .u16 (a.p.a : Nat), .int .u16 (a.p.b : Nat), .int .u16 (a.p.c : Nat), .int .u16 (a.p.d : Nat), .int .u16 (a.p.e : Nat), .int .u16 (a.p.f : Nat)]), eQ (.pointer (some ⟨w4.heap.size, 2, none⟩)), eQ (.int .i64 r.day), eQ (.agg #[.int .i64 e.kind, .int .i64 e.day, .string (bs e.id), .bool e.am.n, .string (bs e.am.a), .string (bs e.am.b), .int .i64 e.cre, .string (bs e.p.id), .int .i64 e.p.est, .int .i64 e.p.cre, .string (bs e.p.code), .bool e.p.an, .string (bs e.p.aa), .string (bs e.p.ab), .int .i64 e.p.inc, .int .i64 e.p.rank, .bool e.p.rn, .string (bs e.p.ra), .string (bs e.p.rb), .int .i64 e.p.rf, .int .i64 e.p.sec]), eQ (v3), fun ww vv => ∃ A c, vv = Value.tuple #[Value.agg #[.int .i64 ans.1.cut, .int .i64 ans.1.bar, .int .i64 ans.1.day, .slice A ans.1.es.length c], .int .i64 ans.2] /\ Grows ww w4.heap.size 57 30 (.slice A ans.1.es.length c) ans.1.es.length (flat Ent.enc ans.1.es), fun ww vv => ∃ A c, vv = Value.tuple #[Value.agg #[.int .i64 ans.1.cut, .int .i64 ans.1.bar, .int .i64 ans.1.day, .slice A ans.1.es.length c], .int .i64 ans.2] /\ Grows ww w4.heap.size 57 30 (.slice A ans.1.es.length c) ans.1.es.length (flat Ent.enc ans.1.es), fun ww vv => ∃ A c, vv = Value.agg #[.int .i64 ans.1.cut, .int .i64 ans.1.bar, .int .i64 ans.1.day, .slice A ans.1.es.length c] /\ Grows ww w4.heap.size 57 30 (.slice A ans.1.es.length c) ans.1.es.length (flat Ent.enc ans.1.es), fun ww vv => vv = .int .i64 ans.2, fun ww vv => ∃ g, vv = Value.pointer (some ⟨g, 0, none⟩) /\ wg7.heap.size <= g /\ Blk ww g #[.int .i64 0, .int .i64 0, .int .i64 0, .slice none 0 0] 32, fun ww vv => True] (fun wv => Hid (St w4 [⟨w6.heap.size, #[.int .i64 r.cut, .int .i64 r.bar, .int .i64 r.day, .slice A6 r.es.length c6], 32⟩, ⟨w4.heap.size, #[.int .i64 r.cut, .int .i64 r.bar, .int .i64 r.day, .slice A4 r.es.length c4], 32⟩] wv) /\ Hid (Grows wv w4.heap.size 57 30 (.slice A6 r.es.length c6) r.es.length (flat Ent.enc r.es)) /\ Hid (Bnd wg7.heap.size wv)) (AppI w4 [⟨w6.heap.size, #[.int .i64 r.cut, .int .i64 r.bar, .int .i64 r.day, .slice A6 r.es.length c6], 32⟩, ⟨w4.heap.size, #[.int .i64 r.cut, .int .i64 r.bar, .int .i64 r.day, .slice A4 r.es.length c4], 32⟩] (.int .i64 ans.1.cut) (.int .i64 ans.1.bar) (.int .i64 ans.1.day) w4.heap.size (ans.1.es.length) (ans.1.es) (fun W => Grows W w4.heap.size 57 30 (.slice A6 r.es.length c6) r.es.length (flat Ent.enc r.es))) (by kernel_rfl) (by decide) (by decide) rfl (by kernel_rfl) (by kernel_rfl) (by kernel_rfl) (by decide) (by decide) (a5k ?_) (fun _ _ h hb => ⟨zh (h.1.out.call hb), zh (Grows.below h.2.1.out hb), zh (Bnd.below h.2.2.out hb)⟩) (fun _ _ _ hh hb => hh.below hb (fun _ _ hp hb => Grows.below hp hb)) ⟨zh HT7.out.drew, zh (Grows.below O_7.out (Below.refl _ _).drew), zh (show Bnd wg7.heap.size wg7.drew from Nat.le_refl _)⟩ ?_ ?_
 ·intro φ hφ
  rcases List.mem_cons.1 hφ with rfl | hφ
  ·exact fun _ _ _ h _ => h
  rcases List.mem_cons.1 hφ with rfl | hφ
  ·exact fun _ _ _ h _ => h
  rcases List.mem_cons.1 hφ with rfl | hφ
  ·exact fun _ _ _ h _ => h
  rcases List.mem_cons.1 hφ with rfl | hφ
  ·exact fun _ _ _ h _ => h
  rcases List.mem_cons.1 hφ with rfl | hφ
  ·exact fun _ _ _ h _ => h
  rcases List.mem_cons.1 hφ with rfl | hφ
  ·exact fun _ _ _ h _ => h
  rcases List.mem_cons.1 hφ with rfl | hφ
  ·exact fun _ _ _ ⟨A, c, h, hg⟩ hb => ⟨A, c, h, Grows.below hg hb⟩
  rcases List.mem_cons.1 hφ with rfl | hφ
  ·exact fun _ _ _ ⟨A, c, h, hg⟩ hb => ⟨A, c, h, Grows.below hg hb⟩
  rcases List.mem_cons.1 hφ with rfl | hφ
  ·exact fun _ _ _ ⟨A, c, h, hg⟩ hb => ⟨A, c, h, Grows.below hg hb⟩
  rcases List.mem_cons.1 hφ with rfl | hφ
  ·exact fun _ _ _ h _ => h
  rcases List.mem_cons.1 hφ with rfl | hφ
  ·exact fun _ _ _ ⟨g, h, hg, hB⟩ hb => ⟨g, h, hg, hB.below hb hB.lt⟩
  rcases List.mem_cons.1 hφ with rfl | hφ
  ·exact fun _ _ _ h _ => h
  cases hφ
 ·refine ⟨?_, ?_, ?_, ?_, ?_, ?_, ?_, ?_, ?_, ?_, ?_, ?_, trivial⟩
  ·intro xx af wv h0 hev hev0 hd
   have e12 : af.tmps[12]?.getD undef = .pointer (some ⟨w4.heap.size, 0, none⟩) := hev0 12 rfl
   rw [if_neg (by decide)]
   obtain ⟨hs1, hg1, hbnd⟩ := h0 (by kernel_rfl)
   clear hev hev0 hd h0
   obtain ⟨y0, y1, y2⟩ := hs1.out.k0 1 rfl rfl rfl rfl
   have y3 := cC hs1 1 3
   go_wp2
   exact sQ rfl
  ·intro xx af wv h0 hev hev0 hd
   have e9 : af.tmps[9]?.getD undef = .pointer (some ⟨w.heap.size, 0, none⟩) := hev0 9 rfl
   rw [if_neg (by decide)]
   obtain ⟨hs1, hg1, hbnd⟩ := h0 (by kernel_rfl)
   clear hev hev0 hd h0
   have yx0 := H9.out _ hs1.out.below 0 _ rfl
   have yx1 := H9.out _ hs1.out.below 1 _ rfl
   have yx2 := H9.out _ hs1.out.below 2 _ rfl
   have yx3 := H9.out _ hs1.out.below 3 _ rfl
   have yx4 := H9.out _ hs1.out.below 4 _ rfl
   have yx5 := H9.out _ hs1.out.below 5 _ rfl
   have yx6 := H9.out _ hs1.out.below 6 _ rfl
   have yx7 := H9.out _ hs1.out.below 7 _ rfl
   have yx8 := H9.out _ hs1.out.below 8 _ rfl
   have yx9 := H9.out _ hs1.out.below 9 _ rfl
   go_wp2
   exact sQ rfl
  ·intro xx af wv h0 hev hev0 hd
   have e12 : af.tmps[12]?.getD undef = .pointer (some ⟨w4.heap.size, 0, none⟩) := hev0 12 rfl
   rw [if_neg (by decide)]
   clear hev hev0 hd h0
   go_wp2
   exact sQ rfl
  ·intro xx af wv h0 hev hev0 hd
   have e34 := hev 2 _ 34 rfl rfl
   have d2 : xx 2 = .pointer (some ⟨w4.heap.size, 2, none⟩) := hd ⟨2, .data⟩ (by simp) rfl (by decide) (.inr (.inl (by kernel_rfl)))
   rw [d2] at e34
   clear d2
   rw [if_neg (by decide)]
   obtain ⟨hs1, hg1, hbnd⟩ := h0 (by kernel_rfl)
   clear hev hev0 hd h0
   have y0 := cC hs1 1 2
   go_wp2
   exact sQ rfl
  ·intro xx af wv h0 hev hev0 hd
   have e33 := hev 1 _ 33 rfl rfl
   have d1 : xx 1 = .agg #[.int .u8 (a.kind : Nat), .int .u8 (a.pass : Nat), .int .u8 (a.claim : Nat), .int .u16 (a.am : Nat), .int .u16 (a.p.a : Nat), .int .u16 (a.p.b : Nat), .int .u16 (a.p.c : Nat), .int .u16 (a.p.d : Nat), .int .u16 (a.p.e : Nat), .int .u16 (a.p.f : Nat)] := hd ⟨1, .data⟩ (by simp) rfl (by decide) (.inr (.inl (by kernel_rfl)))
   rw [d1] at e33
   clear d1
   have e35 := hev 3 _ 35 rfl rfl
   have d3 : xx 3 = .int .i64 r.day := hd ⟨3, .data⟩ (by simp) rfl (by decide) (.inr (.inl (by kernel_rfl)))
   rw [d3] at e35
   clear d3
   rw [if_neg (by decide)]
   obtain ⟨hs1, hg1, hbnd⟩ := h0 (by kernel_rfl)
   clear hev hev0 hd h0
   go_wp2_with fail
   refine (HEV.out _).mono ?_
   rintro e w8 ⟨rfl, hb8⟩
   go_wp2
   exact StepQ.mk _ hb8 rfl
  ·intro xx af wv h0 hev hev0 hd
   have e11 : af.tmps[11]?.getD undef = v3 := hev0 11 rfl
   rw [if_neg (by decide)]
   clear hev hev0 hd h0
   go_wp2
   exact sQ rfl
  ·intro xx af wv h0 hev hev0 hd
   have e32 := hev 0 _ 32 rfl rfl
   have d0 : xx 0 = .agg #[.int .i64 r.cut, .int .i64 r.bar, .int .i64 r.day, .slice A4 r.es.length c4] := hd ⟨0, .data⟩ (by simp) rfl (by decide) (.inr (.inl (by kernel_rfl)))
   rw [d0] at e32
   clear d0
   have e36 := hev 4 _ 36 rfl rfl
   have d4 : xx 4 = .agg #[.int .i64 e.kind, .int .i64 e.day, .string (bs e.id), .bool e.am.n, .string (bs e.am.a), .string (bs e.am.b), .int .i64 e.cre, .string (bs e.p.id), .int .i64 e.p.est, .int .i64 e.p.cre, .string (bs e.p.code), .bool e.p.an, .string (bs e.p.aa), .string (bs e.p.ab), .int .i64 e.p.inc, .int .i64 e.p.rank, .bool e.p.rn, .string (bs e.p.ra), .string (bs e.p.rb), .int .i64 e.p.rf, .int .i64 e.p.sec] := hd ⟨4, .data⟩ (by simp) rfl (by decide) (.inr (.inl (by kernel_rfl)))
   rw [d4] at e36
   clear d4
   have e37 := hev 5 _ 37 rfl rfl
   have d5 : xx 5 = v3 := hd ⟨5, .data⟩ (by simp) rfl (by decide) (.inr (.inl (by kernel_rfl)))
   rw [d5] at e37
   clear d5
   rw [if_neg (by decide)]
   obtain ⟨hs1, hg1, hbnd⟩ := h0 (by kernel_rfl)
   clear hev hev0 hd h0
   go_wp2_with fail
   refine (HAP.out _ _ _ (HE.out.below hs1.out.below) (HZ.out.below hs1.out.below)).mono ?_
   rintro e w8 ⟨v8, rfl, hG8, hb8⟩
   obtain ⟨A8, c8, hv8, _, _⟩ := (Slc.of_own a1g hG8 rfl).slice
   subst hv8
   have hl8 : ∃ A c, (Value.tuple #[Value.agg #[.int .i64 ans.1.cut, .int .i64 ans.1.bar, .int .i64 ans.1.day, .slice A8 ans.1.es.length c8], .int .i64 ans.2]) = Value.tuple #[Value.agg #[.int .i64 ans.1.cut, .int .i64 ans.1.bar, .int .i64 ans.1.day, .slice A ans.1.es.length c], .int .i64 ans.2] /\ Grows w8 w4.heap.size 57 30 (.slice A ans.1.es.length c) ans.1.es.length (flat Ent.enc ans.1.es) := ⟨A8, c8, rfl, Grows.base hG8 hs1.out.below.size⟩
   go_wp2
   exact StepQ.mk _ hb8 hl8
  ·intro xx af wv h0 hev hev0 hd
   have e38 := hev 6 _ 38 rfl rfl
   have d6 : ∃ A c, (xx 6) = Value.tuple #[Value.agg #[.int .i64 ans.1.cut, .int .i64 ans.1.bar, .int .i64 ans.1.day, .slice A ans.1.es.length c], .int .i64 ans.2] /\ Grows wv w4.heap.size 57 30 (.slice A ans.1.es.length c) ans.1.es.length (flat Ent.enc ans.1.es) := hd ⟨6, .data⟩ (by simp) rfl (by decide) (.inr (.inl (by kernel_rfl)))
   rw [if_neg (by decide)]
   obtain ⟨hs1, hg1, hbnd⟩ := h0 (by kernel_rfl)
   clear hev hev0 hd h0
   obtain ⟨A8, c8, hx8, hG8⟩ := d6
   rw [hx8] at e38
   go_wp2
   exact StepQ.mk _ (Below.refl _ _) ⟨A8, c8, rfl, hG8⟩
  ·intro xx af wv h0 hev hev0 hd
   have e31 := hev 7 _ 31 rfl rfl
   have d7 : ∃ A c, (xx 7) = Value.tuple #[Value.agg #[.int .i64 ans.1.cut, .int .i64 ans.1.bar, .int .i64 ans.1.day, .slice A ans.1.es.length c], .int .i64 ans.2] /\ Grows wv w4.heap.size 57 30 (.slice A ans.1.es.length c) ans.1.es.length (flat Ent.enc ans.1.es) := hd ⟨7, .data⟩ (by simp) rfl (by decide) (.inr (.inl (by kernel_rfl)))
   rw [if_neg (by decide)]
   obtain ⟨hs1, hg1, hbnd⟩ := h0 (by kernel_rfl)
   clear hev hev0 hd h0
   obtain ⟨A8, c8, hx8, hG8⟩ := d7
   rw [hx8] at e31
   go_wp2
   exact StepQ.mk _ (Below.refl _ _) ⟨A8, c8, rfl, hG8⟩
  ·intro xx af wv h0 hev hev0 hd
   have e31 := hev 7 _ 31 rfl rfl
   have d7 : ∃ A c, (xx 7) = Value.tuple #[Value.agg #[.int .i64 ans.1.cut, .int .i64 ans.1.bar, .int .i64 ans.1.day, .slice A ans.1.es.length c], .int .i64 ans.2] /\ Grows wv w4.heap.size 57 30 (.slice A ans.1.es.length c) ans.1.es.length (flat Ent.enc ans.1.es) := hd ⟨7, .data⟩ (by simp) rfl (by decide) (.inr (.inr (by decide)))
   rw [if_neg (by decide)]
   clear hev hev0 hd h0
   obtain ⟨A8, c8, hx8, hG8⟩ := d7
   rw [hx8] at e31
   go_wp2
   exact sQ rfl
  ·intro xx af wv h0 hev hev0 hd
   rw [if_neg (by decide)]
   obtain ⟨hs1, hg1, hbnd⟩ := h0 (by kernel_rfl)
   clear hev hev0 hd h0
   go_wp2
   exact StepQ.mk _ (Ext.alloc (Below.refl _ _) _) ⟨_, rfl, hbnd.out, Blk.new _ _ _⟩
  intro xx af wv h0 hev hev0 hd
  have e15 := hev 10 _ 15 rfl rfl
  have d10 : ∃ g, (xx 10) = Value.pointer (some ⟨g, 0, none⟩) /\ wg7.heap.size <= g /\ Blk wv g #[.int .i64 0, .int .i64 0, .int .i64 0, .slice none 0 0] 32 := hd ⟨10, .data⟩ (by simp) rfl (by decide) (.inl rfl)
  have e39 := hev 8 _ 39 rfl rfl
  have d8 : ∃ A c, (xx 8) = Value.agg #[.int .i64 ans.1.cut, .int .i64 ans.1.bar, .int .i64 ans.1.day, .slice A ans.1.es.length c] /\ Grows wv w4.heap.size 57 30 (.slice A ans.1.es.length c) ans.1.es.length (flat Ent.enc ans.1.es) := hd ⟨8, .data⟩ (by simp) rfl (by decide) (.inl rfl)
  clear hev hev0 hd h0
  rw [if_pos rfl]
  intro hI0
  obtain ⟨hs1, hg1, hbnd⟩ := hI0
  obtain ⟨g8, hxg, hge, hBk⟩ := d10
  rw [hxg] at e15
  have HXG := zh hxg
  clear hxg
  obtain ⟨A8, c8, hx8, hG8⟩ := d8
  rw [hx8] at e39
  have h1 := St.addNew hs1.out hBk HLT.out hge HL0.out
  have f0 := h1.frozen 0 rfl 0
  have f1 := h1.frozen 0 rfl 1
  have f2 := h1.frozen 0 rfl 2
  have f3 := h1.frozen 0 rfl 3
  have y0 := h1.cell 0 rfl 0 rfl
  have y1 := h1.cell 0 rfl 1 rfl
  have y2 := h1.cell 0 rfl 2 rfl
  have y3 := h1.cell 0 rfl 3 rfl
  have s0 := St.set h1 0 rfl 0 (.int .i64 ans.1.cut)
  have s1 := St.set s0 0 rfl 1 (.int .i64 ans.1.bar)
  have s2 := St.set s1 0 rfl 2 (.int .i64 ans.1.day)
  have s3 := St.set s2 0 rfl 3 (.slice A8 ans.1.es.length c8)
  have gw0 := Grows.setCell (j := 0) hG8 (h1.blk 0 rfl) (.int .i64 ans.1.cut)
  have gw1 := Grows.setCell (j := 1) gw0 (s0.blk 0 rfl) (.int .i64 ans.1.bar)
  have gw2 := Grows.setCell (j := 2) gw1 (s1.blk 0 rfl) (.int .i64 ans.1.day)
  have gw3 := Grows.setCell (j := 3) gw2 (s2.blk 0 rfl) (.slice A8 ans.1.es.length c8)
  have gp0 := Grows.setCell (j := 0) hg1.out (h1.blk 0 rfl) (.int .i64 ans.1.cut)
  have gp1 := Grows.setCell (j := 1) gp0 (s0.blk 0 rfl) (.int .i64 ans.1.bar)
  have gp2 := Grows.setCell (j := 2) gp1 (s1.blk 0 rfl) (.int .i64 ans.1.day)
  have gp3 := Grows.setCell (j := 3) gp2 (s2.blk 0 rfl) (.slice A8 ans.1.es.length c8)
  go_wp2
  refine StepM.mk ⟨g8, A8, c8, HXG.out, zh s3, zh gw3, zh gp3⟩ (fun j hj u hu => ?_)
  rcases List.mem_cons.1 hj with rfl | hj
  ·obtain ⟨A9, c9, hu9, hG9⟩ := hu
   have gx0 := Grows.setCell (j := 0) hG9 (h1.blk 0 rfl) (.int .i64 ans.1.cut)
   have gx1 := Grows.setCell (j := 1) gx0 (s0.blk 0 rfl) (.int .i64 ans.1.bar)
   have gx2 := Grows.setCell (j := 2) gx1 (s1.blk 0 rfl) (.int .i64 ans.1.day)
   have gx3 := Grows.setCell (j := 3) gx2 (s2.blk 0 rfl) (.slice A8 ans.1.es.length c8)
   exact ⟨A9, c9, hu9, gx3⟩
  rcases List.mem_cons.1 hj with rfl | hj
  ·exact hu
  cases hj
 intro xx w8 hI hv
 obtain ⟨g8, A8, c8, hxC, hS9, hG9, hP9⟩ := hI
 have HS8 : Hid (St w4 [⟨g8, #[.int .i64 ans.1.cut, .int .i64 ans.1.bar, .int .i64 ans.1.day, .slice A8 ans.1.es.length c8], 32⟩, _, _] w8) := hS9
 have N_8 := hG9
 have O_8 := hP9
 clear hS9 hG9 hP9 HT7 O_7 HLT HL0
 simp only [List.take, List.drop, a0r, Act.put]
 simp only [show xx 9 = _ from hv 9 (by decide), hxC]
 clear hv hxC N_8
 go_wp2
 have HLT := zh (fun r hr => (HS8.out.ok r hr).1.lt)
 have HL0 := zh HS8.out.below.size
 refine a5r 12 11 10 [7, 9] [eQ (.agg #[.int .i64 r.cut, .int .i64 r.bar, .int .i64 r.day, .slice A6 r.es.length c6]), eQ (.agg #[.int .u8 (a.kind : Nat), .int .u8 (a.pass : Nat), .int .u8 (a.claim : Nat), .int .u16 (a.am : Nat), .int .u16 (a.p.a : Nat), .int .u16 (a.p.b : Nat), .int .u16 (a.p.c : Nat), .int .u16 (a.p.d : Nat), .int .u16 (a.p.e : Nat), .int .u16 (a.p.f : Nat)]), eQ (.pointer (some ⟨w4.heap.size, 2, none⟩)), eQ (.int .i64 r.day), eQ (.agg #[.int .i64 e.kind, .int .i64 e.day, .string (bs e.id), .bool e.am.n, .string (bs e.am.a), .string (bs e.am.b), .int .i64 e.cre, .string (bs e.p.id), .int .i64 e.p.est, .int .i64 e.p.cre, .string (bs e.p.code), .bool e.p.an, .string (bs e.p.aa), .string (bs e.p.ab), .int .i64 e.p.inc, .int .i64 e.p.rank, .bool e.p.rn, .string (bs e.p.ra), .string (bs e.p.rb), .int .i64 e.p.rf, .int .i64 e.p.sec]), eQ (v3), fun ww vv => ∃ A c, vv = Value.tuple #[Value.agg #[.int .i64 ans.1.cut, .int .i64 ans.1.bar, .int .i64 ans.1.day, .slice A ans.1.es.length c], .int .i64 ans.2] /\ Grows ww w4.heap.size 57 30 (.slice A ans.1.es.length c) ans.1.es.length (flat Ent.enc ans.1.es), fun ww vv => ∃ A c, vv = Value.tuple #[Value.agg #[.int .i64 ans.1.cut, .int .i64 ans.1.bar, .int .i64 ans.1.day, .slice A ans.1.es.length c], .int .i64 ans.2] /\ Grows ww w4.heap.size 57 30 (.slice A ans.1.es.length c) ans.1.es.length (flat Ent.enc ans.1.es), fun ww vv => ∃ A c, vv = Value.agg #[.int .i64 ans.1.cut, .int .i64 ans.1.bar, .int .i64 ans.1.day, .slice A ans.1.es.length c] /\ Grows ww w4.heap.size 57 30 (.slice A ans.1.es.length c) ans.1.es.length (flat Ent.enc ans.1.es), fun ww vv => vv = .int .i64 ans.2, fun ww vv => ∃ g, vv = Value.pointer (some ⟨g, 0, none⟩) /\ w8.heap.size <= g /\ Blk ww g #[.int .i64 0, .int .i64 0, .int .i64 0, .slice none 0 0] 32, fun ww vv => True] (fun wv => Hid (St w4 [⟨g8, #[.int .i64 ans.1.cut, .int .i64 ans.1.bar, .int .i64 ans.1.day, .slice A8 ans.1.es.length c8], 32⟩, ⟨w6.heap.size, #[.int .i64 r.cut, .int .i64 r.bar, .int .i64 r.day, .slice A6 r.es.length c6], 32⟩, ⟨w4.heap.size, #[.int .i64 r.cut, .int .i64 r.bar, .int .i64 r.day, .slice A4 r.es.length c4], 32⟩] wv) /\ Hid (Grows wv w4.heap.size 57 30 (.slice A6 r.es.length c6) r.es.length (flat Ent.enc r.es)) /\ Hid (Bnd w8.heap.size wv)) (AppI w4 [⟨g8, #[.int .i64 ans.1.cut, .int .i64 ans.1.bar, .int .i64 ans.1.day, .slice A8 ans.1.es.length c8], 32⟩, ⟨w6.heap.size, #[.int .i64 r.cut, .int .i64 r.bar, .int .i64 r.day, .slice A6 r.es.length c6], 32⟩, ⟨w4.heap.size, #[.int .i64 r.cut, .int .i64 r.bar, .int .i64 r.day, .slice A4 r.es.length c4], 32⟩] (.int .i64 ans.1.cut) (.int .i64 ans.1.bar) (.int .i64 ans.1.day) w4.heap.size (ans.1.es.length) (ans.1.es) (fun W => Grows W w4.heap.size 57 30 (.slice A6 r.es.length c6) r.es.length (flat Ent.enc r.es))) (by kernel_rfl) (by decide) (by decide) rfl (by kernel_rfl) (by kernel_rfl) (by kernel_rfl) (by decide) (by decide) (a5k ?_) (fun _ _ h hb => ⟨zh (h.1.out.call hb), zh (Grows.below h.2.1.out hb), zh (Bnd.below h.2.2.out hb)⟩) (fun _ _ _ hh hb => hh.below hb (fun _ _ hp hb => Grows.below hp hb)) ⟨zh HS8.out.drew, zh (Grows.below O_8.out (Below.refl _ _).drew), zh (show Bnd w8.heap.size w8.drew from Nat.le_refl _)⟩ ?_ ?_
 ·intro φ hφ
  rcases List.mem_cons.1 hφ with rfl | hφ
  ·exact fun _ _ _ h _ => h
  rcases List.mem_cons.1 hφ with rfl | hφ
  ·exact fun _ _ _ h _ => h
  rcases List.mem_cons.1 hφ with rfl | hφ
  ·exact fun _ _ _ h _ => h
  rcases List.mem_cons.1 hφ with rfl | hφ
  ·exact fun _ _ _ h _ => h
  rcases List.mem_cons.1 hφ with rfl | hφ
  ·exact fun _ _ _ h _ => h
  rcases List.mem_cons.1 hφ with rfl | hφ
  ·exact fun _ _ _ h _ => h
  rcases List.mem_cons.1 hφ with rfl | hφ
  ·exact fun _ _ _ ⟨A, c, h, hg⟩ hb => ⟨A, c, h, Grows.below hg hb⟩
  rcases List.mem_cons.1 hφ with rfl | hφ
  ·exact fun _ _ _ ⟨A, c, h, hg⟩ hb => ⟨A, c, h, Grows.below hg hb⟩
  rcases List.mem_cons.1 hφ with rfl | hφ
  ·exact fun _ _ _ ⟨A, c, h, hg⟩ hb => ⟨A, c, h, Grows.below hg hb⟩
  rcases List.mem_cons.1 hφ with rfl | hφ
  ·exact fun _ _ _ h _ => h
  rcases List.mem_cons.1 hφ with rfl | hφ
  ·exact fun _ _ _ ⟨g, h, hg, hB⟩ hb => ⟨g, h, hg, hB.below hb hB.lt⟩
  rcases List.mem_cons.1 hφ with rfl | hφ
  ·exact fun _ _ _ h _ => h
  cases hφ
 ·refine ⟨?_, ?_, ?_, ?_, ?_, ?_, ?_, ?_, ?_, ?_, ?_, ?_, trivial⟩
  ·intro xx af wv h0 hev hev0 hd
   have e14 : af.tmps[14]?.getD undef = .pointer (some ⟨w6.heap.size, 0, none⟩) := hev0 14 rfl
   rw [if_neg (by decide)]
   obtain ⟨hs1, hg1, hbnd⟩ := h0 (by kernel_rfl)
   clear hev hev0 hd h0
   obtain ⟨y0, y1, y2⟩ := hs1.out.k0 1 rfl rfl rfl rfl
   have y3 := cC hs1 1 3
   go_wp2
   exact sQ rfl
  ·intro xx af wv h0 hev hev0 hd
   have e9 : af.tmps[9]?.getD undef = .pointer (some ⟨w.heap.size, 0, none⟩) := hev0 9 rfl
   rw [if_neg (by decide)]
   obtain ⟨hs1, hg1, hbnd⟩ := h0 (by kernel_rfl)
   clear hev hev0 hd h0
   have yx0 := H9.out _ hs1.out.below 0 _ rfl
   have yx1 := H9.out _ hs1.out.below 1 _ rfl
   have yx2 := H9.out _ hs1.out.below 2 _ rfl
   have yx3 := H9.out _ hs1.out.below 3 _ rfl
   have yx4 := H9.out _ hs1.out.below 4 _ rfl
   have yx5 := H9.out _ hs1.out.below 5 _ rfl
   have yx6 := H9.out _ hs1.out.below 6 _ rfl
   have yx7 := H9.out _ hs1.out.below 7 _ rfl
   have yx8 := H9.out _ hs1.out.below 8 _ rfl
   have yx9 := H9.out _ hs1.out.below 9 _ rfl
   go_wp2
   exact sQ rfl
  ·intro xx af wv h0 hev hev0 hd
   have e12 : af.tmps[12]?.getD undef = .pointer (some ⟨w4.heap.size, 0, none⟩) := hev0 12 rfl
   rw [if_neg (by decide)]
   clear hev hev0 hd h0
   go_wp2
   exact sQ rfl
  ·intro xx af wv h0 hev hev0 hd
   have e44 := hev 2 _ 44 rfl rfl
   have d2 : xx 2 = .pointer (some ⟨w4.heap.size, 2, none⟩) := hd ⟨2, .data⟩ (by simp) rfl (by decide) (.inr (.inl (by kernel_rfl)))
   rw [d2] at e44
   clear d2
   rw [if_neg (by decide)]
   obtain ⟨hs1, hg1, hbnd⟩ := h0 (by kernel_rfl)
   clear hev hev0 hd h0
   have y0 := cC hs1 2 2
   go_wp2
   exact sQ rfl
  ·intro xx af wv h0 hev hev0 hd
   have e43 := hev 1 _ 43 rfl rfl
   have d1 : xx 1 = .agg #[.int .u8 (a.kind : Nat), .int .u8 (a.pass : Nat), .int .u8 (a.claim : Nat), .int .u16 (a.am : Nat), .int .u16 (a.p.a : Nat), .int .u16 (a.p.b : Nat), .int .u16 (a.p.c : Nat), .int .u16 (a.p.d : Nat), .int .u16 (a.p.e : Nat), .int .u16 (a.p.f : Nat)] := hd ⟨1, .data⟩ (by simp) rfl (by decide) (.inr (.inl (by kernel_rfl)))
   rw [d1] at e43
   clear d1
   have e45 := hev 3 _ 45 rfl rfl
   have d3 : xx 3 = .int .i64 r.day := hd ⟨3, .data⟩ (by simp) rfl (by decide) (.inr (.inl (by kernel_rfl)))
   rw [d3] at e45
   clear d3
   rw [if_neg (by decide)]
   obtain ⟨hs1, hg1, hbnd⟩ := h0 (by kernel_rfl)
   clear hev hev0 hd h0
   go_wp2_with fail
   refine (HEV.out _).mono ?_
   rintro e w8 ⟨rfl, hb8⟩
   go_wp2
   exact StepQ.mk _ hb8 rfl
  ·intro xx af wv h0 hev hev0 hd
   have e11 : af.tmps[11]?.getD undef = v3 := hev0 11 rfl
   rw [if_neg (by decide)]
   clear hev hev0 hd h0
   go_wp2
   exact sQ rfl
  ·intro xx af wv h0 hev hev0 hd
   have e42 := hev 0 _ 42 rfl rfl
   have d0 : xx 0 = .agg #[.int .i64 r.cut, .int .i64 r.bar, .int .i64 r.day, .slice A6 r.es.length c6] := hd ⟨0, .data⟩ (by simp) rfl (by decide) (.inr (.inl (by kernel_rfl)))
   rw [d0] at e42
   clear d0
   have e46 := hev 4 _ 46 rfl rfl
   have d4 : xx 4 = .agg #[.int .i64 e.kind, .int .i64 e.day, .string (bs e.id), .bool e.am.n, .string (bs e.am.a), .string (bs e.am.b), .int .i64 e.cre, .string (bs e.p.id), .int .i64 e.p.est, .int .i64 e.p.cre, .string (bs e.p.code), .bool e.p.an, .string (bs e.p.aa), .string (bs e.p.ab), .int .i64 e.p.inc, .int .i64 e.p.rank, .bool e.p.rn, .string (bs e.p.ra), .string (bs e.p.rb), .int .i64 e.p.rf, .int .i64 e.p.sec] := hd ⟨4, .data⟩ (by simp) rfl (by decide) (.inr (.inl (by kernel_rfl)))
   rw [d4] at e46
   clear d4
   have e47 := hev 5 _ 47 rfl rfl
   have d5 : xx 5 = v3 := hd ⟨5, .data⟩ (by simp) rfl (by decide) (.inr (.inl (by kernel_rfl)))
   rw [d5] at e47
   clear d5
   rw [if_neg (by decide)]
   obtain ⟨hs1, hg1, hbnd⟩ := h0 (by kernel_rfl)
   clear hev hev0 hd h0
   go_wp2_with fail
   refine (HRP.out _ _ _ (Slc.of_own a1g hg1.out rfl) (HZ.out.below hs1.out.below)).mono ?_
   rintro e w8 ⟨v8, rfl, hG8, hb8⟩
   obtain ⟨A8, c8, hv8, _, _⟩ := (Slc.of_own a1g hG8 rfl).slice
   subst hv8
   have hl8 : ∃ A c, (Value.tuple #[Value.agg #[.int .i64 ans.1.cut, .int .i64 ans.1.bar, .int .i64 ans.1.day, .slice A8 ans.1.es.length c8], .int .i64 ans.2]) = Value.tuple #[Value.agg #[.int .i64 ans.1.cut, .int .i64 ans.1.bar, .int .i64 ans.1.day, .slice A ans.1.es.length c], .int .i64 ans.2] /\ Grows w8 w4.heap.size 57 30 (.slice A ans.1.es.length c) ans.1.es.length (flat Ent.enc ans.1.es) := ⟨A8, c8, rfl, Grows.base hG8 hs1.out.below.size⟩
   go_wp2
   exact StepQ.mk _ hb8 hl8
  ·intro xx af wv h0 hev hev0 hd
   have e48 := hev 6 _ 48 rfl rfl
   have d6 : ∃ A c, (xx 6) = Value.tuple #[Value.agg #[.int .i64 ans.1.cut, .int .i64 ans.1.bar, .int .i64 ans.1.day, .slice A ans.1.es.length c], .int .i64 ans.2] /\ Grows wv w4.heap.size 57 30 (.slice A ans.1.es.length c) ans.1.es.length (flat Ent.enc ans.1.es) := hd ⟨6, .data⟩ (by simp) rfl (by decide) (.inr (.inl (by kernel_rfl)))
   rw [if_neg (by decide)]
   obtain ⟨hs1, hg1, hbnd⟩ := h0 (by kernel_rfl)
   clear hev hev0 hd h0
   obtain ⟨A8, c8, hx8, hG8⟩ := d6
   rw [hx8] at e48
   go_wp2
   exact StepQ.mk _ (Below.refl _ _) ⟨A8, c8, rfl, hG8⟩
  ·intro xx af wv h0 hev hev0 hd
   have e41 := hev 7 _ 41 rfl rfl
   have d7 : ∃ A c, (xx 7) = Value.tuple #[Value.agg #[.int .i64 ans.1.cut, .int .i64 ans.1.bar, .int .i64 ans.1.day, .slice A ans.1.es.length c], .int .i64 ans.2] /\ Grows wv w4.heap.size 57 30 (.slice A ans.1.es.length c) ans.1.es.length (flat Ent.enc ans.1.es) := hd ⟨7, .data⟩ (by simp) rfl (by decide) (.inr (.inl (by kernel_rfl)))
   rw [if_neg (by decide)]
   obtain ⟨hs1, hg1, hbnd⟩ := h0 (by kernel_rfl)
   clear hev hev0 hd h0
   obtain ⟨A8, c8, hx8, hG8⟩ := d7
   rw [hx8] at e41
   go_wp2
   exact StepQ.mk _ (Below.refl _ _) ⟨A8, c8, rfl, hG8⟩
  ·intro xx af wv h0 hev hev0 hd
   have e41 := hev 7 _ 41 rfl rfl
   have d7 : ∃ A c, (xx 7) = Value.tuple #[Value.agg #[.int .i64 ans.1.cut, .int .i64 ans.1.bar, .int .i64 ans.1.day, .slice A ans.1.es.length c], .int .i64 ans.2] /\ Grows wv w4.heap.size 57 30 (.slice A ans.1.es.length c) ans.1.es.length (flat Ent.enc ans.1.es) := hd ⟨7, .data⟩ (by simp) rfl (by decide) (.inr (.inr (by decide)))
   rw [if_neg (by decide)]
   clear hev hev0 hd h0
   obtain ⟨A8, c8, hx8, hG8⟩ := d7
   rw [hx8] at e41
   go_wp2
   exact sQ rfl
  ·intro xx af wv h0 hev hev0 hd
   rw [if_neg (by decide)]
   obtain ⟨hs1, hg1, hbnd⟩ := h0 (by kernel_rfl)
   clear hev hev0 hd h0
   go_wp2
   exact StepQ.mk _ (Ext.alloc (Below.refl _ _) _) ⟨_, rfl, hbnd.out, Blk.new _ _ _⟩
  intro xx af wv h0 hev hev0 hd
  have e17 := hev 10 _ 17 rfl rfl
  have d10 : ∃ g, (xx 10) = Value.pointer (some ⟨g, 0, none⟩) /\ w8.heap.size <= g /\ Blk wv g #[.int .i64 0, .int .i64 0, .int .i64 0, .slice none 0 0] 32 := hd ⟨10, .data⟩ (by simp) rfl (by decide) (.inl rfl)
  have e49 := hev 8 _ 49 rfl rfl
  have d8 : ∃ A c, (xx 8) = Value.agg #[.int .i64 ans.1.cut, .int .i64 ans.1.bar, .int .i64 ans.1.day, .slice A ans.1.es.length c] /\ Grows wv w4.heap.size 57 30 (.slice A ans.1.es.length c) ans.1.es.length (flat Ent.enc ans.1.es) := hd ⟨8, .data⟩ (by simp) rfl (by decide) (.inl rfl)
  clear hev hev0 hd h0
  rw [if_pos rfl]
  intro hI0
  obtain ⟨hs1, hg1, hbnd⟩ := hI0
  obtain ⟨g8, hxg, hge, hBk⟩ := d10
  rw [hxg] at e17
  have HXG := zh hxg
  clear hxg
  obtain ⟨A8, c8, hx8, hG8⟩ := d8
  rw [hx8] at e49
  have h1 := St.addNew hs1.out hBk HLT.out hge HL0.out
  have f0 := h1.frozen 0 rfl 0
  have f1 := h1.frozen 0 rfl 1
  have f2 := h1.frozen 0 rfl 2
  have f3 := h1.frozen 0 rfl 3
  have y0 := h1.cell 0 rfl 0 rfl
  have y1 := h1.cell 0 rfl 1 rfl
  have y2 := h1.cell 0 rfl 2 rfl
  have y3 := h1.cell 0 rfl 3 rfl
  have s0 := St.set h1 0 rfl 0 (.int .i64 ans.1.cut)
  have s1 := St.set s0 0 rfl 1 (.int .i64 ans.1.bar)
  have s2 := St.set s1 0 rfl 2 (.int .i64 ans.1.day)
  have s3 := St.set s2 0 rfl 3 (.slice A8 ans.1.es.length c8)
  have gw0 := Grows.setCell (j := 0) hG8 (h1.blk 0 rfl) (.int .i64 ans.1.cut)
  have gw1 := Grows.setCell (j := 1) gw0 (s0.blk 0 rfl) (.int .i64 ans.1.bar)
  have gw2 := Grows.setCell (j := 2) gw1 (s1.blk 0 rfl) (.int .i64 ans.1.day)
  have gw3 := Grows.setCell (j := 3) gw2 (s2.blk 0 rfl) (.slice A8 ans.1.es.length c8)
  have gp0 := Grows.setCell (j := 0) hg1.out (h1.blk 0 rfl) (.int .i64 ans.1.cut)
  have gp1 := Grows.setCell (j := 1) gp0 (s0.blk 0 rfl) (.int .i64 ans.1.bar)
  have gp2 := Grows.setCell (j := 2) gp1 (s1.blk 0 rfl) (.int .i64 ans.1.day)
  have gp3 := Grows.setCell (j := 3) gp2 (s2.blk 0 rfl) (.slice A8 ans.1.es.length c8)
  go_wp2
  refine StepM.mk ⟨g8, A8, c8, HXG.out, zh s3, zh gw3, zh gp3⟩ (fun j hj u hu => ?_)
  rcases List.mem_cons.1 hj with rfl | hj
  ·obtain ⟨A9, c9, hu9, hG9⟩ := hu
   have gx0 := Grows.setCell (j := 0) hG9 (h1.blk 0 rfl) (.int .i64 ans.1.cut)
   have gx1 := Grows.setCell (j := 1) gx0 (s0.blk 0 rfl) (.int .i64 ans.1.bar)
   have gx2 := Grows.setCell (j := 2) gx1 (s1.blk 0 rfl) (.int .i64 ans.1.day)
   have gx3 := Grows.setCell (j := 3) gx2 (s2.blk 0 rfl) (.slice A8 ans.1.es.length c8)
   exact ⟨A9, c9, hu9, gx3⟩
  rcases List.mem_cons.1 hj with rfl | hj
  ·exact hu
  cases hj
 intro xx w9 hI hv
 obtain ⟨g9, A9, c9, hxC, hS9, hG9, hP9⟩ := hI
 have HS9 : Hid (St w4 [⟨g9, #[.int .i64 ans.1.cut, .int .i64 ans.1.bar, .int .i64 ans.1.day, .slice A9 ans.1.es.length c9], 32⟩, _, _, _] w9) := hS9
 have N_9 := hG9
 have O_9 := hP9
 clear hS9 hG9 hP9 HS8 O_8 HLT HL0
 simp only [List.take, List.drop, a0r, Act.put]
 simp only [show xx 9 = _ from hv 9 (by decide), hxC]
 clear hv hxC N_9
 go_wp2_with fail
 refine (HW.out _).mono ?_
 rintro e w10 ⟨rfl, hb10⟩
 have HS10 := zh (HS9.out.call hb10)
 have O_10 := zh (O_9.out.below hb10)
 clear O_9 hb10 HS9
 obtain ⟨x1, x2, x3⟩ := HS10.out.k0 3 rfl rfl rfl rfl
 have x4 := cC HS10 3 3
 obtain ⟨x5, x6, x7⟩ := HS10.out.k0 2 rfl rfl rfl rfl
 have x8 := cC HS10 2 3
 go_wp2_with fail
 refine (HSR.out _ _ _ (HE.out.below HS10.out.below) (Slc.of_own a1g O_10.out rfl)).mono ?_
 rintro e w11 ⟨rfl, hb11⟩
 have HS11 := zh (HS10.out.call hb11)
 have O_11 := zh (O_10.out.below hb11)
 clear O_10 hb11 HS10 x1 x2 x3 x4 x5 x6 x7 x8
 go_wp2
 go_ret
 have HS12 := zh HS11.out
 exact ⟨rfl, Ext.trans HB0.out HS12.out.below⟩
end Go.Proofs.YtoighiepglclkaaGreatDoor
