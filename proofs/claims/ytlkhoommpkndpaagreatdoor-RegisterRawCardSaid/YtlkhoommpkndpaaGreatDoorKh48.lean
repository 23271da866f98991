/-
Part 48 of the base.
-/
import Derived.Test.YtlkhoommpkndpaaGreatDoorKh37
import Derived.Test.YtlkhoommpkndpaaGreatDoorKh44
import Derived.Test.YtlkhoommpkndpaaGreatDoorKh46
import Derived.Test.YtlkhoommpkndpaaGreatDoorKh47
set_option maxRecDepth 100000
set_option maxHeartbeats 8000000
namespace Go.Proofs.YtlkhoommpkndpaaGreatDoor
open Go.RowKit
theorem fewG_mid {l : List Ent} (h : fewG l = true) (hf : ∀ x ∈ l, x.fit) : l.length <= 6 /\ ∀ x ∈ l, x.mid := by
 unfold fewG at h
 rw [Bool.and_eq_true] at h
 refine ⟨of_decide_eq_true h.1, fun x hx => ?_⟩
 have h2 := List.all_eq_true.1 h.2 x hx
 unfold fewE at h2
 rw [Bool.and_eq_true] at h2
 have k := fun (t : Raw3) (ht : t ∈ ([x.cl, x.fl, x.ad, x.ce] : List Raw3)) => List.all_eq_true.1 h2.1 t ht
 have q : ∀ t : Raw3, few3 t = true -> t.le 10000 := fun t ht => by
  unfold few3 at ht
  rw [Bool.and_eq_true] at ht
  obtain ⟨a, b⟩ := a5n ht.1
  exact ⟨by omega, by omega⟩
 exact ⟨hf x hx, q _ (k x.fl (by simp)), q _ (k x.ad (by simp)), q _ (k x.ce (by simp))⟩
theorem c8w {P : Program} {f : FuncId} {args : Array Value} {w : World} {l : List Int} (h : Calls P f args w (fun e w' => ∃ v', e = .returned v' /\ Grows w' w.heap.size 3 1 v' l.length (flat intC l) /\ Below w.heap.size w w')) : Calls P f args w (fun e w' => ∃ v', e = .returned v' /\ c0b w' v' l /\ Below w.heap.size w w') :=
 h.mono (fun _ _ ⟨v', h1, h2, h3⟩ => ⟨v', h1, Slc.of_own b1p h2 rfl, h3⟩)
theorem c5h {p : Prf} (h : b0b p = true) : (p.aa.length <= 100 /\ p.ab.length <= 100) /\ p.ra.length <= 100 /\ p.rb.length <= 100 := by
 unfold b0b at h
 rw [Bool.and_eq_true, Bool.and_eq_true] at h
 obtain ⟨a, b⟩ := a5n h.1.1
 obtain ⟨c, d⟩ := a5n h.1.2
 exact ⟨⟨by omega, by omega⟩, by omega, by omega⟩
theorem a9y (cut bar day : Int) (v : Value) (l : List Ent) (e : Evt) (es : Int) (w : World) (hv : a5f w v l) (hf : ∀ e ∈ l, e.fit) (_hc : -9223372036854775808 <= cut /\ cut <= 9223372036854775807) (_hb : -9223372036854775808 <= bar /\ bar <= 9223372036854775807) (_hd : -9223372036854775808 <= day /\ day <= 9223372036854775807) (he : e.p.fit /\ (Lit.int .i64 e.kind).wf = true /\ (Lit.int .i64 e.day).wf = true /\ (Lit.int .i64 e.cre).wf = true) (_hes : -9223372036854775808 <= es /\ es <= 9223372036854775807) (k1 : fewG l = true) (k2 : fewR e.am.a e.am.b = true) (k3 : b0b e.p = true) (h60 : ¬ 60 < e.p.id.length) :
  Calls Tryz.prog 12 #[.agg #[.int .i64 cut, .int .i64 bar, .int .i64 day, v], .agg (evC e.kind e.day e.id e.am e.cre e.p), .int .i64 es] w fun e w' => e = .returned (.bool true) /\ Below w.heap.size w w' := by
 unfold evC
 have hW := fun W => b5m W
 have hFW := fun W (hb : Below w.heap.size w W) => c1g cut bar day v l W (hv.below hb)
 have hFA := fun W => b1n e.am.n e.am.a e.am.b W
 have hVP := fun W => b0m e.p W
 have hmid := fun h => fewG_mid (l := l) h hf
 have hvl := fun h => c5h (p := e.p) h
 have hfl := fun h => a5n (a := e.am.a) (b := e.am.b) h
 unfold raw at hFA
 obtain ⟨AA, cA, rfl, _, _⟩ := hv.slice
 rw [k1] at hFW
 rw [k2] at hFA
 rw [k3] at hVP
 have hmid := hmid k1
 have hvl := hvl k3
 have hfl := hfl k2
 have HW := zh hW
 have HFW := zh hFW
 have HFA := zh hFA
 have HVP := zh hVP
 have HV := zh hv
 have HPF := zh he.1
 clear hW hFW hFA hVP hf _hc _hb _hd he _hes hv k1 k2 k3
 have d60 : decide ((60 : Int) < (e.p.id.length : Int)) = false := decide_eq_false (by omega)
 have d61 : decide (60 < e.p.id.length) = false := decide_eq_false h60
 have es2 : ((bs e.p.id).size : Int) = (e.p.id.length : Int) := by rw [a1q]
 obtain ⟨hl6, hm⟩ := hmid
 obtain ⟨hl1, hl2⟩ := hfl
 have hpl := hvl
 have hsz := c8r hm
 have hpf := HPF.out
 have hem : e.mid := ⟨⟨by omega, by omega⟩, hpf, hpl⟩
 have hAp := fun qv W (hs : a5f W (.slice AA l.length cA) l) (hq : a3g W qv [usdQ]) => a5j cut bar day (.slice AA l.length cA) qv l e [usdQ] W hs (by omega) hsz ⟨by omega, by omega⟩ hq c2d b3w ⟨hpf.1.1, hpf.1.2.1⟩ hpl (a8y hpf.2.2.2.2.2.2)
 have hRp := fun qv W (hs : a5f W (.slice AA l.length cA) l) (hq : a3g W qv [usdQ]) => c5z cut bar day (.slice AA l.length cA) qv l e [usdQ] W hs (by omega) hsz ⟨by omega, by omega⟩ hq c2d b3w ⟨hpf.1.1, hpf.1.2.1⟩ hpl
 have hmy := c9k (r := ⟨cut, bar, day, l⟩) (e := e) (qs := [usdQ]) hm hem b3w
 have hF1 := fun W (hb : Below w.heap.size w W) => a7y cut bar day (.slice AA l.length cA) l e.id W (HV.out.below hb)
 have hF2 := fun W (hb : Below w.heap.size w W) => a7m cut bar day (.slice AA l.length cA) l e.id W (HV.out.below hb)
 have hA1 := fun W (hb : Below w.heap.size w W) => c8w (b3m cut bar day es (.slice AA l.length cA) l W (HV.out.below hb) (by omega))
 have hA2 := fun W (hb : Below w.heap.size w W) => c8w (c0q cut bar day es (.slice AA l.length cA) l W (HV.out.below hb) (by omega))
 generalize agK l es l.length = ag at *
 have hSi := fun v1 v2 W h1 h2 => c0m v1 v2 ag W h1 h2
 generalize a0y ⟨cut, bar, day, l⟩ e [usdQ] = ans at *
 have hSr := fun s1 s2 W h1 h2 => b2h ans.1.cut ans.1.bar ans.1.day s1 s2 ans.1.es W h1 h2 (fun x hx => (hmy x hx).1)
 generalize (a3h l e.id).isSome = fB at *
 generalize (((a3h l e.id).getD 0 : Nat) : Int) = fi at *
 have q1 : (ans.2 == ans.2) = true := by simp
 have q2 : (fi == fi) = true := by simp
 have q3 : (fB == fB) = true := by simp
 have HAP := zh hAp
 have HRP := zh hRp
 have HF1 := zh hF1
 have HF2 := zh hF2
 have HA1 := zh hA1
 have HA2 := zh hA2
 have HSI := zh hSi
 have HSR := zh hSr
 clear h60 hmid hvl hfl hl6 hm hl1 hl2 hpl hsz hpf hem hAp hRp hmy hF1 hF2 hA1 hA2 hSi hSr
 go_enter Tryz.func12, Tryz.ntmps12
 have HS := zh (St.start w)
 go_wp2_with fail
 have HS2 := aL (aL HS #[.int .i64 cut, .int .i64 bar, .int .i64 day, .slice AA l.length cA] 24 w.heap.size) (evC e.kind e.day e.id e.am e.cre e.p) 56 (w.heap.size + 1)
 refine cL (HFW.out _ HS2.out.below) HS2 fun w3 HS3 => ?_
 clear HS HS2
 have x1 := cC HS3 0 3
 have x2 := cC HS3 0 4
 have x3 := cC HS3 0 5
 go_wp2_with fail
 refine cL (HFA.out _) HS3 fun w4 HS4 => ?_
 clear HS3 x1 x2 x3
 obtain ⟨x4, x5, x6⟩ := HS4.out.k7 0 rfl rfl rfl rfl
 have x7 := cC HS4 0 10
 have x8 := cC HS4 0 11
 have x9 := cC HS4 0 12
 have x10 := cC HS4 0 13
 have x11 := cC HS4 0 14
 have x12 := cC HS4 0 15
 have x13 := cC HS4 0 16
 have x14 := cC HS4 0 17
 have x15 := cC HS4 0 18
 have x16 := cC HS4 0 19
 have x17 := cC HS4 0 20
 go_wp2_with fail
 refine cL (HVP.out _) HS4 fun w5 HS5 => ?_
 clear HS4 x4 x5 x6 x7 x8 x9 x10 x11 x12 x13 x14 x15 x16 x17
 have x18 := cC HS5 0 7
 go_wp2
 clear x18
 have HLT := zh (fun r hr => (HS5.out.ok r hr).1.lt)
 have HL0 := zh HS5.out.below.size
 refine b0a 9 8 7 [4, 6] [eQ (.agg #[.int .i64 cut, .int .i64 bar, .int .i64 day, .slice AA l.length cA]), eQ (.agg #[.int .i64 e.kind, .int .i64 e.day, .string (bs e.id), .bool e.am.n, .string (bs e.am.a), .string (bs e.am.b), .int .i64 e.cre, .string (bs e.p.id), .int .i64 e.p.est, .int .i64 e.p.cre, .string (bs e.p.code), .bool e.p.an, .string (bs e.p.aa), .string (bs e.p.ab), .int .i64 e.p.inc, .int .i64 e.p.rank, .bool e.p.rn, .string (bs e.p.ra), .string (bs e.p.rb), .int .i64 e.p.rf, .int .i64 e.p.sec]), fun ww vv => a3g ww vv [usdQ], fun ww vv => ∃ A c, vv = Value.tuple #[Value.agg #[.int .i64 ans.1.cut, .int .i64 ans.1.bar, .int .i64 ans.1.day, .slice A ans.1.es.length c], .int .i64 ans.2] /\ Grows ww w.heap.size 63 30 (.slice A ans.1.es.length c) ans.1.es.length (flat Ent.enc ans.1.es), fun ww vv => ∃ A c, vv = Value.tuple #[Value.agg #[.int .i64 ans.1.cut, .int .i64 ans.1.bar, .int .i64 ans.1.day, .slice A ans.1.es.length c], .int .i64 ans.2] /\ Grows ww w.heap.size 63 30 (.slice A ans.1.es.length c) ans.1.es.length (flat Ent.enc ans.1.es), fun ww vv => ∃ A c, vv = Value.agg #[.int .i64 ans.1.cut, .int .i64 ans.1.bar, .int .i64 ans.1.day, .slice A ans.1.es.length c] /\ Grows ww w.heap.size 63 30 (.slice A ans.1.es.length c) ans.1.es.length (flat Ent.enc ans.1.es), fun ww vv => vv = .int .i64 ans.2, fun ww vv => ∃ g, vv = Value.pointer (some ⟨g, 0, none⟩) /\ w5.heap.size <= g /\ Blk ww g #[.int .i64 0, .int .i64 0, .int .i64 0, .slice none 0 0] 24, fun ww vv => True] (fun wv => Hid (St w [⟨w.heap.size + 1, (evC e.kind e.day e.id e.am e.cre e.p), 56⟩, ⟨w.heap.size, #[.int .i64 cut, .int .i64 bar, .int .i64 day, .slice AA l.length cA], 24⟩] wv) /\ Hid (Bnd w5.heap.size wv)) (AppI w [⟨w.heap.size + 1, (evC e.kind e.day e.id e.am e.cre e.p), 56⟩, ⟨w.heap.size, #[.int .i64 cut, .int .i64 bar, .int .i64 day, .slice AA l.length cA], 24⟩] (.int .i64 ans.1.cut) (.int .i64 ans.1.bar) (.int .i64 ans.1.day) w.heap.size (ans.1.es.length) (ans.1.es) (fun W => True)) (by kernel_rfl) (by decide) (by decide) rfl (by kernel_rfl) (by kernel_rfl) (by kernel_rfl) (by decide) (by decide) (a7p ?_) (fun _ _ h hb => ⟨zh (h.1.out.call hb), zh (Bnd.below h.2.out hb)⟩) (fun _ _ _ hh hb => hh.below hb (fun _ _ hp _ => hp)) ⟨zh HS5.out.drew, zh (show Bnd w5.heap.size w5.drew from Nat.le_refl _)⟩ ?_ ?_
 ·intro φ hφ
  rcases List.mem_cons.1 hφ with rfl | hφ
  ·exact fun _ _ _ h _ => h
  rcases List.mem_cons.1 hφ with rfl | hφ
  ·exact fun _ _ _ h _ => h
  rcases List.mem_cons.1 hφ with rfl | hφ
  ·exact fun _ _ _ h hb => h.below hb
  rcases List.mem_cons.1 hφ with rfl | hφ
  ·exact fun _ _ _ ⟨A, c, h, hg⟩ hb => ⟨A, c, h, Grows.below hg hb⟩
  rcases List.mem_cons.1 hφ with rfl | hφ
  ·exact fun _ _ _ ⟨A, c, h, hg⟩ hb => ⟨A, c, h, Grows.below hg hb⟩
  rcases List.mem_cons.1 hφ with rfl | hφ
  ·exact fun _ _ _ ⟨A, c, h, hg⟩ hb => ⟨A, c, h, Grows.below hg hb⟩
  rcases List.mem_cons.1 hφ with rfl | hφ
  ·exact fun _ _ _ h _ => h
  rcases List.mem_cons.1 hφ with rfl | hφ
  ·exact fun _ _ _ ⟨g, h, hg, hB⟩ hb => ⟨g, h, hg, hB.below hb hB.lt⟩
  rcases List.mem_cons.1 hφ with rfl | hφ
  ·exact fun _ _ _ h _ => h
  cases hφ
 ·refine ⟨?_, ?_, ?_, ?_, ?_, ?_, ?_, ?_, ?_, trivial⟩
  ·intro xx af wv h0 hev hev0 hd
   have e3 : af.tmps[3]?.getD undef = .pointer (some ⟨w.heap.size, 0, none⟩) := hev0 3 rfl
   rw [if_neg (by decide)]
   obtain ⟨hs1, hbnd⟩ := h0 (by kernel_rfl)
   clear hev hev0 hd h0
   obtain ⟨y0, y1, y2⟩ := hs1.out.k0 1 rfl rfl rfl rfl
   have y3 := cC hs1 1 3
   go_wp2
   exact sQ rfl
  ·intro xx af wv h0 hev hev0 hd
   have e4 : af.tmps[4]?.getD undef = .pointer (some ⟨w.heap.size + 1, 0, none⟩) := hev0 4 rfl
   rw [if_neg (by decide)]
   obtain ⟨hs1, hbnd⟩ := h0 (by kernel_rfl)
   clear hev hev0 hd h0
   refine wpList_load_mid rfl _ _ rfl (w.heap.size + 1) (0) ((a1k _ _).trans e4) (evC e.kind e.day e.id e.am e.cre e.p).toList _ (St.whole hs1.out 0 rfl) Tryz.underlying56 rfl a4v ?_
   go_wp2
   exact sQ rfl
  ·intro xx af wv h0 hev hev0 hd
   rw [if_neg (by decide)]
   obtain ⟨hs1, hbnd⟩ := h0 (by kernel_rfl)
   clear hev hev0 hd h0
   go_wp2_with fail
   refine (b5k _).mono ?_
   rintro e w8 ⟨v8, rfl, hl8, hb8⟩
   go_wp2
   exact StepQ.mk _ hb8 hl8
  ·intro xx af wv h0 hev hev0 hd
   have e39 := hev 0 _ 39 rfl rfl
   have d0 : xx 0 = .agg #[.int .i64 cut, .int .i64 bar, .int .i64 day, .slice AA l.length cA] := hd ⟨0, .data⟩ (by simp) rfl (by decide) (.inr (.inl (by kernel_rfl)))
   rw [d0] at e39
   clear d0
   have e40 := hev 1 _ 40 rfl rfl
   have d1 : xx 1 = .agg #[.int .i64 e.kind, .int .i64 e.day, .string (bs e.id), .bool e.am.n, .string (bs e.am.a), .string (bs e.am.b), .int .i64 e.cre, .string (bs e.p.id), .int .i64 e.p.est, .int .i64 e.p.cre, .string (bs e.p.code), .bool e.p.an, .string (bs e.p.aa), .string (bs e.p.ab), .int .i64 e.p.inc, .int .i64 e.p.rank, .bool e.p.rn, .string (bs e.p.ra), .string (bs e.p.rb), .int .i64 e.p.rf, .int .i64 e.p.sec] := hd ⟨1, .data⟩ (by simp) rfl (by decide) (.inr (.inl (by kernel_rfl)))
   rw [d1] at e40
   clear d1
   have e41 := hev 2 _ 41 rfl rfl
   have d2 : a3g wv (xx 2) [usdQ] := hd ⟨2, .data⟩ (by simp) rfl (by decide) (.inr (.inl (by kernel_rfl)))
   rw [if_neg (by decide)]
   obtain ⟨hs1, hbnd⟩ := h0 (by kernel_rfl)
   clear hev hev0 hd h0
   go_wp2_with fail
   refine (HAP.out _ _ (HV.out.below hs1.out.below) d2).mono ?_
   rintro e w8 ⟨v8, rfl, hG8, hb8⟩
   obtain ⟨A8, c8, hv8, _, _⟩ := (Slc.of_own a1n hG8 rfl).slice
   subst hv8
   have hl8 : ∃ A c, (Value.tuple #[Value.agg #[.int .i64 ans.1.cut, .int .i64 ans.1.bar, .int .i64 ans.1.day, .slice A8 ans.1.es.length c8], .int .i64 ans.2]) = Value.tuple #[Value.agg #[.int .i64 ans.1.cut, .int .i64 ans.1.bar, .int .i64 ans.1.day, .slice A ans.1.es.length c], .int .i64 ans.2] /\ Grows w8 w.heap.size 63 30 (.slice A ans.1.es.length c) ans.1.es.length (flat Ent.enc ans.1.es) := ⟨A8, c8, rfl, Grows.base hG8 hs1.out.below.size⟩
   go_wp2
   exact StepQ.mk _ hb8 hl8
  ·intro xx af wv h0 hev hev0 hd
   have e42 := hev 3 _ 42 rfl rfl
   have d3 : ∃ A c, (xx 3) = Value.tuple #[Value.agg #[.int .i64 ans.1.cut, .int .i64 ans.1.bar, .int .i64 ans.1.day, .slice A ans.1.es.length c], .int .i64 ans.2] /\ Grows wv w.heap.size 63 30 (.slice A ans.1.es.length c) ans.1.es.length (flat Ent.enc ans.1.es) := hd ⟨3, .data⟩ (by simp) rfl (by decide) (.inr (.inl (by kernel_rfl)))
   rw [if_neg (by decide)]
   obtain ⟨hs1, hbnd⟩ := h0 (by kernel_rfl)
   clear hev hev0 hd h0
   obtain ⟨A8, c8, hx8, hG8⟩ := d3
   rw [hx8] at e42
   go_wp2
   exact StepQ.mk _ (Below.refl _ _) ⟨A8, c8, rfl, hG8⟩
  ·intro xx af wv h0 hev hev0 hd
   have e38 := hev 4 _ 38 rfl rfl
   have d4 : ∃ A c, (xx 4) = Value.tuple #[Value.agg #[.int .i64 ans.1.cut, .int .i64 ans.1.bar, .int .i64 ans.1.day, .slice A ans.1.es.length c], .int .i64 ans.2] /\ Grows wv w.heap.size 63 30 (.slice A ans.1.es.length c) ans.1.es.length (flat Ent.enc ans.1.es) := hd ⟨4, .data⟩ (by simp) rfl (by decide) (.inr (.inl (by kernel_rfl)))
   rw [if_neg (by decide)]
   obtain ⟨hs1, hbnd⟩ := h0 (by kernel_rfl)
   clear hev hev0 hd h0
   obtain ⟨A8, c8, hx8, hG8⟩ := d4
   rw [hx8] at e38
   go_wp2
   exact StepQ.mk _ (Below.refl _ _) ⟨A8, c8, rfl, hG8⟩
  ·intro xx af wv h0 hev hev0 hd
   have e38 := hev 4 _ 38 rfl rfl
   have d4 : ∃ A c, (xx 4) = Value.tuple #[Value.agg #[.int .i64 ans.1.cut, .int .i64 ans.1.bar, .int .i64 ans.1.day, .slice A ans.1.es.length c], .int .i64 ans.2] /\ Grows wv w.heap.size 63 30 (.slice A ans.1.es.length c) ans.1.es.length (flat Ent.enc ans.1.es) := hd ⟨4, .data⟩ (by simp) rfl (by decide) (.inr (.inr (by decide)))
   rw [if_neg (by decide)]
   clear hev hev0 hd h0
   obtain ⟨A8, c8, hx8, hG8⟩ := d4
   rw [hx8] at e38
   go_wp2
   exact sQ rfl
  ·intro xx af wv h0 hev hev0 hd
   rw [if_neg (by decide)]
   obtain ⟨hs1, hbnd⟩ := h0 (by kernel_rfl)
   clear hev hev0 hd h0
   go_wp2
   exact StepQ.mk _ (Ext.alloc (Below.refl _ _) _) ⟨_, rfl, hbnd.out, Blk.new _ _ _⟩
  intro xx af wv h0 hev hev0 hd
  have e7 := hev 7 _ 7 rfl rfl
  have d7 : ∃ g, (xx 7) = Value.pointer (some ⟨g, 0, none⟩) /\ w5.heap.size <= g /\ Blk wv g #[.int .i64 0, .int .i64 0, .int .i64 0, .slice none 0 0] 24 := hd ⟨7, .data⟩ (by simp) rfl (by decide) (.inl rfl)
  have e43 := hev 5 _ 43 rfl rfl
  have d5 : ∃ A c, (xx 5) = Value.agg #[.int .i64 ans.1.cut, .int .i64 ans.1.bar, .int .i64 ans.1.day, .slice A ans.1.es.length c] /\ Grows wv w.heap.size 63 30 (.slice A ans.1.es.length c) ans.1.es.length (flat Ent.enc ans.1.es) := hd ⟨5, .data⟩ (by simp) rfl (by decide) (.inl rfl)
  clear hev hev0 hd h0
  rw [if_pos rfl]
  intro hI0
  obtain ⟨hs1, hbnd⟩ := hI0
  obtain ⟨g8, hxg, hge, hBk⟩ := d7
  rw [hxg] at e7
  have HXG := zh hxg
  clear hxg
  obtain ⟨A8, c8, hx8, hG8⟩ := d5
  rw [hx8] at e43
  have h1 := St.addNew hs1.out hBk HLT.out hge HL0.out
  have f0 := h1.frozen 0 rfl 0
  have f1 := h1.frozen 0 rfl 1
  have f2 := h1.frozen 0 rfl 2
  have f3 := h1.frozen 0 rfl 3
  have y0 := h1.cell 0 rfl 0 rfl
  have y1 := h1.cell 0 rfl 1 rfl
  have y2 := h1.cell 0 rfl 2 rfl
  have y3 := h1.cell 0 rfl 3 rfl
  have s0 := St.set h1 0 rfl 0 (.int .i64 ans.1.cut)
  have s1 := St.set s0 0 rfl 1 (.int .i64 ans.1.bar)
  have s2 := St.set s1 0 rfl 2 (.int .i64 ans.1.day)
  have s3 := St.set s2 0 rfl 3 (.slice A8 ans.1.es.length c8)
  have gw0 := Grows.setCell (j := 0) hG8 (h1.blk 0 rfl) (.int .i64 ans.1.cut)
  have gw1 := Grows.setCell (j := 1) gw0 (s0.blk 0 rfl) (.int .i64 ans.1.bar)
  have gw2 := Grows.setCell (j := 2) gw1 (s1.blk 0 rfl) (.int .i64 ans.1.day)
  have gw3 := Grows.setCell (j := 3) gw2 (s2.blk 0 rfl) (.slice A8 ans.1.es.length c8)
  go_wp2
  refine StepM.mk ⟨g8, A8, c8, HXG.out, zh s3, zh gw3, zh trivial⟩ (fun j hj u hu => ?_)
  rcases List.mem_cons.1 hj with rfl | hj
  ·obtain ⟨A9, c9, hu9, hG9⟩ := hu
   have gx0 := Grows.setCell (j := 0) hG9 (h1.blk 0 rfl) (.int .i64 ans.1.cut)
   have gx1 := Grows.setCell (j := 1) gx0 (s0.blk 0 rfl) (.int .i64 ans.1.bar)
   have gx2 := Grows.setCell (j := 2) gx1 (s1.blk 0 rfl) (.int .i64 ans.1.day)
   have gx3 := Grows.setCell (j := 3) gx2 (s2.blk 0 rfl) (.slice A8 ans.1.es.length c8)
   exact ⟨A9, c9, hu9, gx3⟩
  rcases List.mem_cons.1 hj with rfl | hj
  ·exact hu
  cases hj
 intro xx w6 hI hv
 obtain ⟨g6, A6, c6, hxC, hS9, hG9, hP9⟩ := hI
 have HS6 : Hid (St w [⟨g6, #[.int .i64 ans.1.cut, .int .i64 ans.1.bar, .int .i64 ans.1.day, .slice A6 ans.1.es.length c6], 24⟩, _, _] w6) := hS9
 have N_6 := hG9
 clear hS9 hG9 hP9 HS5  HLT HL0
 simp only [List.take, List.drop, a0p, Act.put]
 simp only [show xx 6 = _ from hv 6 (by decide), hxC]
 clear hv hxC
 go_wp2
 have HLT := zh (fun r hr => (HS6.out.ok r hr).1.lt)
 have HL0 := zh HS6.out.below.size
 refine b0a 9 8 7 [4, 6] [eQ (.agg #[.int .i64 cut, .int .i64 bar, .int .i64 day, .slice AA l.length cA]), eQ (.agg #[.int .i64 e.kind, .int .i64 e.day, .string (bs e.id), .bool e.am.n, .string (bs e.am.a), .string (bs e.am.b), .int .i64 e.cre, .string (bs e.p.id), .int .i64 e.p.est, .int .i64 e.p.cre, .string (bs e.p.code), .bool e.p.an, .string (bs e.p.aa), .string (bs e.p.ab), .int .i64 e.p.inc, .int .i64 e.p.rank, .bool e.p.rn, .string (bs e.p.ra), .string (bs e.p.rb), .int .i64 e.p.rf, .int .i64 e.p.sec]), fun ww vv => a3g ww vv [usdQ], fun ww vv => ∃ A c, vv = Value.tuple #[Value.agg #[.int .i64 ans.1.cut, .int .i64 ans.1.bar, .int .i64 ans.1.day, .slice A ans.1.es.length c], .int .i64 ans.2] /\ Grows ww w.heap.size 63 30 (.slice A ans.1.es.length c) ans.1.es.length (flat Ent.enc ans.1.es), fun ww vv => ∃ A c, vv = Value.tuple #[Value.agg #[.int .i64 ans.1.cut, .int .i64 ans.1.bar, .int .i64 ans.1.day, .slice A ans.1.es.length c], .int .i64 ans.2] /\ Grows ww w.heap.size 63 30 (.slice A ans.1.es.length c) ans.1.es.length (flat Ent.enc ans.1.es), fun ww vv => ∃ A c, vv = Value.agg #[.int .i64 ans.1.cut, .int .i64 ans.1.bar, .int .i64 ans.1.day, .slice A ans.1.es.length c] /\ Grows ww w.heap.size 63 30 (.slice A ans.1.es.length c) ans.1.es.length (flat Ent.enc ans.1.es), fun ww vv => vv = .int .i64 ans.2, fun ww vv => ∃ g, vv = Value.pointer (some ⟨g, 0, none⟩) /\ w6.heap.size <= g /\ Blk ww g #[.int .i64 0, .int .i64 0, .int .i64 0, .slice none 0 0] 24, fun ww vv => True] (fun wv => Hid (St w [⟨g6, #[.int .i64 ans.1.cut, .int .i64 ans.1.bar, .int .i64 ans.1.day, .slice A6 ans.1.es.length c6], 24⟩, ⟨w.heap.size + 1, (evC e.kind e.day e.id e.am e.cre e.p), 56⟩, ⟨w.heap.size, #[.int .i64 cut, .int .i64 bar, .int .i64 day, .slice AA l.length cA], 24⟩] wv) /\ Hid (Grows wv w.heap.size 63 30 (.slice A6 ans.1.es.length c6) ans.1.es.length (flat Ent.enc ans.1.es)) /\ Hid (Bnd w6.heap.size wv)) (AppI w [⟨g6, #[.int .i64 ans.1.cut, .int .i64 ans.1.bar, .int .i64 ans.1.day, .slice A6 ans.1.es.length c6], 24⟩, ⟨w.heap.size + 1, (evC e.kind e.day e.id e.am e.cre e.p), 56⟩, ⟨w.heap.size, #[.int .i64 cut, .int .i64 bar, .int .i64 day, .slice AA l.length cA], 24⟩] (.int .i64 ans.1.cut) (.int .i64 ans.1.bar) (.int .i64 ans.1.day) w.heap.size (ans.1.es.length) (ans.1.es) (fun W => Grows W w.heap.size 63 30 (.slice A6 ans.1.es.length c6) ans.1.es.length (flat Ent.enc ans.1.es))) (by kernel_rfl) (by decide) (by decide) rfl (by kernel_rfl) (by kernel_rfl) (by kernel_rfl) (by decide) (by decide) (a7p ?_) (fun _ _ h hb => ⟨zh (h.1.out.call hb), zh (Grows.below h.2.1.out hb), zh (Bnd.below h.2.2.out hb)⟩) (fun _ _ _ hh hb => hh.below hb (fun _ _ hp hb => Grows.below hp hb)) ⟨zh HS6.out.drew, zh (Grows.below N_6.out (Below.refl _ _).drew), zh (show Bnd w6.heap.size w6.drew from Nat.le_refl _)⟩ ?_ ?_
 ·intro φ hφ
  rcases List.mem_cons.1 hφ with rfl | hφ
  ·exact fun _ _ _ h _ => h
  rcases List.mem_cons.1 hφ with rfl | hφ
  ·exact fun _ _ _ h _ => h
  rcases List.mem_cons.1 hφ with rfl | hφ
  ·exact fun _ _ _ h hb => h.below hb
  rcases List.mem_cons.1 hφ with rfl | hφ
  ·exact fun _ _ _ ⟨A, c, h, hg⟩ hb => ⟨A, c, h, Grows.below hg hb⟩
  rcases List.mem_cons.1 hφ with rfl | hφ
  ·exact fun _ _ _ ⟨A, c, h, hg⟩ hb => ⟨A, c, h, Grows.below hg hb⟩
  rcases List.mem_cons.1 hφ with rfl | hφ
  ·exact fun _ _ _ ⟨A, c, h, hg⟩ hb => ⟨A, c, h, Grows.below hg hb⟩
  rcases List.mem_cons.1 hφ with rfl | hφ
  ·exact fun _ _ _ h _ => h
  rcases List.mem_cons.1 hφ with rfl | hφ
  ·exact fun _ _ _ ⟨g, h, hg, hB⟩ hb => ⟨g, h, hg, hB.below hb hB.lt⟩
  rcases List.mem_cons.1 hφ with rfl | hφ
  ·exact fun _ _ _ h _ => h
  cases hφ
 ·refine ⟨?_, ?_, ?_, ?_, ?_, ?_, ?_, ?_, ?_, trivial⟩
  ·intro xx af wv h0 hev hev0 hd
   have e3 : af.tmps[3]?.getD undef = .pointer (some ⟨w.heap.size, 0, none⟩) := hev0 3 rfl
   rw [if_neg (by decide)]
   obtain ⟨hs1, hg1, hbnd⟩ := h0 (by kernel_rfl)
   clear hev hev0 hd h0
   obtain ⟨y0, y1, y2⟩ := hs1.out.k0 2 rfl rfl rfl rfl
   have y3 := cC hs1 2 3
   go_wp2
   exact sQ rfl
  ·intro xx af wv h0 hev hev0 hd
   have e4 : af.tmps[4]?.getD undef = .pointer (some ⟨w.heap.size + 1, 0, none⟩) := hev0 4 rfl
   rw [if_neg (by decide)]
   obtain ⟨hs1, hg1, hbnd⟩ := h0 (by kernel_rfl)
   clear hev hev0 hd h0
   refine wpList_load_mid rfl _ _ rfl (w.heap.size + 1) (0) ((a1k _ _).trans e4) (evC e.kind e.day e.id e.am e.cre e.p).toList _ (St.whole hs1.out 1 rfl) Tryz.underlying56 rfl a4v ?_
   go_wp2
   exact sQ rfl
  ·intro xx af wv h0 hev hev0 hd
   rw [if_neg (by decide)]
   obtain ⟨hs1, hg1, hbnd⟩ := h0 (by kernel_rfl)
   clear hev hev0 hd h0
   go_wp2_with fail
   refine (b5k _).mono ?_
   rintro e w8 ⟨v8, rfl, hl8, hb8⟩
   go_wp2
   exact StepQ.mk _ hb8 hl8
  ·intro xx af wv h0 hev hev0 hd
   have e46 := hev 0 _ 46 rfl rfl
   have d0 : xx 0 = .agg #[.int .i64 cut, .int .i64 bar, .int .i64 day, .slice AA l.length cA] := hd ⟨0, .data⟩ (by simp) rfl (by decide) (.inr (.inl (by kernel_rfl)))
   rw [d0] at e46
   clear d0
   have e47 := hev 1 _ 47 rfl rfl
   have d1 : xx 1 = .agg #[.int .i64 e.kind, .int .i64 e.day, .string (bs e.id), .bool e.am.n, .string (bs e.am.a), .string (bs e.am.b), .int .i64 e.cre, .string (bs e.p.id), .int .i64 e.p.est, .int .i64 e.p.cre, .string (bs e.p.code), .bool e.p.an, .string (bs e.p.aa), .string (bs e.p.ab), .int .i64 e.p.inc, .int .i64 e.p.rank, .bool e.p.rn, .string (bs e.p.ra), .string (bs e.p.rb), .int .i64 e.p.rf, .int .i64 e.p.sec] := hd ⟨1, .data⟩ (by simp) rfl (by decide) (.inr (.inl (by kernel_rfl)))
   rw [d1] at e47
   clear d1
   have e48 := hev 2 _ 48 rfl rfl
   have d2 : a3g wv (xx 2) [usdQ] := hd ⟨2, .data⟩ (by simp) rfl (by decide) (.inr (.inl (by kernel_rfl)))
   rw [if_neg (by decide)]
   obtain ⟨hs1, hg1, hbnd⟩ := h0 (by kernel_rfl)
   clear hev hev0 hd h0
   go_wp2_with fail
   refine (HRP.out _ _ (HV.out.below hs1.out.below) d2).mono ?_
   rintro e w8 ⟨v8, rfl, hG8, hb8⟩
   obtain ⟨A8, c8, hv8, _, _⟩ := (Slc.of_own a1n hG8 rfl).slice
   subst hv8
   have hl8 : ∃ A c, (Value.tuple #[Value.agg #[.int .i64 ans.1.cut, .int .i64 ans.1.bar, .int .i64 ans.1.day, .slice A8 ans.1.es.length c8], .int .i64 ans.2]) = Value.tuple #[Value.agg #[.int .i64 ans.1.cut, .int .i64 ans.1.bar, .int .i64 ans.1.day, .slice A ans.1.es.length c], .int .i64 ans.2] /\ Grows w8 w.heap.size 63 30 (.slice A ans.1.es.length c) ans.1.es.length (flat Ent.enc ans.1.es) := ⟨A8, c8, rfl, Grows.base hG8 hs1.out.below.size⟩
   go_wp2
   exact StepQ.mk _ hb8 hl8
  ·intro xx af wv h0 hev hev0 hd
   have e49 := hev 3 _ 49 rfl rfl
   have d3 : ∃ A c, (xx 3) = Value.tuple #[Value.agg #[.int .i64 ans.1.cut, .int .i64 ans.1.bar, .int .i64 ans.1.day, .slice A ans.1.es.length c], .int .i64 ans.2] /\ Grows wv w.heap.size 63 30 (.slice A ans.1.es.length c) ans.1.es.length (flat Ent.enc ans.1.es) := hd ⟨3, .data⟩ (by simp) rfl (by decide) (.inr (.inl (by kernel_rfl)))
   rw [if_neg (by decide)]
   obtain ⟨hs1, hg1, hbnd⟩ := h0 (by kernel_rfl)
   clear hev hev0 hd h0
   obtain ⟨A8, c8, hx8, hG8⟩ := d3
   rw [hx8] at e49
   go_wp2
   exact StepQ.mk _ (Below.refl _ _) ⟨A8, c8, rfl, hG8⟩
  ·intro xx af wv h0 hev hev0 hd
   have e45 := hev 4 _ 45 rfl rfl
   have d4 : ∃ A c, (xx 4) = Value.tuple #[Value.agg #[.int .i64 ans.1.cut, .int .i64 ans.1.bar, .int .i64 ans.1.day, .slice A ans.1.es.length c], .int .i64 ans.2] /\ Grows wv w.heap.size 63 30 (.slice A ans.1.es.length c) ans.1.es.length (flat Ent.enc ans.1.es) := hd ⟨4, .data⟩ (by simp) rfl (by decide) (.inr (.inl (by kernel_rfl)))
   rw [if_neg (by decide)]
   obtain ⟨hs1, hg1, hbnd⟩ := h0 (by kernel_rfl)
   clear hev hev0 hd h0
   obtain ⟨A8, c8, hx8, hG8⟩ := d4
   rw [hx8] at e45
   go_wp2
   exact StepQ.mk _ (Below.refl _ _) ⟨A8, c8, rfl, hG8⟩
  ·intro xx af wv h0 hev hev0 hd
   have e45 := hev 4 _ 45 rfl rfl
   have d4 : ∃ A c, (xx 4) = Value.tuple #[Value.agg #[.int .i64 ans.1.cut, .int .i64 ans.1.bar, .int .i64 ans.1.day, .slice A ans.1.es.length c], .int .i64 ans.2] /\ Grows wv w.heap.size 63 30 (.slice A ans.1.es.length c) ans.1.es.length (flat Ent.enc ans.1.es) := hd ⟨4, .data⟩ (by simp) rfl (by decide) (.inr (.inr (by decide)))
   rw [if_neg (by decide)]
   clear hev hev0 hd h0
   obtain ⟨A8, c8, hx8, hG8⟩ := d4
   rw [hx8] at e45
   go_wp2
   exact sQ rfl
  ·intro xx af wv h0 hev hev0 hd
   rw [if_neg (by decide)]
   obtain ⟨hs1, hg1, hbnd⟩ := h0 (by kernel_rfl)
   clear hev hev0 hd h0
   go_wp2
   exact StepQ.mk _ (Ext.alloc (Below.refl _ _) _) ⟨_, rfl, hbnd.out, Blk.new _ _ _⟩
  intro xx af wv h0 hev hev0 hd
  have e9 := hev 7 _ 9 rfl rfl
  have d7 : ∃ g, (xx 7) = Value.pointer (some ⟨g, 0, none⟩) /\ w6.heap.size <= g /\ Blk wv g #[.int .i64 0, .int .i64 0, .int .i64 0, .slice none 0 0] 24 := hd ⟨7, .data⟩ (by simp) rfl (by decide) (.inl rfl)
  have e50 := hev 5 _ 50 rfl rfl
  have d5 : ∃ A c, (xx 5) = Value.agg #[.int .i64 ans.1.cut, .int .i64 ans.1.bar, .int .i64 ans.1.day, .slice A ans.1.es.length c] /\ Grows wv w.heap.size 63 30 (.slice A ans.1.es.length c) ans.1.es.length (flat Ent.enc ans.1.es) := hd ⟨5, .data⟩ (by simp) rfl (by decide) (.inl rfl)
  clear hev hev0 hd h0
  rw [if_pos rfl]
  intro hI0
  obtain ⟨hs1, hg1, hbnd⟩ := hI0
  obtain ⟨g8, hxg, hge, hBk⟩ := d7
  rw [hxg] at e9
  have HXG := zh hxg
  clear hxg
  obtain ⟨A8, c8, hx8, hG8⟩ := d5
  rw [hx8] at e50
  have h1 := St.addNew hs1.out hBk HLT.out hge HL0.out
  have f0 := h1.frozen 0 rfl 0
  have f1 := h1.frozen 0 rfl 1
  have f2 := h1.frozen 0 rfl 2
  have f3 := h1.frozen 0 rfl 3
  have y0 := h1.cell 0 rfl 0 rfl
  have y1 := h1.cell 0 rfl 1 rfl
  have y2 := h1.cell 0 rfl 2 rfl
  have y3 := h1.cell 0 rfl 3 rfl
  have s0 := St.set h1 0 rfl 0 (.int .i64 ans.1.cut)
  have s1 := St.set s0 0 rfl 1 (.int .i64 ans.1.bar)
  have s2 := St.set s1 0 rfl 2 (.int .i64 ans.1.day)
  have s3 := St.set s2 0 rfl 3 (.slice A8 ans.1.es.length c8)
  have gw0 := Grows.setCell (j := 0) hG8 (h1.blk 0 rfl) (.int .i64 ans.1.cut)
  have gw1 := Grows.setCell (j := 1) gw0 (s0.blk 0 rfl) (.int .i64 ans.1.bar)
  have gw2 := Grows.setCell (j := 2) gw1 (s1.blk 0 rfl) (.int .i64 ans.1.day)
  have gw3 := Grows.setCell (j := 3) gw2 (s2.blk 0 rfl) (.slice A8 ans.1.es.length c8)
  have gp0 := Grows.setCell (j := 0) hg1.out (h1.blk 0 rfl) (.int .i64 ans.1.cut)
  have gp1 := Grows.setCell (j := 1) gp0 (s0.blk 0 rfl) (.int .i64 ans.1.bar)
  have gp2 := Grows.setCell (j := 2) gp1 (s1.blk 0 rfl) (.int .i64 ans.1.day)
  have gp3 := Grows.setCell (j := 3) gp2 (s2.blk 0 rfl) (.slice A8 ans.1.es.length c8)
  go_wp2
  refine StepM.mk ⟨g8, A8, c8, HXG.out, zh s3, zh gw3, zh gp3⟩ (fun j hj u hu => ?_)
  rcases List.mem_cons.1 hj with rfl | hj
  ·obtain ⟨A9, c9, hu9, hG9⟩ := hu
   have gx0 := Grows.setCell (j := 0) hG9 (h1.blk 0 rfl) (.int .i64 ans.1.cut)
   have gx1 := Grows.setCell (j := 1) gx0 (s0.blk 0 rfl) (.int .i64 ans.1.bar)
   have gx2 := Grows.setCell (j := 2) gx1 (s1.blk 0 rfl) (.int .i64 ans.1.day)
   have gx3 := Grows.setCell (j := 3) gx2 (s2.blk 0 rfl) (.slice A8 ans.1.es.length c8)
   exact ⟨A9, c9, hu9, gx3⟩
  rcases List.mem_cons.1 hj with rfl | hj
  ·exact hu
  cases hj
 intro xx w7 hI hv
 obtain ⟨g7, A7, c7, hxC, hS9, hG9, hP9⟩ := hI
 have HS7 : Hid (St w [⟨g7, #[.int .i64 ans.1.cut, .int .i64 ans.1.bar, .int .i64 ans.1.day, .slice A7 ans.1.es.length c7], 24⟩, _, _, _] w7) := hS9
 have M_7 := hG9
 have N_7 := hP9
 clear hS9 hG9 hP9 HS6 N_6 HLT HL0
 simp only [List.take, List.drop, a0p, Act.put]
 simp only [show xx 6 = _ from hv 6 (by decide), hxC]
 clear hv hxC
 obtain ⟨x19, x20, x21⟩ := HS7.out.k0 3 rfl rfl rfl rfl
 have x22 := cC HS7 3 3
 have x23 := cC HS7 2 2
 go_wp2_with fail
 refine (HF1.out _ HS7.out.below).mono ?_
 rintro e w8 ⟨rfl, hb8⟩
 have HS8 := zh (HS7.out.call hb8)
 have N_8 := zh (N_7.out.below hb8)
 clear N_7
 have M_8 := zh (M_7.out.below hb8)
 clear M_7 hb8 HS7 x19 x20 x21 x22 x23
 obtain ⟨x24, x25, x26⟩ := HS8.out.k0 3 rfl rfl rfl rfl
 have x27 := cC HS8 3 3
 have x28 := cC HS8 2 2
 go_wp2_with fail
 refine (HF2.out _ HS8.out.below).mono ?_
 rintro e w9 ⟨rfl, hb9⟩
 have HS9 := zh (HS8.out.call hb9)
 have N_9 := zh (N_8.out.below hb9)
 clear N_8
 have M_9 := zh (M_8.out.below hb9)
 clear M_8 hb9 HS8 x24 x25 x26 x27 x28
 go_wp2
 refine a0d 30 [eQ (.bool true), eQ (.bool true), eQ (.agg #[.int .i64 ans.1.cut, .int .i64 ans.1.bar, .int .i64 ans.1.day, .slice A6 ans.1.es.length c6]), eQ (.agg #[.int .i64 ans.1.cut, .int .i64 ans.1.bar, .int .i64 ans.1.day, .slice A7 ans.1.es.length c7]), eQ (.bool true), eQ (.bool true), eQ (.bool true), eQ (.int .i64 ans.2), eQ (.int .i64 ans.2), eQ (.bool true), eQ (.bool true), eQ (.bool true), eQ (.int .i64 fi), eQ (.int .i64 fi), eQ (.bool true), eQ (.bool true), eQ (.bool true), eQ (.bool fB), eQ (.bool fB), eQ (.bool true), eQ (.bool true), eQ (.bool true), eQ (.agg #[.int .i64 cut, .int .i64 bar, .int .i64 day, .slice AA l.length cA]), eQ (.int .i64 es), fun ww vv => c0b ww vv ag, eQ (.agg #[.int .i64 cut, .int .i64 bar, .int .i64 day, .slice AA l.length cA]), eQ (.int .i64 es), fun ww vv => c0b ww vv ag, eQ (.bool true), eQ (.bool true)] rfl (by kernel_rfl) (by kernel_rfl) (by kernel_rfl) ⟨stE, stE, stE, stE, stE, stE, stE, stE, stE, stE, stE, stE, stE, stE, stE, stE, stE, stE, stE, stE, stE, stE, stE, stE, fun _ _ _ h hb => h.below hb, stE, stE, fun _ _ _ h hb => h.below hb, stE, stE, trivial⟩ ?_ ?_
 refine ⟨?_, ?_, ?_, ?_, ?_, ?_, ?_, ?_, ?_, ?_, ?_, ?_, ?_, ?_, ?_, ?_, ?_, ?_, ?_, ?_, ?_, ?_, ?_, ?_, ?_, ?_, ?_, ?_, ?_, ?_, trivial⟩ <;> (intro xx af wv hbx hev hev0 hd; have H := SH.mk hev hev0 hd; clear hev hev0 hd)
 ·clear H
  go_wp2_with fail
  refine (HW.out _).mono ?_
  rintro e w8 ⟨rfl, hb8⟩; go_wp2; exact StepQ.mk _ hb8 rfl
 ·have e66 := H.r 0 66; clear H; go_wp2; exact sQ rfl
 ·have e67 := H.g 1 67; have e7 := H.i 7; have q67 := a0b e67; clear H; have hs1 := zh (HS9.out.call hbx); obtain ⟨y0, y1, y2⟩ := hs1.out.k0 1 rfl rfl rfl rfl; have y3 := cC hs1 1 3; go_wp2; exact sQ rfl
 ·have e67 := H.g 1 67; have e9 := H.i 9; have q67 := a0b e67; clear H; have hs1 := zh (HS9.out.call hbx); obtain ⟨y0, y1, y2⟩ := hs1.out.k0 0 rfl rfl rfl rfl; have y3 := cC hs1 0 3; go_wp2; exact sQ rfl
 ·have e67 := (H.ev 1 _ 67 rfl rfl).trans (H.hd ⟨1, .chain⟩ (by simp) rfl); have e68 := H.r 2 68; have e69 := H.r 3 69; have q67 := a0b e67; clear H
  go_wp2_with fail
  refine (HSR.out _ _ _ (Slc.of_own a1n (N_9.out.below hbx) rfl) (Slc.of_own a1n (M_9.out.below hbx) rfl)).mono ?_
  rintro e w8 ⟨rfl, hb8⟩; go_wp2; exact StepQ.mk _ hb8 rfl
 ·have e67 := H.r 1 67; have e70 := H.r 4 70; clear H; go_wp2; exact sQ rfl
 ·have e71 := H.r 5 71; clear H; go_wp2; exact sQ rfl
 ·have e72 := H.g 6 72; have e8 := H.i 8; have q72 := a0b e72; clear H; go_wp2; exact sQ rfl
 ·have e72 := H.g 6 72; have e10 := H.i 10; have q72 := a0b e72; clear H; go_wp2; exact sQ rfl
 ·have e72 := H.g 6 72; have e73 := H.r 7 73; have e74 := H.r 8 74; have q72 := a0b e72; clear H; go_wp2; exact sQ rfl
 ·have e72 := H.r 6 72; have e75 := H.r 9 75; clear H; go_wp2; exact sQ rfl
 ·have e76 := H.r 10 76; clear H; go_wp2; exact sQ rfl
 ·have e77 := H.g 11 77; have e11 := H.i 11; have q77 := a0b e77; clear H; go_wp2; exact sQ rfl
 ·have e77 := H.g 11 77; have e13 := H.i 13; have q77 := a0b e77; clear H; go_wp2; exact sQ rfl
 ·have e77 := H.g 11 77; have e78 := H.r 12 78; have e79 := H.r 13 79; have q77 := a0b e77; clear H; go_wp2; exact sQ rfl
 ·have e77 := H.r 11 77; have e80 := H.r 14 80; clear H; go_wp2; exact sQ rfl
 ·have e81 := H.r 15 81; clear H; go_wp2; exact sQ rfl
 ·have e82 := H.g 16 82; have e12 := H.i 12; have q82 := a0b e82; clear H; go_wp2; exact sQ rfl
 ·have e82 := H.g 16 82; have e14 := H.i 14; have q82 := a0b e82; clear H; go_wp2; exact sQ rfl
 ·have e82 := H.g 16 82; have e83 := H.r 17 83; have e84 := H.r 18 84; have q82 := a0b e82; clear H; go_wp2; exact sQ rfl
 ·have e82 := H.r 16 82; have e85 := H.r 19 85; clear H; go_wp2; exact sQ rfl
 ·have e86 := H.r 20 86; clear H; go_wp2; exact sQ rfl
 ·have e87 := H.g 21 87; have e3 := H.i 3; have q87 := a0b e87; clear H; have hs1 := zh (HS9.out.call hbx); obtain ⟨y0, y1, y2⟩ := hs1.out.k0 3 rfl rfl rfl rfl; have y3 := cC hs1 3 3; go_wp2; exact sQ rfl
 ·have e87 := H.g 21 87; have e2 := H.i 2; have q87 := a0b e87; clear H; go_wp2; exact sQ rfl
 ·have e87 := (H.ev 21 _ 87 rfl rfl).trans (H.hd ⟨21, .chain⟩ (by simp) rfl); have e88 := H.r 22 88; have e89 := H.r 23 89; have q87 := a0b e87; clear H; have hs1 := zh (HS9.out.call hbx)
  go_wp2_with fail
  refine (HA1.out _ hs1.out.below).mono ?_
  rintro e w8 ⟨v8, rfl, hl8, hb8⟩; go_wp2; exact StepQ.mk _ hb8 hl8
 ·have e87 := H.g 21 87; have e3 := H.i 3; have q87 := a0b e87; clear H; have hs1 := zh (HS9.out.call hbx); obtain ⟨y0, y1, y2⟩ := hs1.out.k0 3 rfl rfl rfl rfl; have y3 := cC hs1 3 3; go_wp2; exact sQ rfl
 ·have e87 := H.g 21 87; have e2 := H.i 2; have q87 := a0b e87; clear H; go_wp2; exact sQ rfl
 ·have e87 := H.g 21 87; have e91 := H.r 25 91; have e92 := H.r 26 92; have q87 := a0b e87; clear H; have hs1 := zh (HS9.out.call hbx)
  go_wp2_with fail
  refine (HA2.out _ hs1.out.below).mono ?_
  rintro e w8 ⟨v8, rfl, hl8, hb8⟩; go_wp2; exact StepQ.mk _ hb8 hl8
 ·have e87 := H.g 21 87; have e90 := H.ev 24 _ 90 rfl rfl; have d24 : c0b wv (xx 24) ag := H.hd ⟨24, .data⟩ (by simp) rfl; have e93 := H.ev 27 _ 93 rfl rfl; have d27 : c0b wv (xx 27) ag := H.hd ⟨27, .data⟩ (by simp) rfl; have q87 := a0b e87; clear H
  go_wp2_with fail
  refine (HSI.out _ _ _ d24 d27).mono ?_
  rintro e w8 ⟨rfl, hb8⟩; go_wp2; exact StepQ.mk _ hb8 rfl
 ·have e87 := H.r 21 87; have e94 := H.r 28 94; clear H; go_wp2; exact sQ rfl
 intro xx w10 hb9 hv
 obtain ⟨v10_24, hx24⟩ : ∃ v, v = xx 24 := ⟨_, rfl⟩
 have hl24 : c0b w10 (xx 24) ag := hv 24 (by decide)
 rw [<- hx24] at hl24
 obtain ⟨v10_27, hx27⟩ : ∃ v, v = xx 27 := ⟨_, rfl⟩
 have hl27 : c0b w10 (xx 27) ag := hv 27 (by decide)
 rw [<- hx27] at hl27
 simp only [List.take, List.drop, a0p, Act.put]
 simp only [vQ hv 0, vQ hv 1, vQ hv 2, vQ hv 3, vQ hv 4, vQ hv 5, vQ hv 6, vQ hv 7, vQ hv 8, vQ hv 9, vQ hv 10, vQ hv 11, vQ hv 12, vQ hv 13, vQ hv 14, vQ hv 15, vQ hv 16, vQ hv 17, vQ hv 18, vQ hv 19, vQ hv 20, vQ hv 21, vQ hv 22, vQ hv 23, vQ hv 25, vQ hv 26, vQ hv 28, vQ hv 29, <- hx24, <- hx27]
 clear hv hx24 hx27
 have HS10 := zh (HS9.out.call hb9)
 have N_10 := zh (N_9.out.below hb9)
 clear N_9
 have M_10 := zh (M_9.out.below hb9)
 clear M_9
 have A1_10 := zh hl24
 clear hl24
 have A2_10 := zh hl27
 clear hl27 hb9 HS9
 go_wp2
 go_ret
 have HS11 := zh HS10.out
 exact ⟨rfl, HS11.out.below⟩
theorem b5j (cut bar day : Int) (v : Value) (l : List Ent) (e : Evt) (es : Int) (w : World) (hv : a5f w v l) (hf : ∀ e ∈ l, e.fit) (_hc : -9223372036854775808 <= cut /\ cut <= 9223372036854775807) (_hb : -9223372036854775808 <= bar /\ bar <= 9223372036854775807) (_hd : -9223372036854775808 <= day /\ day <= 9223372036854775807) (he : e.p.fit /\ (Lit.int .i64 e.kind).wf = true /\ (Lit.int .i64 e.day).wf = true /\ (Lit.int .i64 e.cre).wf = true) (_hes : -9223372036854775808 <= es /\ es <= 9223372036854775807) :
  Calls Tryz.prog 12 #[.agg #[.int .i64 cut, .int .i64 bar, .int .i64 day, v], .agg (evC e.kind e.day e.id e.am e.cre e.p), .int .i64 es] w fun e w' => e = .returned (.bool true) /\ Below w.heap.size w w' := by
 unfold evC
 have hW := fun W => b5m W
 have hFW := fun W (hb : Below w.heap.size w W) => c1g cut bar day v l W (hv.below hb)
 have hFA := fun W => b1n e.am.n e.am.a e.am.b W
 have hVP := fun W => b0m e.p W
 unfold raw at hFA
 have hmain := fun k1 k2 k3 k4 => a9y cut bar day v l e es w hv hf _hc _hb _hd he _hes k1 k2 k3 k4
 obtain ⟨AA, cA, rfl, _, _⟩ := hv.slice
 generalize fewG l = fg at *
 generalize fewR e.am.a e.am.b = fa at *
 generalize b0b e.p = vp at *
 have HW := zh hW
 have HFW := zh hFW
 have HFA := zh hFA
 have HVP := zh hVP
 have HMAIN := zh hmain
 clear hW hFW hFA hVP hf _hc _hb _hd he _hes hv hmain
 cases fg
 ·go_enter Tryz.func12, Tryz.ntmps12
  have HS := zh (St.start w)
  go_wp2_with fail
  have HS2 := aL (aL HS #[.int .i64 cut, .int .i64 bar, .int .i64 day, .slice AA l.length cA] 24 w.heap.size) (evC e.kind e.day e.id e.am e.cre e.p) 56 (w.heap.size + 1)
  refine cL (HFW.out _ HS2.out.below) HS2 fun w3 HS3 => ?_
  clear HS HS2
  go_wp2_with fail
  refine cL (HW.out _) HS3 fun w4 HS4 => ?_
  clear HS3
  go_wp2
  go_ret
  have HS5 := zh HS4.out
  exact ⟨rfl, HS5.out.below⟩
 cases fa
 ·go_enter Tryz.func12, Tryz.ntmps12
  have HS := zh (St.start w)
  go_wp2_with fail
  have HS2 := aL (aL HS #[.int .i64 cut, .int .i64 bar, .int .i64 day, .slice AA l.length cA] 24 w.heap.size) (evC e.kind e.day e.id e.am e.cre e.p) 56 (w.heap.size + 1)
  refine cL (HFW.out _ HS2.out.below) HS2 fun w3 HS3 => ?_
  clear HS HS2
  have x1 := cC HS3 0 3
  have x2 := cC HS3 0 4
  have x3 := cC HS3 0 5
  go_wp2_with fail
  refine cL (HFA.out _) HS3 fun w4 HS4 => ?_
  clear HS3 x1 x2 x3
  go_wp2_with fail
  refine cL (HW.out _) HS4 fun w5 HS5 => ?_
  clear HS4
  go_wp2
  go_ret
  have HS6 := zh HS5.out
  exact ⟨rfl, HS6.out.below⟩
 cases vp
 ·go_enter Tryz.func12, Tryz.ntmps12
  have HS := zh (St.start w)
  go_wp2_with fail
  have HS2 := aL (aL HS #[.int .i64 cut, .int .i64 bar, .int .i64 day, .slice AA l.length cA] 24 w.heap.size) (evC e.kind e.day e.id e.am e.cre e.p) 56 (w.heap.size + 1)
  refine cL (HFW.out _ HS2.out.below) HS2 fun w3 HS3 => ?_
  clear HS HS2
  have x1 := cC HS3 0 3
  have x2 := cC HS3 0 4
  have x3 := cC HS3 0 5
  go_wp2_with fail
  refine cL (HFA.out _) HS3 fun w4 HS4 => ?_
  clear HS3 x1 x2 x3
  obtain ⟨x4, x5, x6⟩ := HS4.out.k7 0 rfl rfl rfl rfl
  have x7 := cC HS4 0 10
  have x8 := cC HS4 0 11
  have x9 := cC HS4 0 12
  have x10 := cC HS4 0 13
  have x11 := cC HS4 0 14
  have x12 := cC HS4 0 15
  have x13 := cC HS4 0 16
  have x14 := cC HS4 0 17
  have x15 := cC HS4 0 18
  have x16 := cC HS4 0 19
  have x17 := cC HS4 0 20
  go_wp2_with fail
  refine cL (HVP.out _) HS4 fun w5 HS5 => ?_
  clear HS4 x4 x5 x6 x7 x8 x9 x10 x11 x12 x13 x14 x15 x16 x17
  go_wp2_with fail
  refine cL (HW.out _) HS5 fun w6 HS6 => ?_
  clear HS5
  go_wp2
  go_ret
  have HS7 := zh HS6.out
  exact ⟨rfl, HS7.out.below⟩
 have es2 : ((bs e.p.id).size : Int) = (e.p.id.length : Int) := by rw [a1q]
 by_cases h60 : 60 < e.p.id.length
 ·have d60 : decide ((60 : Int) < (e.p.id.length : Int)) = true := decide_eq_true (by omega)
  have d61 : decide (60 < e.p.id.length) = true := decide_eq_true h60
  clear h60
  go_enter Tryz.func12, Tryz.ntmps12
  have HS := zh (St.start w)
  go_wp2_with fail
  have HS2 := aL (aL HS #[.int .i64 cut, .int .i64 bar, .int .i64 day, .slice AA l.length cA] 24 w.heap.size) (evC e.kind e.day e.id e.am e.cre e.p) 56 (w.heap.size + 1)
  refine cL (HFW.out _ HS2.out.below) HS2 fun w3 HS3 => ?_
  clear HS HS2
  have x1 := cC HS3 0 3
  have x2 := cC HS3 0 4
  have x3 := cC HS3 0 5
  go_wp2_with fail
  refine cL (HFA.out _) HS3 fun w4 HS4 => ?_
  clear HS3 x1 x2 x3
  obtain ⟨x4, x5, x6⟩ := HS4.out.k7 0 rfl rfl rfl rfl
  have x7 := cC HS4 0 10
  have x8 := cC HS4 0 11
  have x9 := cC HS4 0 12
  have x10 := cC HS4 0 13
  have x11 := cC HS4 0 14
  have x12 := cC HS4 0 15
  have x13 := cC HS4 0 16
  have x14 := cC HS4 0 17
  have x15 := cC HS4 0 18
  have x16 := cC HS4 0 19
  have x17 := cC HS4 0 20
  go_wp2_with fail
  refine cL (HVP.out _) HS4 fun w5 HS5 => ?_
  clear HS4 x4 x5 x6 x7 x8 x9 x10 x11 x12 x13 x14 x15 x16 x17
  have x18 := cC HS5 0 7
  go_wp2_with fail
  refine cL (HW.out _) HS5 fun w6 HS6 => ?_
  clear HS5 x18
  go_wp2
  go_ret
  have HS7 := zh HS6.out
  exact ⟨rfl, HS7.out.below⟩
 exact HMAIN.out (by first | exact rfl | exact True.intro) (by first | exact rfl | exact True.intro) (by first | exact rfl | exact True.intro) h60
end Go.Proofs.YtlkhoommpkndpaaGreatDoor
