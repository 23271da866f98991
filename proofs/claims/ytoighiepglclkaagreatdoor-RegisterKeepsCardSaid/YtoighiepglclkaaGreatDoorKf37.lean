/-
Part 37 of the base.
-/
import Derived.Test.YtoighiepglclkaaGreatDoorKf36
set_option maxRecDepth 100000
set_option maxHeartbeats 4000000
namespace Go.Proofs.YtoighiepglclkaaGreatDoor
open Go.RowKit
def AppI (w0 : World) (R : List Own) (a b d : Value) (B : Nat) (n : Nat) (es : List Ent) (gp : World -> Prop) (vc : Value) (wv : World) : Prop :=
 ∃ g A c, vc = Value.pointer (some ⟨g, 0, none⟩) /\ Hid (St w0 (⟨g, #[a, b, d, .slice A n c], 32⟩ :: R) wv) /\ Hid (Grows wv B 57 30 (.slice A n c) n (flat Ent.enc es)) /\ Hid (gp wv)
theorem AppI.below {w0 : World} {R : List Own} {a b d : Value} {B n : Nat} {es : List Ent} {gp : World -> Prop} {vc : Value} {w1 w2 : World} (h : AppI w0 R a b d B n es gp vc w1) (hb : Below w1.heap.size w1 w2) (hg : ∀ w1 w2, gp w1 -> Below w1.heap.size w1 w2 -> gp w2) : AppI w0 R a b d B n es gp vc w2 := by
 obtain ⟨g, A, c, hx, h, h2, h3⟩ := h
 exact ⟨g, A, c, hx, zh (h.out.call hb), zh (Grows.below h2.out hb), zh (hg _ _ h3.out hb)⟩
def runK (cut bar : Nat) (acts : List ActN) (qs : List Quo) (k : Nat) : Rgs × Int := (acts.take k).foldl (b0p qs) ((newR (cut % 60 : Nat) (bar % 90 : Nat)).1, 0)
theorem c8z {cut bar : Nat} {acts : List ActN} {qs : List Quo} {k : Nat} {a : ActN} (h : acts[k]? = some a) : runK cut bar acts qs (k + 1) = b0p qs (runK cut bar acts qs k) a := fold_at h
theorem b5j {cut bar : Nat} {acts : List ActN} {qs : List Quo} (ha : ∀ a ∈ acts, a.ok) (hq : ∀ q ∈ qs, q.low) (k : Nat) (hk : k <= 40) : (runK cut bar acts qs k).1.good /\ (runK cut bar acts qs k).1.es.length <= 40 /\ 0 <= (runK cut bar acts qs k).2 /\ (runK cut bar acts qs k).2 <= 120 := by
 obtain ⟨h1, h2, h3, h4⟩ := b9f hq (acts.take k) (fun a h => ha a (List.mem_of_mem_take h)) ((newR (cut % 60 : Nat) (bar % 90 : Nat)).1, 0) (new_good _ _)
 have hl : (acts.take k).length <= k := by rw [List.length_take]; omega
 have h0 : (newR (cut % 60 : Nat) (bar % 90 : Nat)).1.es = [] := by unfold newR; split <;> rfl
 rw [h0] at h2
 exact ⟨h1, by unfold runK; have : ([] : List Ent).length = 0 := rfl; omega, h3, by unfold runK; dsimp only at h4; omega⟩
theorem c0b {cut bar : Nat} {acts : List ActN} {qs : List Quo} {k : Nat} (h : k = acts.length /\ k <= 40 \/ k = 40) : (runK cut bar acts qs k).1 = runA cut bar acts qs := by
 unfold runK runA
 rcases h with ⟨h, h2⟩ | h
 ·rw [h, List.take_length, List.take_of_length_le (by omega)]
 rw [h]
theorem stepA_eq {qs : List Quo} {s : Rgs × Int} {a : ActN} {d : Int} (hd : s.2 + (a.pass : Int) % 4 = d) : b0p qs s a = if (a0q s.1 (evOf a d) qs).2 ≠ 0 then (s.1, d) else ((a0q s.1 (evOf a d) qs).1, d) := by
 unfold b0p
 rw [Int.natCast_emod, show ((4 : Nat) : Int) = 4 from rfl, hd]
theorem c2m {l : List Ent} (h : ∀ x ∈ l, x.mid) : ∀ x ∈ l, (x.fl.a.length <= 1000000 /\ x.fl.b.length <= 1000000) /\ (x.ad.a.length <= 1000000 /\ x.ad.b.length <= 1000000) /\ (x.ce.a.length <= 1000000 /\ x.ce.b.length <= 1000000) := fun x hx => by
 obtain ⟨_, ⟨h1, h2⟩, ⟨h3, h4⟩, h5, h6⟩ := h x hx
 exact ⟨⟨by omega, by omega⟩, ⟨by omega, by omega⟩, by omega, by omega⟩
theorem b9u {r : Rgs} {e : Evt} {qs : List Quo} {v qv : Value} (hr : r.good) (hl : r.es.length <= 1000) (he : e.mid) (hok : ∀ q ∈ qs, q.ok) (hq : ∀ q ∈ qs, q.low) (w : World) (hv : a5d w v r.es) (hqv : a3f w qv qs) :
  Calls Tryz.prog 7 #[.agg #[.int .i64 r.cut, .int .i64 r.bar, .int .i64 r.day, v], .agg #[.int .i64 e.kind, .int .i64 e.day, .string (bs e.id), .bool e.am.n, .string (bs e.am.a), .string (bs e.am.b), .int .i64 e.cre, .string (bs e.p.id), .int .i64 e.p.est, .int .i64 e.p.cre, .string (bs e.p.code), .bool e.p.an, .string (bs e.p.aa), .string (bs e.p.ab), .int .i64 e.p.inc, .int .i64 e.p.rank, .bool e.p.rn, .string (bs e.p.ra), .string (bs e.p.rb), .int .i64 e.p.rf, .int .i64 e.p.sec], qv] w fun q w' => ∃ v', q = .returned (.tuple #[.agg #[.int .i64 (a0q r e qs).1.cut, .int .i64 (a0q r e qs).1.bar, .int .i64 (a0q r e qs).1.day, v'], .int .i64 (a0q r e qs).2]) /\ Grows w' w.heap.size 57 30 v' (a0q r e qs).1.es.length (flat Ent.enc (a0q r e qs).1.es) /\ Below w.heap.size w w' :=
 a5t r.cut r.bar r.day v qv r.es e qs w hv hl (c2m hr.2) (by obtain ⟨h1, h2⟩ := he.1; exact ⟨by omega, by omega⟩) hqv hok hq ⟨he.2.1.1.1, he.2.1.1.2.1⟩ he.2.2 (d0q he.2.1.2.2.2.2.2.2)
theorem d0n (cut bar : Nat) (v qv : Value) (acts : List ActN) (qs : List Quo) (w : World) (hc : cut <= 255) (hb : bar <= 255) (hA : ActsL w v acts) (hok : ∀ a ∈ acts, a.ok) (hqv : a3f w qv qs) (hqo : ∀ q ∈ qs, q.ok) (hql : ∀ q ∈ qs, q.low) :
  Calls Tryz.prog 5 #[.int .u8 (cut : Nat), .int .u8 (bar : Nat), v, qv] w fun e w' => ∃ v' n, e = .returned (.tuple #[.agg #[.int .i64 (runA cut bar acts qs).cut, .int .i64 (runA cut bar acts qs).bar, .int .i64 (runA cut bar acts qs).day, v'], .int .i64 n]) /\ Grows w' w.heap.size 57 30 v' (runA cut bar acts qs).es.length (flat Ent.enc (runA cut bar acts qs).es) /\ Below w.heap.size w w' := by
 have hN := fun W => b3p ((cut % 60 : Nat) : Int) ((bar % 90 : Nat) : Int) W
 have hn0 : newR ((cut % 60 : Nat) : Int) ((bar % 90 : Nat) : Int) = (⟨(cut % 60 : Nat), (bar % 90 : Nat), 0, []⟩, 0) := by
  unfold newR
  rw [if_neg]
  have h1 : dayB ((cut % 60 : Nat) : Int) = true := by unfold dayB; rw [decide_eq_true (show (0 : Int) <= ((cut % 60 : Nat) : Int) by omega), decide_eq_true (show ((cut % 60 : Nat) : Int) <= 1048576 by omega)]; rfl
  have h2 : dayB ((bar % 90 : Nat) : Int) = true := by unfold dayB; rw [decide_eq_true (show (0 : Int) <= ((bar % 90 : Nat) : Int) by omega), decide_eq_true (show ((bar % 90 : Nat) : Int) <= 1048576 by omega)]; rfl
  rw [h1, h2]
  simp
 have hr0 : runK cut bar acts qs 0 = (⟨(cut % 60 : Nat), (bar % 90 : Nat), 0, []⟩, 0) := by unfold runK; rw [hn0]; rfl
 rw [hn0] at hN
 dsimp only at hN
 have hgd := fun k h => b5j (cut := cut) (bar := bar) hok hql k h
 have hsu := fun k a (h : acts[k]? = some a) => c8z (cut := cut) (bar := bar) (qs := qs) h
 have hen := fun k h => c0b (cut := cut) (bar := bar) (acts := acts) (qs := qs) (k := k) h
 have hE := fun (a : ActN) (ha : a.ok) d W => b6h a d W ha
 have hM := fun (a : ActN) (ha : a.ok) d => b4w ha d
 have hAp := fun (r : Rgs) (e : Evt) (hr : r.good) (hl : r.es.length <= 1000) (he : e.mid) (sl : Value) W (hb : Below w.heap.size w W) (hs : a5d W sl r.es) => b9u (v := sl) hr hl he hqo hql W hs (hqv.below hb)
 rw [Int.natCast_emod, Int.natCast_emod] at hN hr0
 have t1 : Int.tmod (cut : Int) 60 = (cut : Int) % 60 := Int.tmod_eq_emod_of_nonneg (by omega)
 have t2 : Int.tmod (bar : Int) 90 = (bar : Int) % 90 := Int.tmod_eq_emod_of_nonneg (by omega)
 have u1 : IntKind.u8.wrap ((cut : Int) % 60) = (cut : Int) % 60 := by rw [IntKind.wrap_u8]; omega
 have u2 : IntKind.u8.wrap ((bar : Int) % 90) = (bar : Int) % 90 := by rw [IntKind.wrap_u8]; omega
 have i1 : IntKind.i64.wrap ((cut : Int) % 60) = (cut : Int) % 60 := IntWalk.i64_in _ (by omega)
 have i2 : IntKind.i64.wrap ((bar : Int) % 90) = (bar : Int) % 90 := IntWalk.i64_in _ (by omega)
 have H := zh hA
 have HOK := zh hok
 obtain ⟨AA, cA, rfl, hl, hcc⟩ := hA.slice
 have HNx := zh hN
 have HR0x := zh hr0
 have HGDx := zh hgd
 have HSUx := zh hsu
 have HENx := zh hen
 have HEx := zh hE
 have HMx := zh hM
 have HAPx := zh hAp
 clear hn0 hA hok hqv hqo hql hl hcc hN hr0 hgd hsu hen hE hM hAp
 go_enter Tryz.func5, Tryz.ntmps5
 have HS := zh (St.start w)
 go_wp2_with fail
 have HS2 := aL HS #[.int .i64 0, .int .i64 0, .int .i64 0, .slice none 0 0] 32 w.heap.size
 refine cL (HNx.out _) HS2 fun w3 HS3 => ?_
 clear HS HS2
 go_wp2
 go_loopw [12, 13, 14] (fun n d i wr => ∃ (k m : Nat) (s : Rgs × Int) (A : Option Addr) (c : Nat), k <= acts.length /\ k <= 40 /\ i = .int .i64 k /\ d = .int .i64 s.2 /\ n = .int .i64 m /\ m <= k /\ Hid (s = runK cut bar acts qs k) /\ Hid (Grows wr w.heap.size 57 30 (.slice A s.1.es.length c) s.1.es.length (flat Ent.enc s.1.es)) /\ Hid (St w [⟨w3.heap.size, #[.int .i64 s.1.cut, .int .i64 s.1.bar, .int .i64 s.1.day, .slice A s.1.es.length c], 32⟩, ⟨w.heap.size, #[.int .i64 0, .int .i64 0, .int .i64 0, .slice none 0 0], 32⟩] wr)) (fun _ _ i _ => acts.length - (intOf i).toNat)
 case atStart => exact ⟨0, 0, (⟨(cut : Int) % 60, (bar : Int) % 90, 0, []⟩, 0), none, 0, Nat.zero_le _, Nat.zero_le _, rfl, rfl, rfl, Nat.le_refl _, HR0x.out.symm, ⟨rfl, .inl ⟨rfl, rfl⟩⟩, (St.alloc (HS3.out) #[.int .i64 ((cut : Int) % 60), .int .i64 ((bar : Int) % 90), .int .i64 0, .slice none 0 0] 32 (w3.heap.size) (by simp))⟩
 case round =>
  obtain ⟨k, m, s, A, c, hk, hk4, rfl, rfl, rfl, hmk, HSK, HG, HS⟩ := hrel
  by_cases hlt : k < acts.length
  ·by_cases hlt4 : k < 40
   ·obtain ⟨b, o, a, rfl, hbb, hq, hx⟩ := H.out.at_ hlt
    have hao := HOK.out a (List.mem_of_getElem? hq)
    have hs1 := HSUx.out k a hq
    obtain ⟨g1, g2, g3, g4⟩ := HGDx.out k hk4
    rw [<- HSK.out] at hs1 g1 g2 g3 g4
    obtain ⟨d, hd⟩ : ∃ d, d = s.2 + (a.pass : Int) % 4 := ⟨_, rfl⟩
    have hst := stepA_eq (qs := qs) hd.symm
    have hdr : 0 <= d /\ d <= 200 := by omega
    have hEv := fun W => HEx.out a hao d W
    have hmd := HMx.out a hao d
    generalize evOf a d = e at *
    have hap := fun sl W hb hs => HAPx.out s.1 e g1 (by omega) hmd sl W hb hs
    generalize a0q s.1 e qs = ans at *
    have HX := zh hx
    have HEV := zh hEv
    have HAP := zh hap
    have HS1 := zh (hs1.trans hst)
    have i3 : IntKind.i64.wrap ((a.pass : Int) % 4) = (a.pass : Int) % 4 := IntWalk.i64_in _ (by omega)
    have t3 : Int.tmod (a.pass : Int) 4 = (a.pass : Int) % 4 := Int.tmod_eq_emod_of_nonneg (by omega)
    have u3 : IntKind.u8.wrap ((a.pass : Int) % 4) = (a.pass : Int) % 4 := by rw [IntKind.wrap_u8]; omega
    have i4 : IntKind.i64.wrap (s.2 + (a.pass : Int) % 4) = d := by rw [<- hd]; exact IntWalk.i64_in _ (by omega)
    have i5 : IntKind.i64.wrap ((m : Int) + 1) = ((m + 1 : Nat) : Int) := by rw [IntWalk.i64_in _ (by omega)]; rfl
    have e0 : (0 : Int) <= ((k : Nat) : Int) := by omega
    have e1 : ((k : Nat) : Int) < (acts.length : Int) := by omega
    have e2 : decide (((k : Nat) : Int) < (acts.length : Int)) = true := decide_eq_true e1
    have e3 : decide (((k : Nat) : Int) < 40) = true := decide_eq_true (by omega)
    clear hx hq hao hs1 g1 g2 g3 g4 hd hst hdr hEv hmd hap
    by_cases hn : ans.2 = 0
    ·have z1 : (ans.2 != 0) = false := by rw [hn]; rfl
     have HS2 := zh (HS1.out.trans (if_neg (fun h => h hn)))
     have hap2 := HAP.out
     rw [hn] at hap2
     clear HAP
     have HAP := zh hap2
     clear hap2 hn HS1
     have x1 := HX.out _ HS.out.below 1 _ rfl
     go_wp2
     clear x1
     have HLT := zh (fun r hr => (HS.out.ok r hr).1.lt)
     have HL0 := zh HS.out.below.size
     refine a5r 14 13 12 [9, 11] [eQ (.agg #[.int .i64 s.1.cut, .int .i64 s.1.bar, .int .i64 s.1.day, .slice A s.1.es.length c]), eQ (.slice (some ⟨b, o, none⟩) acts.length cA), eQ (.int .i64 (k : Nat)), eQ (.pointer (some ⟨b, o + k * 10, none⟩)), eQ (.agg #[.int .u8 (a.kind : Nat), .int .u8 (a.pass : Nat), .int .u8 (a.claim : Nat), .int .u16 (a.am : Nat), .int .u16 (a.p.a : Nat), .int .u16 (a.p.b : Nat), .int .u16 (a.p.c : Nat), .int .u16 (a.p.d : Nat), .int .u16 (a.p.e : Nat), .int .u16 (a.p.f : Nat)]), eQ (.int .i64 d), eQ (.agg #[.int .i64 e.kind, .int .i64 e.day, .string (bs e.id), .bool e.am.n, .string (bs e.am.a), .string (bs e.am.b), .int .i64 e.cre, .string (bs e.p.id), .int .i64 e.p.est, .int .i64 e.p.cre, .string (bs e.p.code), .bool e.p.an, .string (bs e.p.aa), .string (bs e.p.ab), .int .i64 e.p.inc, .int .i64 e.p.rank, .bool e.p.rn, .string (bs e.p.ra), .string (bs e.p.rb), .int .i64 e.p.rf, .int .i64 e.p.sec]), eQ (qv), fun ww vv => ∃ A c, vv = Value.tuple #[Value.agg #[.int .i64 ans.1.cut, .int .i64 ans.1.bar, .int .i64 ans.1.day, .slice A ans.1.es.length c], .int .i64 0] /\ Grows ww w.heap.size 57 30 (.slice A ans.1.es.length c) ans.1.es.length (flat Ent.enc ans.1.es), fun ww vv => ∃ A c, vv = Value.tuple #[Value.agg #[.int .i64 ans.1.cut, .int .i64 ans.1.bar, .int .i64 ans.1.day, .slice A ans.1.es.length c], .int .i64 0] /\ Grows ww w.heap.size 57 30 (.slice A ans.1.es.length c) ans.1.es.length (flat Ent.enc ans.1.es), fun ww vv => ∃ A c, vv = Value.agg #[.int .i64 ans.1.cut, .int .i64 ans.1.bar, .int .i64 ans.1.day, .slice A ans.1.es.length c] /\ Grows ww w.heap.size 57 30 (.slice A ans.1.es.length c) ans.1.es.length (flat Ent.enc ans.1.es), fun ww vv => vv = .int .i64 0, fun ww vv => ∃ g, vv = Value.pointer (some ⟨g, 0, none⟩) /\ wr.heap.size <= g /\ Blk ww g #[.int .i64 0, .int .i64 0, .int .i64 0, .slice none 0 0] 32, fun ww vv => True] (fun wv => Hid (St w [⟨w3.heap.size, #[.int .i64 s.1.cut, .int .i64 s.1.bar, .int .i64 s.1.day, .slice A s.1.es.length c], 32⟩, ⟨w.heap.size, #[.int .i64 0, .int .i64 0, .int .i64 0, .slice none 0 0], 32⟩] wv) /\ Hid (Grows wv w.heap.size 57 30 (.slice A s.1.es.length c) s.1.es.length (flat Ent.enc s.1.es)) /\ Hid (Bnd wr.heap.size wv)) (AppI w [⟨w3.heap.size, #[.int .i64 s.1.cut, .int .i64 s.1.bar, .int .i64 s.1.day, .slice A s.1.es.length c], 32⟩, ⟨w.heap.size, #[.int .i64 0, .int .i64 0, .int .i64 0, .slice none 0 0], 32⟩] (.int .i64 ans.1.cut) (.int .i64 ans.1.bar) (.int .i64 ans.1.day) w.heap.size (ans.1.es.length) (ans.1.es) (fun W => Grows W w.heap.size 57 30 (.slice A s.1.es.length c) s.1.es.length (flat Ent.enc s.1.es))) (by kernel_rfl) (by decide) (by decide) rfl (by kernel_rfl) (by kernel_rfl) (by kernel_rfl) (by decide) (by decide) (a5k ?_) (fun _ _ h hb => ⟨zh (h.1.out.call hb), zh (Grows.below h.2.1.out hb), zh (Bnd.below h.2.2.out hb)⟩) (fun _ _ _ hh hb => hh.below hb (fun _ _ hp hb => Grows.below hp hb)) ⟨zh HS.out.drew, zh (Grows.below HG.out (Below.refl _ _).drew), zh (show Bnd wr.heap.size wr.drew from Nat.le_refl _)⟩ ?_ ?_
     ·intro φ hφ
      rcases List.mem_cons.1 hφ with rfl | hφ
      ·exact fun _ _ _ h _ => h
      rcases List.mem_cons.1 hφ with rfl | hφ
      ·exact fun _ _ _ h _ => h
      rcases List.mem_cons.1 hφ with rfl | hφ
      ·exact fun _ _ _ h _ => h
      rcases List.mem_cons.1 hφ with rfl | hφ
      ·exact fun _ _ _ h _ => h
      rcases List.mem_cons.1 hφ with rfl | hφ
      ·exact fun _ _ _ h _ => h
      rcases List.mem_cons.1 hφ with rfl | hφ
      ·exact fun _ _ _ h _ => h
      rcases List.mem_cons.1 hφ with rfl | hφ
      ·exact fun _ _ _ h _ => h
      rcases List.mem_cons.1 hφ with rfl | hφ
      ·exact fun _ _ _ h _ => h
      rcases List.mem_cons.1 hφ with rfl | hφ
      ·exact fun _ _ _ ⟨A, c, h, hg⟩ hb => ⟨A, c, h, Grows.below hg hb⟩
      rcases List.mem_cons.1 hφ with rfl | hφ
      ·exact fun _ _ _ ⟨A, c, h, hg⟩ hb => ⟨A, c, h, Grows.below hg hb⟩
      rcases List.mem_cons.1 hφ with rfl | hφ
      ·exact fun _ _ _ ⟨A, c, h, hg⟩ hb => ⟨A, c, h, Grows.below hg hb⟩
      rcases List.mem_cons.1 hφ with rfl | hφ
      ·exact fun _ _ _ h _ => h
      rcases List.mem_cons.1 hφ with rfl | hφ
      ·exact fun _ _ _ ⟨g, h, hg, hB⟩ hb => ⟨g, h, hg, hB.below hb hB.lt⟩
      rcases List.mem_cons.1 hφ with rfl | hφ
      ·exact fun _ _ _ h _ => h
      cases hφ
     ·refine ⟨?_, ?_, ?_, ?_, ?_, ?_, ?_, ?_, ?_, ?_, ?_, ?_, ?_, ?_, trivial⟩
      ·intro xx af wv h0 hev hev0 hd
       have e10 : af.tmps[10]?.getD undef = .pointer (some ⟨w3.heap.size, 0, none⟩) := hev0 10 rfl
       rw [if_neg (by decide)]
       obtain ⟨hs1, hg1, hbnd⟩ := h0 (by kernel_rfl)
       clear hev hev0 hd h0
       obtain ⟨y0, y1, y2⟩ := hs1.out.k0 0 rfl rfl rfl rfl
       have y3 := cC hs1 0 3
       go_wp2
       exact sQ rfl
      ·intro xx af wv h0 hev hev0 hd
       have e2 : af.tmps[2]?.getD undef = .slice (some ⟨b, o, none⟩) acts.length cA := hev0 2 rfl
       rw [if_neg (by decide)]
       clear hev hev0 hd h0
       go_wp2
       exact sQ rfl
      ·intro xx af wv h0 hev hev0 hd
       have e14 : af.tmps[14]?.getD undef = .int .i64 (k : Nat) := hev0 14 rfl
       rw [if_neg (by decide)]
       clear hev hev0 hd h0
       go_wp2
       exact sQ rfl
      ·intro xx af wv h0 hev hev0 hd
       have e48 := hev 1 _ 48 rfl rfl
       have d1 : xx 1 = .slice (some ⟨b, o, none⟩) acts.length cA := hd ⟨1, .data⟩ (by simp) rfl (by decide) (.inr (.inl (by kernel_rfl)))
       rw [d1] at e48
       clear d1
       have e49 := hev 2 _ 49 rfl rfl
       have d2 : xx 2 = .int .i64 (k : Nat) := hd ⟨2, .data⟩ (by simp) rfl (by decide) (.inr (.inl (by kernel_rfl)))
       rw [d2] at e49
       clear d2
       rw [if_neg (by decide)]
       clear hev hev0 hd h0
       go_wp2
       exact sQ rfl
      ·intro xx af wv h0 hev hev0 hd
       have e50 := hev 3 _ 50 rfl rfl
       have d3 : xx 3 = .pointer (some ⟨b, o + k * 10, none⟩) := hd ⟨3, .data⟩ (by simp) rfl (by decide) (.inr (.inl (by kernel_rfl)))
       rw [d3] at e50
       clear d3
       rw [if_neg (by decide)]
       obtain ⟨hs1, hg1, hbnd⟩ := h0 (by kernel_rfl)
       clear hev hev0 hd h0
       have yx0 := HX.out _ hs1.out.below 0 _ rfl
       rw [Nat.add_zero] at yx0
       have yx1 := HX.out _ hs1.out.below 1 _ rfl
       have yx2 := HX.out _ hs1.out.below 2 _ rfl
       have yx3 := HX.out _ hs1.out.below 3 _ rfl
       have yx4 := HX.out _ hs1.out.below 4 _ rfl
       have yx5 := HX.out _ hs1.out.below 5 _ rfl
       have yx6 := HX.out _ hs1.out.below 6 _ rfl
       have yx7 := HX.out _ hs1.out.below 7 _ rfl
       have yx8 := HX.out _ hs1.out.below 8 _ rfl
       have yx9 := HX.out _ hs1.out.below 9 _ rfl
       go_wp2
       exact sQ rfl
      ·intro xx af wv h0 hev hev0 hd
       have e13 : af.tmps[13]?.getD undef = .int .i64 d := hev0 13 rfl
       rw [if_neg (by decide)]
       clear hev hev0 hd h0
       go_wp2
       exact sQ rfl
      ·intro xx af wv h0 hev hev0 hd
       have e51 := hev 4 _ 51 rfl rfl
       have d4 : xx 4 = .agg #[.int .u8 (a.kind : Nat), .int .u8 (a.pass : Nat), .int .u8 (a.claim : Nat), .int .u16 (a.am : Nat), .int .u16 (a.p.a : Nat), .int .u16 (a.p.b : Nat), .int .u16 (a.p.c : Nat), .int .u16 (a.p.d : Nat), .int .u16 (a.p.e : Nat), .int .u16 (a.p.f : Nat)] := hd ⟨4, .data⟩ (by simp) rfl (by decide) (.inr (.inl (by kernel_rfl)))
       rw [d4] at e51
       clear d4
       have e52 := hev 5 _ 52 rfl rfl
       have d5 : xx 5 = .int .i64 d := hd ⟨5, .data⟩ (by simp) rfl (by decide) (.inr (.inl (by kernel_rfl)))
       rw [d5] at e52
       clear d5
       rw [if_neg (by decide)]
       obtain ⟨hs1, hg1, hbnd⟩ := h0 (by kernel_rfl)
       clear hev hev0 hd h0
       go_wp2_with fail
       refine (HEV.out _).mono ?_
       rintro e w8 ⟨rfl, hb8⟩
       go_wp2
       exact StepQ.mk _ hb8 rfl
      ·intro xx af wv h0 hev hev0 hd
       have e3 : af.tmps[3]?.getD undef = qv := hev0 3 rfl
       rw [if_neg (by decide)]
       clear hev hev0 hd h0
       go_wp2
       exact sQ rfl
      ·intro xx af wv h0 hev hev0 hd
       have e47 := hev 0 _ 47 rfl rfl
       have d0 : xx 0 = .agg #[.int .i64 s.1.cut, .int .i64 s.1.bar, .int .i64 s.1.day, .slice A s.1.es.length c] := hd ⟨0, .data⟩ (by simp) rfl (by decide) (.inr (.inl (by kernel_rfl)))
       rw [d0] at e47
       clear d0
       have e53 := hev 6 _ 53 rfl rfl
       have d6 : xx 6 = .agg #[.int .i64 e.kind, .int .i64 e.day, .string (bs e.id), .bool e.am.n, .string (bs e.am.a), .string (bs e.am.b), .int .i64 e.cre, .string (bs e.p.id), .int .i64 e.p.est, .int .i64 e.p.cre, .string (bs e.p.code), .bool e.p.an, .string (bs e.p.aa), .string (bs e.p.ab), .int .i64 e.p.inc, .int .i64 e.p.rank, .bool e.p.rn, .string (bs e.p.ra), .string (bs e.p.rb), .int .i64 e.p.rf, .int .i64 e.p.sec] := hd ⟨6, .data⟩ (by simp) rfl (by decide) (.inr (.inl (by kernel_rfl)))
       rw [d6] at e53
       clear d6
       have e54 := hev 7 _ 54 rfl rfl
       have d7 : xx 7 = qv := hd ⟨7, .data⟩ (by simp) rfl (by decide) (.inr (.inl (by kernel_rfl)))
       rw [d7] at e54
       clear d7
       rw [if_neg (by decide)]
       obtain ⟨hs1, hg1, hbnd⟩ := h0 (by kernel_rfl)
       clear hev hev0 hd h0
       go_wp2_with fail
       refine (HAP.out _ _ hs1.out.below (Slc.of_own a1g hg1.out rfl)).mono ?_
       rintro e w8 ⟨v8, rfl, hG8, hb8⟩
       obtain ⟨A8, c8, hv8, _, _⟩ := (Slc.of_own a1g hG8 rfl).slice
       subst hv8
       have hl8 : ∃ A c, (Value.tuple #[Value.agg #[.int .i64 ans.1.cut, .int .i64 ans.1.bar, .int .i64 ans.1.day, .slice A8 ans.1.es.length c8], .int .i64 0]) = Value.tuple #[Value.agg #[.int .i64 ans.1.cut, .int .i64 ans.1.bar, .int .i64 ans.1.day, .slice A ans.1.es.length c], .int .i64 0] /\ Grows w8 w.heap.size 57 30 (.slice A ans.1.es.length c) ans.1.es.length (flat Ent.enc ans.1.es) := ⟨A8, c8, rfl, Grows.base hG8 hs1.out.below.size⟩
       go_wp2
       exact StepQ.mk _ hb8 hl8
      ·intro xx af wv h0 hev hev0 hd
       have e55 := hev 8 _ 55 rfl rfl
       have d8 : ∃ A c, (xx 8) = Value.tuple #[Value.agg #[.int .i64 ans.1.cut, .int .i64 ans.1.bar, .int .i64 ans.1.day, .slice A ans.1.es.length c], .int .i64 0] /\ Grows wv w.heap.size 57 30 (.slice A ans.1.es.length c) ans.1.es.length (flat Ent.enc ans.1.es) := hd ⟨8, .data⟩ (by simp) rfl (by decide) (.inr (.inl (by kernel_rfl)))
       rw [if_neg (by decide)]
       obtain ⟨hs1, hg1, hbnd⟩ := h0 (by kernel_rfl)
       clear hev hev0 hd h0
       obtain ⟨A8, c8, hx8, hG8⟩ := d8
       rw [hx8] at e55
       go_wp2
       exact StepQ.mk _ (Below.refl _ _) ⟨A8, c8, rfl, hG8⟩
      ·intro xx af wv h0 hev hev0 hd
       have e46 := hev 9 _ 46 rfl rfl
       have d9 : ∃ A c, (xx 9) = Value.tuple #[Value.agg #[.int .i64 ans.1.cut, .int .i64 ans.1.bar, .int .i64 ans.1.day, .slice A ans.1.es.length c], .int .i64 0] /\ Grows wv w.heap.size 57 30 (.slice A ans.1.es.length c) ans.1.es.length (flat Ent.enc ans.1.es) := hd ⟨9, .data⟩ (by simp) rfl (by decide) (.inr (.inl (by kernel_rfl)))
       rw [if_neg (by decide)]
       obtain ⟨hs1, hg1, hbnd⟩ := h0 (by kernel_rfl)
       clear hev hev0 hd h0
       obtain ⟨A8, c8, hx8, hG8⟩ := d9
       rw [hx8] at e46
       go_wp2
       exact StepQ.mk _ (Below.refl _ _) ⟨A8, c8, rfl, hG8⟩
      ·intro xx af wv h0 hev hev0 hd
       have e46 := hev 9 _ 46 rfl rfl
       have d9 : ∃ A c, (xx 9) = Value.tuple #[Value.agg #[.int .i64 ans.1.cut, .int .i64 ans.1.bar, .int .i64 ans.1.day, .slice A ans.1.es.length c], .int .i64 0] /\ Grows wv w.heap.size 57 30 (.slice A ans.1.es.length c) ans.1.es.length (flat Ent.enc ans.1.es) := hd ⟨9, .data⟩ (by simp) rfl (by decide) (.inr (.inr (by decide)))
       rw [if_neg (by decide)]
       clear hev hev0 hd h0
       obtain ⟨A8, c8, hx8, hG8⟩ := d9
       rw [hx8] at e46
       go_wp2
       exact sQ rfl
      ·intro xx af wv h0 hev hev0 hd
       rw [if_neg (by decide)]
       obtain ⟨hs1, hg1, hbnd⟩ := h0 (by kernel_rfl)
       clear hev hev0 hd h0
       go_wp2
       exact StepQ.mk _ (Ext.alloc (Below.refl _ _) _) ⟨_, rfl, hbnd.out, Blk.new _ _ _⟩
      intro xx af wv h0 hev hev0 hd
      have e15 := hev 12 _ 15 rfl rfl
      have d12 : ∃ g, (xx 12) = Value.pointer (some ⟨g, 0, none⟩) /\ wr.heap.size <= g /\ Blk wv g #[.int .i64 0, .int .i64 0, .int .i64 0, .slice none 0 0] 32 := hd ⟨12, .data⟩ (by simp) rfl (by decide) (.inl rfl)
      have e56 := hev 10 _ 56 rfl rfl
      have d10 : ∃ A c, (xx 10) = Value.agg #[.int .i64 ans.1.cut, .int .i64 ans.1.bar, .int .i64 ans.1.day, .slice A ans.1.es.length c] /\ Grows wv w.heap.size 57 30 (.slice A ans.1.es.length c) ans.1.es.length (flat Ent.enc ans.1.es) := hd ⟨10, .data⟩ (by simp) rfl (by decide) (.inl rfl)
      clear hev hev0 hd h0
      rw [if_pos rfl]
      intro hI0
      obtain ⟨hs1, hg1, hbnd⟩ := hI0
      obtain ⟨g8, hxg, hge, hBk⟩ := d12
      rw [hxg] at e15
      have HXG := zh hxg
      clear hxg
      obtain ⟨A8, c8, hx8, hG8⟩ := d10
      rw [hx8] at e56
      have h1 := St.addNew hs1.out hBk HLT.out hge HL0.out
      have f0 := h1.frozen 0 rfl 0
      have f1 := h1.frozen 0 rfl 1
      have f2 := h1.frozen 0 rfl 2
      have f3 := h1.frozen 0 rfl 3
      have y0 := h1.cell 0 rfl 0 rfl
      have y1 := h1.cell 0 rfl 1 rfl
      have y2 := h1.cell 0 rfl 2 rfl
      have y3 := h1.cell 0 rfl 3 rfl
      have s0 := St.set h1 0 rfl 0 (.int .i64 ans.1.cut)
      have s1 := St.set s0 0 rfl 1 (.int .i64 ans.1.bar)
      have s2 := St.set s1 0 rfl 2 (.int .i64 ans.1.day)
      have s3 := St.set s2 0 rfl 3 (.slice A8 ans.1.es.length c8)
      have gw0 := Grows.setCell (j := 0) hG8 (h1.blk 0 rfl) (.int .i64 ans.1.cut)
      have gw1 := Grows.setCell (j := 1) gw0 (s0.blk 0 rfl) (.int .i64 ans.1.bar)
      have gw2 := Grows.setCell (j := 2) gw1 (s1.blk 0 rfl) (.int .i64 ans.1.day)
      have gw3 := Grows.setCell (j := 3) gw2 (s2.blk 0 rfl) (.slice A8 ans.1.es.length c8)
      have gp0 := Grows.setCell (j := 0) hg1.out (h1.blk 0 rfl) (.int .i64 ans.1.cut)
      have gp1 := Grows.setCell (j := 1) gp0 (s0.blk 0 rfl) (.int .i64 ans.1.bar)
      have gp2 := Grows.setCell (j := 2) gp1 (s1.blk 0 rfl) (.int .i64 ans.1.day)
      have gp3 := Grows.setCell (j := 3) gp2 (s2.blk 0 rfl) (.slice A8 ans.1.es.length c8)
      go_wp2
      refine StepM.mk ⟨g8, A8, c8, HXG.out, zh s3, zh gw3, zh gp3⟩ (fun j hj u hu => ?_)
      rcases List.mem_cons.1 hj with rfl | hj
      ·obtain ⟨A9, c9, hu9, hG9⟩ := hu
       have gx0 := Grows.setCell (j := 0) hG9 (h1.blk 0 rfl) (.int .i64 ans.1.cut)
       have gx1 := Grows.setCell (j := 1) gx0 (s0.blk 0 rfl) (.int .i64 ans.1.bar)
       have gx2 := Grows.setCell (j := 2) gx1 (s1.blk 0 rfl) (.int .i64 ans.1.day)
       have gx3 := Grows.setCell (j := 3) gx2 (s2.blk 0 rfl) (.slice A8 ans.1.es.length c8)
       exact ⟨A9, c9, hu9, gx3⟩
      rcases List.mem_cons.1 hj with rfl | hj
      ·exact hu
      cases hj
     intro xx w4 hI hv
     obtain ⟨g4, A4, c4, hxC, hS9, hG9, hP9⟩ := hI
     have HS4 : Hid (St w [⟨g4, #[.int .i64 ans.1.cut, .int .i64 ans.1.bar, .int .i64 ans.1.day, .slice A4 ans.1.es.length c4], 32⟩, _, _] w4) := hS9
     have N_4 := hG9
     have G_4 := hP9
     clear hS9 hG9 hP9 HS HG HLT HL0
     simp only [List.take, List.drop, a0r, Act.put]
     simp only [show xx 11 = _ from hv 11 (by decide), hxC]
     clear hv hxC
     obtain ⟨x2, x3, x4⟩ := HS4.out.k0 0 rfl rfl rfl rfl
     have x5 := cC HS4 0 3
     obtain ⟨x6, x7, x8⟩ := HS4.out.k0 1 rfl rfl rfl rfl
     have x9 := cC HS4 1 3
     obtain ⟨x10, x11, x12⟩ := HS4.out.f0 1 rfl
     have x13 := cF HS4 1 3
     have x14 := cN HS4 1 0
     have x15 := cN HS4 0 1
     have x16 := cN HS4 1 2
     have x17 := cN HS4 2 1
     go_wp2
     have HS5 : Hid (St w [_, ⟨w3.heap.size, #[.int .i64 ans.1.cut, .int .i64 ans.1.bar, .int .i64 ans.1.day, .slice A4 ans.1.es.length c4], 32⟩, _] _) := zh (St.set (St.set (St.set (St.set (HS4.out) 1 rfl 0 _) 1 rfl 1 _) 1 rfl 2 _) 1 rfl 3 _)
     go_roundw
     case rel => exact ⟨k + 1, m, (ans.1, d), A4, c4, by omega, by omega, by go_num, rfl, rfl, by omega, HS2.out.symm, (Grows.setCell (j := 3) (Grows.setCell (j := 2) (Grows.setCell (j := 1) (Grows.setCell (j := 0) N_4.out (HS4.out.blk 1 rfl) (.int .i64 ans.1.cut)) ((St.set (HS4.out) 1 rfl 0 (.int .i64 ans.1.cut)).blk 1 rfl) (.int .i64 ans.1.bar)) ((St.set ((St.set (HS4.out) 1 rfl 0 (.int .i64 ans.1.cut))) 1 rfl 1 (.int .i64 ans.1.bar)).blk 1 rfl) (.int .i64 ans.1.day)) ((St.set ((St.set ((St.set (HS4.out) 1 rfl 0 (.int .i64 ans.1.cut))) 1 rfl 1 (.int .i64 ans.1.bar))) 1 rfl 2 (.int .i64 ans.1.day)).blk 1 rfl) (.slice A4 ans.1.es.length c4)), HS5.out.sub (List.Sublist.cons _ (List.Sublist.refl _))⟩
     case measure => simp [intOf]; omega
    have z1 : (ans.2 != 0) = true := by rw [bne_iff_ne]; exact hn
    have HS2 := zh (HS1.out.trans (if_pos hn))
    clear hn HS1
    have x1 := HX.out _ HS.out.below 1 _ rfl
    go_wp2
    clear x1
    have HLT := zh (fun r hr => (HS.out.ok r hr).1.lt)
    have HL0 := zh HS.out.below.size
    refine a5r 14 13 12 [9, 11] [eQ (.agg #[.int .i64 s.1.cut, .int .i64 s.1.bar, .int .i64 s.1.day, .slice A s.1.es.length c]), eQ (.slice (some ⟨b, o, none⟩) acts.length cA), eQ (.int .i64 (k : Nat)), eQ (.pointer (some ⟨b, o + k * 10, none⟩)), eQ (.agg #[.int .u8 (a.kind : Nat), .int .u8 (a.pass : Nat), .int .u8 (a.claim : Nat), .int .u16 (a.am : Nat), .int .u16 (a.p.a : Nat), .int .u16 (a.p.b : Nat), .int .u16 (a.p.c : Nat), .int .u16 (a.p.d : Nat), .int .u16 (a.p.e : Nat), .int .u16 (a.p.f : Nat)]), eQ (.int .i64 d), eQ (.agg #[.int .i64 e.kind, .int .i64 e.day, .string (bs e.id), .bool e.am.n, .string (bs e.am.a), .string (bs e.am.b), .int .i64 e.cre, .string (bs e.p.id), .int .i64 e.p.est, .int .i64 e.p.cre, .string (bs e.p.code), .bool e.p.an, .string (bs e.p.aa), .string (bs e.p.ab), .int .i64 e.p.inc, .int .i64 e.p.rank, .bool e.p.rn, .string (bs e.p.ra), .string (bs e.p.rb), .int .i64 e.p.rf, .int .i64 e.p.sec]), eQ (qv), fun ww vv => ∃ A c, vv = Value.tuple #[Value.agg #[.int .i64 ans.1.cut, .int .i64 ans.1.bar, .int .i64 ans.1.day, .slice A ans.1.es.length c], .int .i64 ans.2] /\ Grows ww w.heap.size 57 30 (.slice A ans.1.es.length c) ans.1.es.length (flat Ent.enc ans.1.es), fun ww vv => ∃ A c, vv = Value.tuple #[Value.agg #[.int .i64 ans.1.cut, .int .i64 ans.1.bar, .int .i64 ans.1.day, .slice A ans.1.es.length c], .int .i64 ans.2] /\ Grows ww w.heap.size 57 30 (.slice A ans.1.es.length c) ans.1.es.length (flat Ent.enc ans.1.es), fun ww vv => ∃ A c, vv = Value.agg #[.int .i64 ans.1.cut, .int .i64 ans.1.bar, .int .i64 ans.1.day, .slice A ans.1.es.length c] /\ Grows ww w.heap.size 57 30 (.slice A ans.1.es.length c) ans.1.es.length (flat Ent.enc ans.1.es), fun ww vv => vv = .int .i64 ans.2, fun ww vv => ∃ g, vv = Value.pointer (some ⟨g, 0, none⟩) /\ wr.heap.size <= g /\ Blk ww g #[.int .i64 0, .int .i64 0, .int .i64 0, .slice none 0 0] 32, fun ww vv => True] (fun wv => Hid (St w [⟨w3.heap.size, #[.int .i64 s.1.cut, .int .i64 s.1.bar, .int .i64 s.1.day, .slice A s.1.es.length c], 32⟩, ⟨w.heap.size, #[.int .i64 0, .int .i64 0, .int .i64 0, .slice none 0 0], 32⟩] wv) /\ Hid (Grows wv w.heap.size 57 30 (.slice A s.1.es.length c) s.1.es.length (flat Ent.enc s.1.es)) /\ Hid (Bnd wr.heap.size wv)) (AppI w [⟨w3.heap.size, #[.int .i64 s.1.cut, .int .i64 s.1.bar, .int .i64 s.1.day, .slice A s.1.es.length c], 32⟩, ⟨w.heap.size, #[.int .i64 0, .int .i64 0, .int .i64 0, .slice none 0 0], 32⟩] (.int .i64 ans.1.cut) (.int .i64 ans.1.bar) (.int .i64 ans.1.day) w.heap.size (ans.1.es.length) (ans.1.es) (fun W => Grows W w.heap.size 57 30 (.slice A s.1.es.length c) s.1.es.length (flat Ent.enc s.1.es))) (by kernel_rfl) (by decide) (by decide) rfl (by kernel_rfl) (by kernel_rfl) (by kernel_rfl) (by decide) (by decide) (a5k ?_) (fun _ _ h hb => ⟨zh (h.1.out.call hb), zh (Grows.below h.2.1.out hb), zh (Bnd.below h.2.2.out hb)⟩) (fun _ _ _ hh hb => hh.below hb (fun _ _ hp hb => Grows.below hp hb)) ⟨zh HS.out.drew, zh (Grows.below HG.out (Below.refl _ _).drew), zh (show Bnd wr.heap.size wr.drew from Nat.le_refl _)⟩ ?_ ?_
    ·intro φ hφ
     rcases List.mem_cons.1 hφ with rfl | hφ
     ·exact fun _ _ _ h _ => h
     rcases List.mem_cons.1 hφ with rfl | hφ
     ·exact fun _ _ _ h _ => h
     rcases List.mem_cons.1 hφ with rfl | hφ
     ·exact fun _ _ _ h _ => h
     rcases List.mem_cons.1 hφ with rfl | hφ
     ·exact fun _ _ _ h _ => h
     rcases List.mem_cons.1 hφ with rfl | hφ
     ·exact fun _ _ _ h _ => h
     rcases List.mem_cons.1 hφ with rfl | hφ
     ·exact fun _ _ _ h _ => h
     rcases List.mem_cons.1 hφ with rfl | hφ
     ·exact fun _ _ _ h _ => h
     rcases List.mem_cons.1 hφ with rfl | hφ
     ·exact fun _ _ _ h _ => h
     rcases List.mem_cons.1 hφ with rfl | hφ
     ·exact fun _ _ _ ⟨A, c, h, hg⟩ hb => ⟨A, c, h, Grows.below hg hb⟩
     rcases List.mem_cons.1 hφ with rfl | hφ
     ·exact fun _ _ _ ⟨A, c, h, hg⟩ hb => ⟨A, c, h, Grows.below hg hb⟩
     rcases List.mem_cons.1 hφ with rfl | hφ
     ·exact fun _ _ _ ⟨A, c, h, hg⟩ hb => ⟨A, c, h, Grows.below hg hb⟩
     rcases List.mem_cons.1 hφ with rfl | hφ
     ·exact fun _ _ _ h _ => h
     rcases List.mem_cons.1 hφ with rfl | hφ
     ·exact fun _ _ _ ⟨g, h, hg, hB⟩ hb => ⟨g, h, hg, hB.below hb hB.lt⟩
     rcases List.mem_cons.1 hφ with rfl | hφ
     ·exact fun _ _ _ h _ => h
     cases hφ
    ·refine ⟨?_, ?_, ?_, ?_, ?_, ?_, ?_, ?_, ?_, ?_, ?_, ?_, ?_, ?_, trivial⟩
     ·intro xx af wv h0 hev hev0 hd
      have e10 : af.tmps[10]?.getD undef = .pointer (some ⟨w3.heap.size, 0, none⟩) := hev0 10 rfl
      rw [if_neg (by decide)]
      obtain ⟨hs1, hg1, hbnd⟩ := h0 (by kernel_rfl)
      clear hev hev0 hd h0
      obtain ⟨y0, y1, y2⟩ := hs1.out.k0 0 rfl rfl rfl rfl
      have y3 := cC hs1 0 3
      go_wp2
      exact sQ rfl
     ·intro xx af wv h0 hev hev0 hd
      have e2 : af.tmps[2]?.getD undef = .slice (some ⟨b, o, none⟩) acts.length cA := hev0 2 rfl
      rw [if_neg (by decide)]
      clear hev hev0 hd h0
      go_wp2
      exact sQ rfl
     ·intro xx af wv h0 hev hev0 hd
      have e14 : af.tmps[14]?.getD undef = .int .i64 (k : Nat) := hev0 14 rfl
      rw [if_neg (by decide)]
      clear hev hev0 hd h0
      go_wp2
      exact sQ rfl
     ·intro xx af wv h0 hev hev0 hd
      have e48 := hev 1 _ 48 rfl rfl
      have d1 : xx 1 = .slice (some ⟨b, o, none⟩) acts.length cA := hd ⟨1, .data⟩ (by simp) rfl (by decide) (.inr (.inl (by kernel_rfl)))
      rw [d1] at e48
      clear d1
      have e49 := hev 2 _ 49 rfl rfl
      have d2 : xx 2 = .int .i64 (k : Nat) := hd ⟨2, .data⟩ (by simp) rfl (by decide) (.inr (.inl (by kernel_rfl)))
      rw [d2] at e49
      clear d2
      rw [if_neg (by decide)]
      clear hev hev0 hd h0
      go_wp2
      exact sQ rfl
     ·intro xx af wv h0 hev hev0 hd
      have e50 := hev 3 _ 50 rfl rfl
      have d3 : xx 3 = .pointer (some ⟨b, o + k * 10, none⟩) := hd ⟨3, .data⟩ (by simp) rfl (by decide) (.inr (.inl (by kernel_rfl)))
      rw [d3] at e50
      clear d3
      rw [if_neg (by decide)]
      obtain ⟨hs1, hg1, hbnd⟩ := h0 (by kernel_rfl)
      clear hev hev0 hd h0
      have yx0 := HX.out _ hs1.out.below 0 _ rfl
      rw [Nat.add_zero] at yx0
      have yx1 := HX.out _ hs1.out.below 1 _ rfl
      have yx2 := HX.out _ hs1.out.below 2 _ rfl
      have yx3 := HX.out _ hs1.out.below 3 _ rfl
      have yx4 := HX.out _ hs1.out.below 4 _ rfl
      have yx5 := HX.out _ hs1.out.below 5 _ rfl
      have yx6 := HX.out _ hs1.out.below 6 _ rfl
      have yx7 := HX.out _ hs1.out.below 7 _ rfl
      have yx8 := HX.out _ hs1.out.below 8 _ rfl
      have yx9 := HX.out _ hs1.out.below 9 _ rfl
      go_wp2
      exact sQ rfl
     ·intro xx af wv h0 hev hev0 hd
      have e13 : af.tmps[13]?.getD undef = .int .i64 d := hev0 13 rfl
      rw [if_neg (by decide)]
      clear hev hev0 hd h0
      go_wp2
      exact sQ rfl
     ·intro xx af wv h0 hev hev0 hd
      have e51 := hev 4 _ 51 rfl rfl
      have d4 : xx 4 = .agg #[.int .u8 (a.kind : Nat), .int .u8 (a.pass : Nat), .int .u8 (a.claim : Nat), .int .u16 (a.am : Nat), .int .u16 (a.p.a : Nat), .int .u16 (a.p.b : Nat), .int .u16 (a.p.c : Nat), .int .u16 (a.p.d : Nat), .int .u16 (a.p.e : Nat), .int .u16 (a.p.f : Nat)] := hd ⟨4, .data⟩ (by simp) rfl (by decide) (.inr (.inl (by kernel_rfl)))
      rw [d4] at e51
      clear d4
      have e52 := hev 5 _ 52 rfl rfl
      have d5 : xx 5 = .int .i64 d := hd ⟨5, .data⟩ (by simp) rfl (by decide) (.inr (.inl (by kernel_rfl)))
      rw [d5] at e52
      clear d5
      rw [if_neg (by decide)]
      obtain ⟨hs1, hg1, hbnd⟩ := h0 (by kernel_rfl)
      clear hev hev0 hd h0
      go_wp2_with fail
      refine (HEV.out _).mono ?_
      rintro e w8 ⟨rfl, hb8⟩
      go_wp2
      exact StepQ.mk _ hb8 rfl
     ·intro xx af wv h0 hev hev0 hd
      have e3 : af.tmps[3]?.getD undef = qv := hev0 3 rfl
      rw [if_neg (by decide)]
      clear hev hev0 hd h0
      go_wp2
      exact sQ rfl
     ·intro xx af wv h0 hev hev0 hd
      have e47 := hev 0 _ 47 rfl rfl
      have d0 : xx 0 = .agg #[.int .i64 s.1.cut, .int .i64 s.1.bar, .int .i64 s.1.day, .slice A s.1.es.length c] := hd ⟨0, .data⟩ (by simp) rfl (by decide) (.inr (.inl (by kernel_rfl)))
      rw [d0] at e47
      clear d0
      have e53 := hev 6 _ 53 rfl rfl
      have d6 : xx 6 = .agg #[.int .i64 e.kind, .int .i64 e.day, .string (bs e.id), .bool e.am.n, .string (bs e.am.a), .string (bs e.am.b), .int .i64 e.cre, .string (bs e.p.id), .int .i64 e.p.est, .int .i64 e.p.cre, .string (bs e.p.code), .bool e.p.an, .string (bs e.p.aa), .string (bs e.p.ab), .int .i64 e.p.inc, .int .i64 e.p.rank, .bool e.p.rn, .string (bs e.p.ra), .string (bs e.p.rb), .int .i64 e.p.rf, .int .i64 e.p.sec] := hd ⟨6, .data⟩ (by simp) rfl (by decide) (.inr (.inl (by kernel_rfl)))
      rw [d6] at e53
      clear d6
      have e54 := hev 7 _ 54 rfl rfl
      have d7 : xx 7 = qv := hd ⟨7, .data⟩ (by simp) rfl (by decide) (.inr (.inl (by kernel_rfl)))
      rw [d7] at e54
      clear d7
      rw [if_neg (by decide)]
      obtain ⟨hs1, hg1, hbnd⟩ := h0 (by kernel_rfl)
      clear hev hev0 hd h0
      go_wp2_with fail
      refine (HAP.out _ _ hs1.out.below (Slc.of_own a1g hg1.out rfl)).mono ?_
      rintro e w8 ⟨v8, rfl, hG8, hb8⟩
      obtain ⟨A8, c8, hv8, _, _⟩ := (Slc.of_own a1g hG8 rfl).slice
      subst hv8
      have hl8 : ∃ A c, (Value.tuple #[Value.agg #[.int .i64 ans.1.cut, .int .i64 ans.1.bar, .int .i64 ans.1.day, .slice A8 ans.1.es.length c8], .int .i64 ans.2]) = Value.tuple #[Value.agg #[.int .i64 ans.1.cut, .int .i64 ans.1.bar, .int .i64 ans.1.day, .slice A ans.1.es.length c], .int .i64 ans.2] /\ Grows w8 w.heap.size 57 30 (.slice A ans.1.es.length c) ans.1.es.length (flat Ent.enc ans.1.es) := ⟨A8, c8, rfl, Grows.base hG8 hs1.out.below.size⟩
      go_wp2
      exact StepQ.mk _ hb8 hl8
     ·intro xx af wv h0 hev hev0 hd
      have e55 := hev 8 _ 55 rfl rfl
      have d8 : ∃ A c, (xx 8) = Value.tuple #[Value.agg #[.int .i64 ans.1.cut, .int .i64 ans.1.bar, .int .i64 ans.1.day, .slice A ans.1.es.length c], .int .i64 ans.2] /\ Grows wv w.heap.size 57 30 (.slice A ans.1.es.length c) ans.1.es.length (flat Ent.enc ans.1.es) := hd ⟨8, .data⟩ (by simp) rfl (by decide) (.inr (.inl (by kernel_rfl)))
      rw [if_neg (by decide)]
      obtain ⟨hs1, hg1, hbnd⟩ := h0 (by kernel_rfl)
      clear hev hev0 hd h0
      obtain ⟨A8, c8, hx8, hG8⟩ := d8
      rw [hx8] at e55
      go_wp2
      exact StepQ.mk _ (Below.refl _ _) ⟨A8, c8, rfl, hG8⟩
     ·intro xx af wv h0 hev hev0 hd
      have e46 := hev 9 _ 46 rfl rfl
      have d9 : ∃ A c, (xx 9) = Value.tuple #[Value.agg #[.int .i64 ans.1.cut, .int .i64 ans.1.bar, .int .i64 ans.1.day, .slice A ans.1.es.length c], .int .i64 ans.2] /\ Grows wv w.heap.size 57 30 (.slice A ans.1.es.length c) ans.1.es.length (flat Ent.enc ans.1.es) := hd ⟨9, .data⟩ (by simp) rfl (by decide) (.inr (.inl (by kernel_rfl)))
      rw [if_neg (by decide)]
      obtain ⟨hs1, hg1, hbnd⟩ := h0 (by kernel_rfl)
      clear hev hev0 hd h0
      obtain ⟨A8, c8, hx8, hG8⟩ := d9
      rw [hx8] at e46
      go_wp2
      exact StepQ.mk _ (Below.refl _ _) ⟨A8, c8, rfl, hG8⟩
     ·intro xx af wv h0 hev hev0 hd
      have e46 := hev 9 _ 46 rfl rfl
      have d9 : ∃ A c, (xx 9) = Value.tuple #[Value.agg #[.int .i64 ans.1.cut, .int .i64 ans.1.bar, .int .i64 ans.1.day, .slice A ans.1.es.length c], .int .i64 ans.2] /\ Grows wv w.heap.size 57 30 (.slice A ans.1.es.length c) ans.1.es.length (flat Ent.enc ans.1.es) := hd ⟨9, .data⟩ (by simp) rfl (by decide) (.inr (.inr (by decide)))
      rw [if_neg (by decide)]
      clear hev hev0 hd h0
      obtain ⟨A8, c8, hx8, hG8⟩ := d9
      rw [hx8] at e46
      go_wp2
      exact sQ rfl
     ·intro xx af wv h0 hev hev0 hd
      rw [if_neg (by decide)]
      obtain ⟨hs1, hg1, hbnd⟩ := h0 (by kernel_rfl)
      clear hev hev0 hd h0
      go_wp2
      exact StepQ.mk _ (Ext.alloc (Below.refl _ _) _) ⟨_, rfl, hbnd.out, Blk.new _ _ _⟩
     intro xx af wv h0 hev hev0 hd
     have e15 := hev 12 _ 15 rfl rfl
     have d12 : ∃ g, (xx 12) = Value.pointer (some ⟨g, 0, none⟩) /\ wr.heap.size <= g /\ Blk wv g #[.int .i64 0, .int .i64 0, .int .i64 0, .slice none 0 0] 32 := hd ⟨12, .data⟩ (by simp) rfl (by decide) (.inl rfl)
     have e56 := hev 10 _ 56 rfl rfl
     have d10 : ∃ A c, (xx 10) = Value.agg #[.int .i64 ans.1.cut, .int .i64 ans.1.bar, .int .i64 ans.1.day, .slice A ans.1.es.length c] /\ Grows wv w.heap.size 57 30 (.slice A ans.1.es.length c) ans.1.es.length (flat Ent.enc ans.1.es) := hd ⟨10, .data⟩ (by simp) rfl (by decide) (.inl rfl)
     clear hev hev0 hd h0
     rw [if_pos rfl]
     intro hI0
     obtain ⟨hs1, hg1, hbnd⟩ := hI0
     obtain ⟨g8, hxg, hge, hBk⟩ := d12
     rw [hxg] at e15
     have HXG := zh hxg
     clear hxg
     obtain ⟨A8, c8, hx8, hG8⟩ := d10
     rw [hx8] at e56
     have h1 := St.addNew hs1.out hBk HLT.out hge HL0.out
     have f0 := h1.frozen 0 rfl 0
     have f1 := h1.frozen 0 rfl 1
     have f2 := h1.frozen 0 rfl 2
     have f3 := h1.frozen 0 rfl 3
     have y0 := h1.cell 0 rfl 0 rfl
     have y1 := h1.cell 0 rfl 1 rfl
     have y2 := h1.cell 0 rfl 2 rfl
     have y3 := h1.cell 0 rfl 3 rfl
     have s0 := St.set h1 0 rfl 0 (.int .i64 ans.1.cut)
     have s1 := St.set s0 0 rfl 1 (.int .i64 ans.1.bar)
     have s2 := St.set s1 0 rfl 2 (.int .i64 ans.1.day)
     have s3 := St.set s2 0 rfl 3 (.slice A8 ans.1.es.length c8)
     have gw0 := Grows.setCell (j := 0) hG8 (h1.blk 0 rfl) (.int .i64 ans.1.cut)
     have gw1 := Grows.setCell (j := 1) gw0 (s0.blk 0 rfl) (.int .i64 ans.1.bar)
     have gw2 := Grows.setCell (j := 2) gw1 (s1.blk 0 rfl) (.int .i64 ans.1.day)
     have gw3 := Grows.setCell (j := 3) gw2 (s2.blk 0 rfl) (.slice A8 ans.1.es.length c8)
     have gp0 := Grows.setCell (j := 0) hg1.out (h1.blk 0 rfl) (.int .i64 ans.1.cut)
     have gp1 := Grows.setCell (j := 1) gp0 (s0.blk 0 rfl) (.int .i64 ans.1.bar)
     have gp2 := Grows.setCell (j := 2) gp1 (s1.blk 0 rfl) (.int .i64 ans.1.day)
     have gp3 := Grows.setCell (j := 3) gp2 (s2.blk 0 rfl) (.slice A8 ans.1.es.length c8)
     go_wp2
     refine StepM.mk ⟨g8, A8, c8, HXG.out, zh s3, zh gw3, zh gp3⟩ (fun j hj u hu => ?_)
     rcases List.mem_cons.1 hj with rfl | hj
     ·obtain ⟨A9, c9, hu9, hG9⟩ := hu
      have gx0 := Grows.setCell (j := 0) hG9 (h1.blk 0 rfl) (.int .i64 ans.1.cut)
      have gx1 := Grows.setCell (j := 1) gx0 (s0.blk 0 rfl) (.int .i64 ans.1.bar)
      have gx2 := Grows.setCell (j := 2) gx1 (s1.blk 0 rfl) (.int .i64 ans.1.day)
      have gx3 := Grows.setCell (j := 3) gx2 (s2.blk 0 rfl) (.slice A8 ans.1.es.length c8)
      exact ⟨A9, c9, hu9, gx3⟩
     rcases List.mem_cons.1 hj with rfl | hj
     ·exact hu
     cases hj
    intro xx w4 hI hv
    obtain ⟨g4, A4, c4, hxC, hS9, hG9, hP9⟩ := hI
    have HS4 : Hid (St w [_, _, _] w4) := hS9
    have N_4 := hG9
    have G_4 := hP9
    clear hS9 hG9 hP9 HS HG HLT HL0
    simp only [List.take, List.drop, a0r, Act.put]
    simp only [show xx 11 = _ from hv 11 (by decide), hxC]
    clear hv hxC
    go_wp2
    have HS5 := zh HS4.out
    go_roundw
    case rel => exact ⟨k + 1, m + 1, (s.1, d), A, c, by omega, by omega, by go_num, rfl, rfl, by omega, HS2.out.symm, G_4.out, HS5.out.sub (List.Sublist.cons _ (List.Sublist.refl _))⟩
    case measure => simp [intOf]; omega
   have hE := HENx.out k (.inr (by omega))
   rw [<- HSK.out] at hE
   have HE := zh hE
   clear hE
   have e1 : decide (((k : Nat) : Int) < (acts.length : Int)) = true := decide_eq_true (by omega)
   have e2 : decide (((k : Nat) : Int) < 40) = false := decide_eq_false (by omega)
   have e4 : decide (k < 40) = false := decide_eq_false (by omega)
   obtain ⟨x1, x2, x3⟩ := HS.out.k0 0 rfl rfl rfl rfl
   have x4 := cC HS 0 3
   obtain ⟨x5, x6, x7⟩ := HS.out.k0 1 rfl rfl rfl rfl
   have x8 := cC HS 1 3
   obtain ⟨x9, x10, x11⟩ := HS.out.f0 1 rfl
   have x12 := cF HS 1 3
   have x13 := cN HS 1 0
   have x14 := cN HS 0 1
   go_wp2
   have HS4 : Hid (St w [_, ⟨w.heap.size, #[.int .i64 s.1.cut, .int .i64 s.1.bar, .int .i64 s.1.day, .slice A s.1.es.length c], 32⟩] _) := zh (St.set (St.set (St.set (St.set (HS.out) 1 rfl 0 _) 1 rfl 1 _) 1 rfl 2 _) 1 rfl 3 _)
   refine bodyPost_ret (a0v rfl _ _ _ rfl (HS4.out.blk 1 rfl)) rfl ?_
   rw [<- HE.out]
   exact ⟨_, _, rfl, (Grows.setCell (j := 3) (Grows.setCell (j := 2) (Grows.setCell (j := 1) (Grows.setCell (j := 0) HG.out (HS.out.blk 1 rfl) (.int .i64 s.1.cut)) ((St.set (HS.out) 1 rfl 0 (.int .i64 s.1.cut)).blk 1 rfl) (.int .i64 s.1.bar)) ((St.set ((St.set (HS.out) 1 rfl 0 (.int .i64 s.1.cut))) 1 rfl 1 (.int .i64 s.1.bar)).blk 1 rfl) (.int .i64 s.1.day)) ((St.set ((St.set ((St.set (HS.out) 1 rfl 0 (.int .i64 s.1.cut))) 1 rfl 1 (.int .i64 s.1.bar))) 1 rfl 2 (.int .i64 s.1.day)).blk 1 rfl) (.slice A s.1.es.length c)), HS4.out.below⟩
  have hE := HENx.out k (.inl ⟨by omega, by omega⟩)
  rw [<- HSK.out] at hE
  have HE := zh hE
  clear hE
  have e2 : decide (((k : Nat) : Int) < (acts.length : Int)) = false := decide_eq_false (by omega)
  have e3 : decide (k < acts.length) = false := decide_eq_false (by omega)
  obtain ⟨x1, x2, x3⟩ := HS.out.k0 0 rfl rfl rfl rfl
  have x4 := cC HS 0 3
  obtain ⟨x5, x6, x7⟩ := HS.out.k0 1 rfl rfl rfl rfl
  have x8 := cC HS 1 3
  obtain ⟨x9, x10, x11⟩ := HS.out.f0 1 rfl
  have x12 := cF HS 1 3
  have x13 := cN HS 1 0
  have x14 := cN HS 0 1
  go_wp2
  have HS4 : Hid (St w [_, ⟨w.heap.size, #[.int .i64 s.1.cut, .int .i64 s.1.bar, .int .i64 s.1.day, .slice A s.1.es.length c], 32⟩] _) := zh (St.set (St.set (St.set (St.set (HS.out) 1 rfl 0 _) 1 rfl 1 _) 1 rfl 2 _) 1 rfl 3 _)
  refine bodyPost_ret (a0v rfl _ _ _ rfl (HS4.out.blk 1 rfl)) rfl ?_
  rw [<- HE.out]
  exact ⟨_, _, rfl, (Grows.setCell (j := 3) (Grows.setCell (j := 2) (Grows.setCell (j := 1) (Grows.setCell (j := 0) HG.out (HS.out.blk 1 rfl) (.int .i64 s.1.cut)) ((St.set (HS.out) 1 rfl 0 (.int .i64 s.1.cut)).blk 1 rfl) (.int .i64 s.1.bar)) ((St.set ((St.set (HS.out) 1 rfl 0 (.int .i64 s.1.cut))) 1 rfl 1 (.int .i64 s.1.bar)).blk 1 rfl) (.int .i64 s.1.day)) ((St.set ((St.set ((St.set (HS.out) 1 rfl 0 (.int .i64 s.1.cut))) 1 rfl 1 (.int .i64 s.1.bar))) 1 rfl 2 (.int .i64 s.1.day)).blk 1 rfl) (.slice A s.1.es.length c)), HS4.out.below⟩
end Go.Proofs.YtoighiepglclkaaGreatDoor
