/-
The document's tally (printed by gen_vot9.py).
-/
import Derived.Test.YtakoagjpmdcddaaGreatDoorVtA
namespace Go.Proofs.YtakoagjpmdcddaaGreatDoor
open Go.RowKit

theorem fresh_take {l : List Vtr} {k : Nat} {v : Vtr} {p : Int} (hq : l[k]? = some v) : fresh (l.take (k + 1)) p = (fresh (l.take k) p && (v.ex || !(v.party == p))) := by unfold fresh; exact take_all hq
theorem take_take_of {l : List Vtr} {i k : Nat} (h : k ≤ i) : (l.take i).take k = l.take k := by rw [List.take_take, Nat.min_eq_left h]
theorem parts_new {l : List Vtr} {i : Nat} {u : Vtr} (hq : l[i]? = some u) (hex : u.ex = false) (hf : fresh (l.take i) u.party = true) : parts (l.take (i + 1)) [] = parts (l.take i) [] ++ [u.party] := by
  rw [fresh_parts, Bool.not_eq_true'] at hf
  rw [take_at hq, parts_snoc, hex, hf]; rfl
theorem parts_old {l : List Vtr} {i : Nat} {u : Vtr} (hq : l[i]? = some u) (hf : fresh (l.take i) u.party = false) : parts (l.take (i + 1)) [] = parts (l.take i) [] := by
  rw [fresh_parts, Bool.not_eq_false'] at hf
  rw [take_at hq, parts_snoc, hf]; simp
theorem parts_skip {l : List Vtr} {i : Nat} {u : Vtr} (hq : l[i]? = some u) (hex : u.ex = true) : parts (l.take (i + 1)) [] = parts (l.take i) [] := by
  rw [take_at hq, parts_snoc, hex]; rfl
def headsT (l : List Vtr) (i : Nat) : Nat := (parts (l.take i) []).length
def yesT (l : List Vtr) (r : Rat) (i : Nat) : Nat := ((parts (l.take i) []).filter fun p => yesP l p r).length
theorem heads_new {l : List Vtr} {i : Nat} {u : Vtr} {r : Rat} (hq : l[i]? = some u) (hex : u.ex = false) (hf : fresh (l.take i) u.party = true) : headsT l (i + 1) = headsT l i + 1 ∧ yesT l r (i + 1) = if yesP l u.party r then yesT l r i + 1 else yesT l r i := by
  unfold headsT yesT
  rw [parts_new hq hex hf, List.filter_append]
  refine ⟨by simp, ?_⟩
  split
  · rename_i h; simp [h]
  · rename_i h; simp [h]
theorem heads_old {l : List Vtr} {i : Nat} {u : Vtr} {r : Rat} (hq : l[i]? = some u) (hf : fresh (l.take i) u.party = false) : headsT l (i + 1) = headsT l i ∧ yesT l r (i + 1) = yesT l r i := by
  unfold headsT yesT; rw [parts_old hq hf]; exact ⟨rfl, rfl⟩
theorem heads_skip {l : List Vtr} {i : Nat} {u : Vtr} {r : Rat} (hq : l[i]? = some u) (hex : u.ex = true) : headsT l (i + 1) = headsT l i ∧ yesT l r (i + 1) = yesT l r i := by
  unfold headsT yesT; rw [parts_skip hq hex]; exact ⟨rfl, rfl⟩
theorem heads_len (l : List Vtr) (r : Rat) (i : Nat) : headsT l i ≤ l.length ∧ yesT l r i ≤ l.length := by
  have h := parts_len (l.take i) []
  rw [List.length_nil, Nat.zero_add, List.length_take] at h
  refine ⟨by unfold headsT; omega, ?_⟩
  unfold yesT
  exact Nat.le_trans (List.length_filter_le _ _) (by omega)

set_option maxRecDepth 100000 in
set_option maxHeartbeats 4000000 in
theorem ref_tally (v : Value) (l : List Vtr) (rn : Bool) (ra rb : List UInt8) (w : World) (h : VotersL w v l) (hok : SmallV 100000 l) (hlen : l.length ≤ 64) (la : ra.length ≤ 17179869184) (lb : rb.length ≤ 17179869184) :
    Calls Tryz.prog 49 #[v, raw rn ra rb] w fun e w' => e = .returned (tly (tallyV l (decR rn ra rb))) ∧ Below w.heap.size w w' := by
  have H := Lib.hid h
  have HOK := Lib.hid hok
  have hac := fun p W (hb : Below w.heap.size w W) => ref_accepts v l p rn ra rb W (h.below hb) hok la lb
  generalize decR rn ra rb = rate at *
  obtain ⟨A, c, rfl, hl, hc⟩ := h.slice
  unfold raw at hac
  have HAC := Lib.hid hac
  clear h hok la lb hac
  unfold raw
  go_enter Tryz.func49, Tryz.ntmps49
  have HS := Lib.hid (St.start w)
  go_wp2
  go_loopw [6] (fun j wr => ∃ i : Nat, i ≤ l.length ∧ j = .int .i64 i ∧ Hid (St w [⟨w.heap.size + 1 + 1, #[.bool (negB (amountV (l.take i))), .string (bs (numB (amountV (l.take i)))), .string (bs (denomB (amountV (l.take i)))), .bool (negB (forOf (voteYes l rate) (l.take i))), .string (bs (numB (forOf (voteYes l rate) (l.take i)))), .string (bs (denomB (forOf (voteYes l rate) (l.take i)))), .int .i64 (headsT l i : Nat), .int .i64 (yesT l rate i : Nat)], 52⟩, ⟨w.heap.size + 1, #[.bool false, .string (bs []), .string (bs []), .bool false, .string (bs []), .string (bs []), .int .i64 0, .int .i64 0], 52⟩, ⟨w.heap.size, #[.bool rn, .string (bs ra), .string (bs rb)], 23⟩] wr)) (fun j _ => l.length - (intOf j).toNat)
  case atStart => exact ⟨0, Nat.zero_le _, rfl, by show St _ _ _; rw [show amountV (l.take 0) = 0 from rfl, show forOf (voteYes l rate) (l.take 0) = 0 from rfl, show headsT l 0 = 0 from rfl, show yesT l rate 0 = 0 from rfl, enc0.1, enc0.2.1, enc0.2.2]; exact (St.alloc ((St.alloc ((St.alloc (HS.out) #[.bool rn, .string (bs ra), .string (bs rb)] 23 _ (by simp))) #[.bool false, .string (bs []), .string (bs []), .bool false, .string (bs []), .string (bs []), .int .i64 0, .int .i64 0] 52 _ (by simp))) #[.bool false, .string (bs []), .string (bs []), .bool false, .string (bs []), .string (bs []), .int .i64 0, .int .i64 0] 52 _ (by simp))⟩
  case round =>
    obtain ⟨i, hi, rfl, HS⟩ := hrel
    by_cases hlt : i < l.length
    · obtain ⟨b, o, u, rfl, hbb, hq, hx⟩ := H.out.at_ hlt
      have ho := HOK.out u (List.mem_of_getElem? hq)
      have HACP := Lib.hid (HAC.out u.party)
      have hsk := fun hex => amount_skip hq hex (voteYes l rate)
      have had := fun hex => amount_add hq hex
      have hfa := fun hex hf => for_add (f := voteYes l rate) hq hex hf
      have hfn := fun hf => for_not (f := voteYes l rate) hq hf
      have hhs := fun hex => heads_skip (r := rate) hq hex
      have hhn := fun hex hf => heads_new (r := rate) hq hex hf
      have hho := fun hf => heads_old (r := rate) hq hf
      have s1 := amountV_sized (by decide) (HOK.out.take i)
      have s2 := forOf_sized (by decide) (voteYes l rate) (HOK.out.take i)
      rw [List.length_take, Nat.min_eq_left hi] at s1 s2
      have s3 : i * (100000 + 1) + 1 ≤ 17179869184 := by omega
      have h1 := fun W => ref_Add (negB (amountV (l.take i))) (numB (amountV (l.take i))) (denomB (amountV (l.take i))) u.an u.aa u.ab W (Nat.le_trans s1.num s3) (Nat.le_trans s1.denom s3) (by have := ho.1; omega) (by have := ho.2.1; omega)
      have h2 := fun W => ref_Add (negB (forOf (voteYes l rate) (l.take i))) (numB (forOf (voteYes l rate) (l.take i))) (denomB (forOf (voteYes l rate) (l.take i))) u.an u.aa u.ab W (Nat.le_trans s2.num s3) (Nat.le_trans s2.denom s3) (by have := ho.1; omega) (by have := ho.2.1; omega)
      rw [show decR (negB (amountV (l.take i))) (numB (amountV (l.take i))) (denomB (amountV (l.take i))) = amountV (l.take i) from dec_enc _] at h1
      rw [show decR (negB (forOf (voteYes l rate) (l.take i))) (numB (forOf (voteYes l rate) (l.take i))) (denomB (forOf (voteYes l rate) (l.take i))) = forOf (voteYes l rate) (l.take i) from dec_enc _] at h2
      change ∀ W, Calls Tryz.prog _ _ W (fun e w' => e = .returned (rat (amountV (l.take i) + u.amount)) ∧ _) at h1
      change ∀ W, Calls Tryz.prog _ _ W (fun e w' => e = .returned (rat (forOf (voteYes l rate) (l.take i) + u.amount)) ∧ _) at h2
      obtain ⟨z1, hz1⟩ : ∃ x, x = amountV (l.take i) + u.amount := ⟨_, rfl⟩
      obtain ⟨z2, hz2⟩ : ∃ x, x = forOf (voteYes l rate) (l.take i) + u.amount := ⟨_, rfl⟩
      rw [← hz1] at h1 had
      rw [← hz2] at h2 hfa
      obtain ⟨hh1, hh2⟩ := heads_len l rate i
      have e1 : IntKind.i64.wrap ((headsT l i : Int) + 1) = (headsT l i : Int) + 1 := IntWalk.i64_in _ (by omega)
      have e2 : IntKind.i64.wrap ((yesT l rate i : Int) + 1) = (yesT l rate i : Int) + 1 := IntWalk.i64_in _ (by omega)
      obtain ⟨yB, hyB⟩ : ∃ x, x = yesP l u.party rate := ⟨_, rfl⟩
      have hacp := HACP.out
      clear HACP
      rw [← hyB] at hacp hhn
      have hfa2 := fun hex hf => hfa hex (hyB.symm.trans hf)
      have hfn2 := fun hf => hfn (hyB.symm.trans hf)
      have HSK := Lib.hid hsk
      have HAD := Lib.hid had
      have HFA := Lib.hid hfa2
      have HFN := Lib.hid hfn2
      have HHS := Lib.hid hhs
      have HHN := Lib.hid hhn
      have HHO := Lib.hid hho
      have HACP := Lib.hid hacp
      have HS1 := HS.out
      obtain ⟨xB, hxB⟩ : ∃ x, x = u.ex := ⟨_, rfl⟩
      have HXE := Lib.hid hxB.symm
      have hx2 := hx
      unfold Vtr.enc at hx2
      rw [← hxB] at hx2
      have HX := Lib.hid hx2
      have HQ := Lib.hid hq
      generalize amountV (l.take i) = am at *
      generalize forOf (voteYes l rate) (l.take i) = fo at *
      generalize headsT l i = he at *
      generalize yesT l rate i = ye at *
      unfold rat raw at h1 h2
      have HS := Lib.hid HS1
      have HADA := Lib.hid h1
      have HADF := Lib.hid h2
      have f0 : (0 : Int) ≤ ((i : Nat) : Int) := by omega
      have f1 : ((i : Nat) : Int) < (l.length : Int) := by omega
      have f2 : decide (((i : Nat) : Int) < (l.length : Int)) = true := decide_eq_true f1
      clear HS1 h1 h2 hsk had hfa hfn hfa2 hfn2 hhs hhn hho hyB ho hz1 hz2 s1 s2 s3 hx hx2 hq hxB hacp
      cases xB
      · cases yB
        · have HFNS := Lib.hid (HFN.out rfl)
          clear HFN HFA
          have x1 := HX.out _ HS.out.below 7 _ rfl
          go_wp2
          clear x1
          refine wp_region_facts 8 [fun _ vv => vv = .slice (some ⟨b, o, none⟩) l.length c, fun _ vv => vv = .slice (some ⟨b, o, none⟩) l.length c, fun _ vv => vv = .int .i64 (i : Nat), fun _ vv => vv = .pointer (some ⟨b, o + i * 8, none⟩), fun _ vv => vv = .pointer (some ⟨b, o + i * 8, none⟩), fun _ vv => vv = .int .i64 u.party, fun _ vv => vv = .agg #[.bool rn, .string (bs ra), .string (bs rb)], fun _ vv => vv = .bool false] rfl (by kernel_rfl) (by kernel_rfl) (by kernel_rfl) ⟨fun _ _ _ h _ => h, fun _ _ _ h _ => h, fun _ _ _ h _ => h, fun _ _ _ h _ => h, fun _ _ _ h _ => h, fun _ _ _ h _ => h, fun _ _ _ h _ => h, fun _ _ _ h _ => h, trivial⟩ ?_ ?_
          refine ⟨?_, ?_, ?_, ?_, ?_, ?_, ?_, ?_, trivial⟩
          · intro xx af wv hbx hev hev0 hd
            have e0 : af.tmps[0]?.getD undef = .slice (some ⟨b, o, none⟩) l.length c := hev0 0 rfl
            clear hev hev0 hd
            go_wp2
            exact StepQ.mk _ (Below.refl _ _) rfl
          · intro xx af wv hbx hev hev0 hd
            have e0 : af.tmps[0]?.getD undef = .slice (some ⟨b, o, none⟩) l.length c := hev0 0 rfl
            clear hev hev0 hd
            go_wp2
            exact StepQ.mk _ (Below.refl _ _) rfl
          · intro xx af wv hbx hev hev0 hd
            have e6 : af.tmps[6]?.getD undef = .int .i64 (i : Nat) := hev0 6 rfl
            clear hev hev0 hd
            go_wp2
            exact StepQ.mk _ (Below.refl _ _) rfl
          · intro xx af wv hbx hev hev0 hd
            have e22 := hev 1 _ 22 rfl rfl
            have d1 : xx 1 = .slice (some ⟨b, o, none⟩) l.length c := hd ⟨1, .data⟩ (by simp) rfl
            rw [d1] at e22
            clear d1
            have e23 := hev 2 _ 23 rfl rfl
            have d2 : xx 2 = .int .i64 (i : Nat) := hd ⟨2, .data⟩ (by simp) rfl
            rw [d2] at e23
            clear d2
            clear hev hev0 hd
            go_wp2
            exact StepQ.mk _ (Below.refl _ _) rfl
          · intro xx af wv hbx hev hev0 hd
            have e24 := hev 3 _ 24 rfl rfl
            have d3 : xx 3 = .pointer (some ⟨b, o + i * 8, none⟩) := hd ⟨3, .data⟩ (by simp) rfl
            rw [d3] at e24
            clear d3
            clear hev hev0 hd
            go_wp2
            exact StepQ.mk _ (Below.refl _ _) rfl
          · intro xx af wv hbx hev hev0 hd
            have e25 := hev 4 _ 25 rfl rfl
            have d4 : xx 4 = .pointer (some ⟨b, o + i * 8, none⟩) := hd ⟨4, .data⟩ (by simp) rfl
            rw [d4] at e25
            clear d4
            clear hev hev0 hd
            have hs1 := Lib.hid (HS.out.call hbx)
            have y0 := HX.out _ hs1.out.below 0 _ rfl
            rw [Nat.add_zero] at y0
            go_wp2
            exact StepQ.mk _ (Below.refl _ _) rfl
          · intro xx af wv hbx hev hev0 hd
            have e3 : af.tmps[3]?.getD undef = .pointer (some ⟨w.heap.size, 0, none⟩) := hev0 3 rfl
            clear hev hev0 hd
            have hs1 := Lib.hid (HS.out.call hbx)
            have y0 := hs1.out.cell 2 rfl 0 rfl
            have y1 := hs1.out.cell 2 rfl 1 rfl
            have y2 := hs1.out.cell 2 rfl 2 rfl
            go_wp2
            exact StepQ.mk _ (Below.refl _ _) rfl
          · intro xx af wv hbx hev hev0 hd
            have e21 := hev 0 _ 21 rfl rfl
            have d0 : xx 0 = .slice (some ⟨b, o, none⟩) l.length c := hd ⟨0, .data⟩ (by simp) rfl
            rw [d0] at e21
            clear d0
            have e26 := hev 5 _ 26 rfl rfl
            have d5 : xx 5 = .int .i64 u.party := hd ⟨5, .data⟩ (by simp) rfl
            rw [d5] at e26
            clear d5
            have e27 := hev 6 _ 27 rfl rfl
            have d6 : xx 6 = .agg #[.bool rn, .string (bs ra), .string (bs rb)] := hd ⟨6, .data⟩ (by simp) rfl
            rw [d6] at e27
            clear d6
            clear hev hev0 hd
            have hs1 := Lib.hid (HS.out.call hbx)
            go_wp2_with fail
            refine (HACP.out _ hs1.out.below).mono ?_
            rintro e w8 ⟨rfl, hb8⟩
            go_wp2
            exact StepQ.mk _ hb8 rfl
          intro xx w2 hb9 hv
          have hv0 : xx 0 = .slice (some ⟨b, o, none⟩) l.length c := hv 0 (by decide)
          have hv1 : xx 1 = .slice (some ⟨b, o, none⟩) l.length c := hv 1 (by decide)
          have hv2 : xx 2 = .int .i64 (i : Nat) := hv 2 (by decide)
          have hv3 : xx 3 = .pointer (some ⟨b, o + i * 8, none⟩) := hv 3 (by decide)
          have hv4 : xx 4 = .pointer (some ⟨b, o + i * 8, none⟩) := hv 4 (by decide)
          have hv5 : xx 5 = .int .i64 u.party := hv 5 (by decide)
          have hv6 : xx 6 = .agg #[.bool rn, .string (bs ra), .string (bs rb)] := hv 6 (by decide)
          have hv7 : xx 7 = .bool false := hv 7 (by decide)
          clear hv
          simp only [List.take, List.drop, fillA, Act.put]
          simp only [hv0, hv1, hv2, hv3, hv4, hv5, hv6, hv7]
          clear hv0 hv1 hv2 hv3 hv4 hv5 hv6 hv7
          have HS2 := Lib.hid (HS.out.call hb9)
          clear hb9 HS
          go_wp2
          refine wp_region_facts 9 [fun _ vv => vv = .pointer (some ⟨w.heap.size + 1 + 1, 0, none⟩), fun _ vv => vv = .agg #[.bool (negB (am)), .string (bs (numB (am))), .string (bs (denomB (am)))], fun _ vv => vv = .slice (some ⟨b, o, none⟩) l.length c, fun _ vv => vv = .int .i64 (i : Nat), fun _ vv => vv = .pointer (some ⟨b, o + i * 8, none⟩), fun _ vv => vv = .pointer (some ⟨b, o + i * 8 + 1, none⟩), fun _ vv => vv = .agg #[.bool u.an, .string (bs u.aa), .string (bs u.ab)], fun _ vv => vv = .agg #[.bool (negB (z1)), .string (bs (numB (z1))), .string (bs (denomB (z1)))], fun _ vv => vv = .pointer (some ⟨w.heap.size + 1 + 1, 0, none⟩)] rfl (by kernel_rfl) (by kernel_rfl) (by kernel_rfl) ⟨fun _ _ _ h _ => h, fun _ _ _ h _ => h, fun _ _ _ h _ => h, fun _ _ _ h _ => h, fun _ _ _ h _ => h, fun _ _ _ h _ => h, fun _ _ _ h _ => h, fun _ _ _ h _ => h, fun _ _ _ h _ => h, trivial⟩ ?_ ?_
          refine ⟨?_, ?_, ?_, ?_, ?_, ?_, ?_, ?_, ?_, trivial⟩
          · intro xx af wv hbx hev hev0 hd
            have e5 : af.tmps[5]?.getD undef = .pointer (some ⟨w.heap.size + 1 + 1, 0, none⟩) := hev0 5 rfl
            clear hev hev0 hd
            go_wp2
            exact StepQ.mk _ (Below.refl _ _) rfl
          · intro xx af wv hbx hev hev0 hd
            have e29 := hev 0 _ 29 rfl rfl
            have d0 : xx 0 = .pointer (some ⟨w.heap.size + 1 + 1, 0, none⟩) := hd ⟨0, .data⟩ (by simp) rfl
            rw [d0] at e29
            clear d0
            clear hev hev0 hd
            have hs1 := Lib.hid (HS2.out.call hbx)
            have y0 := hs1.out.cell 0 rfl 0 rfl
            have y1 := hs1.out.cell 0 rfl 1 rfl
            have y2 := hs1.out.cell 0 rfl 2 rfl
            go_wp2
            exact StepQ.mk _ (Below.refl _ _) rfl
          · intro xx af wv hbx hev hev0 hd
            have e0 : af.tmps[0]?.getD undef = .slice (some ⟨b, o, none⟩) l.length c := hev0 0 rfl
            clear hev hev0 hd
            go_wp2
            exact StepQ.mk _ (Below.refl _ _) rfl
          · intro xx af wv hbx hev hev0 hd
            have e6 : af.tmps[6]?.getD undef = .int .i64 (i : Nat) := hev0 6 rfl
            clear hev hev0 hd
            go_wp2
            exact StepQ.mk _ (Below.refl _ _) rfl
          · intro xx af wv hbx hev hev0 hd
            have e31 := hev 2 _ 31 rfl rfl
            have d2 : xx 2 = .slice (some ⟨b, o, none⟩) l.length c := hd ⟨2, .data⟩ (by simp) rfl
            rw [d2] at e31
            clear d2
            have e32 := hev 3 _ 32 rfl rfl
            have d3 : xx 3 = .int .i64 (i : Nat) := hd ⟨3, .data⟩ (by simp) rfl
            rw [d3] at e32
            clear d3
            clear hev hev0 hd
            go_wp2
            exact StepQ.mk _ (Below.refl _ _) rfl
          · intro xx af wv hbx hev hev0 hd
            have e33 := hev 4 _ 33 rfl rfl
            have d4 : xx 4 = .pointer (some ⟨b, o + i * 8, none⟩) := hd ⟨4, .data⟩ (by simp) rfl
            rw [d4] at e33
            clear d4
            clear hev hev0 hd
            go_wp2
            exact StepQ.mk _ (Below.refl _ _) rfl
          · intro xx af wv hbx hev hev0 hd
            have e34 := hev 5 _ 34 rfl rfl
            have d5 : xx 5 = .pointer (some ⟨b, o + i * 8 + 1, none⟩) := hd ⟨5, .data⟩ (by simp) rfl
            rw [d5] at e34
            clear d5
            clear hev hev0 hd
            have hs1 := Lib.hid (HS2.out.call hbx)
            have y0 := HX.out _ hs1.out.below 1 _ rfl
            have y1 := HX.out _ hs1.out.below 2 _ rfl
            have y2 := HX.out _ hs1.out.below 3 _ rfl
            go_wp2
            exact StepQ.mk _ (Below.refl _ _) rfl
          · intro xx af wv hbx hev hev0 hd
            have e30 := hev 1 _ 30 rfl rfl
            have d1 : xx 1 = .agg #[.bool (negB (am)), .string (bs (numB (am))), .string (bs (denomB (am)))] := hd ⟨1, .data⟩ (by simp) rfl
            rw [d1] at e30
            clear d1
            have e35 := hev 6 _ 35 rfl rfl
            have d6 : xx 6 = .agg #[.bool u.an, .string (bs u.aa), .string (bs u.ab)] := hd ⟨6, .data⟩ (by simp) rfl
            rw [d6] at e35
            clear d6
            clear hev hev0 hd
            go_wp2_with fail
            refine (HADA.out _).mono ?_
            rintro e w8 ⟨rfl, hb8⟩
            go_wp2
            exact StepQ.mk _ hb8 rfl
          · intro xx af wv hbx hev hev0 hd
            have e5 : af.tmps[5]?.getD undef = .pointer (some ⟨w.heap.size + 1 + 1, 0, none⟩) := hev0 5 rfl
            clear hev hev0 hd
            go_wp2
            exact StepQ.mk _ (Below.refl _ _) rfl
          intro xx w3 hb9 hv
          have hv0 : xx 0 = .pointer (some ⟨w.heap.size + 1 + 1, 0, none⟩) := hv 0 (by decide)
          have hv1 : xx 1 = .agg #[.bool (negB (am)), .string (bs (numB (am))), .string (bs (denomB (am)))] := hv 1 (by decide)
          have hv2 : xx 2 = .slice (some ⟨b, o, none⟩) l.length c := hv 2 (by decide)
          have hv3 : xx 3 = .int .i64 (i : Nat) := hv 3 (by decide)
          have hv4 : xx 4 = .pointer (some ⟨b, o + i * 8, none⟩) := hv 4 (by decide)
          have hv5 : xx 5 = .pointer (some ⟨b, o + i * 8 + 1, none⟩) := hv 5 (by decide)
          have hv6 : xx 6 = .agg #[.bool u.an, .string (bs u.aa), .string (bs u.ab)] := hv 6 (by decide)
          have hv7 : xx 7 = .agg #[.bool (negB (z1)), .string (bs (numB (z1))), .string (bs (denomB (z1)))] := hv 7 (by decide)
          have hv8 : xx 8 = .pointer (some ⟨w.heap.size + 1 + 1, 0, none⟩) := hv 8 (by decide)
          clear hv
          simp only [List.take, List.drop, fillA, Act.put]
          simp only [hv0, hv1, hv2, hv3, hv4, hv5, hv6, hv7, hv8]
          clear hv0 hv1 hv2 hv3 hv4 hv5 hv6 hv7 hv8
          have HS3 := Lib.hid (HS2.out.call hb9)
          clear hb9 HS2
          have x2 := HS3.out.cell 0 rfl 0 rfl
          have x3 := HS3.out.cell 0 rfl 1 rfl
          have x4 := HS3.out.cell 0 rfl 2 rfl
          have x5 := HS3.out.frozen 0 rfl 0
          have x6 := HS3.out.frozen 0 rfl 1
          have x7 := HS3.out.frozen 0 rfl 2
          have x8 := HS3.out.ne 0 1 rfl rfl (by decide)
          have x9 := HS3.out.ne 1 0 rfl rfl (by decide)
          have x10 := HS3.out.ne 0 2 rfl rfl (by decide)
          have x11 := HS3.out.ne 2 0 rfl rfl (by decide)
          go_wp2
          go_loopw [8, 9] (fun fr j wr => ∃ k : Nat, k ≤ i ∧ j = .int .i64 k ∧ fr = .bool (fresh (l.take k) u.party) ∧ Hid (St w [⟨w.heap.size + 1 + 1, #[.bool (negB (z1)), .string (bs (numB (z1))), .string (bs (denomB (z1))), .bool (negB (fo)), .string (bs (numB (fo))), .string (bs (denomB (fo))), .int .i64 (he : Nat), .int .i64 (ye : Nat)], 52⟩, ⟨w.heap.size + 1, #[.bool false, .string (bs []), .string (bs []), .bool false, .string (bs []), .string (bs []), .int .i64 0, .int .i64 0], 52⟩, ⟨w.heap.size, #[.bool rn, .string (bs ra), .string (bs rb)], 23⟩] wr)) (fun _ j _ => i - (intOf j).toNat)
          case atStart => exact ⟨0, Nat.zero_le _, rfl, rfl, (St.set ((St.set ((St.set (HS3.out) 0 rfl 0 _)) 0 rfl 1 _)) 0 rfl 2 _)⟩
          case round =>
            clear HS
            obtain ⟨k, hk, rfl, rfl, HS⟩ := hrel
            by_cases hki : k < i
            · obtain ⟨b', o', p, e, _, hp, hy⟩ := H.out.at_ (show k < l.length by omega)
              injection e with e
              injection e with e1 e2
              subst e1
              subst e2
              have hft := fresh_take (p := u.party) hp
              obtain ⟨qB, hqB⟩ : ∃ x, x = p.ex := ⟨_, rfl⟩
              obtain ⟨nB, hnB⟩ : ∃ x, x = (p.party == u.party) := ⟨_, rfl⟩
              rw [← hqB, ← hnB] at hft
              have hn1 : (p.party == u.party) = nB := hnB.symm
              have hn2 : (p.party != u.party) = !nB := by rw [bne, hn1]
              have hy2 := hy
              unfold Vtr.enc at hy2
              rw [← hqB] at hy2
              have HY := Lib.hid hy2
              obtain ⟨gB, hgB⟩ : ∃ x, x = fresh (l.take k) u.party := ⟨_, rfl⟩
              rw [← hgB] at hft ⊢
              have HFT := Lib.hid hft
              have g0 : (0 : Int) ≤ ((k : Nat) : Int) := by omega
              have g1 : ((k : Nat) : Int) < (l.length : Int) := by omega
              have g2 : ((k : Nat) : Int) < ((i : Nat) : Int) := by omega
              have g3 : decide (((k : Nat) : Int) < ((i : Nat) : Int)) = true := decide_eq_true g2
              clear hy hy2 hft hqB hnB hgB hp
              cases gB
              · have R := Lib.hid HFT.out
                clear HFT
                go_wp2
                refine wp_region_facts 21 [fun _ vv => vv = .bool false, fun _ vv => vv = .bool false, fun _ vv => vv = undef, fun _ vv => vv = undef, fun _ vv => vv = undef, fun _ vv => vv = undef, fun _ vv => vv = undef, fun _ vv => vv = undef, fun _ vv => vv = undef, fun _ vv => vv = undef, fun _ vv => vv = undef, fun _ vv => vv = undef, fun _ vv => vv = undef, fun _ vv => vv = undef, fun _ vv => vv = undef, fun _ vv => vv = undef, fun _ vv => vv = undef, fun _ vv => vv = undef, fun _ vv => vv = undef, fun _ vv => vv = undef, fun _ vv => vv = .bool false] rfl (by kernel_rfl) (by kernel_rfl) (by kernel_rfl) ⟨fun _ _ _ h _ => h, fun _ _ _ h _ => h, fun _ _ _ h _ => h, fun _ _ _ h _ => h, fun _ _ _ h _ => h, fun _ _ _ h _ => h, fun _ _ _ h _ => h, fun _ _ _ h _ => h, fun _ _ _ h _ => h, fun _ _ _ h _ => h, fun _ _ _ h _ => h, fun _ _ _ h _ => h, fun _ _ _ h _ => h, fun _ _ _ h _ => h, fun _ _ _ h _ => h, fun _ _ _ h _ => h, fun _ _ _ h _ => h, fun _ _ _ h _ => h, fun _ _ _ h _ => h, fun _ _ _ h _ => h, fun _ _ _ h _ => h, trivial⟩ ?_ ?_
                refine ⟨?_, ?_, ?_, ?_, ?_, ?_, ?_, ?_, ?_, ?_, ?_, ?_, ?_, ?_, ?_, ?_, ?_, ?_, ?_, ?_, ?_, trivial⟩
                · intro xx af wv hbx hev hev0 hd
                  have e8 : af.tmps[8]?.getD undef = .bool false := hev0 8 rfl
                  clear hev hev0 hd
                  go_wp2
                  exact StepQ.mk _ (Below.refl _ _) rfl
                · intro xx af wv hbx hev hev0 hd
                  have e53 := hev 0 _ 53 rfl rfl
                  have d0 : xx 0 = .bool false := hd ⟨0, .data⟩ (by simp) rfl
                  rw [d0] at e53
                  clear d0
                  clear hev hev0 hd
                  go_wp2
                  exact StepQ.mk _ (Below.refl _ _) rfl
                · intro xx af wv hbx hev hev0 hd
                  have e54 := hev 1 _ 54 rfl rfl
                  have d1 : xx 1 = .bool false := hd ⟨1, .guard⟩ (by simp) rfl
                  rw [d1] at e54
                  clear d1
                  have q54 := getD_bool e54
                  clear hev hev0 hd
                  go_wp2
                  exact StepQ.mk _ (Below.refl _ _) rfl
                · intro xx af wv hbx hev hev0 hd
                  have e54 := hev 1 _ 54 rfl rfl
                  have d1 : xx 1 = .bool false := hd ⟨1, .guard⟩ (by simp) rfl
                  rw [d1] at e54
                  clear d1
                  have q54 := getD_bool e54
                  clear hev hev0 hd
                  go_wp2
                  exact StepQ.mk _ (Below.refl _ _) rfl
                · intro xx af wv hbx hev hev0 hd
                  have e54 := hev 1 _ 54 rfl rfl
                  have d1 : xx 1 = .bool false := hd ⟨1, .guard⟩ (by simp) rfl
                  rw [d1] at e54
                  clear d1
                  have q54 := getD_bool e54
                  clear hev hev0 hd
                  go_wp2
                  exact StepQ.mk _ (Below.refl _ _) rfl
                · intro xx af wv hbx hev hev0 hd
                  have e54 := hev 1 _ 54 rfl rfl
                  have d1 : xx 1 = .bool false := hd ⟨1, .guard⟩ (by simp) rfl
                  rw [d1] at e54
                  clear d1
                  have q54 := getD_bool e54
                  clear hev hev0 hd
                  go_wp2
                  exact StepQ.mk _ (Below.refl _ _) rfl
                · intro xx af wv hbx hev hev0 hd
                  have e54 := hev 1 _ 54 rfl rfl
                  have d1 : xx 1 = .bool false := hd ⟨1, .guard⟩ (by simp) rfl
                  rw [d1] at e54
                  clear d1
                  have q54 := getD_bool e54
                  clear hev hev0 hd
                  go_wp2
                  exact StepQ.mk _ (Below.refl _ _) rfl
                · intro xx af wv hbx hev hev0 hd
                  have e54 := hev 1 _ 54 rfl rfl
                  have d1 : xx 1 = .bool false := hd ⟨1, .chain⟩ (by simp) rfl
                  rw [d1] at e54
                  clear d1
                  have q54 := getD_bool e54
                  clear hev hev0 hd
                  go_wp2
                  exact StepQ.mk _ (Below.refl _ _) rfl
                · intro xx af wv hbx hev hev0 hd
                  have e60 := hev 7 _ 60 rfl rfl
                  have d7 : xx 7 = undef := hd ⟨7, .guard⟩ (by simp) rfl
                  rw [d7] at e60
                  clear d7
                  clear hev hev0 hd
                  rcases getD_undef e60 with q60 | q60
                  · go_wp2
                    exact StepQ.mk _ (Below.refl _ _) rfl
                  · go_wp2
                    exact StepQ.mk _ (Below.refl _ _) rfl
                · intro xx af wv hbx hev hev0 hd
                  have e60 := hev 7 _ 60 rfl rfl
                  have d7 : xx 7 = undef := hd ⟨7, .guard⟩ (by simp) rfl
                  rw [d7] at e60
                  clear d7
                  clear hev hev0 hd
                  rcases getD_undef e60 with q60 | q60
                  · go_wp2
                    exact StepQ.mk _ (Below.refl _ _) rfl
                  · go_wp2
                    exact StepQ.mk _ (Below.refl _ _) rfl
                · intro xx af wv hbx hev hev0 hd
                  have e60 := hev 7 _ 60 rfl rfl
                  have d7 : xx 7 = undef := hd ⟨7, .guard⟩ (by simp) rfl
                  rw [d7] at e60
                  clear d7
                  clear hev hev0 hd
                  rcases getD_undef e60 with q60 | q60
                  · go_wp2
                    exact StepQ.mk _ (Below.refl _ _) rfl
                  · go_wp2
                    exact StepQ.mk _ (Below.refl _ _) rfl
                · intro xx af wv hbx hev hev0 hd
                  have e60 := hev 7 _ 60 rfl rfl
                  have d7 : xx 7 = undef := hd ⟨7, .guard⟩ (by simp) rfl
                  rw [d7] at e60
                  clear d7
                  clear hev hev0 hd
                  rcases getD_undef e60 with q60 | q60
                  · go_wp2
                    exact StepQ.mk _ (Below.refl _ _) rfl
                  · go_wp2
                    exact StepQ.mk _ (Below.refl _ _) rfl
                · intro xx af wv hbx hev hev0 hd
                  have e60 := hev 7 _ 60 rfl rfl
                  have d7 : xx 7 = undef := hd ⟨7, .guard⟩ (by simp) rfl
                  rw [d7] at e60
                  clear d7
                  clear hev hev0 hd
                  rcases getD_undef e60 with q60 | q60
                  · go_wp2
                    exact StepQ.mk _ (Below.refl _ _) rfl
                  · go_wp2
                    exact StepQ.mk _ (Below.refl _ _) rfl
                · intro xx af wv hbx hev hev0 hd
                  have e60 := hev 7 _ 60 rfl rfl
                  have d7 : xx 7 = undef := hd ⟨7, .guard⟩ (by simp) rfl
                  rw [d7] at e60
                  clear d7
                  clear hev hev0 hd
                  rcases getD_undef e60 with q60 | q60
                  · go_wp2
                    exact StepQ.mk _ (Below.refl _ _) rfl
                  · go_wp2
                    exact StepQ.mk _ (Below.refl _ _) rfl
                · intro xx af wv hbx hev hev0 hd
                  have e60 := hev 7 _ 60 rfl rfl
                  have d7 : xx 7 = undef := hd ⟨7, .guard⟩ (by simp) rfl
                  rw [d7] at e60
                  clear d7
                  clear hev hev0 hd
                  rcases getD_undef e60 with q60 | q60
                  · go_wp2
                    exact StepQ.mk _ (Below.refl _ _) rfl
                  · go_wp2
                    exact StepQ.mk _ (Below.refl _ _) rfl
                · intro xx af wv hbx hev hev0 hd
                  have e60 := hev 7 _ 60 rfl rfl
                  have d7 : xx 7 = undef := hd ⟨7, .guard⟩ (by simp) rfl
                  rw [d7] at e60
                  clear d7
                  clear hev hev0 hd
                  rcases getD_undef e60 with q60 | q60
                  · go_wp2
                    exact StepQ.mk _ (Below.refl _ _) rfl
                  · go_wp2
                    exact StepQ.mk _ (Below.refl _ _) rfl
                · intro xx af wv hbx hev hev0 hd
                  have e60 := hev 7 _ 60 rfl rfl
                  have d7 : xx 7 = undef := hd ⟨7, .guard⟩ (by simp) rfl
                  rw [d7] at e60
                  clear d7
                  clear hev hev0 hd
                  rcases getD_undef e60 with q60 | q60
                  · go_wp2
                    exact StepQ.mk _ (Below.refl _ _) rfl
                  · go_wp2
                    exact StepQ.mk _ (Below.refl _ _) rfl
                · intro xx af wv hbx hev hev0 hd
                  have e60 := hev 7 _ 60 rfl rfl
                  have d7 : xx 7 = undef := hd ⟨7, .guard⟩ (by simp) rfl
                  rw [d7] at e60
                  clear d7
                  clear hev hev0 hd
                  rcases getD_undef e60 with q60 | q60
                  · go_wp2
                    exact StepQ.mk _ (Below.refl _ _) rfl
                  · go_wp2
                    exact StepQ.mk _ (Below.refl _ _) rfl
                · intro xx af wv hbx hev hev0 hd
                  have e60 := hev 7 _ 60 rfl rfl
                  have d7 : xx 7 = undef := hd ⟨7, .guard⟩ (by simp) rfl
                  rw [d7] at e60
                  clear d7
                  clear hev hev0 hd
                  rcases getD_undef e60 with q60 | q60
                  · go_wp2
                    exact StepQ.mk _ (Below.refl _ _) rfl
                  · go_wp2
                    exact StepQ.mk _ (Below.refl _ _) rfl
                · intro xx af wv hbx hev hev0 hd
                  have e54 := hev 1 _ 54 rfl rfl
                  have d1 : xx 1 = .bool false := hd ⟨1, .guard⟩ (by simp) rfl
                  rw [d1] at e54
                  clear d1
                  have q54 := getD_bool e54
                  clear hev hev0 hd
                  go_wp2
                  exact StepQ.mk _ (Below.refl _ _) rfl
                · intro xx af wv hbx hev hev0 hd
                  have e54 := hev 1 _ 54 rfl rfl
                  have d1 : xx 1 = .bool false := hd ⟨1, .data⟩ (by simp) rfl
                  rw [d1] at e54
                  clear d1
                  have e72 := hev 19 _ 72 rfl rfl
                  have d19 : xx 19 = undef := hd ⟨19, .data⟩ (by simp) rfl
                  rw [d19] at e72
                  clear d19
                  clear hev hev0 hd
                  go_wp2
                  exact StepQ.mk _ (Below.refl _ _) rfl
                intro xx w4 hb9 hv
                have hv0 : xx 0 = .bool false := hv 0 (by decide)
                have hv1 : xx 1 = .bool false := hv 1 (by decide)
                have hv2 : xx 2 = undef := hv 2 (by decide)
                have hv3 : xx 3 = undef := hv 3 (by decide)
                have hv4 : xx 4 = undef := hv 4 (by decide)
                have hv5 : xx 5 = undef := hv 5 (by decide)
                have hv6 : xx 6 = undef := hv 6 (by decide)
                have hv7 : xx 7 = undef := hv 7 (by decide)
                have hv8 : xx 8 = undef := hv 8 (by decide)
                have hv9 : xx 9 = undef := hv 9 (by decide)
                have hv10 : xx 10 = undef := hv 10 (by decide)
                have hv11 : xx 11 = undef := hv 11 (by decide)
                have hv12 : xx 12 = undef := hv 12 (by decide)
                have hv13 : xx 13 = undef := hv 13 (by decide)
                have hv14 : xx 14 = undef := hv 14 (by decide)
                have hv15 : xx 15 = undef := hv 15 (by decide)
                have hv16 : xx 16 = undef := hv 16 (by decide)
                have hv17 : xx 17 = undef := hv 17 (by decide)
                have hv18 : xx 18 = undef := hv 18 (by decide)
                have hv19 : xx 19 = undef := hv 19 (by decide)
                have hv20 : xx 20 = .bool false := hv 20 (by decide)
                clear hv
                simp only [List.take, List.drop, fillA, Act.put]
                simp only [hv0, hv1, hv2, hv3, hv4, hv5, hv6, hv7, hv8, hv9, hv10, hv11, hv12, hv13, hv14, hv15, hv16, hv17, hv18, hv19, hv20]
                clear hv0 hv1 hv2 hv3 hv4 hv5 hv6 hv7 hv8 hv9 hv10 hv11 hv12 hv13 hv14 hv15 hv16 hv17 hv18 hv19 hv20
                have HS4 := Lib.hid (HS.out.call hb9)
                clear hb9 HS
                go_wp2
                have HS5 : Hid (St w [⟨w.heap.size + 1 + 1, #[.bool (negB (z1)), .string (bs (numB (z1))), .string (bs (denomB (z1))), .bool (negB (fo)), .string (bs (numB (fo))), .string (bs (denomB (fo))), .int .i64 (he : Nat), .int .i64 (ye : Nat)], 52⟩, ⟨w.heap.size + 1, #[.bool false, .string (bs []), .string (bs []), .bool false, .string (bs []), .string (bs []), .int .i64 0, .int .i64 0], 52⟩, ⟨w.heap.size, #[.bool rn, .string (bs ra), .string (bs rb)], 23⟩] _) := Lib.hid HS4.out
                go_roundw
                case rel => exact ⟨k + 1, by omega, by go_num, by rw [R.out]; try simp, HS5.out.sub (by simp)⟩
                case measure => simp [intOf]; omega
              · cases qB
                · have R := Lib.hid HFT.out
                  clear HFT
                  go_wp2
                  refine wp_region_facts 21 [fun _ vv => vv = .bool true, fun _ vv => vv = .bool true, fun _ vv => vv = .slice (some ⟨b, o, none⟩) l.length c, fun _ vv => vv = .int .i64 (k : Nat), fun _ vv => vv = .pointer (some ⟨b, o + k * 8, none⟩), fun _ vv => vv = .pointer (some ⟨b, o + k * 8 + 7, none⟩), fun _ vv => vv = .bool false, fun _ vv => vv = .bool false, fun _ vv => vv = .slice (some ⟨b, o, none⟩) l.length c, fun _ vv => vv = .int .i64 (k : Nat), fun _ vv => vv = .pointer (some ⟨b, o + k * 8, none⟩), fun _ vv => vv = .pointer (some ⟨b, o + k * 8, none⟩), fun _ vv => vv = .int .i64 p.party, fun _ vv => vv = .slice (some ⟨b, o, none⟩) l.length c, fun _ vv => vv = .int .i64 (i : Nat), fun _ vv => vv = .pointer (some ⟨b, o + i * 8, none⟩), fun _ vv => vv = .pointer (some ⟨b, o + i * 8, none⟩), fun _ vv => vv = .int .i64 u.party, fun _ vv => vv = .bool (!nB), fun _ vv => vv = .bool (!nB), fun _ vv => vv = .bool (!nB)] rfl (by kernel_rfl) (by kernel_rfl) (by kernel_rfl) ⟨fun _ _ _ h _ => h, fun _ _ _ h _ => h, fun _ _ _ h _ => h, fun _ _ _ h _ => h, fun _ _ _ h _ => h, fun _ _ _ h _ => h, fun _ _ _ h _ => h, fun _ _ _ h _ => h, fun _ _ _ h _ => h, fun _ _ _ h _ => h, fun _ _ _ h _ => h, fun _ _ _ h _ => h, fun _ _ _ h _ => h, fun _ _ _ h _ => h, fun _ _ _ h _ => h, fun _ _ _ h _ => h, fun _ _ _ h _ => h, fun _ _ _ h _ => h, fun _ _ _ h _ => h, fun _ _ _ h _ => h, fun _ _ _ h _ => h, trivial⟩ ?_ ?_
                  refine ⟨?_, ?_, ?_, ?_, ?_, ?_, ?_, ?_, ?_, ?_, ?_, ?_, ?_, ?_, ?_, ?_, ?_, ?_, ?_, ?_, ?_, trivial⟩
                  · intro xx af wv hbx hev hev0 hd
                    have e8 : af.tmps[8]?.getD undef = .bool true := hev0 8 rfl
                    clear hev hev0 hd
                    go_wp2
                    exact StepQ.mk _ (Below.refl _ _) rfl
                  · intro xx af wv hbx hev hev0 hd
                    have e53 := hev 0 _ 53 rfl rfl
                    have d0 : xx 0 = .bool true := hd ⟨0, .data⟩ (by simp) rfl
                    rw [d0] at e53
                    clear d0
                    clear hev hev0 hd
                    go_wp2
                    exact StepQ.mk _ (Below.refl _ _) rfl
                  · intro xx af wv hbx hev hev0 hd
                    have e54 := hev 1 _ 54 rfl rfl
                    have d1 : xx 1 = .bool true := hd ⟨1, .guard⟩ (by simp) rfl
                    rw [d1] at e54
                    clear d1
                    have e0 : af.tmps[0]?.getD undef = .slice (some ⟨b, o, none⟩) l.length c := hev0 0 rfl
                    have q54 := getD_bool e54
                    clear hev hev0 hd
                    go_wp2
                    exact StepQ.mk _ (Below.refl _ _) rfl
                  · intro xx af wv hbx hev hev0 hd
                    have e54 := hev 1 _ 54 rfl rfl
                    have d1 : xx 1 = .bool true := hd ⟨1, .guard⟩ (by simp) rfl
                    rw [d1] at e54
                    clear d1
                    have e9 : af.tmps[9]?.getD undef = .int .i64 (k : Nat) := hev0 9 rfl
                    have q54 := getD_bool e54
                    clear hev hev0 hd
                    go_wp2
                    exact StepQ.mk _ (Below.refl _ _) rfl
                  · intro xx af wv hbx hev hev0 hd
                    have e54 := hev 1 _ 54 rfl rfl
                    have d1 : xx 1 = .bool true := hd ⟨1, .guard⟩ (by simp) rfl
                    rw [d1] at e54
                    clear d1
                    have e55 := hev 2 _ 55 rfl rfl
                    have d2 : xx 2 = .slice (some ⟨b, o, none⟩) l.length c := hd ⟨2, .data⟩ (by simp) rfl
                    rw [d2] at e55
                    clear d2
                    have e56 := hev 3 _ 56 rfl rfl
                    have d3 : xx 3 = .int .i64 (k : Nat) := hd ⟨3, .data⟩ (by simp) rfl
                    rw [d3] at e56
                    clear d3
                    have q54 := getD_bool e54
                    clear hev hev0 hd
                    go_wp2
                    exact StepQ.mk _ (Below.refl _ _) rfl
                  · intro xx af wv hbx hev hev0 hd
                    have e54 := hev 1 _ 54 rfl rfl
                    have d1 : xx 1 = .bool true := hd ⟨1, .guard⟩ (by simp) rfl
                    rw [d1] at e54
                    clear d1
                    have e57 := hev 4 _ 57 rfl rfl
                    have d4 : xx 4 = .pointer (some ⟨b, o + k * 8, none⟩) := hd ⟨4, .data⟩ (by simp) rfl
                    rw [d4] at e57
                    clear d4
                    have q54 := getD_bool e54
                    clear hev hev0 hd
                    go_wp2
                    exact StepQ.mk _ (Below.refl _ _) rfl
                  · intro xx af wv hbx hev hev0 hd
                    have e54 := hev 1 _ 54 rfl rfl
                    have d1 : xx 1 = .bool true := hd ⟨1, .guard⟩ (by simp) rfl
                    rw [d1] at e54
                    clear d1
                    have e58 := hev 5 _ 58 rfl rfl
                    have d5 : xx 5 = .pointer (some ⟨b, o + k * 8 + 7, none⟩) := hd ⟨5, .data⟩ (by simp) rfl
                    rw [d5] at e58
                    clear d5
                    have q54 := getD_bool e54
                    clear hev hev0 hd
                    have hs1 := Lib.hid (HS.out.call hbx)
                    have y0 := HY.out _ hs1.out.below 7 _ rfl
                    go_wp2
                    exact StepQ.mk _ (Below.refl _ _) rfl
                  · intro xx af wv hbx hev hev0 hd
                    have e54 := hev 1 _ 54 rfl rfl
                    have d1 : xx 1 = .bool true := hd ⟨1, .chain⟩ (by simp) rfl
                    rw [d1] at e54
                    clear d1
                    have e59 := hev 6 _ 59 rfl rfl
                    have d6 : xx 6 = .bool false := hd ⟨6, .data⟩ (by simp) rfl
                    rw [d6] at e59
                    clear d6
                    have q54 := getD_bool e54
                    clear hev hev0 hd
                    go_wp2
                    exact StepQ.mk _ (Below.refl _ _) rfl
                  · intro xx af wv hbx hev hev0 hd
                    have e60 := hev 7 _ 60 rfl rfl
                    have d7 : xx 7 = .bool false := hd ⟨7, .guard⟩ (by simp) rfl
                    rw [d7] at e60
                    clear d7
                    have e0 : af.tmps[0]?.getD undef = .slice (some ⟨b, o, none⟩) l.length c := hev0 0 rfl
                    have q60 := getD_bool e60
                    clear hev hev0 hd
                    go_wp2
                    exact StepQ.mk _ (Below.refl _ _) rfl
                  · intro xx af wv hbx hev hev0 hd
                    have e60 := hev 7 _ 60 rfl rfl
                    have d7 : xx 7 = .bool false := hd ⟨7, .guard⟩ (by simp) rfl
                    rw [d7] at e60
                    clear d7
                    have e9 : af.tmps[9]?.getD undef = .int .i64 (k : Nat) := hev0 9 rfl
                    have q60 := getD_bool e60
                    clear hev hev0 hd
                    go_wp2
                    exact StepQ.mk _ (Below.refl _ _) rfl
                  · intro xx af wv hbx hev hev0 hd
                    have e60 := hev 7 _ 60 rfl rfl
                    have d7 : xx 7 = .bool false := hd ⟨7, .guard⟩ (by simp) rfl
                    rw [d7] at e60
                    clear d7
                    have e61 := hev 8 _ 61 rfl rfl
                    have d8 : xx 8 = .slice (some ⟨b, o, none⟩) l.length c := hd ⟨8, .data⟩ (by simp) rfl
                    rw [d8] at e61
                    clear d8
                    have e62 := hev 9 _ 62 rfl rfl
                    have d9 : xx 9 = .int .i64 (k : Nat) := hd ⟨9, .data⟩ (by simp) rfl
                    rw [d9] at e62
                    clear d9
                    have q60 := getD_bool e60
                    clear hev hev0 hd
                    go_wp2
                    exact StepQ.mk _ (Below.refl _ _) rfl
                  · intro xx af wv hbx hev hev0 hd
                    have e60 := hev 7 _ 60 rfl rfl
                    have d7 : xx 7 = .bool false := hd ⟨7, .guard⟩ (by simp) rfl
                    rw [d7] at e60
                    clear d7
                    have e63 := hev 10 _ 63 rfl rfl
                    have d10 : xx 10 = .pointer (some ⟨b, o + k * 8, none⟩) := hd ⟨10, .data⟩ (by simp) rfl
                    rw [d10] at e63
                    clear d10
                    have q60 := getD_bool e60
                    clear hev hev0 hd
                    go_wp2
                    exact StepQ.mk _ (Below.refl _ _) rfl
                  · intro xx af wv hbx hev hev0 hd
                    have e60 := hev 7 _ 60 rfl rfl
                    have d7 : xx 7 = .bool false := hd ⟨7, .guard⟩ (by simp) rfl
                    rw [d7] at e60
                    clear d7
                    have e64 := hev 11 _ 64 rfl rfl
                    have d11 : xx 11 = .pointer (some ⟨b, o + k * 8, none⟩) := hd ⟨11, .data⟩ (by simp) rfl
                    rw [d11] at e64
                    clear d11
                    have q60 := getD_bool e60
                    clear hev hev0 hd
                    have hs1 := Lib.hid (HS.out.call hbx)
                    have y0 := HY.out _ hs1.out.below 0 _ rfl
                    rw [Nat.add_zero] at y0
                    go_wp2
                    exact StepQ.mk _ (Below.refl _ _) rfl
                  · intro xx af wv hbx hev hev0 hd
                    have e60 := hev 7 _ 60 rfl rfl
                    have d7 : xx 7 = .bool false := hd ⟨7, .guard⟩ (by simp) rfl
                    rw [d7] at e60
                    clear d7
                    have e0 : af.tmps[0]?.getD undef = .slice (some ⟨b, o, none⟩) l.length c := hev0 0 rfl
                    have q60 := getD_bool e60
                    clear hev hev0 hd
                    go_wp2
                    exact StepQ.mk _ (Below.refl _ _) rfl
                  · intro xx af wv hbx hev hev0 hd
                    have e60 := hev 7 _ 60 rfl rfl
                    have d7 : xx 7 = .bool false := hd ⟨7, .guard⟩ (by simp) rfl
                    rw [d7] at e60
                    clear d7
                    have e6 : af.tmps[6]?.getD undef = .int .i64 (i : Nat) := hev0 6 rfl
                    have q60 := getD_bool e60
                    clear hev hev0 hd
                    go_wp2
                    exact StepQ.mk _ (Below.refl _ _) rfl
                  · intro xx af wv hbx hev hev0 hd
                    have e60 := hev 7 _ 60 rfl rfl
                    have d7 : xx 7 = .bool false := hd ⟨7, .guard⟩ (by simp) rfl
                    rw [d7] at e60
                    clear d7
                    have e66 := hev 13 _ 66 rfl rfl
                    have d13 : xx 13 = .slice (some ⟨b, o, none⟩) l.length c := hd ⟨13, .data⟩ (by simp) rfl
                    rw [d13] at e66
                    clear d13
                    have e67 := hev 14 _ 67 rfl rfl
                    have d14 : xx 14 = .int .i64 (i : Nat) := hd ⟨14, .data⟩ (by simp) rfl
                    rw [d14] at e67
                    clear d14
                    have q60 := getD_bool e60
                    clear hev hev0 hd
                    go_wp2
                    exact StepQ.mk _ (Below.refl _ _) rfl
                  · intro xx af wv hbx hev hev0 hd
                    have e60 := hev 7 _ 60 rfl rfl
                    have d7 : xx 7 = .bool false := hd ⟨7, .guard⟩ (by simp) rfl
                    rw [d7] at e60
                    clear d7
                    have e68 := hev 15 _ 68 rfl rfl
                    have d15 : xx 15 = .pointer (some ⟨b, o + i * 8, none⟩) := hd ⟨15, .data⟩ (by simp) rfl
                    rw [d15] at e68
                    clear d15
                    have q60 := getD_bool e60
                    clear hev hev0 hd
                    go_wp2
                    exact StepQ.mk _ (Below.refl _ _) rfl
                  · intro xx af wv hbx hev hev0 hd
                    have e60 := hev 7 _ 60 rfl rfl
                    have d7 : xx 7 = .bool false := hd ⟨7, .guard⟩ (by simp) rfl
                    rw [d7] at e60
                    clear d7
                    have e69 := hev 16 _ 69 rfl rfl
                    have d16 : xx 16 = .pointer (some ⟨b, o + i * 8, none⟩) := hd ⟨16, .data⟩ (by simp) rfl
                    rw [d16] at e69
                    clear d16
                    have q60 := getD_bool e60
                    clear hev hev0 hd
                    have hs1 := Lib.hid (HS.out.call hbx)
                    have y0 := HX.out _ hs1.out.below 0 _ rfl
                    rw [Nat.add_zero] at y0
                    go_wp2
                    exact StepQ.mk _ (Below.refl _ _) rfl
                  · intro xx af wv hbx hev hev0 hd
                    have e60 := hev 7 _ 60 rfl rfl
                    have d7 : xx 7 = .bool false := hd ⟨7, .guard⟩ (by simp) rfl
                    rw [d7] at e60
                    clear d7
                    have e65 := hev 12 _ 65 rfl rfl
                    have d12 : xx 12 = .int .i64 p.party := hd ⟨12, .data⟩ (by simp) rfl
                    rw [d12] at e65
                    clear d12
                    have e70 := hev 17 _ 70 rfl rfl
                    have d17 : xx 17 = .int .i64 u.party := hd ⟨17, .data⟩ (by simp) rfl
                    rw [d17] at e70
                    clear d17
                    have q60 := getD_bool e60
                    clear hev hev0 hd
                    go_wp2
                    exact StepQ.mk _ (Below.refl _ _) rfl
                  · intro xx af wv hbx hev hev0 hd
                    have e54 := hev 1 _ 54 rfl rfl
                    have d1 : xx 1 = .bool true := hd ⟨1, .guard⟩ (by simp) rfl
                    rw [d1] at e54
                    clear d1
                    have e60 := hev 7 _ 60 rfl rfl
                    have d7 : xx 7 = .bool false := hd ⟨7, .data⟩ (by simp) rfl
                    rw [d7] at e60
                    clear d7
                    have e71 := hev 18 _ 71 rfl rfl
                    have d18 : xx 18 = .bool (!nB) := hd ⟨18, .data⟩ (by simp) rfl
                    rw [d18] at e71
                    clear d18
                    have q54 := getD_bool e54
                    clear hev hev0 hd
                    go_wp2
                    exact StepQ.mk _ (Below.refl _ _) rfl
                  · intro xx af wv hbx hev hev0 hd
                    have e54 := hev 1 _ 54 rfl rfl
                    have d1 : xx 1 = .bool true := hd ⟨1, .data⟩ (by simp) rfl
                    rw [d1] at e54
                    clear d1
                    have e72 := hev 19 _ 72 rfl rfl
                    have d19 : xx 19 = .bool (!nB) := hd ⟨19, .data⟩ (by simp) rfl
                    rw [d19] at e72
                    clear d19
                    clear hev hev0 hd
                    go_wp2
                    exact StepQ.mk _ (Below.refl _ _) rfl
                  intro xx w4 hb9 hv
                  have hv0 : xx 0 = .bool true := hv 0 (by decide)
                  have hv1 : xx 1 = .bool true := hv 1 (by decide)
                  have hv2 : xx 2 = .slice (some ⟨b, o, none⟩) l.length c := hv 2 (by decide)
                  have hv3 : xx 3 = .int .i64 (k : Nat) := hv 3 (by decide)
                  have hv4 : xx 4 = .pointer (some ⟨b, o + k * 8, none⟩) := hv 4 (by decide)
                  have hv5 : xx 5 = .pointer (some ⟨b, o + k * 8 + 7, none⟩) := hv 5 (by decide)
                  have hv6 : xx 6 = .bool false := hv 6 (by decide)
                  have hv7 : xx 7 = .bool false := hv 7 (by decide)
                  have hv8 : xx 8 = .slice (some ⟨b, o, none⟩) l.length c := hv 8 (by decide)
                  have hv9 : xx 9 = .int .i64 (k : Nat) := hv 9 (by decide)
                  have hv10 : xx 10 = .pointer (some ⟨b, o + k * 8, none⟩) := hv 10 (by decide)
                  have hv11 : xx 11 = .pointer (some ⟨b, o + k * 8, none⟩) := hv 11 (by decide)
                  have hv12 : xx 12 = .int .i64 p.party := hv 12 (by decide)
                  have hv13 : xx 13 = .slice (some ⟨b, o, none⟩) l.length c := hv 13 (by decide)
                  have hv14 : xx 14 = .int .i64 (i : Nat) := hv 14 (by decide)
                  have hv15 : xx 15 = .pointer (some ⟨b, o + i * 8, none⟩) := hv 15 (by decide)
                  have hv16 : xx 16 = .pointer (some ⟨b, o + i * 8, none⟩) := hv 16 (by decide)
                  have hv17 : xx 17 = .int .i64 u.party := hv 17 (by decide)
                  have hv18 : xx 18 = .bool (!nB) := hv 18 (by decide)
                  have hv19 : xx 19 = .bool (!nB) := hv 19 (by decide)
                  have hv20 : xx 20 = .bool (!nB) := hv 20 (by decide)
                  clear hv
                  simp only [List.take, List.drop, fillA, Act.put]
                  simp only [hv0, hv1, hv2, hv3, hv4, hv5, hv6, hv7, hv8, hv9, hv10, hv11, hv12, hv13, hv14, hv15, hv16, hv17, hv18, hv19, hv20]
                  clear hv0 hv1 hv2 hv3 hv4 hv5 hv6 hv7 hv8 hv9 hv10 hv11 hv12 hv13 hv14 hv15 hv16 hv17 hv18 hv19 hv20
                  have HS4 := Lib.hid (HS.out.call hb9)
                  clear hb9 HS
                  go_wp2
                  have HS5 : Hid (St w [⟨w.heap.size + 1 + 1, #[.bool (negB (z1)), .string (bs (numB (z1))), .string (bs (denomB (z1))), .bool (negB (fo)), .string (bs (numB (fo))), .string (bs (denomB (fo))), .int .i64 (he : Nat), .int .i64 (ye : Nat)], 52⟩, ⟨w.heap.size + 1, #[.bool false, .string (bs []), .string (bs []), .bool false, .string (bs []), .string (bs []), .int .i64 0, .int .i64 0], 52⟩, ⟨w.heap.size, #[.bool rn, .string (bs ra), .string (bs rb)], 23⟩] _) := Lib.hid HS4.out
                  go_roundw
                  case rel => exact ⟨k + 1, by omega, by go_num, by rw [R.out]; try simp, HS5.out.sub (by simp)⟩
                  case measure => simp [intOf]; omega
                · have R := Lib.hid HFT.out
                  clear HFT
                  go_wp2
                  refine wp_region_facts 21 [fun _ vv => vv = .bool true, fun _ vv => vv = .bool true, fun _ vv => vv = .slice (some ⟨b, o, none⟩) l.length c, fun _ vv => vv = .int .i64 (k : Nat), fun _ vv => vv = .pointer (some ⟨b, o + k * 8, none⟩), fun _ vv => vv = .pointer (some ⟨b, o + k * 8 + 7, none⟩), fun _ vv => vv = .bool true, fun _ vv => vv = .bool true, fun _ vv => vv = undef, fun _ vv => vv = undef, fun _ vv => vv = undef, fun _ vv => vv = undef, fun _ vv => vv = undef, fun _ vv => vv = undef, fun _ vv => vv = undef, fun _ vv => vv = undef, fun _ vv => vv = undef, fun _ vv => vv = undef, fun _ vv => vv = undef, fun _ vv => vv = .bool true, fun _ vv => vv = .bool true] rfl (by kernel_rfl) (by kernel_rfl) (by kernel_rfl) ⟨fun _ _ _ h _ => h, fun _ _ _ h _ => h, fun _ _ _ h _ => h, fun _ _ _ h _ => h, fun _ _ _ h _ => h, fun _ _ _ h _ => h, fun _ _ _ h _ => h, fun _ _ _ h _ => h, fun _ _ _ h _ => h, fun _ _ _ h _ => h, fun _ _ _ h _ => h, fun _ _ _ h _ => h, fun _ _ _ h _ => h, fun _ _ _ h _ => h, fun _ _ _ h _ => h, fun _ _ _ h _ => h, fun _ _ _ h _ => h, fun _ _ _ h _ => h, fun _ _ _ h _ => h, fun _ _ _ h _ => h, fun _ _ _ h _ => h, trivial⟩ ?_ ?_
                  refine ⟨?_, ?_, ?_, ?_, ?_, ?_, ?_, ?_, ?_, ?_, ?_, ?_, ?_, ?_, ?_, ?_, ?_, ?_, ?_, ?_, ?_, trivial⟩
                  · intro xx af wv hbx hev hev0 hd
                    have e8 : af.tmps[8]?.getD undef = .bool true := hev0 8 rfl
                    clear hev hev0 hd
                    go_wp2
                    exact StepQ.mk _ (Below.refl _ _) rfl
                  · intro xx af wv hbx hev hev0 hd
                    have e53 := hev 0 _ 53 rfl rfl
                    have d0 : xx 0 = .bool true := hd ⟨0, .data⟩ (by simp) rfl
                    rw [d0] at e53
                    clear d0
                    clear hev hev0 hd
                    go_wp2
                    exact StepQ.mk _ (Below.refl _ _) rfl
                  · intro xx af wv hbx hev hev0 hd
                    have e54 := hev 1 _ 54 rfl rfl
                    have d1 : xx 1 = .bool true := hd ⟨1, .guard⟩ (by simp) rfl
                    rw [d1] at e54
                    clear d1
                    have e0 : af.tmps[0]?.getD undef = .slice (some ⟨b, o, none⟩) l.length c := hev0 0 rfl
                    have q54 := getD_bool e54
                    clear hev hev0 hd
                    go_wp2
                    exact StepQ.mk _ (Below.refl _ _) rfl
                  · intro xx af wv hbx hev hev0 hd
                    have e54 := hev 1 _ 54 rfl rfl
                    have d1 : xx 1 = .bool true := hd ⟨1, .guard⟩ (by simp) rfl
                    rw [d1] at e54
                    clear d1
                    have e9 : af.tmps[9]?.getD undef = .int .i64 (k : Nat) := hev0 9 rfl
                    have q54 := getD_bool e54
                    clear hev hev0 hd
                    go_wp2
                    exact StepQ.mk _ (Below.refl _ _) rfl
                  · intro xx af wv hbx hev hev0 hd
                    have e54 := hev 1 _ 54 rfl rfl
                    have d1 : xx 1 = .bool true := hd ⟨1, .guard⟩ (by simp) rfl
                    rw [d1] at e54
                    clear d1
                    have e55 := hev 2 _ 55 rfl rfl
                    have d2 : xx 2 = .slice (some ⟨b, o, none⟩) l.length c := hd ⟨2, .data⟩ (by simp) rfl
                    rw [d2] at e55
                    clear d2
                    have e56 := hev 3 _ 56 rfl rfl
                    have d3 : xx 3 = .int .i64 (k : Nat) := hd ⟨3, .data⟩ (by simp) rfl
                    rw [d3] at e56
                    clear d3
                    have q54 := getD_bool e54
                    clear hev hev0 hd
                    go_wp2
                    exact StepQ.mk _ (Below.refl _ _) rfl
                  · intro xx af wv hbx hev hev0 hd
                    have e54 := hev 1 _ 54 rfl rfl
                    have d1 : xx 1 = .bool true := hd ⟨1, .guard⟩ (by simp) rfl
                    rw [d1] at e54
                    clear d1
                    have e57 := hev 4 _ 57 rfl rfl
                    have d4 : xx 4 = .pointer (some ⟨b, o + k * 8, none⟩) := hd ⟨4, .data⟩ (by simp) rfl
                    rw [d4] at e57
                    clear d4
                    have q54 := getD_bool e54
                    clear hev hev0 hd
                    go_wp2
                    exact StepQ.mk _ (Below.refl _ _) rfl
                  · intro xx af wv hbx hev hev0 hd
                    have e54 := hev 1 _ 54 rfl rfl
                    have d1 : xx 1 = .bool true := hd ⟨1, .guard⟩ (by simp) rfl
                    rw [d1] at e54
                    clear d1
                    have e58 := hev 5 _ 58 rfl rfl
                    have d5 : xx 5 = .pointer (some ⟨b, o + k * 8 + 7, none⟩) := hd ⟨5, .data⟩ (by simp) rfl
                    rw [d5] at e58
                    clear d5
                    have q54 := getD_bool e54
                    clear hev hev0 hd
                    have hs1 := Lib.hid (HS.out.call hbx)
                    have y0 := HY.out _ hs1.out.below 7 _ rfl
                    go_wp2
                    exact StepQ.mk _ (Below.refl _ _) rfl
                  · intro xx af wv hbx hev hev0 hd
                    have e54 := hev 1 _ 54 rfl rfl
                    have d1 : xx 1 = .bool true := hd ⟨1, .chain⟩ (by simp) rfl
                    rw [d1] at e54
                    clear d1
                    have e59 := hev 6 _ 59 rfl rfl
                    have d6 : xx 6 = .bool true := hd ⟨6, .data⟩ (by simp) rfl
                    rw [d6] at e59
                    clear d6
                    have q54 := getD_bool e54
                    clear hev hev0 hd
                    go_wp2
                    exact StepQ.mk _ (Below.refl _ _) rfl
                  · intro xx af wv hbx hev hev0 hd
                    have e60 := hev 7 _ 60 rfl rfl
                    have d7 : xx 7 = .bool true := hd ⟨7, .guard⟩ (by simp) rfl
                    rw [d7] at e60
                    clear d7
                    have q60 := getD_bool e60
                    clear hev hev0 hd
                    go_wp2
                    exact StepQ.mk _ (Below.refl _ _) rfl
                  · intro xx af wv hbx hev hev0 hd
                    have e60 := hev 7 _ 60 rfl rfl
                    have d7 : xx 7 = .bool true := hd ⟨7, .guard⟩ (by simp) rfl
                    rw [d7] at e60
                    clear d7
                    have q60 := getD_bool e60
                    clear hev hev0 hd
                    go_wp2
                    exact StepQ.mk _ (Below.refl _ _) rfl
                  · intro xx af wv hbx hev hev0 hd
                    have e60 := hev 7 _ 60 rfl rfl
                    have d7 : xx 7 = .bool true := hd ⟨7, .guard⟩ (by simp) rfl
                    rw [d7] at e60
                    clear d7
                    have q60 := getD_bool e60
                    clear hev hev0 hd
                    go_wp2
                    exact StepQ.mk _ (Below.refl _ _) rfl
                  · intro xx af wv hbx hev hev0 hd
                    have e60 := hev 7 _ 60 rfl rfl
                    have d7 : xx 7 = .bool true := hd ⟨7, .guard⟩ (by simp) rfl
                    rw [d7] at e60
                    clear d7
                    have q60 := getD_bool e60
                    clear hev hev0 hd
                    go_wp2
                    exact StepQ.mk _ (Below.refl _ _) rfl
                  · intro xx af wv hbx hev hev0 hd
                    have e60 := hev 7 _ 60 rfl rfl
                    have d7 : xx 7 = .bool true := hd ⟨7, .guard⟩ (by simp) rfl
                    rw [d7] at e60
                    clear d7
                    have q60 := getD_bool e60
                    clear hev hev0 hd
                    go_wp2
                    exact StepQ.mk _ (Below.refl _ _) rfl
                  · intro xx af wv hbx hev hev0 hd
                    have e60 := hev 7 _ 60 rfl rfl
                    have d7 : xx 7 = .bool true := hd ⟨7, .guard⟩ (by simp) rfl
                    rw [d7] at e60
                    clear d7
                    have q60 := getD_bool e60
                    clear hev hev0 hd
                    go_wp2
                    exact StepQ.mk _ (Below.refl _ _) rfl
                  · intro xx af wv hbx hev hev0 hd
                    have e60 := hev 7 _ 60 rfl rfl
                    have d7 : xx 7 = .bool true := hd ⟨7, .guard⟩ (by simp) rfl
                    rw [d7] at e60
                    clear d7
                    have q60 := getD_bool e60
                    clear hev hev0 hd
                    go_wp2
                    exact StepQ.mk _ (Below.refl _ _) rfl
                  · intro xx af wv hbx hev hev0 hd
                    have e60 := hev 7 _ 60 rfl rfl
                    have d7 : xx 7 = .bool true := hd ⟨7, .guard⟩ (by simp) rfl
                    rw [d7] at e60
                    clear d7
                    have q60 := getD_bool e60
                    clear hev hev0 hd
                    go_wp2
                    exact StepQ.mk _ (Below.refl _ _) rfl
                  · intro xx af wv hbx hev hev0 hd
                    have e60 := hev 7 _ 60 rfl rfl
                    have d7 : xx 7 = .bool true := hd ⟨7, .guard⟩ (by simp) rfl
                    rw [d7] at e60
                    clear d7
                    have q60 := getD_bool e60
                    clear hev hev0 hd
                    go_wp2
                    exact StepQ.mk _ (Below.refl _ _) rfl
                  · intro xx af wv hbx hev hev0 hd
                    have e60 := hev 7 _ 60 rfl rfl
                    have d7 : xx 7 = .bool true := hd ⟨7, .guard⟩ (by simp) rfl
                    rw [d7] at e60
                    clear d7
                    have q60 := getD_bool e60
                    clear hev hev0 hd
                    go_wp2
                    exact StepQ.mk _ (Below.refl _ _) rfl
                  · intro xx af wv hbx hev hev0 hd
                    have e60 := hev 7 _ 60 rfl rfl
                    have d7 : xx 7 = .bool true := hd ⟨7, .guard⟩ (by simp) rfl
                    rw [d7] at e60
                    clear d7
                    have q60 := getD_bool e60
                    clear hev hev0 hd
                    go_wp2
                    exact StepQ.mk _ (Below.refl _ _) rfl
                  · intro xx af wv hbx hev hev0 hd
                    have e54 := hev 1 _ 54 rfl rfl
                    have d1 : xx 1 = .bool true := hd ⟨1, .guard⟩ (by simp) rfl
                    rw [d1] at e54
                    clear d1
                    have e60 := hev 7 _ 60 rfl rfl
                    have d7 : xx 7 = .bool true := hd ⟨7, .data⟩ (by simp) rfl
                    rw [d7] at e60
                    clear d7
                    have e71 := hev 18 _ 71 rfl rfl
                    have d18 : xx 18 = undef := hd ⟨18, .data⟩ (by simp) rfl
                    rw [d18] at e71
                    clear d18
                    have q54 := getD_bool e54
                    clear hev hev0 hd
                    go_wp2
                    exact StepQ.mk _ (Below.refl _ _) rfl
                  · intro xx af wv hbx hev hev0 hd
                    have e54 := hev 1 _ 54 rfl rfl
                    have d1 : xx 1 = .bool true := hd ⟨1, .data⟩ (by simp) rfl
                    rw [d1] at e54
                    clear d1
                    have e72 := hev 19 _ 72 rfl rfl
                    have d19 : xx 19 = .bool true := hd ⟨19, .data⟩ (by simp) rfl
                    rw [d19] at e72
                    clear d19
                    clear hev hev0 hd
                    go_wp2
                    exact StepQ.mk _ (Below.refl _ _) rfl
                  intro xx w4 hb9 hv
                  have hv0 : xx 0 = .bool true := hv 0 (by decide)
                  have hv1 : xx 1 = .bool true := hv 1 (by decide)
                  have hv2 : xx 2 = .slice (some ⟨b, o, none⟩) l.length c := hv 2 (by decide)
                  have hv3 : xx 3 = .int .i64 (k : Nat) := hv 3 (by decide)
                  have hv4 : xx 4 = .pointer (some ⟨b, o + k * 8, none⟩) := hv 4 (by decide)
                  have hv5 : xx 5 = .pointer (some ⟨b, o + k * 8 + 7, none⟩) := hv 5 (by decide)
                  have hv6 : xx 6 = .bool true := hv 6 (by decide)
                  have hv7 : xx 7 = .bool true := hv 7 (by decide)
                  have hv8 : xx 8 = undef := hv 8 (by decide)
                  have hv9 : xx 9 = undef := hv 9 (by decide)
                  have hv10 : xx 10 = undef := hv 10 (by decide)
                  have hv11 : xx 11 = undef := hv 11 (by decide)
                  have hv12 : xx 12 = undef := hv 12 (by decide)
                  have hv13 : xx 13 = undef := hv 13 (by decide)
                  have hv14 : xx 14 = undef := hv 14 (by decide)
                  have hv15 : xx 15 = undef := hv 15 (by decide)
                  have hv16 : xx 16 = undef := hv 16 (by decide)
                  have hv17 : xx 17 = undef := hv 17 (by decide)
                  have hv18 : xx 18 = undef := hv 18 (by decide)
                  have hv19 : xx 19 = .bool true := hv 19 (by decide)
                  have hv20 : xx 20 = .bool true := hv 20 (by decide)
                  clear hv
                  simp only [List.take, List.drop, fillA, Act.put]
                  simp only [hv0, hv1, hv2, hv3, hv4, hv5, hv6, hv7, hv8, hv9, hv10, hv11, hv12, hv13, hv14, hv15, hv16, hv17, hv18, hv19, hv20]
                  clear hv0 hv1 hv2 hv3 hv4 hv5 hv6 hv7 hv8 hv9 hv10 hv11 hv12 hv13 hv14 hv15 hv16 hv17 hv18 hv19 hv20
                  have HS4 := Lib.hid (HS.out.call hb9)
                  clear hb9 HS
                  go_wp2
                  have HS5 : Hid (St w [⟨w.heap.size + 1 + 1, #[.bool (negB (z1)), .string (bs (numB (z1))), .string (bs (denomB (z1))), .bool (negB (fo)), .string (bs (numB (fo))), .string (bs (denomB (fo))), .int .i64 (he : Nat), .int .i64 (ye : Nat)], 52⟩, ⟨w.heap.size + 1, #[.bool false, .string (bs []), .string (bs []), .bool false, .string (bs []), .string (bs []), .int .i64 0, .int .i64 0], 52⟩, ⟨w.heap.size, #[.bool rn, .string (bs ra), .string (bs rb)], 23⟩] _) := Lib.hid HS4.out
                  go_roundw
                  case rel => exact ⟨k + 1, by omega, by go_num, by rw [R.out]; try simp, HS5.out.sub (by simp)⟩
                  case measure => simp [intOf]; omega
            · obtain rfl : k = i := by omega
              obtain ⟨gB, hgB⟩ : ∃ x, x = fresh (l.take k) u.party := ⟨_, rfl⟩
              rw [← hgB]
              have HG := Lib.hid hgB.symm
              have g3 : decide (((k : Nat) : Int) < ((k : Nat) : Int)) = false := decide_eq_false (by omega)
              clear hgB
              cases gB
              · have hn := HHO.out HG.out
                try simp only [if_false, Bool.false_eq_true] at hn
                have HN := Lib.hid hn
                clear hn
                go_wp2
                have HS4 : Hid (St w [⟨w.heap.size + 1 + 1, #[.bool (negB (z1)), .string (bs (numB (z1))), .string (bs (denomB (z1))), .bool (negB (fo)), .string (bs (numB (fo))), .string (bs (denomB (fo))), .int .i64 (he : Nat), .int .i64 (ye : Nat)], 52⟩, ⟨w.heap.size + 1, #[.bool false, .string (bs []), .string (bs []), .bool false, .string (bs []), .string (bs []), .int .i64 0, .int .i64 0], 52⟩, ⟨w.heap.size, #[.bool rn, .string (bs ra), .string (bs rb)], 23⟩] _) := Lib.hid HS.out
                go_roundw
                case rel => exact ⟨k + 1, by omega, by go_num, by show St _ _ _; rw [HAD.out HXE.out, HFNS.out, HN.out.1, HN.out.2]; exact HS4.out.sub (by simp)⟩
                case measure => simp [intOf]; omega
              · have hn := HHN.out HXE.out HG.out
                try simp only [if_false, Bool.false_eq_true] at hn
                have HN := Lib.hid hn
                clear hn
                have x12 := HS.out.cell 0 rfl 6 rfl
                have x13 := HS.out.frozen 0 rfl 6
                have x14 := HS.out.ne 0 1 rfl rfl (by decide)
                have x15 := HS.out.ne 1 0 rfl rfl (by decide)
                have x16 := HS.out.ne 0 2 rfl rfl (by decide)
                have x17 := HS.out.ne 2 0 rfl rfl (by decide)
                go_wp2
                have HS4 : Hid (St w [⟨w.heap.size + 1 + 1, #[.bool (negB (z1)), .string (bs (numB (z1))), .string (bs (denomB (z1))), .bool (negB (fo)), .string (bs (numB (fo))), .string (bs (denomB (fo))), .int .i64 ((he : Int) + 1), .int .i64 (ye : Nat)], 52⟩, ⟨w.heap.size + 1, #[.bool false, .string (bs []), .string (bs []), .bool false, .string (bs []), .string (bs []), .int .i64 0, .int .i64 0], 52⟩, ⟨w.heap.size, #[.bool rn, .string (bs ra), .string (bs rb)], 23⟩] _) := Lib.hid (St.set (HS.out) 0 rfl 6 _)
                go_roundw
                case rel => exact ⟨k + 1, by omega, by go_num, by show St _ _ _; rw [HAD.out HXE.out, HFNS.out, HN.out.1, HN.out.2, show ((he + 1 : Nat) : Int) = (he : Int) + 1 by omega]; exact HS4.out.sub (by simp)⟩
                case measure => simp [intOf]; omega
        · have HFNS := Lib.hid (HFA.out HXE.out rfl)
          clear HFN HFA
          have x1 := HX.out _ HS.out.below 7 _ rfl
          go_wp2
          clear x1
          refine wp_region_facts 8 [fun _ vv => vv = .slice (some ⟨b, o, none⟩) l.length c, fun _ vv => vv = .slice (some ⟨b, o, none⟩) l.length c, fun _ vv => vv = .int .i64 (i : Nat), fun _ vv => vv = .pointer (some ⟨b, o + i * 8, none⟩), fun _ vv => vv = .pointer (some ⟨b, o + i * 8, none⟩), fun _ vv => vv = .int .i64 u.party, fun _ vv => vv = .agg #[.bool rn, .string (bs ra), .string (bs rb)], fun _ vv => vv = .bool true] rfl (by kernel_rfl) (by kernel_rfl) (by kernel_rfl) ⟨fun _ _ _ h _ => h, fun _ _ _ h _ => h, fun _ _ _ h _ => h, fun _ _ _ h _ => h, fun _ _ _ h _ => h, fun _ _ _ h _ => h, fun _ _ _ h _ => h, fun _ _ _ h _ => h, trivial⟩ ?_ ?_
          refine ⟨?_, ?_, ?_, ?_, ?_, ?_, ?_, ?_, trivial⟩
          · intro xx af wv hbx hev hev0 hd
            have e0 : af.tmps[0]?.getD undef = .slice (some ⟨b, o, none⟩) l.length c := hev0 0 rfl
            clear hev hev0 hd
            go_wp2
            exact StepQ.mk _ (Below.refl _ _) rfl
          · intro xx af wv hbx hev hev0 hd
            have e0 : af.tmps[0]?.getD undef = .slice (some ⟨b, o, none⟩) l.length c := hev0 0 rfl
            clear hev hev0 hd
            go_wp2
            exact StepQ.mk _ (Below.refl _ _) rfl
          · intro xx af wv hbx hev hev0 hd
            have e6 : af.tmps[6]?.getD undef = .int .i64 (i : Nat) := hev0 6 rfl
            clear hev hev0 hd
            go_wp2
            exact StepQ.mk _ (Below.refl _ _) rfl
          · intro xx af wv hbx hev hev0 hd
            have e22 := hev 1 _ 22 rfl rfl
            have d1 : xx 1 = .slice (some ⟨b, o, none⟩) l.length c := hd ⟨1, .data⟩ (by simp) rfl
            rw [d1] at e22
            clear d1
            have e23 := hev 2 _ 23 rfl rfl
            have d2 : xx 2 = .int .i64 (i : Nat) := hd ⟨2, .data⟩ (by simp) rfl
            rw [d2] at e23
            clear d2
            clear hev hev0 hd
            go_wp2
            exact StepQ.mk _ (Below.refl _ _) rfl
          · intro xx af wv hbx hev hev0 hd
            have e24 := hev 3 _ 24 rfl rfl
            have d3 : xx 3 = .pointer (some ⟨b, o + i * 8, none⟩) := hd ⟨3, .data⟩ (by simp) rfl
            rw [d3] at e24
            clear d3
            clear hev hev0 hd
            go_wp2
            exact StepQ.mk _ (Below.refl _ _) rfl
          · intro xx af wv hbx hev hev0 hd
            have e25 := hev 4 _ 25 rfl rfl
            have d4 : xx 4 = .pointer (some ⟨b, o + i * 8, none⟩) := hd ⟨4, .data⟩ (by simp) rfl
            rw [d4] at e25
            clear d4
            clear hev hev0 hd
            have hs1 := Lib.hid (HS.out.call hbx)
            have y0 := HX.out _ hs1.out.below 0 _ rfl
            rw [Nat.add_zero] at y0
            go_wp2
            exact StepQ.mk _ (Below.refl _ _) rfl
          · intro xx af wv hbx hev hev0 hd
            have e3 : af.tmps[3]?.getD undef = .pointer (some ⟨w.heap.size, 0, none⟩) := hev0 3 rfl
            clear hev hev0 hd
            have hs1 := Lib.hid (HS.out.call hbx)
            have y0 := hs1.out.cell 2 rfl 0 rfl
            have y1 := hs1.out.cell 2 rfl 1 rfl
            have y2 := hs1.out.cell 2 rfl 2 rfl
            go_wp2
            exact StepQ.mk _ (Below.refl _ _) rfl
          · intro xx af wv hbx hev hev0 hd
            have e21 := hev 0 _ 21 rfl rfl
            have d0 : xx 0 = .slice (some ⟨b, o, none⟩) l.length c := hd ⟨0, .data⟩ (by simp) rfl
            rw [d0] at e21
            clear d0
            have e26 := hev 5 _ 26 rfl rfl
            have d5 : xx 5 = .int .i64 u.party := hd ⟨5, .data⟩ (by simp) rfl
            rw [d5] at e26
            clear d5
            have e27 := hev 6 _ 27 rfl rfl
            have d6 : xx 6 = .agg #[.bool rn, .string (bs ra), .string (bs rb)] := hd ⟨6, .data⟩ (by simp) rfl
            rw [d6] at e27
            clear d6
            clear hev hev0 hd
            have hs1 := Lib.hid (HS.out.call hbx)
            go_wp2_with fail
            refine (HACP.out _ hs1.out.below).mono ?_
            rintro e w8 ⟨rfl, hb8⟩
            go_wp2
            exact StepQ.mk _ hb8 rfl
          intro xx w2 hb9 hv
          have hv0 : xx 0 = .slice (some ⟨b, o, none⟩) l.length c := hv 0 (by decide)
          have hv1 : xx 1 = .slice (some ⟨b, o, none⟩) l.length c := hv 1 (by decide)
          have hv2 : xx 2 = .int .i64 (i : Nat) := hv 2 (by decide)
          have hv3 : xx 3 = .pointer (some ⟨b, o + i * 8, none⟩) := hv 3 (by decide)
          have hv4 : xx 4 = .pointer (some ⟨b, o + i * 8, none⟩) := hv 4 (by decide)
          have hv5 : xx 5 = .int .i64 u.party := hv 5 (by decide)
          have hv6 : xx 6 = .agg #[.bool rn, .string (bs ra), .string (bs rb)] := hv 6 (by decide)
          have hv7 : xx 7 = .bool true := hv 7 (by decide)
          clear hv
          simp only [List.take, List.drop, fillA, Act.put]
          simp only [hv0, hv1, hv2, hv3, hv4, hv5, hv6, hv7]
          clear hv0 hv1 hv2 hv3 hv4 hv5 hv6 hv7
          have HS2 := Lib.hid (HS.out.call hb9)
          clear hb9 HS
          go_wp2
          refine wp_region_facts 9 [fun _ vv => vv = .pointer (some ⟨w.heap.size + 1 + 1, 0, none⟩), fun _ vv => vv = .agg #[.bool (negB (am)), .string (bs (numB (am))), .string (bs (denomB (am)))], fun _ vv => vv = .slice (some ⟨b, o, none⟩) l.length c, fun _ vv => vv = .int .i64 (i : Nat), fun _ vv => vv = .pointer (some ⟨b, o + i * 8, none⟩), fun _ vv => vv = .pointer (some ⟨b, o + i * 8 + 1, none⟩), fun _ vv => vv = .agg #[.bool u.an, .string (bs u.aa), .string (bs u.ab)], fun _ vv => vv = .agg #[.bool (negB (z1)), .string (bs (numB (z1))), .string (bs (denomB (z1)))], fun _ vv => vv = .pointer (some ⟨w.heap.size + 1 + 1, 0, none⟩)] rfl (by kernel_rfl) (by kernel_rfl) (by kernel_rfl) ⟨fun _ _ _ h _ => h, fun _ _ _ h _ => h, fun _ _ _ h _ => h, fun _ _ _ h _ => h, fun _ _ _ h _ => h, fun _ _ _ h _ => h, fun _ _ _ h _ => h, fun _ _ _ h _ => h, fun _ _ _ h _ => h, trivial⟩ ?_ ?_
          refine ⟨?_, ?_, ?_, ?_, ?_, ?_, ?_, ?_, ?_, trivial⟩
          · intro xx af wv hbx hev hev0 hd
            have e5 : af.tmps[5]?.getD undef = .pointer (some ⟨w.heap.size + 1 + 1, 0, none⟩) := hev0 5 rfl
            clear hev hev0 hd
            go_wp2
            exact StepQ.mk _ (Below.refl _ _) rfl
          · intro xx af wv hbx hev hev0 hd
            have e29 := hev 0 _ 29 rfl rfl
            have d0 : xx 0 = .pointer (some ⟨w.heap.size + 1 + 1, 0, none⟩) := hd ⟨0, .data⟩ (by simp) rfl
            rw [d0] at e29
            clear d0
            clear hev hev0 hd
            have hs1 := Lib.hid (HS2.out.call hbx)
            have y0 := hs1.out.cell 0 rfl 0 rfl
            have y1 := hs1.out.cell 0 rfl 1 rfl
            have y2 := hs1.out.cell 0 rfl 2 rfl
            go_wp2
            exact StepQ.mk _ (Below.refl _ _) rfl
          · intro xx af wv hbx hev hev0 hd
            have e0 : af.tmps[0]?.getD undef = .slice (some ⟨b, o, none⟩) l.length c := hev0 0 rfl
            clear hev hev0 hd
            go_wp2
            exact StepQ.mk _ (Below.refl _ _) rfl
          · intro xx af wv hbx hev hev0 hd
            have e6 : af.tmps[6]?.getD undef = .int .i64 (i : Nat) := hev0 6 rfl
            clear hev hev0 hd
            go_wp2
            exact StepQ.mk _ (Below.refl _ _) rfl
          · intro xx af wv hbx hev hev0 hd
            have e31 := hev 2 _ 31 rfl rfl
            have d2 : xx 2 = .slice (some ⟨b, o, none⟩) l.length c := hd ⟨2, .data⟩ (by simp) rfl
            rw [d2] at e31
            clear d2
            have e32 := hev 3 _ 32 rfl rfl
            have d3 : xx 3 = .int .i64 (i : Nat) := hd ⟨3, .data⟩ (by simp) rfl
            rw [d3] at e32
            clear d3
            clear hev hev0 hd
            go_wp2
            exact StepQ.mk _ (Below.refl _ _) rfl
          · intro xx af wv hbx hev hev0 hd
            have e33 := hev 4 _ 33 rfl rfl
            have d4 : xx 4 = .pointer (some ⟨b, o + i * 8, none⟩) := hd ⟨4, .data⟩ (by simp) rfl
            rw [d4] at e33
            clear d4
            clear hev hev0 hd
            go_wp2
            exact StepQ.mk _ (Below.refl _ _) rfl
          · intro xx af wv hbx hev hev0 hd
            have e34 := hev 5 _ 34 rfl rfl
            have d5 : xx 5 = .pointer (some ⟨b, o + i * 8 + 1, none⟩) := hd ⟨5, .data⟩ (by simp) rfl
            rw [d5] at e34
            clear d5
            clear hev hev0 hd
            have hs1 := Lib.hid (HS2.out.call hbx)
            have y0 := HX.out _ hs1.out.below 1 _ rfl
            have y1 := HX.out _ hs1.out.below 2 _ rfl
            have y2 := HX.out _ hs1.out.below 3 _ rfl
            go_wp2
            exact StepQ.mk _ (Below.refl _ _) rfl
          · intro xx af wv hbx hev hev0 hd
            have e30 := hev 1 _ 30 rfl rfl
            have d1 : xx 1 = .agg #[.bool (negB (am)), .string (bs (numB (am))), .string (bs (denomB (am)))] := hd ⟨1, .data⟩ (by simp) rfl
            rw [d1] at e30
            clear d1
            have e35 := hev 6 _ 35 rfl rfl
            have d6 : xx 6 = .agg #[.bool u.an, .string (bs u.aa), .string (bs u.ab)] := hd ⟨6, .data⟩ (by simp) rfl
            rw [d6] at e35
            clear d6
            clear hev hev0 hd
            go_wp2_with fail
            refine (HADA.out _).mono ?_
            rintro e w8 ⟨rfl, hb8⟩
            go_wp2
            exact StepQ.mk _ hb8 rfl
          · intro xx af wv hbx hev hev0 hd
            have e5 : af.tmps[5]?.getD undef = .pointer (some ⟨w.heap.size + 1 + 1, 0, none⟩) := hev0 5 rfl
            clear hev hev0 hd
            go_wp2
            exact StepQ.mk _ (Below.refl _ _) rfl
          intro xx w3 hb9 hv
          have hv0 : xx 0 = .pointer (some ⟨w.heap.size + 1 + 1, 0, none⟩) := hv 0 (by decide)
          have hv1 : xx 1 = .agg #[.bool (negB (am)), .string (bs (numB (am))), .string (bs (denomB (am)))] := hv 1 (by decide)
          have hv2 : xx 2 = .slice (some ⟨b, o, none⟩) l.length c := hv 2 (by decide)
          have hv3 : xx 3 = .int .i64 (i : Nat) := hv 3 (by decide)
          have hv4 : xx 4 = .pointer (some ⟨b, o + i * 8, none⟩) := hv 4 (by decide)
          have hv5 : xx 5 = .pointer (some ⟨b, o + i * 8 + 1, none⟩) := hv 5 (by decide)
          have hv6 : xx 6 = .agg #[.bool u.an, .string (bs u.aa), .string (bs u.ab)] := hv 6 (by decide)
          have hv7 : xx 7 = .agg #[.bool (negB (z1)), .string (bs (numB (z1))), .string (bs (denomB (z1)))] := hv 7 (by decide)
          have hv8 : xx 8 = .pointer (some ⟨w.heap.size + 1 + 1, 0, none⟩) := hv 8 (by decide)
          clear hv
          simp only [List.take, List.drop, fillA, Act.put]
          simp only [hv0, hv1, hv2, hv3, hv4, hv5, hv6, hv7, hv8]
          clear hv0 hv1 hv2 hv3 hv4 hv5 hv6 hv7 hv8
          have HS3 := Lib.hid (HS2.out.call hb9)
          clear hb9 HS2
          have x2 := HS3.out.cell 0 rfl 0 rfl
          have x3 := HS3.out.cell 0 rfl 1 rfl
          have x4 := HS3.out.cell 0 rfl 2 rfl
          have x5 := HS3.out.frozen 0 rfl 0
          have x6 := HS3.out.frozen 0 rfl 1
          have x7 := HS3.out.frozen 0 rfl 2
          have x8 := HS3.out.ne 0 1 rfl rfl (by decide)
          have x9 := HS3.out.ne 1 0 rfl rfl (by decide)
          have x10 := HS3.out.ne 0 2 rfl rfl (by decide)
          have x11 := HS3.out.ne 2 0 rfl rfl (by decide)
          go_wp2
          clear x2 x3 x4 x5 x6 x7 x8 x9 x10 x11
          have HS4 : Hid (St w [⟨w.heap.size + 1 + 1, #[.bool (negB (z1)), .string (bs (numB (z1))), .string (bs (denomB (z1))), .bool (negB (fo)), .string (bs (numB (fo))), .string (bs (denomB (fo))), .int .i64 (he : Nat), .int .i64 (ye : Nat)], 52⟩, ⟨w.heap.size + 1, #[.bool false, .string (bs []), .string (bs []), .bool false, .string (bs []), .string (bs []), .int .i64 0, .int .i64 0], 52⟩, ⟨w.heap.size, #[.bool rn, .string (bs ra), .string (bs rb)], 23⟩] _) := Lib.hid (St.set ((St.set ((St.set (HS3.out) 0 rfl 0 _)) 0 rfl 1 _)) 0 rfl 2 _)
          clear HS3
          refine wp_region_facts 9 [fun _ vv => vv = .pointer (some ⟨w.heap.size + 1 + 1, 3, none⟩), fun _ vv => vv = .agg #[.bool (negB (fo)), .string (bs (numB (fo))), .string (bs (denomB (fo)))], fun _ vv => vv = .slice (some ⟨b, o, none⟩) l.length c, fun _ vv => vv = .int .i64 (i : Nat), fun _ vv => vv = .pointer (some ⟨b, o + i * 8, none⟩), fun _ vv => vv = .pointer (some ⟨b, o + i * 8 + 1, none⟩), fun _ vv => vv = .agg #[.bool u.an, .string (bs u.aa), .string (bs u.ab)], fun _ vv => vv = .agg #[.bool (negB (z2)), .string (bs (numB (z2))), .string (bs (denomB (z2)))], fun _ vv => vv = .pointer (some ⟨w.heap.size + 1 + 1, 3, none⟩)] rfl (by kernel_rfl) (by kernel_rfl) (by kernel_rfl) ⟨fun _ _ _ h _ => h, fun _ _ _ h _ => h, fun _ _ _ h _ => h, fun _ _ _ h _ => h, fun _ _ _ h _ => h, fun _ _ _ h _ => h, fun _ _ _ h _ => h, fun _ _ _ h _ => h, fun _ _ _ h _ => h, trivial⟩ ?_ ?_
          refine ⟨?_, ?_, ?_, ?_, ?_, ?_, ?_, ?_, ?_, trivial⟩
          · intro xx af wv hbx hev hev0 hd
            have e5 : af.tmps[5]?.getD undef = .pointer (some ⟨w.heap.size + 1 + 1, 0, none⟩) := hev0 5 rfl
            clear hev hev0 hd
            go_wp2
            exact StepQ.mk _ (Below.refl _ _) rfl
          · intro xx af wv hbx hev hev0 hd
            have e39 := hev 0 _ 39 rfl rfl
            have d0 : xx 0 = .pointer (some ⟨w.heap.size + 1 + 1, 3, none⟩) := hd ⟨0, .data⟩ (by simp) rfl
            rw [d0] at e39
            clear d0
            clear hev hev0 hd
            have hs1 := Lib.hid (HS4.out.call hbx)
            have y0 := hs1.out.cell 0 rfl 3 rfl
            have y1 := hs1.out.cell 0 rfl 4 rfl
            have y2 := hs1.out.cell 0 rfl 5 rfl
            go_wp2
            exact StepQ.mk _ (Below.refl _ _) rfl
          · intro xx af wv hbx hev hev0 hd
            have e0 : af.tmps[0]?.getD undef = .slice (some ⟨b, o, none⟩) l.length c := hev0 0 rfl
            clear hev hev0 hd
            go_wp2
            exact StepQ.mk _ (Below.refl _ _) rfl
          · intro xx af wv hbx hev hev0 hd
            have e6 : af.tmps[6]?.getD undef = .int .i64 (i : Nat) := hev0 6 rfl
            clear hev hev0 hd
            go_wp2
            exact StepQ.mk _ (Below.refl _ _) rfl
          · intro xx af wv hbx hev hev0 hd
            have e41 := hev 2 _ 41 rfl rfl
            have d2 : xx 2 = .slice (some ⟨b, o, none⟩) l.length c := hd ⟨2, .data⟩ (by simp) rfl
            rw [d2] at e41
            clear d2
            have e42 := hev 3 _ 42 rfl rfl
            have d3 : xx 3 = .int .i64 (i : Nat) := hd ⟨3, .data⟩ (by simp) rfl
            rw [d3] at e42
            clear d3
            clear hev hev0 hd
            go_wp2
            exact StepQ.mk _ (Below.refl _ _) rfl
          · intro xx af wv hbx hev hev0 hd
            have e43 := hev 4 _ 43 rfl rfl
            have d4 : xx 4 = .pointer (some ⟨b, o + i * 8, none⟩) := hd ⟨4, .data⟩ (by simp) rfl
            rw [d4] at e43
            clear d4
            clear hev hev0 hd
            go_wp2
            exact StepQ.mk _ (Below.refl _ _) rfl
          · intro xx af wv hbx hev hev0 hd
            have e44 := hev 5 _ 44 rfl rfl
            have d5 : xx 5 = .pointer (some ⟨b, o + i * 8 + 1, none⟩) := hd ⟨5, .data⟩ (by simp) rfl
            rw [d5] at e44
            clear d5
            clear hev hev0 hd
            have hs1 := Lib.hid (HS4.out.call hbx)
            have y0 := HX.out _ hs1.out.below 1 _ rfl
            have y1 := HX.out _ hs1.out.below 2 _ rfl
            have y2 := HX.out _ hs1.out.below 3 _ rfl
            go_wp2
            exact StepQ.mk _ (Below.refl _ _) rfl
          · intro xx af wv hbx hev hev0 hd
            have e40 := hev 1 _ 40 rfl rfl
            have d1 : xx 1 = .agg #[.bool (negB (fo)), .string (bs (numB (fo))), .string (bs (denomB (fo)))] := hd ⟨1, .data⟩ (by simp) rfl
            rw [d1] at e40
            clear d1
            have e45 := hev 6 _ 45 rfl rfl
            have d6 : xx 6 = .agg #[.bool u.an, .string (bs u.aa), .string (bs u.ab)] := hd ⟨6, .data⟩ (by simp) rfl
            rw [d6] at e45
            clear d6
            clear hev hev0 hd
            go_wp2_with fail
            refine (HADF.out _).mono ?_
            rintro e w8 ⟨rfl, hb8⟩
            go_wp2
            exact StepQ.mk _ hb8 rfl
          · intro xx af wv hbx hev hev0 hd
            have e5 : af.tmps[5]?.getD undef = .pointer (some ⟨w.heap.size + 1 + 1, 0, none⟩) := hev0 5 rfl
            clear hev hev0 hd
            go_wp2
            exact StepQ.mk _ (Below.refl _ _) rfl
          intro xx w5 hb9 hv
          have hv0 : xx 0 = .pointer (some ⟨w.heap.size + 1 + 1, 3, none⟩) := hv 0 (by decide)
          have hv1 : xx 1 = .agg #[.bool (negB (fo)), .string (bs (numB (fo))), .string (bs (denomB (fo)))] := hv 1 (by decide)
          have hv2 : xx 2 = .slice (some ⟨b, o, none⟩) l.length c := hv 2 (by decide)
          have hv3 : xx 3 = .int .i64 (i : Nat) := hv 3 (by decide)
          have hv4 : xx 4 = .pointer (some ⟨b, o + i * 8, none⟩) := hv 4 (by decide)
          have hv5 : xx 5 = .pointer (some ⟨b, o + i * 8 + 1, none⟩) := hv 5 (by decide)
          have hv6 : xx 6 = .agg #[.bool u.an, .string (bs u.aa), .string (bs u.ab)] := hv 6 (by decide)
          have hv7 : xx 7 = .agg #[.bool (negB (z2)), .string (bs (numB (z2))), .string (bs (denomB (z2)))] := hv 7 (by decide)
          have hv8 : xx 8 = .pointer (some ⟨w.heap.size + 1 + 1, 3, none⟩) := hv 8 (by decide)
          clear hv
          simp only [List.take, List.drop, fillA, Act.put]
          simp only [hv0, hv1, hv2, hv3, hv4, hv5, hv6, hv7, hv8]
          clear hv0 hv1 hv2 hv3 hv4 hv5 hv6 hv7 hv8
          have HS5 := Lib.hid (HS4.out.call hb9)
          clear hb9 HS4
          have x12 := HS5.out.cell 0 rfl 3 rfl
          have x13 := HS5.out.cell 0 rfl 4 rfl
          have x14 := HS5.out.cell 0 rfl 5 rfl
          have x15 := HS5.out.frozen 0 rfl 3
          have x16 := HS5.out.frozen 0 rfl 4
          have x17 := HS5.out.frozen 0 rfl 5
          have x18 := HS5.out.ne 0 1 rfl rfl (by decide)
          have x19 := HS5.out.ne 1 0 rfl rfl (by decide)
          have x20 := HS5.out.ne 0 2 rfl rfl (by decide)
          have x21 := HS5.out.ne 2 0 rfl rfl (by decide)
          go_wp2
          go_loopw [8, 9] (fun fr j wr => ∃ k : Nat, k ≤ i ∧ j = .int .i64 k ∧ fr = .bool (fresh (l.take k) u.party) ∧ Hid (St w [⟨w.heap.size + 1 + 1, #[.bool (negB (z1)), .string (bs (numB (z1))), .string (bs (denomB (z1))), .bool (negB (z2)), .string (bs (numB (z2))), .string (bs (denomB (z2))), .int .i64 (he : Nat), .int .i64 (ye : Nat)], 52⟩, ⟨w.heap.size + 1, #[.bool false, .string (bs []), .string (bs []), .bool false, .string (bs []), .string (bs []), .int .i64 0, .int .i64 0], 52⟩, ⟨w.heap.size, #[.bool rn, .string (bs ra), .string (bs rb)], 23⟩] wr)) (fun _ j _ => i - (intOf j).toNat)
          case atStart => exact ⟨0, Nat.zero_le _, rfl, rfl, (St.set ((St.set ((St.set (HS5.out) 0 rfl 3 _)) 0 rfl 4 _)) 0 rfl 5 _)⟩
          case round =>
            clear HS
            obtain ⟨k, hk, rfl, rfl, HS⟩ := hrel
            by_cases hki : k < i
            · obtain ⟨b', o', p, e, _, hp, hy⟩ := H.out.at_ (show k < l.length by omega)
              injection e with e
              injection e with e1 e2
              subst e1
              subst e2
              have hft := fresh_take (p := u.party) hp
              obtain ⟨qB, hqB⟩ : ∃ x, x = p.ex := ⟨_, rfl⟩
              obtain ⟨nB, hnB⟩ : ∃ x, x = (p.party == u.party) := ⟨_, rfl⟩
              rw [← hqB, ← hnB] at hft
              have hn1 : (p.party == u.party) = nB := hnB.symm
              have hn2 : (p.party != u.party) = !nB := by rw [bne, hn1]
              have hy2 := hy
              unfold Vtr.enc at hy2
              rw [← hqB] at hy2
              have HY := Lib.hid hy2
              obtain ⟨gB, hgB⟩ : ∃ x, x = fresh (l.take k) u.party := ⟨_, rfl⟩
              rw [← hgB] at hft ⊢
              have HFT := Lib.hid hft
              have g0 : (0 : Int) ≤ ((k : Nat) : Int) := by omega
              have g1 : ((k : Nat) : Int) < (l.length : Int) := by omega
              have g2 : ((k : Nat) : Int) < ((i : Nat) : Int) := by omega
              have g3 : decide (((k : Nat) : Int) < ((i : Nat) : Int)) = true := decide_eq_true g2
              clear hy hy2 hft hqB hnB hgB hp
              cases gB
              · have R := Lib.hid HFT.out
                clear HFT
                go_wp2
                refine wp_region_facts 21 [fun _ vv => vv = .bool false, fun _ vv => vv = .bool false, fun _ vv => vv = undef, fun _ vv => vv = undef, fun _ vv => vv = undef, fun _ vv => vv = undef, fun _ vv => vv = undef, fun _ vv => vv = undef, fun _ vv => vv = undef, fun _ vv => vv = undef, fun _ vv => vv = undef, fun _ vv => vv = undef, fun _ vv => vv = undef, fun _ vv => vv = undef, fun _ vv => vv = undef, fun _ vv => vv = undef, fun _ vv => vv = undef, fun _ vv => vv = undef, fun _ vv => vv = undef, fun _ vv => vv = undef, fun _ vv => vv = .bool false] rfl (by kernel_rfl) (by kernel_rfl) (by kernel_rfl) ⟨fun _ _ _ h _ => h, fun _ _ _ h _ => h, fun _ _ _ h _ => h, fun _ _ _ h _ => h, fun _ _ _ h _ => h, fun _ _ _ h _ => h, fun _ _ _ h _ => h, fun _ _ _ h _ => h, fun _ _ _ h _ => h, fun _ _ _ h _ => h, fun _ _ _ h _ => h, fun _ _ _ h _ => h, fun _ _ _ h _ => h, fun _ _ _ h _ => h, fun _ _ _ h _ => h, fun _ _ _ h _ => h, fun _ _ _ h _ => h, fun _ _ _ h _ => h, fun _ _ _ h _ => h, fun _ _ _ h _ => h, fun _ _ _ h _ => h, trivial⟩ ?_ ?_
                refine ⟨?_, ?_, ?_, ?_, ?_, ?_, ?_, ?_, ?_, ?_, ?_, ?_, ?_, ?_, ?_, ?_, ?_, ?_, ?_, ?_, ?_, trivial⟩
                · intro xx af wv hbx hev hev0 hd
                  have e8 : af.tmps[8]?.getD undef = .bool false := hev0 8 rfl
                  clear hev hev0 hd
                  go_wp2
                  exact StepQ.mk _ (Below.refl _ _) rfl
                · intro xx af wv hbx hev hev0 hd
                  have e53 := hev 0 _ 53 rfl rfl
                  have d0 : xx 0 = .bool false := hd ⟨0, .data⟩ (by simp) rfl
                  rw [d0] at e53
                  clear d0
                  clear hev hev0 hd
                  go_wp2
                  exact StepQ.mk _ (Below.refl _ _) rfl
                · intro xx af wv hbx hev hev0 hd
                  have e54 := hev 1 _ 54 rfl rfl
                  have d1 : xx 1 = .bool false := hd ⟨1, .guard⟩ (by simp) rfl
                  rw [d1] at e54
                  clear d1
                  have q54 := getD_bool e54
                  clear hev hev0 hd
                  go_wp2
                  exact StepQ.mk _ (Below.refl _ _) rfl
                · intro xx af wv hbx hev hev0 hd
                  have e54 := hev 1 _ 54 rfl rfl
                  have d1 : xx 1 = .bool false := hd ⟨1, .guard⟩ (by simp) rfl
                  rw [d1] at e54
                  clear d1
                  have q54 := getD_bool e54
                  clear hev hev0 hd
                  go_wp2
                  exact StepQ.mk _ (Below.refl _ _) rfl
                · intro xx af wv hbx hev hev0 hd
                  have e54 := hev 1 _ 54 rfl rfl
                  have d1 : xx 1 = .bool false := hd ⟨1, .guard⟩ (by simp) rfl
                  rw [d1] at e54
                  clear d1
                  have q54 := getD_bool e54
                  clear hev hev0 hd
                  go_wp2
                  exact StepQ.mk _ (Below.refl _ _) rfl
                · intro xx af wv hbx hev hev0 hd
                  have e54 := hev 1 _ 54 rfl rfl
                  have d1 : xx 1 = .bool false := hd ⟨1, .guard⟩ (by simp) rfl
                  rw [d1] at e54
                  clear d1
                  have q54 := getD_bool e54
                  clear hev hev0 hd
                  go_wp2
                  exact StepQ.mk _ (Below.refl _ _) rfl
                · intro xx af wv hbx hev hev0 hd
                  have e54 := hev 1 _ 54 rfl rfl
                  have d1 : xx 1 = .bool false := hd ⟨1, .guard⟩ (by simp) rfl
                  rw [d1] at e54
                  clear d1
                  have q54 := getD_bool e54
                  clear hev hev0 hd
                  go_wp2
                  exact StepQ.mk _ (Below.refl _ _) rfl
                · intro xx af wv hbx hev hev0 hd
                  have e54 := hev 1 _ 54 rfl rfl
                  have d1 : xx 1 = .bool false := hd ⟨1, .chain⟩ (by simp) rfl
                  rw [d1] at e54
                  clear d1
                  have q54 := getD_bool e54
                  clear hev hev0 hd
                  go_wp2
                  exact StepQ.mk _ (Below.refl _ _) rfl
                · intro xx af wv hbx hev hev0 hd
                  have e60 := hev 7 _ 60 rfl rfl
                  have d7 : xx 7 = undef := hd ⟨7, .guard⟩ (by simp) rfl
                  rw [d7] at e60
                  clear d7
                  clear hev hev0 hd
                  rcases getD_undef e60 with q60 | q60
                  · go_wp2
                    exact StepQ.mk _ (Below.refl _ _) rfl
                  · go_wp2
                    exact StepQ.mk _ (Below.refl _ _) rfl
                · intro xx af wv hbx hev hev0 hd
                  have e60 := hev 7 _ 60 rfl rfl
                  have d7 : xx 7 = undef := hd ⟨7, .guard⟩ (by simp) rfl
                  rw [d7] at e60
                  clear d7
                  clear hev hev0 hd
                  rcases getD_undef e60 with q60 | q60
                  · go_wp2
                    exact StepQ.mk _ (Below.refl _ _) rfl
                  · go_wp2
                    exact StepQ.mk _ (Below.refl _ _) rfl
                · intro xx af wv hbx hev hev0 hd
                  have e60 := hev 7 _ 60 rfl rfl
                  have d7 : xx 7 = undef := hd ⟨7, .guard⟩ (by simp) rfl
                  rw [d7] at e60
                  clear d7
                  clear hev hev0 hd
                  rcases getD_undef e60 with q60 | q60
                  · go_wp2
                    exact StepQ.mk _ (Below.refl _ _) rfl
                  · go_wp2
                    exact StepQ.mk _ (Below.refl _ _) rfl
                · intro xx af wv hbx hev hev0 hd
                  have e60 := hev 7 _ 60 rfl rfl
                  have d7 : xx 7 = undef := hd ⟨7, .guard⟩ (by simp) rfl
                  rw [d7] at e60
                  clear d7
                  clear hev hev0 hd
                  rcases getD_undef e60 with q60 | q60
                  · go_wp2
                    exact StepQ.mk _ (Below.refl _ _) rfl
                  · go_wp2
                    exact StepQ.mk _ (Below.refl _ _) rfl
                · intro xx af wv hbx hev hev0 hd
                  have e60 := hev 7 _ 60 rfl rfl
                  have d7 : xx 7 = undef := hd ⟨7, .guard⟩ (by simp) rfl
                  rw [d7] at e60
                  clear d7
                  clear hev hev0 hd
                  rcases getD_undef e60 with q60 | q60
                  · go_wp2
                    exact StepQ.mk _ (Below.refl _ _) rfl
                  · go_wp2
                    exact StepQ.mk _ (Below.refl _ _) rfl
                · intro xx af wv hbx hev hev0 hd
                  have e60 := hev 7 _ 60 rfl rfl
                  have d7 : xx 7 = undef := hd ⟨7, .guard⟩ (by simp) rfl
                  rw [d7] at e60
                  clear d7
                  clear hev hev0 hd
                  rcases getD_undef e60 with q60 | q60
                  · go_wp2
                    exact StepQ.mk _ (Below.refl _ _) rfl
                  · go_wp2
                    exact StepQ.mk _ (Below.refl _ _) rfl
                · intro xx af wv hbx hev hev0 hd
                  have e60 := hev 7 _ 60 rfl rfl
                  have d7 : xx 7 = undef := hd ⟨7, .guard⟩ (by simp) rfl
                  rw [d7] at e60
                  clear d7
                  clear hev hev0 hd
                  rcases getD_undef e60 with q60 | q60
                  · go_wp2
                    exact StepQ.mk _ (Below.refl _ _) rfl
                  · go_wp2
                    exact StepQ.mk _ (Below.refl _ _) rfl
                · intro xx af wv hbx hev hev0 hd
                  have e60 := hev 7 _ 60 rfl rfl
                  have d7 : xx 7 = undef := hd ⟨7, .guard⟩ (by simp) rfl
                  rw [d7] at e60
                  clear d7
                  clear hev hev0 hd
                  rcases getD_undef e60 with q60 | q60
                  · go_wp2
                    exact StepQ.mk _ (Below.refl _ _) rfl
                  · go_wp2
                    exact StepQ.mk _ (Below.refl _ _) rfl
                · intro xx af wv hbx hev hev0 hd
                  have e60 := hev 7 _ 60 rfl rfl
                  have d7 : xx 7 = undef := hd ⟨7, .guard⟩ (by simp) rfl
                  rw [d7] at e60
                  clear d7
                  clear hev hev0 hd
                  rcases getD_undef e60 with q60 | q60
                  · go_wp2
                    exact StepQ.mk _ (Below.refl _ _) rfl
                  · go_wp2
                    exact StepQ.mk _ (Below.refl _ _) rfl
                · intro xx af wv hbx hev hev0 hd
                  have e60 := hev 7 _ 60 rfl rfl
                  have d7 : xx 7 = undef := hd ⟨7, .guard⟩ (by simp) rfl
                  rw [d7] at e60
                  clear d7
                  clear hev hev0 hd
                  rcases getD_undef e60 with q60 | q60
                  · go_wp2
                    exact StepQ.mk _ (Below.refl _ _) rfl
                  · go_wp2
                    exact StepQ.mk _ (Below.refl _ _) rfl
                · intro xx af wv hbx hev hev0 hd
                  have e60 := hev 7 _ 60 rfl rfl
                  have d7 : xx 7 = undef := hd ⟨7, .guard⟩ (by simp) rfl
                  rw [d7] at e60
                  clear d7
                  clear hev hev0 hd
                  rcases getD_undef e60 with q60 | q60
                  · go_wp2
                    exact StepQ.mk _ (Below.refl _ _) rfl
                  · go_wp2
                    exact StepQ.mk _ (Below.refl _ _) rfl
                · intro xx af wv hbx hev hev0 hd
                  have e54 := hev 1 _ 54 rfl rfl
                  have d1 : xx 1 = .bool false := hd ⟨1, .guard⟩ (by simp) rfl
                  rw [d1] at e54
                  clear d1
                  have q54 := getD_bool e54
                  clear hev hev0 hd
                  go_wp2
                  exact StepQ.mk _ (Below.refl _ _) rfl
                · intro xx af wv hbx hev hev0 hd
                  have e54 := hev 1 _ 54 rfl rfl
                  have d1 : xx 1 = .bool false := hd ⟨1, .data⟩ (by simp) rfl
                  rw [d1] at e54
                  clear d1
                  have e72 := hev 19 _ 72 rfl rfl
                  have d19 : xx 19 = undef := hd ⟨19, .data⟩ (by simp) rfl
                  rw [d19] at e72
                  clear d19
                  clear hev hev0 hd
                  go_wp2
                  exact StepQ.mk _ (Below.refl _ _) rfl
                intro xx w6 hb9 hv
                have hv0 : xx 0 = .bool false := hv 0 (by decide)
                have hv1 : xx 1 = .bool false := hv 1 (by decide)
                have hv2 : xx 2 = undef := hv 2 (by decide)
                have hv3 : xx 3 = undef := hv 3 (by decide)
                have hv4 : xx 4 = undef := hv 4 (by decide)
                have hv5 : xx 5 = undef := hv 5 (by decide)
                have hv6 : xx 6 = undef := hv 6 (by decide)
                have hv7 : xx 7 = undef := hv 7 (by decide)
                have hv8 : xx 8 = undef := hv 8 (by decide)
                have hv9 : xx 9 = undef := hv 9 (by decide)
                have hv10 : xx 10 = undef := hv 10 (by decide)
                have hv11 : xx 11 = undef := hv 11 (by decide)
                have hv12 : xx 12 = undef := hv 12 (by decide)
                have hv13 : xx 13 = undef := hv 13 (by decide)
                have hv14 : xx 14 = undef := hv 14 (by decide)
                have hv15 : xx 15 = undef := hv 15 (by decide)
                have hv16 : xx 16 = undef := hv 16 (by decide)
                have hv17 : xx 17 = undef := hv 17 (by decide)
                have hv18 : xx 18 = undef := hv 18 (by decide)
                have hv19 : xx 19 = undef := hv 19 (by decide)
                have hv20 : xx 20 = .bool false := hv 20 (by decide)
                clear hv
                simp only [List.take, List.drop, fillA, Act.put]
                simp only [hv0, hv1, hv2, hv3, hv4, hv5, hv6, hv7, hv8, hv9, hv10, hv11, hv12, hv13, hv14, hv15, hv16, hv17, hv18, hv19, hv20]
                clear hv0 hv1 hv2 hv3 hv4 hv5 hv6 hv7 hv8 hv9 hv10 hv11 hv12 hv13 hv14 hv15 hv16 hv17 hv18 hv19 hv20
                have HS6 := Lib.hid (HS.out.call hb9)
                clear hb9 HS
                go_wp2
                have HS7 : Hid (St w [⟨w.heap.size + 1 + 1, #[.bool (negB (z1)), .string (bs (numB (z1))), .string (bs (denomB (z1))), .bool (negB (z2)), .string (bs (numB (z2))), .string (bs (denomB (z2))), .int .i64 (he : Nat), .int .i64 (ye : Nat)], 52⟩, ⟨w.heap.size + 1, #[.bool false, .string (bs []), .string (bs []), .bool false, .string (bs []), .string (bs []), .int .i64 0, .int .i64 0], 52⟩, ⟨w.heap.size, #[.bool rn, .string (bs ra), .string (bs rb)], 23⟩] _) := Lib.hid HS6.out
                go_roundw
                case rel => exact ⟨k + 1, by omega, by go_num, by rw [R.out]; try simp, HS7.out.sub (by simp)⟩
                case measure => simp [intOf]; omega
              · cases qB
                · have R := Lib.hid HFT.out
                  clear HFT
                  go_wp2
                  refine wp_region_facts 21 [fun _ vv => vv = .bool true, fun _ vv => vv = .bool true, fun _ vv => vv = .slice (some ⟨b, o, none⟩) l.length c, fun _ vv => vv = .int .i64 (k : Nat), fun _ vv => vv = .pointer (some ⟨b, o + k * 8, none⟩), fun _ vv => vv = .pointer (some ⟨b, o + k * 8 + 7, none⟩), fun _ vv => vv = .bool false, fun _ vv => vv = .bool false, fun _ vv => vv = .slice (some ⟨b, o, none⟩) l.length c, fun _ vv => vv = .int .i64 (k : Nat), fun _ vv => vv = .pointer (some ⟨b, o + k * 8, none⟩), fun _ vv => vv = .pointer (some ⟨b, o + k * 8, none⟩), fun _ vv => vv = .int .i64 p.party, fun _ vv => vv = .slice (some ⟨b, o, none⟩) l.length c, fun _ vv => vv = .int .i64 (i : Nat), fun _ vv => vv = .pointer (some ⟨b, o + i * 8, none⟩), fun _ vv => vv = .pointer (some ⟨b, o + i * 8, none⟩), fun _ vv => vv = .int .i64 u.party, fun _ vv => vv = .bool (!nB), fun _ vv => vv = .bool (!nB), fun _ vv => vv = .bool (!nB)] rfl (by kernel_rfl) (by kernel_rfl) (by kernel_rfl) ⟨fun _ _ _ h _ => h, fun _ _ _ h _ => h, fun _ _ _ h _ => h, fun _ _ _ h _ => h, fun _ _ _ h _ => h, fun _ _ _ h _ => h, fun _ _ _ h _ => h, fun _ _ _ h _ => h, fun _ _ _ h _ => h, fun _ _ _ h _ => h, fun _ _ _ h _ => h, fun _ _ _ h _ => h, fun _ _ _ h _ => h, fun _ _ _ h _ => h, fun _ _ _ h _ => h, fun _ _ _ h _ => h, fun _ _ _ h _ => h, fun _ _ _ h _ => h, fun _ _ _ h _ => h, fun _ _ _ h _ => h, fun _ _ _ h _ => h, trivial⟩ ?_ ?_
                  refine ⟨?_, ?_, ?_, ?_, ?_, ?_, ?_, ?_, ?_, ?_, ?_, ?_, ?_, ?_, ?_, ?_, ?_, ?_, ?_, ?_, ?_, trivial⟩
                  · intro xx af wv hbx hev hev0 hd
                    have e8 : af.tmps[8]?.getD undef = .bool true := hev0 8 rfl
                    clear hev hev0 hd
                    go_wp2
                    exact StepQ.mk _ (Below.refl _ _) rfl
                  · intro xx af wv hbx hev hev0 hd
                    have e53 := hev 0 _ 53 rfl rfl
                    have d0 : xx 0 = .bool true := hd ⟨0, .data⟩ (by simp) rfl
                    rw [d0] at e53
                    clear d0
                    clear hev hev0 hd
                    go_wp2
                    exact StepQ.mk _ (Below.refl _ _) rfl
                  · intro xx af wv hbx hev hev0 hd
                    have e54 := hev 1 _ 54 rfl rfl
                    have d1 : xx 1 = .bool true := hd ⟨1, .guard⟩ (by simp) rfl
                    rw [d1] at e54
                    clear d1
                    have e0 : af.tmps[0]?.getD undef = .slice (some ⟨b, o, none⟩) l.length c := hev0 0 rfl
                    have q54 := getD_bool e54
                    clear hev hev0 hd
                    go_wp2
                    exact StepQ.mk _ (Below.refl _ _) rfl
                  · intro xx af wv hbx hev hev0 hd
                    have e54 := hev 1 _ 54 rfl rfl
                    have d1 : xx 1 = .bool true := hd ⟨1, .guard⟩ (by simp) rfl
                    rw [d1] at e54
                    clear d1
                    have e9 : af.tmps[9]?.getD undef = .int .i64 (k : Nat) := hev0 9 rfl
                    have q54 := getD_bool e54
                    clear hev hev0 hd
                    go_wp2
                    exact StepQ.mk _ (Below.refl _ _) rfl
                  · intro xx af wv hbx hev hev0 hd
                    have e54 := hev 1 _ 54 rfl rfl
                    have d1 : xx 1 = .bool true := hd ⟨1, .guard⟩ (by simp) rfl
                    rw [d1] at e54
                    clear d1
                    have e55 := hev 2 _ 55 rfl rfl
                    have d2 : xx 2 = .slice (some ⟨b, o, none⟩) l.length c := hd ⟨2, .data⟩ (by simp) rfl
                    rw [d2] at e55
                    clear d2
                    have e56 := hev 3 _ 56 rfl rfl
                    have d3 : xx 3 = .int .i64 (k : Nat) := hd ⟨3, .data⟩ (by simp) rfl
                    rw [d3] at e56
                    clear d3
                    have q54 := getD_bool e54
                    clear hev hev0 hd
                    go_wp2
                    exact StepQ.mk _ (Below.refl _ _) rfl
                  · intro xx af wv hbx hev hev0 hd
                    have e54 := hev 1 _ 54 rfl rfl
                    have d1 : xx 1 = .bool true := hd ⟨1, .guard⟩ (by simp) rfl
                    rw [d1] at e54
                    clear d1
                    have e57 := hev 4 _ 57 rfl rfl
                    have d4 : xx 4 = .pointer (some ⟨b, o + k * 8, none⟩) := hd ⟨4, .data⟩ (by simp) rfl
                    rw [d4] at e57
                    clear d4
                    have q54 := getD_bool e54
                    clear hev hev0 hd
                    go_wp2
                    exact StepQ.mk _ (Below.refl _ _) rfl
                  · intro xx af wv hbx hev hev0 hd
                    have e54 := hev 1 _ 54 rfl rfl
                    have d1 : xx 1 = .bool true := hd ⟨1, .guard⟩ (by simp) rfl
                    rw [d1] at e54
                    clear d1
                    have e58 := hev 5 _ 58 rfl rfl
                    have d5 : xx 5 = .pointer (some ⟨b, o + k * 8 + 7, none⟩) := hd ⟨5, .data⟩ (by simp) rfl
                    rw [d5] at e58
                    clear d5
                    have q54 := getD_bool e54
                    clear hev hev0 hd
                    have hs1 := Lib.hid (HS.out.call hbx)
                    have y0 := HY.out _ hs1.out.below 7 _ rfl
                    go_wp2
                    exact StepQ.mk _ (Below.refl _ _) rfl
                  · intro xx af wv hbx hev hev0 hd
                    have e54 := hev 1 _ 54 rfl rfl
                    have d1 : xx 1 = .bool true := hd ⟨1, .chain⟩ (by simp) rfl
                    rw [d1] at e54
                    clear d1
                    have e59 := hev 6 _ 59 rfl rfl
                    have d6 : xx 6 = .bool false := hd ⟨6, .data⟩ (by simp) rfl
                    rw [d6] at e59
                    clear d6
                    have q54 := getD_bool e54
                    clear hev hev0 hd
                    go_wp2
                    exact StepQ.mk _ (Below.refl _ _) rfl
                  · intro xx af wv hbx hev hev0 hd
                    have e60 := hev 7 _ 60 rfl rfl
                    have d7 : xx 7 = .bool false := hd ⟨7, .guard⟩ (by simp) rfl
                    rw [d7] at e60
                    clear d7
                    have e0 : af.tmps[0]?.getD undef = .slice (some ⟨b, o, none⟩) l.length c := hev0 0 rfl
                    have q60 := getD_bool e60
                    clear hev hev0 hd
                    go_wp2
                    exact StepQ.mk _ (Below.refl _ _) rfl
                  · intro xx af wv hbx hev hev0 hd
                    have e60 := hev 7 _ 60 rfl rfl
                    have d7 : xx 7 = .bool false := hd ⟨7, .guard⟩ (by simp) rfl
                    rw [d7] at e60
                    clear d7
                    have e9 : af.tmps[9]?.getD undef = .int .i64 (k : Nat) := hev0 9 rfl
                    have q60 := getD_bool e60
                    clear hev hev0 hd
                    go_wp2
                    exact StepQ.mk _ (Below.refl _ _) rfl
                  · intro xx af wv hbx hev hev0 hd
                    have e60 := hev 7 _ 60 rfl rfl
                    have d7 : xx 7 = .bool false := hd ⟨7, .guard⟩ (by simp) rfl
                    rw [d7] at e60
                    clear d7
                    have e61 := hev 8 _ 61 rfl rfl
                    have d8 : xx 8 = .slice (some ⟨b, o, none⟩) l.length c := hd ⟨8, .data⟩ (by simp) rfl
                    rw [d8] at e61
                    clear d8
                    have e62 := hev 9 _ 62 rfl rfl
                    have d9 : xx 9 = .int .i64 (k : Nat) := hd ⟨9, .data⟩ (by simp) rfl
                    rw [d9] at e62
                    clear d9
                    have q60 := getD_bool e60
                    clear hev hev0 hd
                    go_wp2
                    exact StepQ.mk _ (Below.refl _ _) rfl
                  · intro xx af wv hbx hev hev0 hd
                    have e60 := hev 7 _ 60 rfl rfl
                    have d7 : xx 7 = .bool false := hd ⟨7, .guard⟩ (by simp) rfl
                    rw [d7] at e60
                    clear d7
                    have e63 := hev 10 _ 63 rfl rfl
                    have d10 : xx 10 = .pointer (some ⟨b, o + k * 8, none⟩) := hd ⟨10, .data⟩ (by simp) rfl
                    rw [d10] at e63
                    clear d10
                    have q60 := getD_bool e60
                    clear hev hev0 hd
                    go_wp2
                    exact StepQ.mk _ (Below.refl _ _) rfl
                  · intro xx af wv hbx hev hev0 hd
                    have e60 := hev 7 _ 60 rfl rfl
                    have d7 : xx 7 = .bool false := hd ⟨7, .guard⟩ (by simp) rfl
                    rw [d7] at e60
                    clear d7
                    have e64 := hev 11 _ 64 rfl rfl
                    have d11 : xx 11 = .pointer (some ⟨b, o + k * 8, none⟩) := hd ⟨11, .data⟩ (by simp) rfl
                    rw [d11] at e64
                    clear d11
                    have q60 := getD_bool e60
                    clear hev hev0 hd
                    have hs1 := Lib.hid (HS.out.call hbx)
                    have y0 := HY.out _ hs1.out.below 0 _ rfl
                    rw [Nat.add_zero] at y0
                    go_wp2
                    exact StepQ.mk _ (Below.refl _ _) rfl
                  · intro xx af wv hbx hev hev0 hd
                    have e60 := hev 7 _ 60 rfl rfl
                    have d7 : xx 7 = .bool false := hd ⟨7, .guard⟩ (by simp) rfl
                    rw [d7] at e60
                    clear d7
                    have e0 : af.tmps[0]?.getD undef = .slice (some ⟨b, o, none⟩) l.length c := hev0 0 rfl
                    have q60 := getD_bool e60
                    clear hev hev0 hd
                    go_wp2
                    exact StepQ.mk _ (Below.refl _ _) rfl
                  · intro xx af wv hbx hev hev0 hd
                    have e60 := hev 7 _ 60 rfl rfl
                    have d7 : xx 7 = .bool false := hd ⟨7, .guard⟩ (by simp) rfl
                    rw [d7] at e60
                    clear d7
                    have e6 : af.tmps[6]?.getD undef = .int .i64 (i : Nat) := hev0 6 rfl
                    have q60 := getD_bool e60
                    clear hev hev0 hd
                    go_wp2
                    exact StepQ.mk _ (Below.refl _ _) rfl
                  · intro xx af wv hbx hev hev0 hd
                    have e60 := hev 7 _ 60 rfl rfl
                    have d7 : xx 7 = .bool false := hd ⟨7, .guard⟩ (by simp) rfl
                    rw [d7] at e60
                    clear d7
                    have e66 := hev 13 _ 66 rfl rfl
                    have d13 : xx 13 = .slice (some ⟨b, o, none⟩) l.length c := hd ⟨13, .data⟩ (by simp) rfl
                    rw [d13] at e66
                    clear d13
                    have e67 := hev 14 _ 67 rfl rfl
                    have d14 : xx 14 = .int .i64 (i : Nat) := hd ⟨14, .data⟩ (by simp) rfl
                    rw [d14] at e67
                    clear d14
                    have q60 := getD_bool e60
                    clear hev hev0 hd
                    go_wp2
                    exact StepQ.mk _ (Below.refl _ _) rfl
                  · intro xx af wv hbx hev hev0 hd
                    have e60 := hev 7 _ 60 rfl rfl
                    have d7 : xx 7 = .bool false := hd ⟨7, .guard⟩ (by simp) rfl
                    rw [d7] at e60
                    clear d7
                    have e68 := hev 15 _ 68 rfl rfl
                    have d15 : xx 15 = .pointer (some ⟨b, o + i * 8, none⟩) := hd ⟨15, .data⟩ (by simp) rfl
                    rw [d15] at e68
                    clear d15
                    have q60 := getD_bool e60
                    clear hev hev0 hd
                    go_wp2
                    exact StepQ.mk _ (Below.refl _ _) rfl
                  · intro xx af wv hbx hev hev0 hd
                    have e60 := hev 7 _ 60 rfl rfl
                    have d7 : xx 7 = .bool false := hd ⟨7, .guard⟩ (by simp) rfl
                    rw [d7] at e60
                    clear d7
                    have e69 := hev 16 _ 69 rfl rfl
                    have d16 : xx 16 = .pointer (some ⟨b, o + i * 8, none⟩) := hd ⟨16, .data⟩ (by simp) rfl
                    rw [d16] at e69
                    clear d16
                    have q60 := getD_bool e60
                    clear hev hev0 hd
                    have hs1 := Lib.hid (HS.out.call hbx)
                    have y0 := HX.out _ hs1.out.below 0 _ rfl
                    rw [Nat.add_zero] at y0
                    go_wp2
                    exact StepQ.mk _ (Below.refl _ _) rfl
                  · intro xx af wv hbx hev hev0 hd
                    have e60 := hev 7 _ 60 rfl rfl
                    have d7 : xx 7 = .bool false := hd ⟨7, .guard⟩ (by simp) rfl
                    rw [d7] at e60
                    clear d7
                    have e65 := hev 12 _ 65 rfl rfl
                    have d12 : xx 12 = .int .i64 p.party := hd ⟨12, .data⟩ (by simp) rfl
                    rw [d12] at e65
                    clear d12
                    have e70 := hev 17 _ 70 rfl rfl
                    have d17 : xx 17 = .int .i64 u.party := hd ⟨17, .data⟩ (by simp) rfl
                    rw [d17] at e70
                    clear d17
                    have q60 := getD_bool e60
                    clear hev hev0 hd
                    go_wp2
                    exact StepQ.mk _ (Below.refl _ _) rfl
                  · intro xx af wv hbx hev hev0 hd
                    have e54 := hev 1 _ 54 rfl rfl
                    have d1 : xx 1 = .bool true := hd ⟨1, .guard⟩ (by simp) rfl
                    rw [d1] at e54
                    clear d1
                    have e60 := hev 7 _ 60 rfl rfl
                    have d7 : xx 7 = .bool false := hd ⟨7, .data⟩ (by simp) rfl
                    rw [d7] at e60
                    clear d7
                    have e71 := hev 18 _ 71 rfl rfl
                    have d18 : xx 18 = .bool (!nB) := hd ⟨18, .data⟩ (by simp) rfl
                    rw [d18] at e71
                    clear d18
                    have q54 := getD_bool e54
                    clear hev hev0 hd
                    go_wp2
                    exact StepQ.mk _ (Below.refl _ _) rfl
                  · intro xx af wv hbx hev hev0 hd
                    have e54 := hev 1 _ 54 rfl rfl
                    have d1 : xx 1 = .bool true := hd ⟨1, .data⟩ (by simp) rfl
                    rw [d1] at e54
                    clear d1
                    have e72 := hev 19 _ 72 rfl rfl
                    have d19 : xx 19 = .bool (!nB) := hd ⟨19, .data⟩ (by simp) rfl
                    rw [d19] at e72
                    clear d19
                    clear hev hev0 hd
                    go_wp2
                    exact StepQ.mk _ (Below.refl _ _) rfl
                  intro xx w6 hb9 hv
                  have hv0 : xx 0 = .bool true := hv 0 (by decide)
                  have hv1 : xx 1 = .bool true := hv 1 (by decide)
                  have hv2 : xx 2 = .slice (some ⟨b, o, none⟩) l.length c := hv 2 (by decide)
                  have hv3 : xx 3 = .int .i64 (k : Nat) := hv 3 (by decide)
                  have hv4 : xx 4 = .pointer (some ⟨b, o + k * 8, none⟩) := hv 4 (by decide)
                  have hv5 : xx 5 = .pointer (some ⟨b, o + k * 8 + 7, none⟩) := hv 5 (by decide)
                  have hv6 : xx 6 = .bool false := hv 6 (by decide)
                  have hv7 : xx 7 = .bool false := hv 7 (by decide)
                  have hv8 : xx 8 = .slice (some ⟨b, o, none⟩) l.length c := hv 8 (by decide)
                  have hv9 : xx 9 = .int .i64 (k : Nat) := hv 9 (by decide)
                  have hv10 : xx 10 = .pointer (some ⟨b, o + k * 8, none⟩) := hv 10 (by decide)
                  have hv11 : xx 11 = .pointer (some ⟨b, o + k * 8, none⟩) := hv 11 (by decide)
                  have hv12 : xx 12 = .int .i64 p.party := hv 12 (by decide)
                  have hv13 : xx 13 = .slice (some ⟨b, o, none⟩) l.length c := hv 13 (by decide)
                  have hv14 : xx 14 = .int .i64 (i : Nat) := hv 14 (by decide)
                  have hv15 : xx 15 = .pointer (some ⟨b, o + i * 8, none⟩) := hv 15 (by decide)
                  have hv16 : xx 16 = .pointer (some ⟨b, o + i * 8, none⟩) := hv 16 (by decide)
                  have hv17 : xx 17 = .int .i64 u.party := hv 17 (by decide)
                  have hv18 : xx 18 = .bool (!nB) := hv 18 (by decide)
                  have hv19 : xx 19 = .bool (!nB) := hv 19 (by decide)
                  have hv20 : xx 20 = .bool (!nB) := hv 20 (by decide)
                  clear hv
                  simp only [List.take, List.drop, fillA, Act.put]
                  simp only [hv0, hv1, hv2, hv3, hv4, hv5, hv6, hv7, hv8, hv9, hv10, hv11, hv12, hv13, hv14, hv15, hv16, hv17, hv18, hv19, hv20]
                  clear hv0 hv1 hv2 hv3 hv4 hv5 hv6 hv7 hv8 hv9 hv10 hv11 hv12 hv13 hv14 hv15 hv16 hv17 hv18 hv19 hv20
                  have HS6 := Lib.hid (HS.out.call hb9)
                  clear hb9 HS
                  go_wp2
                  have HS7 : Hid (St w [⟨w.heap.size + 1 + 1, #[.bool (negB (z1)), .string (bs (numB (z1))), .string (bs (denomB (z1))), .bool (negB (z2)), .string (bs (numB (z2))), .string (bs (denomB (z2))), .int .i64 (he : Nat), .int .i64 (ye : Nat)], 52⟩, ⟨w.heap.size + 1, #[.bool false, .string (bs []), .string (bs []), .bool false, .string (bs []), .string (bs []), .int .i64 0, .int .i64 0], 52⟩, ⟨w.heap.size, #[.bool rn, .string (bs ra), .string (bs rb)], 23⟩] _) := Lib.hid HS6.out
                  go_roundw
                  case rel => exact ⟨k + 1, by omega, by go_num, by rw [R.out]; try simp, HS7.out.sub (by simp)⟩
                  case measure => simp [intOf]; omega
                · have R := Lib.hid HFT.out
                  clear HFT
                  go_wp2
                  refine wp_region_facts 21 [fun _ vv => vv = .bool true, fun _ vv => vv = .bool true, fun _ vv => vv = .slice (some ⟨b, o, none⟩) l.length c, fun _ vv => vv = .int .i64 (k : Nat), fun _ vv => vv = .pointer (some ⟨b, o + k * 8, none⟩), fun _ vv => vv = .pointer (some ⟨b, o + k * 8 + 7, none⟩), fun _ vv => vv = .bool true, fun _ vv => vv = .bool true, fun _ vv => vv = undef, fun _ vv => vv = undef, fun _ vv => vv = undef, fun _ vv => vv = undef, fun _ vv => vv = undef, fun _ vv => vv = undef, fun _ vv => vv = undef, fun _ vv => vv = undef, fun _ vv => vv = undef, fun _ vv => vv = undef, fun _ vv => vv = undef, fun _ vv => vv = .bool true, fun _ vv => vv = .bool true] rfl (by kernel_rfl) (by kernel_rfl) (by kernel_rfl) ⟨fun _ _ _ h _ => h, fun _ _ _ h _ => h, fun _ _ _ h _ => h, fun _ _ _ h _ => h, fun _ _ _ h _ => h, fun _ _ _ h _ => h, fun _ _ _ h _ => h, fun _ _ _ h _ => h, fun _ _ _ h _ => h, fun _ _ _ h _ => h, fun _ _ _ h _ => h, fun _ _ _ h _ => h, fun _ _ _ h _ => h, fun _ _ _ h _ => h, fun _ _ _ h _ => h, fun _ _ _ h _ => h, fun _ _ _ h _ => h, fun _ _ _ h _ => h, fun _ _ _ h _ => h, fun _ _ _ h _ => h, fun _ _ _ h _ => h, trivial⟩ ?_ ?_
                  refine ⟨?_, ?_, ?_, ?_, ?_, ?_, ?_, ?_, ?_, ?_, ?_, ?_, ?_, ?_, ?_, ?_, ?_, ?_, ?_, ?_, ?_, trivial⟩
                  · intro xx af wv hbx hev hev0 hd
                    have e8 : af.tmps[8]?.getD undef = .bool true := hev0 8 rfl
                    clear hev hev0 hd
                    go_wp2
                    exact StepQ.mk _ (Below.refl _ _) rfl
                  · intro xx af wv hbx hev hev0 hd
                    have e53 := hev 0 _ 53 rfl rfl
                    have d0 : xx 0 = .bool true := hd ⟨0, .data⟩ (by simp) rfl
                    rw [d0] at e53
                    clear d0
                    clear hev hev0 hd
                    go_wp2
                    exact StepQ.mk _ (Below.refl _ _) rfl
                  · intro xx af wv hbx hev hev0 hd
                    have e54 := hev 1 _ 54 rfl rfl
                    have d1 : xx 1 = .bool true := hd ⟨1, .guard⟩ (by simp) rfl
                    rw [d1] at e54
                    clear d1
                    have e0 : af.tmps[0]?.getD undef = .slice (some ⟨b, o, none⟩) l.length c := hev0 0 rfl
                    have q54 := getD_bool e54
                    clear hev hev0 hd
                    go_wp2
                    exact StepQ.mk _ (Below.refl _ _) rfl
                  · intro xx af wv hbx hev hev0 hd
                    have e54 := hev 1 _ 54 rfl rfl
                    have d1 : xx 1 = .bool true := hd ⟨1, .guard⟩ (by simp) rfl
                    rw [d1] at e54
                    clear d1
                    have e9 : af.tmps[9]?.getD undef = .int .i64 (k : Nat) := hev0 9 rfl
                    have q54 := getD_bool e54
                    clear hev hev0 hd
                    go_wp2
                    exact StepQ.mk _ (Below.refl _ _) rfl
                  · intro xx af wv hbx hev hev0 hd
                    have e54 := hev 1 _ 54 rfl rfl
                    have d1 : xx 1 = .bool true := hd ⟨1, .guard⟩ (by simp) rfl
                    rw [d1] at e54
                    clear d1
                    have e55 := hev 2 _ 55 rfl rfl
                    have d2 : xx 2 = .slice (some ⟨b, o, none⟩) l.length c := hd ⟨2, .data⟩ (by simp) rfl
                    rw [d2] at e55
                    clear d2
                    have e56 := hev 3 _ 56 rfl rfl
                    have d3 : xx 3 = .int .i64 (k : Nat) := hd ⟨3, .data⟩ (by simp) rfl
                    rw [d3] at e56
                    clear d3
                    have q54 := getD_bool e54
                    clear hev hev0 hd
                    go_wp2
                    exact StepQ.mk _ (Below.refl _ _) rfl
                  · intro xx af wv hbx hev hev0 hd
                    have e54 := hev 1 _ 54 rfl rfl
                    have d1 : xx 1 = .bool true := hd ⟨1, .guard⟩ (by simp) rfl
                    rw [d1] at e54
                    clear d1
                    have e57 := hev 4 _ 57 rfl rfl
                    have d4 : xx 4 = .pointer (some ⟨b, o + k * 8, none⟩) := hd ⟨4, .data⟩ (by simp) rfl
                    rw [d4] at e57
                    clear d4
                    have q54 := getD_bool e54
                    clear hev hev0 hd
                    go_wp2
                    exact StepQ.mk _ (Below.refl _ _) rfl
                  · intro xx af wv hbx hev hev0 hd
                    have e54 := hev 1 _ 54 rfl rfl
                    have d1 : xx 1 = .bool true := hd ⟨1, .guard⟩ (by simp) rfl
                    rw [d1] at e54
                    clear d1
                    have e58 := hev 5 _ 58 rfl rfl
                    have d5 : xx 5 = .pointer (some ⟨b, o + k * 8 + 7, none⟩) := hd ⟨5, .data⟩ (by simp) rfl
                    rw [d5] at e58
                    clear d5
                    have q54 := getD_bool e54
                    clear hev hev0 hd
                    have hs1 := Lib.hid (HS.out.call hbx)
                    have y0 := HY.out _ hs1.out.below 7 _ rfl
                    go_wp2
                    exact StepQ.mk _ (Below.refl _ _) rfl
                  · intro xx af wv hbx hev hev0 hd
                    have e54 := hev 1 _ 54 rfl rfl
                    have d1 : xx 1 = .bool true := hd ⟨1, .chain⟩ (by simp) rfl
                    rw [d1] at e54
                    clear d1
                    have e59 := hev 6 _ 59 rfl rfl
                    have d6 : xx 6 = .bool true := hd ⟨6, .data⟩ (by simp) rfl
                    rw [d6] at e59
                    clear d6
                    have q54 := getD_bool e54
                    clear hev hev0 hd
                    go_wp2
                    exact StepQ.mk _ (Below.refl _ _) rfl
                  · intro xx af wv hbx hev hev0 hd
                    have e60 := hev 7 _ 60 rfl rfl
                    have d7 : xx 7 = .bool true := hd ⟨7, .guard⟩ (by simp) rfl
                    rw [d7] at e60
                    clear d7
                    have q60 := getD_bool e60
                    clear hev hev0 hd
                    go_wp2
                    exact StepQ.mk _ (Below.refl _ _) rfl
                  · intro xx af wv hbx hev hev0 hd
                    have e60 := hev 7 _ 60 rfl rfl
                    have d7 : xx 7 = .bool true := hd ⟨7, .guard⟩ (by simp) rfl
                    rw [d7] at e60
                    clear d7
                    have q60 := getD_bool e60
                    clear hev hev0 hd
                    go_wp2
                    exact StepQ.mk _ (Below.refl _ _) rfl
                  · intro xx af wv hbx hev hev0 hd
                    have e60 := hev 7 _ 60 rfl rfl
                    have d7 : xx 7 = .bool true := hd ⟨7, .guard⟩ (by simp) rfl
                    rw [d7] at e60
                    clear d7
                    have q60 := getD_bool e60
                    clear hev hev0 hd
                    go_wp2
                    exact StepQ.mk _ (Below.refl _ _) rfl
                  · intro xx af wv hbx hev hev0 hd
                    have e60 := hev 7 _ 60 rfl rfl
                    have d7 : xx 7 = .bool true := hd ⟨7, .guard⟩ (by simp) rfl
                    rw [d7] at e60
                    clear d7
                    have q60 := getD_bool e60
                    clear hev hev0 hd
                    go_wp2
                    exact StepQ.mk _ (Below.refl _ _) rfl
                  · intro xx af wv hbx hev hev0 hd
                    have e60 := hev 7 _ 60 rfl rfl
                    have d7 : xx 7 = .bool true := hd ⟨7, .guard⟩ (by simp) rfl
                    rw [d7] at e60
                    clear d7
                    have q60 := getD_bool e60
                    clear hev hev0 hd
                    go_wp2
                    exact StepQ.mk _ (Below.refl _ _) rfl
                  · intro xx af wv hbx hev hev0 hd
                    have e60 := hev 7 _ 60 rfl rfl
                    have d7 : xx 7 = .bool true := hd ⟨7, .guard⟩ (by simp) rfl
                    rw [d7] at e60
                    clear d7
                    have q60 := getD_bool e60
                    clear hev hev0 hd
                    go_wp2
                    exact StepQ.mk _ (Below.refl _ _) rfl
                  · intro xx af wv hbx hev hev0 hd
                    have e60 := hev 7 _ 60 rfl rfl
                    have d7 : xx 7 = .bool true := hd ⟨7, .guard⟩ (by simp) rfl
                    rw [d7] at e60
                    clear d7
                    have q60 := getD_bool e60
                    clear hev hev0 hd
                    go_wp2
                    exact StepQ.mk _ (Below.refl _ _) rfl
                  · intro xx af wv hbx hev hev0 hd
                    have e60 := hev 7 _ 60 rfl rfl
                    have d7 : xx 7 = .bool true := hd ⟨7, .guard⟩ (by simp) rfl
                    rw [d7] at e60
                    clear d7
                    have q60 := getD_bool e60
                    clear hev hev0 hd
                    go_wp2
                    exact StepQ.mk _ (Below.refl _ _) rfl
                  · intro xx af wv hbx hev hev0 hd
                    have e60 := hev 7 _ 60 rfl rfl
                    have d7 : xx 7 = .bool true := hd ⟨7, .guard⟩ (by simp) rfl
                    rw [d7] at e60
                    clear d7
                    have q60 := getD_bool e60
                    clear hev hev0 hd
                    go_wp2
                    exact StepQ.mk _ (Below.refl _ _) rfl
                  · intro xx af wv hbx hev hev0 hd
                    have e60 := hev 7 _ 60 rfl rfl
                    have d7 : xx 7 = .bool true := hd ⟨7, .guard⟩ (by simp) rfl
                    rw [d7] at e60
                    clear d7
                    have q60 := getD_bool e60
                    clear hev hev0 hd
                    go_wp2
                    exact StepQ.mk _ (Below.refl _ _) rfl
                  · intro xx af wv hbx hev hev0 hd
                    have e60 := hev 7 _ 60 rfl rfl
                    have d7 : xx 7 = .bool true := hd ⟨7, .guard⟩ (by simp) rfl
                    rw [d7] at e60
                    clear d7
                    have q60 := getD_bool e60
                    clear hev hev0 hd
                    go_wp2
                    exact StepQ.mk _ (Below.refl _ _) rfl
                  · intro xx af wv hbx hev hev0 hd
                    have e54 := hev 1 _ 54 rfl rfl
                    have d1 : xx 1 = .bool true := hd ⟨1, .guard⟩ (by simp) rfl
                    rw [d1] at e54
                    clear d1
                    have e60 := hev 7 _ 60 rfl rfl
                    have d7 : xx 7 = .bool true := hd ⟨7, .data⟩ (by simp) rfl
                    rw [d7] at e60
                    clear d7
                    have e71 := hev 18 _ 71 rfl rfl
                    have d18 : xx 18 = undef := hd ⟨18, .data⟩ (by simp) rfl
                    rw [d18] at e71
                    clear d18
                    have q54 := getD_bool e54
                    clear hev hev0 hd
                    go_wp2
                    exact StepQ.mk _ (Below.refl _ _) rfl
                  · intro xx af wv hbx hev hev0 hd
                    have e54 := hev 1 _ 54 rfl rfl
                    have d1 : xx 1 = .bool true := hd ⟨1, .data⟩ (by simp) rfl
                    rw [d1] at e54
                    clear d1
                    have e72 := hev 19 _ 72 rfl rfl
                    have d19 : xx 19 = .bool true := hd ⟨19, .data⟩ (by simp) rfl
                    rw [d19] at e72
                    clear d19
                    clear hev hev0 hd
                    go_wp2
                    exact StepQ.mk _ (Below.refl _ _) rfl
                  intro xx w6 hb9 hv
                  have hv0 : xx 0 = .bool true := hv 0 (by decide)
                  have hv1 : xx 1 = .bool true := hv 1 (by decide)
                  have hv2 : xx 2 = .slice (some ⟨b, o, none⟩) l.length c := hv 2 (by decide)
                  have hv3 : xx 3 = .int .i64 (k : Nat) := hv 3 (by decide)
                  have hv4 : xx 4 = .pointer (some ⟨b, o + k * 8, none⟩) := hv 4 (by decide)
                  have hv5 : xx 5 = .pointer (some ⟨b, o + k * 8 + 7, none⟩) := hv 5 (by decide)
                  have hv6 : xx 6 = .bool true := hv 6 (by decide)
                  have hv7 : xx 7 = .bool true := hv 7 (by decide)
                  have hv8 : xx 8 = undef := hv 8 (by decide)
                  have hv9 : xx 9 = undef := hv 9 (by decide)
                  have hv10 : xx 10 = undef := hv 10 (by decide)
                  have hv11 : xx 11 = undef := hv 11 (by decide)
                  have hv12 : xx 12 = undef := hv 12 (by decide)
                  have hv13 : xx 13 = undef := hv 13 (by decide)
                  have hv14 : xx 14 = undef := hv 14 (by decide)
                  have hv15 : xx 15 = undef := hv 15 (by decide)
                  have hv16 : xx 16 = undef := hv 16 (by decide)
                  have hv17 : xx 17 = undef := hv 17 (by decide)
                  have hv18 : xx 18 = undef := hv 18 (by decide)
                  have hv19 : xx 19 = .bool true := hv 19 (by decide)
                  have hv20 : xx 20 = .bool true := hv 20 (by decide)
                  clear hv
                  simp only [List.take, List.drop, fillA, Act.put]
                  simp only [hv0, hv1, hv2, hv3, hv4, hv5, hv6, hv7, hv8, hv9, hv10, hv11, hv12, hv13, hv14, hv15, hv16, hv17, hv18, hv19, hv20]
                  clear hv0 hv1 hv2 hv3 hv4 hv5 hv6 hv7 hv8 hv9 hv10 hv11 hv12 hv13 hv14 hv15 hv16 hv17 hv18 hv19 hv20
                  have HS6 := Lib.hid (HS.out.call hb9)
                  clear hb9 HS
                  go_wp2
                  have HS7 : Hid (St w [⟨w.heap.size + 1 + 1, #[.bool (negB (z1)), .string (bs (numB (z1))), .string (bs (denomB (z1))), .bool (negB (z2)), .string (bs (numB (z2))), .string (bs (denomB (z2))), .int .i64 (he : Nat), .int .i64 (ye : Nat)], 52⟩, ⟨w.heap.size + 1, #[.bool false, .string (bs []), .string (bs []), .bool false, .string (bs []), .string (bs []), .int .i64 0, .int .i64 0], 52⟩, ⟨w.heap.size, #[.bool rn, .string (bs ra), .string (bs rb)], 23⟩] _) := Lib.hid HS6.out
                  go_roundw
                  case rel => exact ⟨k + 1, by omega, by go_num, by rw [R.out]; try simp, HS7.out.sub (by simp)⟩
                  case measure => simp [intOf]; omega
            · obtain rfl : k = i := by omega
              obtain ⟨gB, hgB⟩ : ∃ x, x = fresh (l.take k) u.party := ⟨_, rfl⟩
              rw [← hgB]
              have HG := Lib.hid hgB.symm
              have g3 : decide (((k : Nat) : Int) < ((k : Nat) : Int)) = false := decide_eq_false (by omega)
              clear hgB
              cases gB
              · have hn := HHO.out HG.out
                try simp only [if_true] at hn
                have HN := Lib.hid hn
                clear hn
                go_wp2
                have HS6 : Hid (St w [⟨w.heap.size + 1 + 1, #[.bool (negB (z1)), .string (bs (numB (z1))), .string (bs (denomB (z1))), .bool (negB (z2)), .string (bs (numB (z2))), .string (bs (denomB (z2))), .int .i64 (he : Nat), .int .i64 (ye : Nat)], 52⟩, ⟨w.heap.size + 1, #[.bool false, .string (bs []), .string (bs []), .bool false, .string (bs []), .string (bs []), .int .i64 0, .int .i64 0], 52⟩, ⟨w.heap.size, #[.bool rn, .string (bs ra), .string (bs rb)], 23⟩] _) := Lib.hid HS.out
                go_roundw
                case rel => exact ⟨k + 1, by omega, by go_num, by show St _ _ _; rw [HAD.out HXE.out, HFNS.out, HN.out.1, HN.out.2]; exact HS6.out.sub (by simp)⟩
                case measure => simp [intOf]; omega
              · have hn := HHN.out HXE.out HG.out
                try simp only [if_true] at hn
                have HN := Lib.hid hn
                clear hn
                have x22 := HS.out.cell 0 rfl 6 rfl
                have x23 := HS.out.cell 0 rfl 7 rfl
                have x24 := HS.out.frozen 0 rfl 6
                have x25 := HS.out.frozen 0 rfl 7
                have x26 := HS.out.ne 0 1 rfl rfl (by decide)
                have x27 := HS.out.ne 1 0 rfl rfl (by decide)
                have x28 := HS.out.ne 0 2 rfl rfl (by decide)
                have x29 := HS.out.ne 2 0 rfl rfl (by decide)
                go_wp2
                have HS6 : Hid (St w [⟨w.heap.size + 1 + 1, #[.bool (negB (z1)), .string (bs (numB (z1))), .string (bs (denomB (z1))), .bool (negB (z2)), .string (bs (numB (z2))), .string (bs (denomB (z2))), .int .i64 ((he : Int) + 1), .int .i64 ((ye : Int) + 1)], 52⟩, ⟨w.heap.size + 1, #[.bool false, .string (bs []), .string (bs []), .bool false, .string (bs []), .string (bs []), .int .i64 0, .int .i64 0], 52⟩, ⟨w.heap.size, #[.bool rn, .string (bs ra), .string (bs rb)], 23⟩] _) := Lib.hid (St.set ((St.set (HS.out) 0 rfl 6 _)) 0 rfl 7 _)
                go_roundw
                case rel => exact ⟨k + 1, by omega, by go_num, by show St _ _ _; rw [HAD.out HXE.out, HFNS.out, HN.out.1, HN.out.2, show ((he + 1 : Nat) : Int) = (he : Int) + 1 by omega, show ((ye + 1 : Nat) : Int) = (ye : Int) + 1 by omega]; exact HS6.out.sub (by simp)⟩
                case measure => simp [intOf]; omega
      · have x1 := HX.out _ HS.out.below 7 _ rfl
        go_wp2
        have HS2 : Hid (St w [⟨w.heap.size + 1 + 1, #[.bool (negB (am)), .string (bs (numB (am))), .string (bs (denomB (am))), .bool (negB (fo)), .string (bs (numB (fo))), .string (bs (denomB (fo))), .int .i64 (he : Nat), .int .i64 (ye : Nat)], 52⟩, ⟨w.heap.size + 1, #[.bool false, .string (bs []), .string (bs []), .bool false, .string (bs []), .string (bs []), .int .i64 0, .int .i64 0], 52⟩, ⟨w.heap.size, #[.bool rn, .string (bs ra), .string (bs rb)], 23⟩] _) := Lib.hid HS.out
        go_roundw
        case rel => exact ⟨i + 1, by omega, by go_num, by show St _ _ _; rw [(HSK.out HXE.out).1, (HSK.out HXE.out).2, (HHS.out HXE.out).1, (HHS.out HXE.out).2]; exact HS2.out.sub (by simp)⟩
        case measure => simp [intOf]; omega
    · obtain rfl : i = l.length := by omega
      rw [List.take_length] at HS
      have R : tallyV l rate = ⟨amountV l, forOf (voteYes l rate) l, headsT l l.length, yesT l rate l.length⟩ := by unfold tallyV headsT yesT; rw [List.take_length]; rfl
      have R := Lib.hid R
      have x1 := HS.out.cell 0 rfl 0 rfl
      have x2 := HS.out.cell 0 rfl 1 rfl
      have x3 := HS.out.cell 0 rfl 2 rfl
      have x4 := HS.out.cell 0 rfl 3 rfl
      have x5 := HS.out.cell 0 rfl 4 rfl
      have x6 := HS.out.cell 0 rfl 5 rfl
      have x7 := HS.out.cell 0 rfl 6 rfl
      have x8 := HS.out.cell 0 rfl 7 rfl
      have x9 := HS.out.cell 1 rfl 0 rfl
      have x10 := HS.out.cell 1 rfl 1 rfl
      have x11 := HS.out.cell 1 rfl 2 rfl
      have x12 := HS.out.cell 1 rfl 3 rfl
      have x13 := HS.out.cell 1 rfl 4 rfl
      have x14 := HS.out.cell 1 rfl 5 rfl
      have x15 := HS.out.cell 1 rfl 6 rfl
      have x16 := HS.out.cell 1 rfl 7 rfl
      have x17 := HS.out.frozen 1 rfl 0
      have x18 := HS.out.frozen 1 rfl 1
      have x19 := HS.out.frozen 1 rfl 2
      have x20 := HS.out.frozen 1 rfl 3
      have x21 := HS.out.frozen 1 rfl 4
      have x22 := HS.out.frozen 1 rfl 5
      have x23 := HS.out.frozen 1 rfl 6
      have x24 := HS.out.frozen 1 rfl 7
      have x25 := HS.out.ne 1 0 rfl rfl (by decide)
      have x26 := HS.out.ne 0 1 rfl rfl (by decide)
      have x27 := HS.out.ne 1 2 rfl rfl (by decide)
      have x28 := HS.out.ne 2 1 rfl rfl (by decide)
      go_wp2
      have HS2 : Hid (St w [⟨w.heap.size + 1 + 1, #[.bool (negB (amountV l)), .string (bs (numB (amountV l))), .string (bs (denomB (amountV l))), .bool (negB (forOf (voteYes l rate) l)), .string (bs (numB (forOf (voteYes l rate) l))), .string (bs (denomB (forOf (voteYes l rate) l))), .int .i64 (headsT l l.length : Nat), .int .i64 (yesT l rate l.length : Nat)], 52⟩, ⟨w.heap.size + 1, #[.bool (negB (amountV l)), .string (bs (numB (amountV l))), .string (bs (denomB (amountV l))), .bool (negB (forOf (voteYes l rate) l)), .string (bs (numB (forOf (voteYes l rate) l))), .string (bs (denomB (forOf (voteYes l rate) l))), .int .i64 (headsT l l.length : Nat), .int .i64 (yesT l rate l.length : Nat)], 52⟩, ⟨w.heap.size, #[.bool rn, .string (bs ra), .string (bs rb)], 23⟩] _) := Lib.hid (St.set ((St.set ((St.set ((St.set ((St.set ((St.set ((St.set ((St.set (HS.out) 1 rfl 0 _)) 1 rfl 1 _)) 1 rfl 2 _)) 1 rfl 3 _)) 1 rfl 4 _)) 1 rfl 5 _)) 1 rfl 6 _)) 1 rfl 7 _)
      refine bodyPost_ret (tly_result rfl _ _ _ rfl (HS2.out.blk 1 rfl)) rfl ?_
      rw [R.out]
      exact ⟨rfl, HS2.out.below⟩
end Go.Proofs.YtakoagjpmdcddaaGreatDoor
