/-
The program's count of votes (printed by gen_vot2.py).
-/
import Derived.Test.YtakoagjpmdcddaaDoorVotE
import Derived.Test.YtakoagjpmdcddaaDoorMpb
namespace Go.Proofs.YtakoagjpmdcddaaDoor
open Go.RowKit

theorem int_law : Maps.Keyed Tryd.prog 3 := Maps.int_keyed Tryd.underlying3
theorem zero_bool (w : World) : (zeroValue 4).run Tryd.prog w = .ok (.bool false) w := by kernel_rfl
def voteIn (l : List Vtr) (p : Int) : Bool := (parts l []).contains p
def voteYes (l : List Vtr) (rate : Rat) (p : Int) : Bool := yesP l p rate
theorem enc0 : negB (0 : Rat) = false ∧ numB (0 : Rat) = [] ∧ denomB (0 : Rat) = [] := by decide +kernel
theorem voteIn_nil (p : Int) : voteIn [] p = false := rfl
theorem count_skip {l : List Vtr} {k : Nat} {u : Vtr} (hq : l[k]? = some u) (hex : u.ex = true) (rate : Rat) : (∀ q, voteIn (l.take k) q = voteIn (l.take (k + 1)) q) ∧ ∀ q, voteYes (l.take k) rate q = voteYes (l.take (k + 1)) rate q := by
  rw [take_at hq]
  refine ⟨fun q => ?_, fun q => ?_⟩
  · unfold voteIn; rw [parts_snoc, hex, Bool.true_or, if_pos rfl]
  · unfold voteYes; rw [yesP_snoc, show blocks q rate u = false by unfold blocks; rw [hex]; simp]; simp
theorem count_in {l : List Vtr} {k : Nat} {u : Vtr} (hq : l[k]? = some u) (hex : u.ex = false) (q : Int) : putS (voteIn (l.take k)) u.party q = voteIn (l.take (k + 1)) q := by
  rw [take_at hq]
  unfold putS voteIn
  rw [parts_snoc, hex, Bool.false_or]
  split
  · rename_i h
    by_cases hp : q = u.party
    · subst hp; rw [h]; rfl
    · rw [show (q == u.party) = false by simp [hp], Bool.or_false]
  · rw [Bool.eq_iff_iff]
    simp
theorem count_yes {l : List Vtr} {k : Nat} {u : Vtr} {rate : Rat} (hq : l[k]? = some u) (hex : u.ex = false) {y : Bool} (hy : y = (voteYes (l.take k) rate u.party && decide (sgn (u.ask - rate).num ≤ 0))) (q : Int) :
    putF (voteYes (l.take k) rate) u.party y q = voteYes (l.take (k + 1)) rate q := by
  rw [take_at hq]
  unfold putF
  unfold voteYes at *
  rw [yesP_snoc]
  have hb : blocks q rate u = ((u.party == q) && decide (0 < sgn (u.ask - rate).num)) := by unfold blocks; rw [hex]; simp
  rw [hb]
  by_cases hp : q = u.party
  · subst hp
    rw [if_pos rfl, hy, beq_self_eq_true, Bool.true_and]
    congr 1
    rw [Bool.eq_iff_iff]; simp
  · rw [if_neg hp, show (u.party == q) = false by simp [Ne.symm hp]]; simp
theorem count_new {l : List Vtr} {rate : Rat} {p : Int} (h : voteIn l p = false) : voteYes l rate p = true := yesP_absent h
theorem voteIn_at {l : List Vtr} {k : Nat} {u : Vtr} (hq : l[k]? = some u) (hex : u.ex = false) : voteIn l u.party = true :=
  List.contains_iff_mem.2 ((parts_mem l [] u.party).2 (.inr ⟨u, List.mem_of_getElem? hq, hex, rfl⟩))
theorem amount_skip {l : List Vtr} {k : Nat} {u : Vtr} (hq : l[k]? = some u) (hex : u.ex = true) (f : Int → Bool) : amountV (l.take (k + 1)) = amountV (l.take k) ∧ forOf f (l.take (k + 1)) = forOf f (l.take k) := by
  rw [take_at hq, amountV_snoc, forOf_snoc, if_pos hex, if_pos hex]; exact ⟨rfl, rfl⟩
theorem amount_add {l : List Vtr} {k : Nat} {u : Vtr} (hq : l[k]? = some u) (hex : u.ex = false) : amountV (l.take (k + 1)) = amountV (l.take k) + u.amount := by
  rw [take_at hq, amountV_snoc, hex]; rfl
theorem for_add {l : List Vtr} {k : Nat} {u : Vtr} {f : Int → Bool} (hq : l[k]? = some u) (hex : u.ex = false) (hf : f u.party = true) : forOf f (l.take (k + 1)) = forOf f (l.take k) + u.amount := by
  rw [take_at hq, forOf_snoc, hex, if_neg (by decide), if_pos hf]
theorem for_not {l : List Vtr} {k : Nat} {u : Vtr} {f : Int → Bool} (hq : l[k]? = some u) (hf : f u.party = false) : forOf f (l.take (k + 1)) = forOf f (l.take k) := by
  rw [take_at hq, forOf_snoc, hf]; simp
/-- Heads counted while the map is ranged over: those that are no longer to come. -/
def headsM (P : List Int) (L Y : Int → Bool) : Nat := (P.filter fun q => !L q && Y q).length
theorem filter_more1 {P : List Int} (hn : P.Nodup) {p : Int} (hp : p ∈ P) {g : Int → Bool} (hg : g p = false) : (P.filter fun q => g q || q == p).length = (P.filter g).length + 1 := by
  induction P with
  | nil => cases hp
  | cons a P ih =>
    obtain ⟨hna, hn⟩ := List.nodup_cons.1 hn
    rw [List.filter_cons, List.filter_cons]
    by_cases hap : a = p
    · subst hap
      have h1 : P.filter (fun q => g q || q == a) = P.filter g := List.filter_congr fun q hq => by
        rw [show (q == a) = false by simp; rintro rfl; exact hna hq, Bool.or_false]
      rw [h1, hg]; simp
    · have hp' : p ∈ P := by
        rcases List.mem_cons.1 hp with h | h
        · exact absurd h.symm hap
        · exact h
      rw [show (a == p) = false by simp [hap], Bool.or_false]
      split
      · rw [List.length_cons, List.length_cons, ih hn hp']
      · exact ih hn hp'
theorem heads_step {P : List Int} {L Y : Int → Bool} (hn : P.Nodup) {p : Int} (hp : p ∈ P) (hl : L p = true) : headsM P (fun q => L q && !(q == p)) Y = if Y p then headsM P L Y + 1 else headsM P L Y := by
  unfold headsM
  by_cases hy : Y p = true
  · rw [if_pos hy, ← filter_more1 hn hp (g := fun q => !L q && Y q) (by rw [hl]; rfl)]
    congr 1
    refine List.filter_congr fun q _ => ?_
    by_cases hq : q = p
    · subst hq; simp [hl, hy]
    · have e : (q == p) = false := by simp [hq]
      simp only [e]
      simp
  · rw [if_neg hy]
    congr 1
    refine List.filter_congr fun q _ => ?_
    by_cases hq : q = p
    · subst hq
      have : Y q = false := by simpa using hy
      simp [this]
    · have e : (q == p) = false := by simp [hq]
      simp only [e]
      simp
theorem heads_start {P : List Int} {L Y : Int → Bool} (h : ∀ p ∈ P, L p = true) : headsM P L Y = 0 := by
  unfold headsM
  rw [List.length_eq_zero_iff, List.filter_eq_nil_iff]
  intro q hq
  rw [h q hq]; simp
theorem heads_end {P : List Int} {L Y : Int → Bool} (h : ∀ p, L p = false) : headsM P L Y = (P.filter Y).length := by
  unfold headsM
  congr 1
  exact List.filter_congr fun q _ => by rw [h q]; simp
theorem heads_le {P : List Int} {L Y : Int → Bool} : headsM P L Y ≤ P.length := List.length_filter_le _ _

/-- A tally as the program has it. -/
def tlyC (t : Tly) : Array Value := #[.bool (negB t.amount), .string (bs (numB t.amount)), .string (bs (denomB t.amount)), .bool (negB t.yes), .string (bs (numB t.yes)), .string (bs (denomB t.yes)), .int .i64 (t.heads : Nat), .int .i64 (t.yesHeads : Nat)]
def tly (t : Tly) : Value := .agg (tlyC t)
theorem tly_info : (Tryd.prog.info? 45).map (·.size) = some 8 := by kernel_rfl
theorem tly_result {fn : Func} {p : Tmp} (h : fn.results = #[.cell p 45]) (tmps : Array Value) (w : World) (g : Nat) {a b c d e f i j : Value}
    (hp : tmps.getD p undef = .pointer (some ⟨g, 0, none⟩)) (hg : Blk w g #[a, b, c, d, e, f, i, j] 45) : (results fn tmps).run Tryd.prog w = .ok (.agg #[a, b, c, d, e, f, i, j]) w :=
  results_cell_row h tmps w g _ _ _ _ hp hg Tryd.underlying45 rfl tly_info
theorem tly_load {w : World} {g : Nat} {a b c d e f i j : Value} (h : Blk w g #[a, b, c, d, e, f, i, j] 45) : (loadVar 45 ⟨g, 0, none⟩).run Tryd.prog w = .ok (.agg #[a, b, c, d, e, f, i, j]) w :=
  run_loadVar_row w g _ _ _ _ _ h Tryd.underlying45 rfl tly_info
theorem tly_result2 {fn : Func} {p u : Tmp} (h : fn.results = #[.cell p 45, .tmp u]) (tmps : Array Value) (w : World) (g : Nat) {a b c d e f i j : Value}
    (hp : tmps.getD p undef = .pointer (some ⟨g, 0, none⟩)) (hg : Blk w g #[a, b, c, d, e, f, i, j] 45) : (results fn tmps).run Tryd.prog w = .ok (.tuple #[.agg #[a, b, c, d, e, f, i, j], tmps.getD u undef]) w := by
  rw [results_cell_tmp h, hp]
  simp only [asAddr, Sem.run_pure, Result.andThen, tly_load hg]

set_option maxRecDepth 100000 in
set_option maxHeartbeats 2000000 in
theorem vote_count (v : Value) (l : List Vtr) (rn : Bool) (ra rb : List UInt8) (w : World) (h : VotersL w v l) (hok : SmallV 100000 l) (hlen : l.length ≤ 64) (hpar : ∀ u ∈ l, W64 u.party) (la : ra.length ≤ 17179869184) (lb : rb.length ≤ 17179869184) :
    Calls Tryd.prog 28 #[v, raw rn ra rb] w fun e w' => e = .returned (tly (tallyV l (decR rn ra rb))) ∧ Below w.heap.size w w' := by
  have H := Lib.hid h
  have HOK := Lib.hid hok
  have HPAR := Lib.hid hpar
  have HC := Lib.hid (fun (n : Bool) (a b : List UInt8) (ha : a.length ≤ 17179869184) (hb : b.length ≤ 17179869184) W => rational_Compare n a b rn ra rb W ha hb la lb)
  generalize decR rn ra rb = rate at *
  obtain ⟨A, c, rfl, hl, hc⟩ := h.slice
  clear h hok hpar la lb
  unfold raw
  have hmm := @run_makeMap Tryd.prog
  go_enter Tryd.func28, Tryd.ntmps28
  have HS := Lib.hid (St.start w)
  go_wp2
  go_loopw [18] (fun i wr => ∃ k n : Nat, k ≤ l.length ∧ n ≤ k ∧ i = .int .i64 k ∧ Hid (BMap Tryd.prog 3 4 wr (w.heap.size + 1 + 1) n (voteIn (l.take k)) (voteYes (l.take k) rate)) ∧ Hid (St w [⟨w.heap.size + 1, #[.bool false, .string (bs []), .string (bs []), .bool false, .string (bs []), .string (bs []), .int .i64 0, .int .i64 0], 45⟩, ⟨w.heap.size, #[.bool rn, .string (bs ra), .string (bs rb)], 28⟩] wr)) (fun i _ => l.length - (intOf i).toNat)
  case atStart => exact ⟨0, 0, Nat.zero_le _, Nat.le_refl _, rfl, BMap.made _ _ (by simp), (St.alloc' ((St.alloc ((St.alloc (HS.out) #[.bool rn, .string (bs ra), .string (bs rb)] 28 _ (by simp))) #[.bool false, .string (bs []), .string (bs []), .bool false, .string (bs []), .string (bs []), .int .i64 0, .int .i64 0] 45 _ (by simp))) _)⟩
  case round =>
    clear hmm
    obtain ⟨k, n, hk, hn, rfl, HM, HS⟩ := hrel
    by_cases hlt : k < l.length
    · obtain ⟨b, o, u, rfl, hbb, hq, hx⟩ := H.out.at_ hlt
      have ho := HOK.out u (List.mem_of_getElem? hq)
      have hpw := HPAR.out u (List.mem_of_getElem? hq)
      have hA := fun W => HC.out u.kn u.ka u.kb (by have := ho.2.2.1; omega) (by have := ho.2.2.2; omega) W
      change ∀ W, Calls Tryd.prog _ _ W (fun e w' => e = .returned (.int .i64 (sgn (u.ask - rate).num)) ∧ _) at hA
      unfold raw at hA
      have hY := fun (hex : u.ex = false) (y : Bool) hy => count_yes (rate := rate) hq hex (y := y) hy
      obtain ⟨cc, hcc⟩ : ∃ x, x = sgn (u.ask - rate).num := ⟨_, rfl⟩
      rw [← hcc] at hA hY
      obtain ⟨dB, hdB⟩ : ∃ x, x = decide (cc ≤ 0) := ⟨_, rfl⟩
      rw [← hdB] at hY
      have hdc : decide (cc ≤ 0) = dB := hdB.symm
      have hS := fun hex => count_skip hq hex rate
      have hI := fun hex => count_in hq hex
      obtain ⟨xB, hxB⟩ : ∃ x, x = u.ex := ⟨_, rfl⟩
      have hxe : u.ex = xB := hxB.symm
      rw [hxe] at hS hI hY
      have HXE := Lib.hid hxe
      have HA := Lib.hid hA
      have HX := Lib.hid hx
      have HSK := Lib.hid hS
      have HIN := Lib.hid hI
      have HYE := Lib.hid hY
      have HP := Lib.hid hpw
      have e0 : (0 : Int) ≤ ((k : Nat) : Int) := by omega
      have e1 : ((k : Nat) : Int) < (l.length : Int) := by omega
      clear hA hx hS hI hY hpw ho hq hcc hdB hxB hxe
      cases xB
      · have hx2 := HX.out
        unfold Vtr.enc at hx2
        rw [HXE.out] at hx2
        have HX := Lib.hid hx2
        clear hx2
        obtain ⟨zB, hzB⟩ : ∃ x, x = voteIn (l.take k) u.party := ⟨_, rfl⟩
        obtain ⟨yB, hyB⟩ : ∃ x, x = voteYes (l.take k) rate u.party := ⟨_, rfl⟩
        have hnw := fun h => count_new (l := l.take k) (rate := rate) (p := u.party) h
        rw [← hzB, ← hyB] at hnw
        have HYE := Lib.hid (HYE.out rfl)
        have HYE := HYE.out
        rw [← hyB] at HYE
        have HYE := Lib.hid HYE
        have HZ := Lib.hid hzB.symm
        have HW := Lib.hid hyB.symm
        have HNW := Lib.hid hnw
        clear hzB hyB hnw
        cases zB
        · have hyt := HNW.out rfl
          subst hyt
          have HINP := Lib.hid (HIN.out rfl)
          have HYP := Lib.hid (HYE.out dB (rfl))
          clear HIN HYE HSK HNW
          have x1 : b < wr.heap.size := Nat.lt_of_lt_of_le hbb HS.out.below.size
          have x2 : ¬ b = wr.heap.size := by omega
          have x3 := HX.out _ HS.out.below 0 _ rfl
          rw [Nat.add_zero] at x3
          have x4 := HX.out _ HS.out.below 1 _ rfl
          have x5 := HX.out _ HS.out.below 2 _ rfl
          have x6 := HX.out _ HS.out.below 3 _ rfl
          have x7 := HX.out _ HS.out.below 4 _ rfl
          have x8 := HX.out _ HS.out.below 5 _ rfl
          have x9 := HX.out _ HS.out.below 6 _ rfl
          have x10 := HX.out _ HS.out.below 7 _ rfl
          go_wp2_with (at_lookup; refine wpList_bmap_ok rfl _ _ 67 rfl 3 4 int_law Tryd.underlying3 Tryd.underlying67 Tryd.underlying4 (zero_bool _) (HM.out.below (Ext.alloc (Below.refl wr.heap.size wr) (Obj.cells #[.int .i64 u.party, .bool u.an, .string (bs u.aa), .string (bs u.ab), .bool u.kn, .string (bs u.ka), .string (bs u.kb), .bool false] 30))) (by simp [Act.eval]) u.party (by simp [Act.eval]) HP.out false false (by rw [HZ.out]; rfl) HZ.out ?_)
          clear x1 x2 x3 x4 x5 x6 x7 x8 x9 x10
          go_wp2
          have HS2 : Hid (St w [⟨wr.heap.size, #[.int .i64 u.party, .bool u.an, .string (bs u.aa), .string (bs u.ab), .bool u.kn, .string (bs u.ka), .string (bs u.kb), .bool false], 30⟩, ⟨w.heap.size + 1, #[.bool false, .string (bs []), .string (bs []), .bool false, .string (bs []), .string (bs []), .int .i64 0, .int .i64 0], 45⟩, ⟨w.heap.size, #[.bool rn, .string (bs ra), .string (bs rb)], 28⟩] _) := Lib.hid (St.alloc (HS.out) #[.int .i64 u.party, .bool u.an, .string (bs u.aa), .string (bs u.ab), .bool u.kn, .string (bs u.ka), .string (bs u.kb), .bool false] 30 _ (by simp))
          clear HS
          have M_2 := Lib.hid (HM.out.below (Ext.alloc (Below.refl wr.heap.size wr) (Obj.cells #[.int .i64 u.party, .bool u.an, .string (bs u.aa), .string (bs u.ab), .bool u.kn, .string (bs u.ka), .string (bs u.kb), .bool false] 30)))
          clear HM
          refine wp_region_facts 15 [fun _ vv => vv = .map (some (w.heap.size + 1 + 1)), fun _ vv => vv = .pointer (some ⟨wr.heap.size, 0, none⟩), fun _ vv => vv = .int .i64 u.party, fun _ vv => vv = .bool false, fun _ vv => vv = .bool false, fun _ vv => vv = .bool false, fun _ vv => vv = .bool true, fun _ vv => vv = .bool true, fun _ vv => vv = .bool true, fun _ vv => vv = .pointer (some ⟨wr.heap.size, 4, none⟩), fun _ vv => vv = .agg #[.bool u.kn, .string (bs u.ka), .string (bs u.kb)], fun _ vv => vv = .agg #[.bool rn, .string (bs ra), .string (bs rb)], fun _ vv => vv = .int .i64 cc, fun _ vv => vv = .bool dB, fun _ vv => vv = .bool dB] rfl (by kernel_rfl) (by kernel_rfl) (by kernel_rfl) ⟨fun _ _ _ h _ => h, fun _ _ _ h _ => h, fun _ _ _ h _ => h, fun _ _ _ h _ => h, fun _ _ _ h _ => h, fun _ _ _ h _ => h, fun _ _ _ h _ => h, fun _ _ _ h _ => h, fun _ _ _ h _ => h, fun _ _ _ h _ => h, fun _ _ _ h _ => h, fun _ _ _ h _ => h, fun _ _ _ h _ => h, fun _ _ _ h _ => h, fun _ _ _ h _ => h, trivial⟩ ?_ ?_
          refine ⟨?_, ?_, ?_, ?_, ?_, ?_, ?_, ?_, ?_, ?_, ?_, ?_, ?_, ?_, ?_, trivial⟩
          · intro xx af wv hbx hev hev0 hd
            have e5 : af.tmps[5]?.getD undef = .map (some (w.heap.size + 1 + 1)) := hev0 5 rfl
            clear hev hev0 hd
            go_wp2
            exact StepQ.mk _ (Below.refl _ _) rfl
          · intro xx af wv hbx hev hev0 hd
            have e7 : af.tmps[7]?.getD undef = .pointer (some ⟨wr.heap.size, 0, none⟩) := hev0 7 rfl
            clear hev hev0 hd
            go_wp2
            exact StepQ.mk _ (Below.refl _ _) rfl
          · intro xx af wv hbx hev hev0 hd
            have e32 := hev 1 _ 32 rfl rfl
            have d1 : xx 1 = .pointer (some ⟨wr.heap.size, 0, none⟩) := hd ⟨1, .data⟩ (by simp) rfl
            rw [d1] at e32
            clear d1
            clear hev hev0 hd
            have hs1 := Lib.hid (HS2.out.call hbx)
            have y0 := hs1.out.cell 0 rfl 0 rfl
            go_wp2
            exact StepQ.mk _ (Below.refl _ _) rfl
          · intro xx af wv hbx hev hev0 hd
            have e8 : af.tmps[8]?.getD undef = .bool false := hev0 8 rfl
            clear hev hev0 hd
            go_wp2
            exact StepQ.mk _ (Below.refl _ _) rfl
          · intro xx af wv hbx hev hev0 hd
            have e34 := hev 3 _ 34 rfl rfl
            have d3 : xx 3 = .bool false := hd ⟨3, .data⟩ (by simp) rfl
            rw [d3] at e34
            clear d3
            clear hev hev0 hd
            go_wp2
            exact StepQ.mk _ (Below.refl _ _) rfl
          · intro xx af wv hbx hev hev0 hd
            have e35 := hev 4 _ 35 rfl rfl
            have d4 : xx 4 = .bool false := hd ⟨4, .guard⟩ (by simp) rfl
            rw [d4] at e35
            clear d4
            have e9 : af.tmps[9]?.getD undef = .bool false := hev0 9 rfl
            have q35 := getD_bool e35
            clear hev hev0 hd
            go_wp2
            exact StepQ.mk _ (Below.refl _ _) rfl
          · intro xx af wv hbx hev hev0 hd
            have e35 := hev 4 _ 35 rfl rfl
            have d4 : xx 4 = .bool false := hd ⟨4, .guard⟩ (by simp) rfl
            rw [d4] at e35
            clear d4
            have e36 := hev 5 _ 36 rfl rfl
            have d5 : xx 5 = .bool false := hd ⟨5, .data⟩ (by simp) rfl
            rw [d5] at e36
            clear d5
            have q35 := getD_bool e35
            clear hev hev0 hd
            go_wp2
            exact StepQ.mk _ (Below.refl _ _) rfl
          · intro xx af wv hbx hev hev0 hd
            have e35 := hev 4 _ 35 rfl rfl
            have d4 : xx 4 = .bool false := hd ⟨4, .data⟩ (by simp) rfl
            rw [d4] at e35
            clear d4
            have e37 := hev 6 _ 37 rfl rfl
            have d6 : xx 6 = .bool true := hd ⟨6, .data⟩ (by simp) rfl
            rw [d6] at e37
            clear d6
            clear hev hev0 hd
            go_wp2
            exact StepQ.mk _ (Below.refl _ _) rfl
          · intro xx af wv hbx hev hev0 hd
            have e38 := hev 7 _ 38 rfl rfl
            have d7 : xx 7 = .bool true := hd ⟨7, .data⟩ (by simp) rfl
            rw [d7] at e38
            clear d7
            clear hev hev0 hd
            go_wp2
            exact StepQ.mk _ (Below.refl _ _) rfl
          · intro xx af wv hbx hev hev0 hd
            have e39 := hev 8 _ 39 rfl rfl
            have d8 : xx 8 = .bool true := hd ⟨8, .guard⟩ (by simp) rfl
            rw [d8] at e39
            clear d8
            have e7 : af.tmps[7]?.getD undef = .pointer (some ⟨wr.heap.size, 0, none⟩) := hev0 7 rfl
            have q39 := getD_bool e39
            clear hev hev0 hd
            go_wp2
            exact StepQ.mk _ (Below.refl _ _) rfl
          · intro xx af wv hbx hev hev0 hd
            have e39 := hev 8 _ 39 rfl rfl
            have d8 : xx 8 = .bool true := hd ⟨8, .guard⟩ (by simp) rfl
            rw [d8] at e39
            clear d8
            have e40 := hev 9 _ 40 rfl rfl
            have d9 : xx 9 = .pointer (some ⟨wr.heap.size, 4, none⟩) := hd ⟨9, .data⟩ (by simp) rfl
            rw [d9] at e40
            clear d9
            have q39 := getD_bool e39
            clear hev hev0 hd
            have hs1 := Lib.hid (HS2.out.call hbx)
            have y0 := hs1.out.cell 0 rfl 4 rfl
            have y1 := hs1.out.cell 0 rfl 5 rfl
            have y2 := hs1.out.cell 0 rfl 6 rfl
            go_wp2
            exact StepQ.mk _ (Below.refl _ _) rfl
          · intro xx af wv hbx hev hev0 hd
            have e39 := hev 8 _ 39 rfl rfl
            have d8 : xx 8 = .bool true := hd ⟨8, .guard⟩ (by simp) rfl
            rw [d8] at e39
            clear d8
            have e3 : af.tmps[3]?.getD undef = .pointer (some ⟨w.heap.size, 0, none⟩) := hev0 3 rfl
            have q39 := getD_bool e39
            clear hev hev0 hd
            have hs1 := Lib.hid (HS2.out.call hbx)
            have y0 := hs1.out.cell 2 rfl 0 rfl
            have y1 := hs1.out.cell 2 rfl 1 rfl
            have y2 := hs1.out.cell 2 rfl 2 rfl
            go_wp2
            exact StepQ.mk _ (Below.refl _ _) rfl
          · intro xx af wv hbx hev hev0 hd
            have e39 := hev 8 _ 39 rfl rfl
            have d8 : xx 8 = .bool true := hd ⟨8, .chain⟩ (by simp) rfl
            rw [d8] at e39
            clear d8
            have e41 := hev 10 _ 41 rfl rfl
            have d10 : xx 10 = .agg #[.bool u.kn, .string (bs u.ka), .string (bs u.kb)] := hd ⟨10, .data⟩ (by simp) rfl
            rw [d10] at e41
            clear d10
            have e42 := hev 11 _ 42 rfl rfl
            have d11 : xx 11 = .agg #[.bool rn, .string (bs ra), .string (bs rb)] := hd ⟨11, .data⟩ (by simp) rfl
            rw [d11] at e42
            clear d11
            have q39 := getD_bool e39
            clear hev hev0 hd
            go_wp2_with fail
            refine (HA.out _).mono ?_
            rintro e w8 ⟨rfl, hb8⟩
            go_wp2
            exact StepQ.mk _ hb8 rfl
          · intro xx af wv hbx hev hev0 hd
            have e39 := hev 8 _ 39 rfl rfl
            have d8 : xx 8 = .bool true := hd ⟨8, .guard⟩ (by simp) rfl
            rw [d8] at e39
            clear d8
            have e43 := hev 12 _ 43 rfl rfl
            have d12 : xx 12 = .int .i64 cc := hd ⟨12, .data⟩ (by simp) rfl
            rw [d12] at e43
            clear d12
            have q39 := getD_bool e39
            clear hev hev0 hd
            go_wp2
            exact StepQ.mk _ (Below.refl _ _) rfl
          · intro xx af wv hbx hev hev0 hd
            have e39 := hev 8 _ 39 rfl rfl
            have d8 : xx 8 = .bool true := hd ⟨8, .data⟩ (by simp) rfl
            rw [d8] at e39
            clear d8
            have e44 := hev 13 _ 44 rfl rfl
            have d13 : xx 13 = .bool dB := hd ⟨13, .data⟩ (by simp) rfl
            rw [d13] at e44
            clear d13
            clear hev hev0 hd
            go_wp2
            exact StepQ.mk _ (Below.refl _ _) rfl
          intro xx w4 hb9 hv
          have hv0 : xx 0 = .map (some (w.heap.size + 1 + 1)) := hv 0 (by decide)
          have hv1 : xx 1 = .pointer (some ⟨wr.heap.size, 0, none⟩) := hv 1 (by decide)
          have hv2 : xx 2 = .int .i64 u.party := hv 2 (by decide)
          have hv3 : xx 3 = .bool false := hv 3 (by decide)
          have hv4 : xx 4 = .bool false := hv 4 (by decide)
          have hv5 : xx 5 = .bool false := hv 5 (by decide)
          have hv6 : xx 6 = .bool true := hv 6 (by decide)
          have hv7 : xx 7 = .bool true := hv 7 (by decide)
          have hv8 : xx 8 = .bool true := hv 8 (by decide)
          have hv9 : xx 9 = .pointer (some ⟨wr.heap.size, 4, none⟩) := hv 9 (by decide)
          have hv10 : xx 10 = .agg #[.bool u.kn, .string (bs u.ka), .string (bs u.kb)] := hv 10 (by decide)
          have hv11 : xx 11 = .agg #[.bool rn, .string (bs ra), .string (bs rb)] := hv 11 (by decide)
          have hv12 : xx 12 = .int .i64 cc := hv 12 (by decide)
          have hv13 : xx 13 = .bool dB := hv 13 (by decide)
          have hv14 : xx 14 = .bool dB := hv 14 (by decide)
          clear hv
          simp only [List.take, List.drop, fillA, Act.put]
          simp only [hv0, hv1, hv2, hv3, hv4, hv5, hv6, hv7, hv8, hv9, hv10, hv11, hv12, hv13, hv14]
          clear hv0 hv1 hv2 hv3 hv4 hv5 hv6 hv7 hv8 hv9 hv10 hv11 hv12 hv13 hv14
          have HS4 := Lib.hid (HS2.out.call hb9)
          have M_4 := Lib.hid (M_2.out.below hb9)
          clear M_2
          clear hb9 HS2
          go_wp2_with (at_mapUpdate; refine wpList_bmap_put rfl _ _ _ 67 rfl 3 4 int_law Tryd.underlying3 Tryd.underlying67 Tryd.underlying4 M_4.out (by unfold maxLen; omega) (by simp [Act.eval]) u.party (by simp [Act.eval]) HP.out dB (by simp [Act.eval]) ?_)
          intro w9 hown9 hg9
          have HS9 := Lib.hid (HS4.out.turnedMap M_4.out hg9 (by omega))
          have HM9 := Lib.hid (hown9.congr HINP.out (fun q _ => HYP.out q))
          clear hown9 hg9 HS4 M_4
          go_wp2
          go_roundw
          case rel => exact ⟨k + 1, n + 1, by omega, by omega, by go_num, HM9.out, HS9.out.sub (by simp)⟩
          case measure => simp [intOf]; omega
        · cases yB
          · have HINP := Lib.hid (HIN.out rfl)
            have HYP := Lib.hid (HYE.out false (rfl))
            clear HIN HYE HSK HNW
            have x1 : b < wr.heap.size := Nat.lt_of_lt_of_le hbb HS.out.below.size
            have x2 : ¬ b = wr.heap.size := by omega
            have x3 := HX.out _ HS.out.below 0 _ rfl
            rw [Nat.add_zero] at x3
            have x4 := HX.out _ HS.out.below 1 _ rfl
            have x5 := HX.out _ HS.out.below 2 _ rfl
            have x6 := HX.out _ HS.out.below 3 _ rfl
            have x7 := HX.out _ HS.out.below 4 _ rfl
            have x8 := HX.out _ HS.out.below 5 _ rfl
            have x9 := HX.out _ HS.out.below 6 _ rfl
            have x10 := HX.out _ HS.out.below 7 _ rfl
            go_wp2_with (at_lookup; refine wpList_bmap_ok rfl _ _ 67 rfl 3 4 int_law Tryd.underlying3 Tryd.underlying67 Tryd.underlying4 (zero_bool _) (HM.out.below (Ext.alloc (Below.refl wr.heap.size wr) (Obj.cells #[.int .i64 u.party, .bool u.an, .string (bs u.aa), .string (bs u.ab), .bool u.kn, .string (bs u.ka), .string (bs u.kb), .bool false] 30))) (by simp [Act.eval]) u.party (by simp [Act.eval]) HP.out false true (by rw [HZ.out, HW.out]; rfl) HZ.out ?_)
            clear x1 x2 x3 x4 x5 x6 x7 x8 x9 x10
            go_wp2
            have HS2 : Hid (St w [⟨wr.heap.size, #[.int .i64 u.party, .bool u.an, .string (bs u.aa), .string (bs u.ab), .bool u.kn, .string (bs u.ka), .string (bs u.kb), .bool false], 30⟩, ⟨w.heap.size + 1, #[.bool false, .string (bs []), .string (bs []), .bool false, .string (bs []), .string (bs []), .int .i64 0, .int .i64 0], 45⟩, ⟨w.heap.size, #[.bool rn, .string (bs ra), .string (bs rb)], 28⟩] _) := Lib.hid (St.alloc (HS.out) #[.int .i64 u.party, .bool u.an, .string (bs u.aa), .string (bs u.ab), .bool u.kn, .string (bs u.ka), .string (bs u.kb), .bool false] 30 _ (by simp))
            clear HS
            have M_2 := Lib.hid (HM.out.below (Ext.alloc (Below.refl wr.heap.size wr) (Obj.cells #[.int .i64 u.party, .bool u.an, .string (bs u.aa), .string (bs u.ab), .bool u.kn, .string (bs u.ka), .string (bs u.kb), .bool false] 30)))
            clear HM
            refine wp_region_facts 15 [fun _ vv => vv = .map (some (w.heap.size + 1 + 1)), fun _ vv => vv = .pointer (some ⟨wr.heap.size, 0, none⟩), fun _ vv => vv = .int .i64 u.party, fun _ vv => vv = .bool false, fun _ vv => vv = .bool false, fun _ vv => vv = .bool true, fun _ vv => vv = .bool false, fun _ vv => vv = .bool false, fun _ vv => vv = .bool false, fun _ vv => vv = undef, fun _ vv => vv = undef, fun _ vv => vv = undef, fun _ vv => vv = undef, fun _ vv => vv = undef, fun _ vv => vv = .bool false] rfl (by kernel_rfl) (by kernel_rfl) (by kernel_rfl) ⟨fun _ _ _ h _ => h, fun _ _ _ h _ => h, fun _ _ _ h _ => h, fun _ _ _ h _ => h, fun _ _ _ h _ => h, fun _ _ _ h _ => h, fun _ _ _ h _ => h, fun _ _ _ h _ => h, fun _ _ _ h _ => h, fun _ _ _ h _ => h, fun _ _ _ h _ => h, fun _ _ _ h _ => h, fun _ _ _ h _ => h, fun _ _ _ h _ => h, fun _ _ _ h _ => h, trivial⟩ ?_ ?_
            refine ⟨?_, ?_, ?_, ?_, ?_, ?_, ?_, ?_, ?_, ?_, ?_, ?_, ?_, ?_, ?_, trivial⟩
            · intro xx af wv hbx hev hev0 hd
              have e5 : af.tmps[5]?.getD undef = .map (some (w.heap.size + 1 + 1)) := hev0 5 rfl
              clear hev hev0 hd
              go_wp2
              exact StepQ.mk _ (Below.refl _ _) rfl
            · intro xx af wv hbx hev hev0 hd
              have e7 : af.tmps[7]?.getD undef = .pointer (some ⟨wr.heap.size, 0, none⟩) := hev0 7 rfl
              clear hev hev0 hd
              go_wp2
              exact StepQ.mk _ (Below.refl _ _) rfl
            · intro xx af wv hbx hev hev0 hd
              have e32 := hev 1 _ 32 rfl rfl
              have d1 : xx 1 = .pointer (some ⟨wr.heap.size, 0, none⟩) := hd ⟨1, .data⟩ (by simp) rfl
              rw [d1] at e32
              clear d1
              clear hev hev0 hd
              have hs1 := Lib.hid (HS2.out.call hbx)
              have y0 := hs1.out.cell 0 rfl 0 rfl
              go_wp2
              exact StepQ.mk _ (Below.refl _ _) rfl
            · intro xx af wv hbx hev hev0 hd
              have e8 : af.tmps[8]?.getD undef = .bool false := hev0 8 rfl
              clear hev hev0 hd
              go_wp2
              exact StepQ.mk _ (Below.refl _ _) rfl
            · intro xx af wv hbx hev hev0 hd
              have e34 := hev 3 _ 34 rfl rfl
              have d3 : xx 3 = .bool false := hd ⟨3, .data⟩ (by simp) rfl
              rw [d3] at e34
              clear d3
              clear hev hev0 hd
              go_wp2
              exact StepQ.mk _ (Below.refl _ _) rfl
            · intro xx af wv hbx hev hev0 hd
              have e35 := hev 4 _ 35 rfl rfl
              have d4 : xx 4 = .bool false := hd ⟨4, .guard⟩ (by simp) rfl
              rw [d4] at e35
              clear d4
              have e9 : af.tmps[9]?.getD undef = .bool true := hev0 9 rfl
              have q35 := getD_bool e35
              clear hev hev0 hd
              go_wp2
              exact StepQ.mk _ (Below.refl _ _) rfl
            · intro xx af wv hbx hev hev0 hd
              have e35 := hev 4 _ 35 rfl rfl
              have d4 : xx 4 = .bool false := hd ⟨4, .guard⟩ (by simp) rfl
              rw [d4] at e35
              clear d4
              have e36 := hev 5 _ 36 rfl rfl
              have d5 : xx 5 = .bool true := hd ⟨5, .data⟩ (by simp) rfl
              rw [d5] at e36
              clear d5
              have q35 := getD_bool e35
              clear hev hev0 hd
              go_wp2
              exact StepQ.mk _ (Below.refl _ _) rfl
            · intro xx af wv hbx hev hev0 hd
              have e35 := hev 4 _ 35 rfl rfl
              have d4 : xx 4 = .bool false := hd ⟨4, .data⟩ (by simp) rfl
              rw [d4] at e35
              clear d4
              have e37 := hev 6 _ 37 rfl rfl
              have d6 : xx 6 = .bool false := hd ⟨6, .data⟩ (by simp) rfl
              rw [d6] at e37
              clear d6
              clear hev hev0 hd
              go_wp2
              exact StepQ.mk _ (Below.refl _ _) rfl
            · intro xx af wv hbx hev hev0 hd
              have e38 := hev 7 _ 38 rfl rfl
              have d7 : xx 7 = .bool false := hd ⟨7, .data⟩ (by simp) rfl
              rw [d7] at e38
              clear d7
              clear hev hev0 hd
              go_wp2
              exact StepQ.mk _ (Below.refl _ _) rfl
            · intro xx af wv hbx hev hev0 hd
              have e39 := hev 8 _ 39 rfl rfl
              have d8 : xx 8 = .bool false := hd ⟨8, .guard⟩ (by simp) rfl
              rw [d8] at e39
              clear d8
              have q39 := getD_bool e39
              clear hev hev0 hd
              go_wp2
              exact StepQ.mk _ (Below.refl _ _) rfl
            · intro xx af wv hbx hev hev0 hd
              have e39 := hev 8 _ 39 rfl rfl
              have d8 : xx 8 = .bool false := hd ⟨8, .guard⟩ (by simp) rfl
              rw [d8] at e39
              clear d8
              have q39 := getD_bool e39
              clear hev hev0 hd
              go_wp2
              exact StepQ.mk _ (Below.refl _ _) rfl
            · intro xx af wv hbx hev hev0 hd
              have e39 := hev 8 _ 39 rfl rfl
              have d8 : xx 8 = .bool false := hd ⟨8, .guard⟩ (by simp) rfl
              rw [d8] at e39
              clear d8
              have q39 := getD_bool e39
              clear hev hev0 hd
              go_wp2
              exact StepQ.mk _ (Below.refl _ _) rfl
            · intro xx af wv hbx hev hev0 hd
              have e39 := hev 8 _ 39 rfl rfl
              have d8 : xx 8 = .bool false := hd ⟨8, .chain⟩ (by simp) rfl
              rw [d8] at e39
              clear d8
              have q39 := getD_bool e39
              clear hev hev0 hd
              go_wp2
              exact StepQ.mk _ (Below.refl _ _) rfl
            · intro xx af wv hbx hev hev0 hd
              have e39 := hev 8 _ 39 rfl rfl
              have d8 : xx 8 = .bool false := hd ⟨8, .guard⟩ (by simp) rfl
              rw [d8] at e39
              clear d8
              have q39 := getD_bool e39
              clear hev hev0 hd
              go_wp2
              exact StepQ.mk _ (Below.refl _ _) rfl
            · intro xx af wv hbx hev hev0 hd
              have e39 := hev 8 _ 39 rfl rfl
              have d8 : xx 8 = .bool false := hd ⟨8, .data⟩ (by simp) rfl
              rw [d8] at e39
              clear d8
              have e44 := hev 13 _ 44 rfl rfl
              have d13 : xx 13 = undef := hd ⟨13, .data⟩ (by simp) rfl
              rw [d13] at e44
              clear d13
              clear hev hev0 hd
              go_wp2
              exact StepQ.mk _ (Below.refl _ _) rfl
            intro xx w4 hb9 hv
            have hv0 : xx 0 = .map (some (w.heap.size + 1 + 1)) := hv 0 (by decide)
            have hv1 : xx 1 = .pointer (some ⟨wr.heap.size, 0, none⟩) := hv 1 (by decide)
            have hv2 : xx 2 = .int .i64 u.party := hv 2 (by decide)
            have hv3 : xx 3 = .bool false := hv 3 (by decide)
            have hv4 : xx 4 = .bool false := hv 4 (by decide)
            have hv5 : xx 5 = .bool true := hv 5 (by decide)
            have hv6 : xx 6 = .bool false := hv 6 (by decide)
            have hv7 : xx 7 = .bool false := hv 7 (by decide)
            have hv8 : xx 8 = .bool false := hv 8 (by decide)
            have hv9 : xx 9 = undef := hv 9 (by decide)
            have hv10 : xx 10 = undef := hv 10 (by decide)
            have hv11 : xx 11 = undef := hv 11 (by decide)
            have hv12 : xx 12 = undef := hv 12 (by decide)
            have hv13 : xx 13 = undef := hv 13 (by decide)
            have hv14 : xx 14 = .bool false := hv 14 (by decide)
            clear hv
            simp only [List.take, List.drop, fillA, Act.put]
            simp only [hv0, hv1, hv2, hv3, hv4, hv5, hv6, hv7, hv8, hv9, hv10, hv11, hv12, hv13, hv14]
            clear hv0 hv1 hv2 hv3 hv4 hv5 hv6 hv7 hv8 hv9 hv10 hv11 hv12 hv13 hv14
            have HS4 := Lib.hid (HS2.out.call hb9)
            have M_4 := Lib.hid (M_2.out.below hb9)
            clear M_2
            clear hb9 HS2
            go_wp2_with (at_mapUpdate; refine wpList_bmap_put rfl _ _ _ 67 rfl 3 4 int_law Tryd.underlying3 Tryd.underlying67 Tryd.underlying4 M_4.out (by unfold maxLen; omega) (by simp [Act.eval]) u.party (by simp [Act.eval]) HP.out false (by simp [Act.eval]) ?_)
            intro w9 hown9 hg9
            have HS9 := Lib.hid (HS4.out.turnedMap M_4.out hg9 (by omega))
            have HM9 := Lib.hid (hown9.congr HINP.out (fun q _ => HYP.out q))
            clear hown9 hg9 HS4 M_4
            go_wp2
            go_roundw
            case rel => exact ⟨k + 1, n + 1, by omega, by omega, by go_num, HM9.out, HS9.out.sub (by simp)⟩
            case measure => simp [intOf]; omega
          · have HINP := Lib.hid (HIN.out rfl)
            have HYP := Lib.hid (HYE.out dB (rfl))
            clear HIN HYE HSK HNW
            have x1 : b < wr.heap.size := Nat.lt_of_lt_of_le hbb HS.out.below.size
            have x2 : ¬ b = wr.heap.size := by omega
            have x3 := HX.out _ HS.out.below 0 _ rfl
            rw [Nat.add_zero] at x3
            have x4 := HX.out _ HS.out.below 1 _ rfl
            have x5 := HX.out _ HS.out.below 2 _ rfl
            have x6 := HX.out _ HS.out.below 3 _ rfl
            have x7 := HX.out _ HS.out.below 4 _ rfl
            have x8 := HX.out _ HS.out.below 5 _ rfl
            have x9 := HX.out _ HS.out.below 6 _ rfl
            have x10 := HX.out _ HS.out.below 7 _ rfl
            go_wp2_with (at_lookup; refine wpList_bmap_ok rfl _ _ 67 rfl 3 4 int_law Tryd.underlying3 Tryd.underlying67 Tryd.underlying4 (zero_bool _) (HM.out.below (Ext.alloc (Below.refl wr.heap.size wr) (Obj.cells #[.int .i64 u.party, .bool u.an, .string (bs u.aa), .string (bs u.ab), .bool u.kn, .string (bs u.ka), .string (bs u.kb), .bool false] 30))) (by simp [Act.eval]) u.party (by simp [Act.eval]) HP.out true true (by rw [HZ.out, HW.out]; rfl) HZ.out ?_)
            clear x1 x2 x3 x4 x5 x6 x7 x8 x9 x10
            go_wp2
            have HS2 : Hid (St w [⟨wr.heap.size, #[.int .i64 u.party, .bool u.an, .string (bs u.aa), .string (bs u.ab), .bool u.kn, .string (bs u.ka), .string (bs u.kb), .bool false], 30⟩, ⟨w.heap.size + 1, #[.bool false, .string (bs []), .string (bs []), .bool false, .string (bs []), .string (bs []), .int .i64 0, .int .i64 0], 45⟩, ⟨w.heap.size, #[.bool rn, .string (bs ra), .string (bs rb)], 28⟩] _) := Lib.hid (St.alloc (HS.out) #[.int .i64 u.party, .bool u.an, .string (bs u.aa), .string (bs u.ab), .bool u.kn, .string (bs u.ka), .string (bs u.kb), .bool false] 30 _ (by simp))
            clear HS
            have M_2 := Lib.hid (HM.out.below (Ext.alloc (Below.refl wr.heap.size wr) (Obj.cells #[.int .i64 u.party, .bool u.an, .string (bs u.aa), .string (bs u.ab), .bool u.kn, .string (bs u.ka), .string (bs u.kb), .bool false] 30)))
            clear HM
            refine wp_region_facts 15 [fun _ vv => vv = .map (some (w.heap.size + 1 + 1)), fun _ vv => vv = .pointer (some ⟨wr.heap.size, 0, none⟩), fun _ vv => vv = .int .i64 u.party, fun _ vv => vv = .bool true, fun _ vv => vv = .bool true, fun _ vv => vv = undef, fun _ vv => vv = undef, fun _ vv => vv = .bool true, fun _ vv => vv = .bool true, fun _ vv => vv = .pointer (some ⟨wr.heap.size, 4, none⟩), fun _ vv => vv = .agg #[.bool u.kn, .string (bs u.ka), .string (bs u.kb)], fun _ vv => vv = .agg #[.bool rn, .string (bs ra), .string (bs rb)], fun _ vv => vv = .int .i64 cc, fun _ vv => vv = .bool dB, fun _ vv => vv = .bool dB] rfl (by kernel_rfl) (by kernel_rfl) (by kernel_rfl) ⟨fun _ _ _ h _ => h, fun _ _ _ h _ => h, fun _ _ _ h _ => h, fun _ _ _ h _ => h, fun _ _ _ h _ => h, fun _ _ _ h _ => h, fun _ _ _ h _ => h, fun _ _ _ h _ => h, fun _ _ _ h _ => h, fun _ _ _ h _ => h, fun _ _ _ h _ => h, fun _ _ _ h _ => h, fun _ _ _ h _ => h, fun _ _ _ h _ => h, fun _ _ _ h _ => h, trivial⟩ ?_ ?_
            refine ⟨?_, ?_, ?_, ?_, ?_, ?_, ?_, ?_, ?_, ?_, ?_, ?_, ?_, ?_, ?_, trivial⟩
            · intro xx af wv hbx hev hev0 hd
              have e5 : af.tmps[5]?.getD undef = .map (some (w.heap.size + 1 + 1)) := hev0 5 rfl
              clear hev hev0 hd
              go_wp2
              exact StepQ.mk _ (Below.refl _ _) rfl
            · intro xx af wv hbx hev hev0 hd
              have e7 : af.tmps[7]?.getD undef = .pointer (some ⟨wr.heap.size, 0, none⟩) := hev0 7 rfl
              clear hev hev0 hd
              go_wp2
              exact StepQ.mk _ (Below.refl _ _) rfl
            · intro xx af wv hbx hev hev0 hd
              have e32 := hev 1 _ 32 rfl rfl
              have d1 : xx 1 = .pointer (some ⟨wr.heap.size, 0, none⟩) := hd ⟨1, .data⟩ (by simp) rfl
              rw [d1] at e32
              clear d1
              clear hev hev0 hd
              have hs1 := Lib.hid (HS2.out.call hbx)
              have y0 := hs1.out.cell 0 rfl 0 rfl
              go_wp2
              exact StepQ.mk _ (Below.refl _ _) rfl
            · intro xx af wv hbx hev hev0 hd
              have e8 : af.tmps[8]?.getD undef = .bool true := hev0 8 rfl
              clear hev hev0 hd
              go_wp2
              exact StepQ.mk _ (Below.refl _ _) rfl
            · intro xx af wv hbx hev hev0 hd
              have e34 := hev 3 _ 34 rfl rfl
              have d3 : xx 3 = .bool true := hd ⟨3, .data⟩ (by simp) rfl
              rw [d3] at e34
              clear d3
              clear hev hev0 hd
              go_wp2
              exact StepQ.mk _ (Below.refl _ _) rfl
            · intro xx af wv hbx hev hev0 hd
              have e35 := hev 4 _ 35 rfl rfl
              have d4 : xx 4 = .bool true := hd ⟨4, .guard⟩ (by simp) rfl
              rw [d4] at e35
              clear d4
              have q35 := getD_bool e35
              clear hev hev0 hd
              go_wp2
              exact StepQ.mk _ (Below.refl _ _) rfl
            · intro xx af wv hbx hev hev0 hd
              have e35 := hev 4 _ 35 rfl rfl
              have d4 : xx 4 = .bool true := hd ⟨4, .guard⟩ (by simp) rfl
              rw [d4] at e35
              clear d4
              have q35 := getD_bool e35
              clear hev hev0 hd
              go_wp2
              exact StepQ.mk _ (Below.refl _ _) rfl
            · intro xx af wv hbx hev hev0 hd
              have e35 := hev 4 _ 35 rfl rfl
              have d4 : xx 4 = .bool true := hd ⟨4, .data⟩ (by simp) rfl
              rw [d4] at e35
              clear d4
              have e37 := hev 6 _ 37 rfl rfl
              have d6 : xx 6 = undef := hd ⟨6, .data⟩ (by simp) rfl
              rw [d6] at e37
              clear d6
              clear hev hev0 hd
              go_wp2
              exact StepQ.mk _ (Below.refl _ _) rfl
            · intro xx af wv hbx hev hev0 hd
              have e38 := hev 7 _ 38 rfl rfl
              have d7 : xx 7 = .bool true := hd ⟨7, .data⟩ (by simp) rfl
              rw [d7] at e38
              clear d7
              clear hev hev0 hd
              go_wp2
              exact StepQ.mk _ (Below.refl _ _) rfl
            · intro xx af wv hbx hev hev0 hd
              have e39 := hev 8 _ 39 rfl rfl
              have d8 : xx 8 = .bool true := hd ⟨8, .guard⟩ (by simp) rfl
              rw [d8] at e39
              clear d8
              have e7 : af.tmps[7]?.getD undef = .pointer (some ⟨wr.heap.size, 0, none⟩) := hev0 7 rfl
              have q39 := getD_bool e39
              clear hev hev0 hd
              go_wp2
              exact StepQ.mk _ (Below.refl _ _) rfl
            · intro xx af wv hbx hev hev0 hd
              have e39 := hev 8 _ 39 rfl rfl
              have d8 : xx 8 = .bool true := hd ⟨8, .guard⟩ (by simp) rfl
              rw [d8] at e39
              clear d8
              have e40 := hev 9 _ 40 rfl rfl
              have d9 : xx 9 = .pointer (some ⟨wr.heap.size, 4, none⟩) := hd ⟨9, .data⟩ (by simp) rfl
              rw [d9] at e40
              clear d9
              have q39 := getD_bool e39
              clear hev hev0 hd
              have hs1 := Lib.hid (HS2.out.call hbx)
              have y0 := hs1.out.cell 0 rfl 4 rfl
              have y1 := hs1.out.cell 0 rfl 5 rfl
              have y2 := hs1.out.cell 0 rfl 6 rfl
              go_wp2
              exact StepQ.mk _ (Below.refl _ _) rfl
            · intro xx af wv hbx hev hev0 hd
              have e39 := hev 8 _ 39 rfl rfl
              have d8 : xx 8 = .bool true := hd ⟨8, .guard⟩ (by simp) rfl
              rw [d8] at e39
              clear d8
              have e3 : af.tmps[3]?.getD undef = .pointer (some ⟨w.heap.size, 0, none⟩) := hev0 3 rfl
              have q39 := getD_bool e39
              clear hev hev0 hd
              have hs1 := Lib.hid (HS2.out.call hbx)
              have y0 := hs1.out.cell 2 rfl 0 rfl
              have y1 := hs1.out.cell 2 rfl 1 rfl
              have y2 := hs1.out.cell 2 rfl 2 rfl
              go_wp2
              exact StepQ.mk _ (Below.refl _ _) rfl
            · intro xx af wv hbx hev hev0 hd
              have e39 := hev 8 _ 39 rfl rfl
              have d8 : xx 8 = .bool true := hd ⟨8, .chain⟩ (by simp) rfl
              rw [d8] at e39
              clear d8
              have e41 := hev 10 _ 41 rfl rfl
              have d10 : xx 10 = .agg #[.bool u.kn, .string (bs u.ka), .string (bs u.kb)] := hd ⟨10, .data⟩ (by simp) rfl
              rw [d10] at e41
              clear d10
              have e42 := hev 11 _ 42 rfl rfl
              have d11 : xx 11 = .agg #[.bool rn, .string (bs ra), .string (bs rb)] := hd ⟨11, .data⟩ (by simp) rfl
              rw [d11] at e42
              clear d11
              have q39 := getD_bool e39
              clear hev hev0 hd
              go_wp2_with fail
              refine (HA.out _).mono ?_
              rintro e w8 ⟨rfl, hb8⟩
              go_wp2
              exact StepQ.mk _ hb8 rfl
            · intro xx af wv hbx hev hev0 hd
              have e39 := hev 8 _ 39 rfl rfl
              have d8 : xx 8 = .bool true := hd ⟨8, .guard⟩ (by simp) rfl
              rw [d8] at e39
              clear d8
              have e43 := hev 12 _ 43 rfl rfl
              have d12 : xx 12 = .int .i64 cc := hd ⟨12, .data⟩ (by simp) rfl
              rw [d12] at e43
              clear d12
              have q39 := getD_bool e39
              clear hev hev0 hd
              go_wp2
              exact StepQ.mk _ (Below.refl _ _) rfl
            · intro xx af wv hbx hev hev0 hd
              have e39 := hev 8 _ 39 rfl rfl
              have d8 : xx 8 = .bool true := hd ⟨8, .data⟩ (by simp) rfl
              rw [d8] at e39
              clear d8
              have e44 := hev 13 _ 44 rfl rfl
              have d13 : xx 13 = .bool dB := hd ⟨13, .data⟩ (by simp) rfl
              rw [d13] at e44
              clear d13
              clear hev hev0 hd
              go_wp2
              exact StepQ.mk _ (Below.refl _ _) rfl
            intro xx w4 hb9 hv
            have hv0 : xx 0 = .map (some (w.heap.size + 1 + 1)) := hv 0 (by decide)
            have hv1 : xx 1 = .pointer (some ⟨wr.heap.size, 0, none⟩) := hv 1 (by decide)
            have hv2 : xx 2 = .int .i64 u.party := hv 2 (by decide)
            have hv3 : xx 3 = .bool true := hv 3 (by decide)
            have hv4 : xx 4 = .bool true := hv 4 (by decide)
            have hv5 : xx 5 = undef := hv 5 (by decide)
            have hv6 : xx 6 = undef := hv 6 (by decide)
            have hv7 : xx 7 = .bool true := hv 7 (by decide)
            have hv8 : xx 8 = .bool true := hv 8 (by decide)
            have hv9 : xx 9 = .pointer (some ⟨wr.heap.size, 4, none⟩) := hv 9 (by decide)
            have hv10 : xx 10 = .agg #[.bool u.kn, .string (bs u.ka), .string (bs u.kb)] := hv 10 (by decide)
            have hv11 : xx 11 = .agg #[.bool rn, .string (bs ra), .string (bs rb)] := hv 11 (by decide)
            have hv12 : xx 12 = .int .i64 cc := hv 12 (by decide)
            have hv13 : xx 13 = .bool dB := hv 13 (by decide)
            have hv14 : xx 14 = .bool dB := hv 14 (by decide)
            clear hv
            simp only [List.take, List.drop, fillA, Act.put]
            simp only [hv0, hv1, hv2, hv3, hv4, hv5, hv6, hv7, hv8, hv9, hv10, hv11, hv12, hv13, hv14]
            clear hv0 hv1 hv2 hv3 hv4 hv5 hv6 hv7 hv8 hv9 hv10 hv11 hv12 hv13 hv14
            have HS4 := Lib.hid (HS2.out.call hb9)
            have M_4 := Lib.hid (M_2.out.below hb9)
            clear M_2
            clear hb9 HS2
            go_wp2_with (at_mapUpdate; refine wpList_bmap_put rfl _ _ _ 67 rfl 3 4 int_law Tryd.underlying3 Tryd.underlying67 Tryd.underlying4 M_4.out (by unfold maxLen; omega) (by simp [Act.eval]) u.party (by simp [Act.eval]) HP.out dB (by simp [Act.eval]) ?_)
            intro w9 hown9 hg9
            have HS9 := Lib.hid (HS4.out.turnedMap M_4.out hg9 (by omega))
            have HM9 := Lib.hid (hown9.congr HINP.out (fun q _ => HYP.out q))
            clear hown9 hg9 HS4 M_4
            go_wp2
            go_roundw
            case rel => exact ⟨k + 1, n + 1, by omega, by omega, by go_num, HM9.out, HS9.out.sub (by simp)⟩
            case measure => simp [intOf]; omega
      · have HSK2 := Lib.hid (HSK.out rfl)
        clear HSK HIN HYE
        have hx2 := HX.out
        unfold Vtr.enc at hx2
        rw [HXE.out] at hx2
        have HX := Lib.hid hx2
        clear hx2
        have x1 : b < wr.heap.size := Nat.lt_of_lt_of_le hbb HS.out.below.size
        have x2 : ¬ b = wr.heap.size := by omega
        have x3 := HX.out _ HS.out.below 0 _ rfl
        rw [Nat.add_zero] at x3
        have x4 := HX.out _ HS.out.below 1 _ rfl
        have x5 := HX.out _ HS.out.below 2 _ rfl
        have x6 := HX.out _ HS.out.below 3 _ rfl
        have x7 := HX.out _ HS.out.below 4 _ rfl
        have x8 := HX.out _ HS.out.below 5 _ rfl
        have x9 := HX.out _ HS.out.below 6 _ rfl
        have x10 := HX.out _ HS.out.below 7 _ rfl
        go_wp2
        have HS2 : Hid (St w [⟨wr.heap.size, #[.int .i64 u.party, .bool u.an, .string (bs u.aa), .string (bs u.ab), .bool u.kn, .string (bs u.ka), .string (bs u.kb), .bool true], 30⟩, ⟨w.heap.size + 1, #[.bool false, .string (bs []), .string (bs []), .bool false, .string (bs []), .string (bs []), .int .i64 0, .int .i64 0], 45⟩, ⟨w.heap.size, #[.bool rn, .string (bs ra), .string (bs rb)], 28⟩] _) := Lib.hid (St.alloc (HS.out) #[.int .i64 u.party, .bool u.an, .string (bs u.aa), .string (bs u.ab), .bool u.kn, .string (bs u.ka), .string (bs u.kb), .bool true] 30 _ (by simp))
        go_roundw
        case rel => exact ⟨k + 1, n, by omega, by omega, by go_num, BMap.congr (HM.out.below (Ext.alloc (Below.refl wr.heap.size wr) (Obj.cells #[.int .i64 u.party, .bool u.an, .string (bs u.aa), .string (bs u.ab), .bool u.kn, .string (bs u.ka), .string (bs u.kb), .bool true] 30))) HSK2.out.1 (fun q _ => HSK2.out.2 q), HS2.out.sub (by simp)⟩
        case measure => simp [intOf]; omega
    · obtain rfl : k = l.length := by omega
      rw [List.take_length] at HM
      obtain ⟨wo, hwo⟩ : ∃ wo : World, wo = wr := ⟨_, rfl⟩
      subst hwo
      have hwo := HS.out.below.size
      have hsz := HS.out.lt 0 rfl
      have hmb := HM.out.lt
      go_wp2
      go_loopw [49] (fun i wr => ∃ k : Nat, k ≤ l.length ∧ i = .int .i64 k ∧ Hid (BMap Tryd.prog 3 4 wr (w.heap.size + 1 + 1) n (voteIn l) (voteYes l rate)) ∧ Hid (St w [⟨wo.heap.size, #[.bool (negB (amountV (l.take k))), .string (bs (numB (amountV (l.take k)))), .string (bs (denomB (amountV (l.take k)))), .bool (negB (forOf (voteYes l rate) (l.take k))), .string (bs (numB (forOf (voteYes l rate) (l.take k)))), .string (bs (denomB (forOf (voteYes l rate) (l.take k)))), .int .i64 0, .int .i64 0], 45⟩, ⟨w.heap.size + 1, #[.bool false, .string (bs []), .string (bs []), .bool false, .string (bs []), .string (bs []), .int .i64 0, .int .i64 0], 45⟩, ⟨w.heap.size, #[.bool rn, .string (bs ra), .string (bs rb)], 28⟩] wr)) (fun i _ => l.length - (intOf i).toNat)
      case atStart => exact ⟨0, Nat.zero_le _, rfl, (HM.out.below (Ext.alloc (Below.refl wo.heap.size wo) (Obj.cells #[.bool false, .string (bs []), .string (bs []), .bool false, .string (bs []), .string (bs []), .int .i64 0, .int .i64 0] 45))), by show St _ _ _; rw [show amountV (l.take 0) = 0 from rfl, show forOf (voteYes l rate) (l.take 0) = 0 from rfl, enc0.1, enc0.2.1, enc0.2.2]; exact (St.alloc (HS.out) #[.bool false, .string (bs []), .string (bs []), .bool false, .string (bs []), .string (bs []), .int .i64 0, .int .i64 0] 45 _ (by simp))⟩
      case round =>
        clear HM HS
        obtain ⟨k, hk2, rfl, HM, HS⟩ := hrel
        by_cases hlt : k < l.length
        · obtain ⟨b, o, u, rfl, hbb, hq, hx⟩ := H.out.at_ hlt
          have ho := HOK.out u (List.mem_of_getElem? hq)
          have hpw := HPAR.out u (List.mem_of_getElem? hq)
          have hsk := fun hex => amount_skip hq hex (voteYes l rate)
          have hin := fun hex => voteIn_at hq hex
          have had := fun hex => amount_add hq hex
          have hfa := fun hex hf => for_add (f := voteYes l rate) hq hex hf
          have hfn := fun hf => for_not (f := voteYes l rate) hq hf
          have s1 := amountV_sized (by decide) (HOK.out.take k)
          have s2 := forOf_sized (by decide) (voteYes l rate) (HOK.out.take k)
          rw [List.length_take, Nat.min_eq_left hk2] at s1 s2
          have s3 : k * (100000 + 1) + 1 ≤ 17179869184 := by omega
          have h1 := fun W => rational_Add (negB (amountV (l.take k))) (numB (amountV (l.take k))) (denomB (amountV (l.take k))) u.an u.aa u.ab W (Nat.le_trans s1.num s3) (Nat.le_trans s1.denom s3) (by have := ho.1; omega) (by have := ho.2.1; omega)
          have h2 := fun W => rational_Add (negB (forOf (voteYes l rate) (l.take k))) (numB (forOf (voteYes l rate) (l.take k))) (denomB (forOf (voteYes l rate) (l.take k))) u.an u.aa u.ab W (Nat.le_trans s2.num s3) (Nat.le_trans s2.denom s3) (by have := ho.1; omega) (by have := ho.2.1; omega)
          rw [show decR (negB (amountV (l.take k))) (numB (amountV (l.take k))) (denomB (amountV (l.take k))) = amountV (l.take k) from dec_enc _] at h1
          rw [show decR (negB (forOf (voteYes l rate) (l.take k))) (numB (forOf (voteYes l rate) (l.take k))) (denomB (forOf (voteYes l rate) (l.take k))) = forOf (voteYes l rate) (l.take k) from dec_enc _] at h2
          change ∀ W, Calls Tryd.prog _ _ W (fun e w' => e = .returned (rat (amountV (l.take k) + u.amount)) ∧ _) at h1
          change ∀ W, Calls Tryd.prog _ _ W (fun e w' => e = .returned (rat (forOf (voteYes l rate) (l.take k) + u.amount)) ∧ _) at h2
          obtain ⟨z1, hz1⟩ : ∃ x, x = amountV (l.take k) + u.amount := ⟨_, rfl⟩
          obtain ⟨z2, hz2⟩ : ∃ x, x = forOf (voteYes l rate) (l.take k) + u.amount := ⟨_, rfl⟩
          rw [← hz1] at h1 had
          rw [← hz2] at h2 hfa
          have HSK := Lib.hid hsk
          have HAD := Lib.hid had
          have HFA := Lib.hid hfa
          have HFN := Lib.hid hfn
          have HS1 := HS.out
          generalize amountV (l.take k) = am at *
          generalize forOf (voteYes l rate) (l.take k) = fo at *
          unfold rat raw at h1 h2
          have HS := Lib.hid HS1
          have HADA := Lib.hid h1
          have HADF := Lib.hid h2
          obtain ⟨yB, hyB⟩ : ∃ x, x = voteYes l rate u.party := ⟨_, rfl⟩
          have HW := Lib.hid hyB.symm
          have HP := Lib.hid hpw
          have HIA := Lib.hid hin
          obtain ⟨xB, hxB⟩ : ∃ x, x = u.ex := ⟨_, rfl⟩
          have HXE := Lib.hid hxB.symm
          have hx2 := hx
          unfold Vtr.enc at hx2
          rw [← hxB] at hx2
          have HX := Lib.hid hx2
          have e0 : (0 : Int) ≤ ((k : Nat) : Int) := by omega
          have e1 : ((k : Nat) : Int) < (l.length : Int) := by omega
          clear HS1 h1 h2 hsk had hfa hfn hin hyB hpw ho hz1 hz2 s1 s2 s3 hx hx2 hq hxB
          cases xB
          · cases yB
            · have x1 := HS.out.cell 0 rfl 0 rfl
              have x2 := HS.out.cell 0 rfl 1 rfl
              have x3 := HS.out.cell 0 rfl 2 rfl
              have x4 := HS.out.lt 0 rfl
              have x5 : ¬ wo.heap.size = wr.heap.size := by omega
              have x6 : ¬ wr.heap.size = wo.heap.size := by omega
              have x7 : b < wr.heap.size := Nat.lt_of_lt_of_le hbb HS.out.below.size
              have x8 : ¬ b = wr.heap.size := by omega
              have x9 := HX.out _ HS.out.below 0 _ rfl
              rw [Nat.add_zero] at x9
              have x10 := HX.out _ HS.out.below 1 _ rfl
              have x11 := HX.out _ HS.out.below 2 _ rfl
              have x12 := HX.out _ HS.out.below 3 _ rfl
              have x13 := HX.out _ HS.out.below 4 _ rfl
              have x14 := HX.out _ HS.out.below 5 _ rfl
              have x15 := HX.out _ HS.out.below 6 _ rfl
              have x16 := HX.out _ HS.out.below 7 _ rfl
              go_wp2_with fail
              have HS2 : Hid (St w [⟨wr.heap.size, #[.int .i64 u.party, .bool u.an, .string (bs u.aa), .string (bs u.ab), .bool u.kn, .string (bs u.ka), .string (bs u.kb), .bool false], 30⟩, ⟨wo.heap.size, #[.bool (negB (am)), .string (bs (numB (am))), .string (bs (denomB (am))), .bool (negB (fo)), .string (bs (numB (fo))), .string (bs (denomB (fo))), .int .i64 0, .int .i64 0], 45⟩, ⟨w.heap.size + 1, #[.bool false, .string (bs []), .string (bs []), .bool false, .string (bs []), .string (bs []), .int .i64 0, .int .i64 0], 45⟩, ⟨w.heap.size, #[.bool rn, .string (bs ra), .string (bs rb)], 28⟩] _) := Lib.hid (St.alloc (HS.out) #[.int .i64 u.party, .bool u.an, .string (bs u.aa), .string (bs u.ab), .bool u.kn, .string (bs u.ka), .string (bs u.kb), .bool false] 30 _ (by simp))
              refine (HADA.out _).mono ?_
              rintro e w3 ⟨rfl, hb3⟩
              have HS3 := Lib.hid (HS2.out.call hb3)
              have M_3 := Lib.hid ((HM.out.below (Ext.alloc (Below.refl wr.heap.size wr) (Obj.cells #[.int .i64 u.party, .bool u.an, .string (bs u.aa), .string (bs u.ab), .bool u.kn, .string (bs u.ka), .string (bs u.kb), .bool false] 30))).below hb3)
              clear HM
              clear hb3 HS HS2
              clear x1 x2 x3 x4 x5 x6 x7 x8 x9 x10 x11 x12 x13 x14 x15 x16
              have x17 := HS3.out.cell 1 rfl 0 rfl
              have x18 := HS3.out.cell 1 rfl 1 rfl
              have x19 := HS3.out.cell 1 rfl 2 rfl
              have x20 := HS3.out.cell 0 rfl 0 rfl
              have x21 := HS3.out.frozen 1 rfl 0
              have x22 := HS3.out.frozen 1 rfl 1
              have x23 := HS3.out.frozen 1 rfl 2
              have x24 := HS3.out.ne 1 0 rfl rfl (by decide)
              have x25 := HS3.out.ne 0 1 rfl rfl (by decide)
              have x26 := HS3.out.ne 1 2 rfl rfl (by decide)
              have x27 := HS3.out.ne 2 1 rfl rfl (by decide)
              have x28 := HS3.out.ne 1 3 rfl rfl (by decide)
              have x29 := HS3.out.ne 3 1 rfl rfl (by decide)
              go_wp2_with (at_lookup; refine wpList_bmap_any rfl _ _ 67 rfl 3 4 int_law Tryd.underlying3 Tryd.underlying67 Tryd.underlying4 (zero_bool _) (((M_3.out.setCell (HS3.out.blk 1 rfl) _).setCell ((St.set (HS3.out) 1 rfl 0 _).blk 1 rfl) _).setCell ((St.set ((St.set (HS3.out) 1 rfl 0 _)) 1 rfl 1 _).blk 1 rfl) _) (by simp [Act.eval]) u.party (by simp [Act.eval]) HP.out false (by rw [HW.out, HIA.out HXE.out]; rfl) [⟨wr.heap.size, #[.int .i64 u.party, .bool u.an, .string (bs u.aa), .string (bs u.ab), .bool u.kn, .string (bs u.ka), .string (bs u.kb), .bool false], 30⟩, ⟨wo.heap.size, #[.bool (negB (z1)), .string (bs (numB (z1))), .string (bs (denomB (z1))), .bool (negB (fo)), .string (bs (numB (fo))), .string (bs (denomB (fo))), .int .i64 0, .int .i64 0], 45⟩, ⟨w.heap.size + 1, #[.bool false, .string (bs []), .string (bs []), .bool false, .string (bs []), .string (bs []), .int .i64 0, .int .i64 0], 45⟩, ⟨w.heap.size, #[.bool rn, .string (bs ra), .string (bs rb)], 28⟩] w (St.set ((St.set ((St.set (HS3.out) 1 rfl 0 _)) 1 rfl 1 _)) 1 rfl 2 _) ?_)
              intro wg hsg hmg
              have HSG := Lib.hid hsg
              have HMG := Lib.hid hmg
              clear hsg hmg HS3 M_3
              clear x17 x18 x19 x20 x21 x22 x23 x24 x25 x26 x27 x28 x29
              go_wp2
              have HSG4 : Hid (St w [⟨wr.heap.size, #[.int .i64 u.party, .bool u.an, .string (bs u.aa), .string (bs u.ab), .bool u.kn, .string (bs u.ka), .string (bs u.kb), .bool false], 30⟩, ⟨wo.heap.size, #[.bool (negB (z1)), .string (bs (numB (z1))), .string (bs (denomB (z1))), .bool (negB (fo)), .string (bs (numB (fo))), .string (bs (denomB (fo))), .int .i64 0, .int .i64 0], 45⟩, ⟨w.heap.size + 1, #[.bool false, .string (bs []), .string (bs []), .bool false, .string (bs []), .string (bs []), .int .i64 0, .int .i64 0], 45⟩, ⟨w.heap.size, #[.bool rn, .string (bs ra), .string (bs rb)], 28⟩] _) := Lib.hid HSG.out
              go_roundw
              case rel => exact ⟨k + 1, by omega, by go_num, HMG.out, by show St _ _ _; rw [HAD.out HXE.out, HFN.out HW.out]; exact HSG4.out.sub (by simp)⟩
              case measure => simp [intOf]; omega
            · have x1 := HS.out.cell 0 rfl 0 rfl
              have x2 := HS.out.cell 0 rfl 1 rfl
              have x3 := HS.out.cell 0 rfl 2 rfl
              have x4 := HS.out.lt 0 rfl
              have x5 : ¬ wo.heap.size = wr.heap.size := by omega
              have x6 : ¬ wr.heap.size = wo.heap.size := by omega
              have x7 : b < wr.heap.size := Nat.lt_of_lt_of_le hbb HS.out.below.size
              have x8 : ¬ b = wr.heap.size := by omega
              have x9 := HX.out _ HS.out.below 0 _ rfl
              rw [Nat.add_zero] at x9
              have x10 := HX.out _ HS.out.below 1 _ rfl
              have x11 := HX.out _ HS.out.below 2 _ rfl
              have x12 := HX.out _ HS.out.below 3 _ rfl
              have x13 := HX.out _ HS.out.below 4 _ rfl
              have x14 := HX.out _ HS.out.below 5 _ rfl
              have x15 := HX.out _ HS.out.below 6 _ rfl
              have x16 := HX.out _ HS.out.below 7 _ rfl
              go_wp2_with fail
              have HS2 : Hid (St w [⟨wr.heap.size, #[.int .i64 u.party, .bool u.an, .string (bs u.aa), .string (bs u.ab), .bool u.kn, .string (bs u.ka), .string (bs u.kb), .bool false], 30⟩, ⟨wo.heap.size, #[.bool (negB (am)), .string (bs (numB (am))), .string (bs (denomB (am))), .bool (negB (fo)), .string (bs (numB (fo))), .string (bs (denomB (fo))), .int .i64 0, .int .i64 0], 45⟩, ⟨w.heap.size + 1, #[.bool false, .string (bs []), .string (bs []), .bool false, .string (bs []), .string (bs []), .int .i64 0, .int .i64 0], 45⟩, ⟨w.heap.size, #[.bool rn, .string (bs ra), .string (bs rb)], 28⟩] _) := Lib.hid (St.alloc (HS.out) #[.int .i64 u.party, .bool u.an, .string (bs u.aa), .string (bs u.ab), .bool u.kn, .string (bs u.ka), .string (bs u.kb), .bool false] 30 _ (by simp))
              refine (HADA.out _).mono ?_
              rintro e w3 ⟨rfl, hb3⟩
              have HS3 := Lib.hid (HS2.out.call hb3)
              have M_3 := Lib.hid ((HM.out.below (Ext.alloc (Below.refl wr.heap.size wr) (Obj.cells #[.int .i64 u.party, .bool u.an, .string (bs u.aa), .string (bs u.ab), .bool u.kn, .string (bs u.ka), .string (bs u.kb), .bool false] 30))).below hb3)
              clear HM
              clear hb3 HS HS2
              clear x1 x2 x3 x4 x5 x6 x7 x8 x9 x10 x11 x12 x13 x14 x15 x16
              have x17 := HS3.out.cell 1 rfl 0 rfl
              have x18 := HS3.out.cell 1 rfl 1 rfl
              have x19 := HS3.out.cell 1 rfl 2 rfl
              have x20 := HS3.out.cell 0 rfl 0 rfl
              have x21 := HS3.out.frozen 1 rfl 0
              have x22 := HS3.out.frozen 1 rfl 1
              have x23 := HS3.out.frozen 1 rfl 2
              have x24 := HS3.out.ne 1 0 rfl rfl (by decide)
              have x25 := HS3.out.ne 0 1 rfl rfl (by decide)
              have x26 := HS3.out.ne 1 2 rfl rfl (by decide)
              have x27 := HS3.out.ne 2 1 rfl rfl (by decide)
              have x28 := HS3.out.ne 1 3 rfl rfl (by decide)
              have x29 := HS3.out.ne 3 1 rfl rfl (by decide)
              go_wp2_with (at_lookup; refine wpList_bmap_any rfl _ _ 67 rfl 3 4 int_law Tryd.underlying3 Tryd.underlying67 Tryd.underlying4 (zero_bool _) (((M_3.out.setCell (HS3.out.blk 1 rfl) _).setCell ((St.set (HS3.out) 1 rfl 0 _).blk 1 rfl) _).setCell ((St.set ((St.set (HS3.out) 1 rfl 0 _)) 1 rfl 1 _).blk 1 rfl) _) (by simp [Act.eval]) u.party (by simp [Act.eval]) HP.out true (by rw [HW.out, HIA.out HXE.out]; rfl) [⟨wr.heap.size, #[.int .i64 u.party, .bool u.an, .string (bs u.aa), .string (bs u.ab), .bool u.kn, .string (bs u.ka), .string (bs u.kb), .bool false], 30⟩, ⟨wo.heap.size, #[.bool (negB (z1)), .string (bs (numB (z1))), .string (bs (denomB (z1))), .bool (negB (fo)), .string (bs (numB (fo))), .string (bs (denomB (fo))), .int .i64 0, .int .i64 0], 45⟩, ⟨w.heap.size + 1, #[.bool false, .string (bs []), .string (bs []), .bool false, .string (bs []), .string (bs []), .int .i64 0, .int .i64 0], 45⟩, ⟨w.heap.size, #[.bool rn, .string (bs ra), .string (bs rb)], 28⟩] w (St.set ((St.set ((St.set (HS3.out) 1 rfl 0 _)) 1 rfl 1 _)) 1 rfl 2 _) ?_)
              intro wg hsg hmg
              have HSG := Lib.hid hsg
              have HMG := Lib.hid hmg
              clear hsg hmg HS3 M_3
              clear x17 x18 x19 x20 x21 x22 x23 x24 x25 x26 x27 x28 x29
              have x30 := HSG.out.cell 1 rfl 3 rfl
              have x31 := HSG.out.cell 1 rfl 4 rfl
              have x32 := HSG.out.cell 1 rfl 5 rfl
              have x33 := HSG.out.cell 0 rfl 1 rfl
              have x34 := HSG.out.cell 0 rfl 2 rfl
              have x35 := HSG.out.cell 0 rfl 3 rfl
              go_wp2_with fail
              refine (HADF.out _).mono ?_
              rintro e w4 ⟨rfl, hb4⟩
              have HSG4 := Lib.hid (HSG.out.call hb4)
              have M_4 := Lib.hid (HMG.out.below hb4)
              clear HMG
              clear hb4 HSG
              clear x30 x31 x32 x33 x34 x35
              have x36 := HSG4.out.cell 1 rfl 3 rfl
              have x37 := HSG4.out.cell 1 rfl 4 rfl
              have x38 := HSG4.out.cell 1 rfl 5 rfl
              have x39 := HSG4.out.frozen 1 rfl 3
              have x40 := HSG4.out.frozen 1 rfl 4
              have x41 := HSG4.out.frozen 1 rfl 5
              have x42 := HSG4.out.ne 1 0 rfl rfl (by decide)
              have x43 := HSG4.out.ne 0 1 rfl rfl (by decide)
              have x44 := HSG4.out.ne 1 2 rfl rfl (by decide)
              have x45 := HSG4.out.ne 2 1 rfl rfl (by decide)
              have x46 := HSG4.out.ne 1 3 rfl rfl (by decide)
              have x47 := HSG4.out.ne 3 1 rfl rfl (by decide)
              go_wp2
              have HSG5 : Hid (St w [⟨wr.heap.size, #[.int .i64 u.party, .bool u.an, .string (bs u.aa), .string (bs u.ab), .bool u.kn, .string (bs u.ka), .string (bs u.kb), .bool false], 30⟩, ⟨wo.heap.size, #[.bool (negB (z1)), .string (bs (numB (z1))), .string (bs (denomB (z1))), .bool (negB (z2)), .string (bs (numB (z2))), .string (bs (denomB (z2))), .int .i64 0, .int .i64 0], 45⟩, ⟨w.heap.size + 1, #[.bool false, .string (bs []), .string (bs []), .bool false, .string (bs []), .string (bs []), .int .i64 0, .int .i64 0], 45⟩, ⟨w.heap.size, #[.bool rn, .string (bs ra), .string (bs rb)], 28⟩] _) := Lib.hid (St.set ((St.set ((St.set (HSG4.out) 1 rfl 3 _)) 1 rfl 4 _)) 1 rfl 5 _)
              go_roundw
              case rel => exact ⟨k + 1, by omega, by go_num, (((M_4.out.setCell (HSG4.out.blk 1 rfl) _).setCell ((St.set (HSG4.out) 1 rfl 3 _).blk 1 rfl) _).setCell ((St.set ((St.set (HSG4.out) 1 rfl 3 _)) 1 rfl 4 _).blk 1 rfl) _), by show St _ _ _; rw [HAD.out HXE.out, HFA.out HXE.out HW.out]; exact HSG5.out.sub (by simp)⟩
              case measure => simp [intOf]; omega
          · have x1 : b < wr.heap.size := Nat.lt_of_lt_of_le hbb HS.out.below.size
            have x2 : ¬ b = wr.heap.size := by omega
            have x3 := HX.out _ HS.out.below 0 _ rfl
            rw [Nat.add_zero] at x3
            have x4 := HX.out _ HS.out.below 1 _ rfl
            have x5 := HX.out _ HS.out.below 2 _ rfl
            have x6 := HX.out _ HS.out.below 3 _ rfl
            have x7 := HX.out _ HS.out.below 4 _ rfl
            have x8 := HX.out _ HS.out.below 5 _ rfl
            have x9 := HX.out _ HS.out.below 6 _ rfl
            have x10 := HX.out _ HS.out.below 7 _ rfl
            go_wp2
            have HS2 : Hid (St w [⟨wr.heap.size, #[.int .i64 u.party, .bool u.an, .string (bs u.aa), .string (bs u.ab), .bool u.kn, .string (bs u.ka), .string (bs u.kb), .bool true], 30⟩, ⟨wo.heap.size, #[.bool (negB (am)), .string (bs (numB (am))), .string (bs (denomB (am))), .bool (negB (fo)), .string (bs (numB (fo))), .string (bs (denomB (fo))), .int .i64 0, .int .i64 0], 45⟩, ⟨w.heap.size + 1, #[.bool false, .string (bs []), .string (bs []), .bool false, .string (bs []), .string (bs []), .int .i64 0, .int .i64 0], 45⟩, ⟨w.heap.size, #[.bool rn, .string (bs ra), .string (bs rb)], 28⟩] _) := Lib.hid (St.alloc (HS.out) #[.int .i64 u.party, .bool u.an, .string (bs u.aa), .string (bs u.ab), .bool u.kn, .string (bs u.ka), .string (bs u.kb), .bool true] 30 _ (by simp))
            go_roundw
            case rel => exact ⟨k + 1, by omega, by go_num, (HM.out.below (Ext.alloc (Below.refl wr.heap.size wr) (Obj.cells #[.int .i64 u.party, .bool u.an, .string (bs u.aa), .string (bs u.ab), .bool u.kn, .string (bs u.ka), .string (bs u.kb), .bool true] 30))), by show St _ _ _; rw [(HSK.out HXE.out).1, (HSK.out HXE.out).2]; exact HS2.out.sub (by simp)⟩
            case measure => simp [intOf]; omega
        · obtain rfl : k = l.length := by omega
          rw [List.take_length] at HS
          obtain ⟨wp, hwp⟩ : ∃ wp : World, wp = wr := ⟨_, rfl⟩
          subst hwp
          have hwp := HS.out.below.size
          have hpd : (parts l []).Nodup := parts_nodup l [] List.nodup_nil
          have hpl := parts_len l []
          rw [List.length_nil, Nat.zero_add] at hpl
          have hst0 := @heads_start (parts l []) (voteIn l)
          have hst1 := fun Y => @hst0 Y (fun p hp => List.contains_iff_mem.2 hp)
          go_wp2_with (at_range; refine wpList_bmap_range rfl _ 67 rfl 3 4 int_law Tryd.underlying67 HM.out (by simp [Act.eval]) ?_)
          intro w8 ct hrg8 hg8 hs8
          have HG8 := Lib.hid hrg8
          have HS8 := Lib.hid (HS.out.call (Below.of_grown hg8))
          clear hrg8 hg8 HS HM
          obtain ⟨am, ham⟩ : ∃ x, x = amountV l := ⟨_, rfl⟩
          obtain ⟨fo, hfo⟩ : ∃ x, x = forOf (voteYes l rate) l := ⟨_, rfl⟩
          have HS7 := HS8.out
          rw [← ham, ← hfo] at HS7
          have HS8 := Lib.hid HS7
          have HAM := Lib.hid ham
          have HFO := Lib.hid hfo
          clear HS7 ham hfo
          go_wp2
          go_loopw [14] (fun _ wr => ∃ (L : Int → Bool) (cnt m1 m2 : Nat), Hid (BRng Tryd.prog 3 4 wr (w.heap.size + 1 + 1) wp.heap.size n (voteIn l) (voteYes l rate) L cnt) ∧ Hid (m1 = headsM (parts l []) L (fun _ => true)) ∧ Hid (m2 = headsM (parts l []) L (voteYes l rate)) ∧ Hid (St w [⟨wo.heap.size, #[.bool (negB (am)), .string (bs (numB (am))), .string (bs (denomB (am))), .bool (negB (fo)), .string (bs (numB (fo))), .string (bs (denomB (fo))), .int .i64 (m1 : Nat), .int .i64 (m2 : Nat)], 45⟩, ⟨w.heap.size + 1, #[.bool false, .string (bs []), .string (bs []), .bool false, .string (bs []), .string (bs []), .int .i64 0, .int .i64 0], 45⟩, ⟨w.heap.size, #[.bool rn, .string (bs ra), .string (bs rb)], 28⟩] wr)) (fun _ wr => wr.rangeLeft (w.heap.size + 1 + 1) wp.heap.size)
          case atStart => exact ⟨_, _, 0, 0, HG8.out, (hst1 _).symm, (hst1 _).symm, HS8.out⟩
          case round =>
            clear HG8 HS8 hst0 hst1
            obtain ⟨L, cnt, m1, m2, HG, HM1, HM2, HS⟩ := hrel
            have hh1 : m1 ≤ (parts l []).length := by rw [HM1.out]; exact heads_le
            have hh2 : m2 ≤ (parts l []).length := by rw [HM2.out]; exact heads_le
            have e1 : IntKind.i64.wrap ((m1 : Int) + 1) = (m1 : Int) + 1 := IntWalk.i64_in _ (by omega)
            have e2 : IntKind.i64.wrap ((m2 : Int) + 1) = (m2 : Int) + 1 := IntWalk.i64_in _ (by omega)
            go_wp2_with (at_next; refine wpList_bmap_next rfl _ rfl 3 4 int_law Tryd.underlying3 Tryd.underlying4 HG.out (by simp [Act.eval]) ?_ ?_)
            · intro hl0
              have x1 := HS.out.cell 0 rfl 0 rfl
              have x2 := HS.out.cell 0 rfl 1 rfl
              have x3 := HS.out.cell 0 rfl 2 rfl
              have x4 := HS.out.cell 0 rfl 3 rfl
              have x5 := HS.out.cell 0 rfl 4 rfl
              have x6 := HS.out.cell 0 rfl 5 rfl
              have x7 := HS.out.cell 0 rfl 6 rfl
              have x8 := HS.out.cell 0 rfl 7 rfl
              have x9 := HS.out.cell 1 rfl 0 rfl
              have x10 := HS.out.cell 1 rfl 1 rfl
              have x11 := HS.out.cell 1 rfl 2 rfl
              have x12 := HS.out.cell 1 rfl 3 rfl
              have x13 := HS.out.cell 1 rfl 4 rfl
              have x14 := HS.out.cell 1 rfl 5 rfl
              have x15 := HS.out.cell 1 rfl 6 rfl
              have x16 := HS.out.cell 1 rfl 7 rfl
              have x17 := HS.out.frozen 1 rfl 0
              have x18 := HS.out.frozen 1 rfl 1
              have x19 := HS.out.frozen 1 rfl 2
              have x20 := HS.out.frozen 1 rfl 3
              have x21 := HS.out.frozen 1 rfl 4
              have x22 := HS.out.frozen 1 rfl 5
              have x23 := HS.out.frozen 1 rfl 6
              have x24 := HS.out.frozen 1 rfl 7
              have x25 := HS.out.ne 1 0 rfl rfl (by decide)
              have x26 := HS.out.ne 0 1 rfl rfl (by decide)
              have x27 := HS.out.ne 1 2 rfl rfl (by decide)
              have x28 := HS.out.ne 2 1 rfl rfl (by decide)
              go_wp2
              have HS2 : Hid (St w [⟨wo.heap.size, #[.bool (negB (am)), .string (bs (numB (am))), .string (bs (denomB (am))), .bool (negB (fo)), .string (bs (numB (fo))), .string (bs (denomB (fo))), .int .i64 (m1 : Nat), .int .i64 (m2 : Nat)], 45⟩, ⟨w.heap.size + 1, #[.bool (negB (am)), .string (bs (numB (am))), .string (bs (denomB (am))), .bool (negB (fo)), .string (bs (numB (fo))), .string (bs (denomB (fo))), .int .i64 (m1 : Nat), .int .i64 (m2 : Nat)], 45⟩, ⟨w.heap.size, #[.bool rn, .string (bs ra), .string (bs rb)], 28⟩] _) := Lib.hid (St.set ((St.set ((St.set ((St.set ((St.set ((St.set ((St.set ((St.set (HS.out) 1 rfl 0 _)) 1 rfl 1 _)) 1 rfl 2 _)) 1 rfl 3 _)) 1 rfl 4 _)) 1 rfl 5 _)) 1 rfl 6 _)) 1 rfl 7 _)
              refine bodyPost_ret (tly_result rfl _ _ _ rfl (HS2.out.blk 1 rfl)) rfl ?_
              have n1 : m1 = (parts l []).length := by rw [HM1.out, heads_end hl0]; simp
              have n2 : m2 = ((parts l []).filter fun p => yesP l p rate).length := by rw [HM2.out, heads_end hl0]; rfl
              refine ⟨?_, HS2.out.below⟩
              unfold tly tlyC tallyV
              dsimp only
              rw [← n1, ← n2, ← HAM.out]
              have hf : forOf (fun p => yesP l p rate) l = fo := HFO.out.symm
              rw [hf]
            · intro p w1 cnt1 hLp hrg1 hlt1 hg1 hs1 hen
              have hpm : p ∈ parts l [] := List.contains_iff_mem.1 (show voteIn l p = true from HG.out.sub p hLp)
              have k1 := heads_step (Y := fun _ => true) hpd hpm hLp
              have k2 := heads_step (Y := voteYes l rate) hpd hpm hLp
              rw [if_pos rfl, ← HM1.out] at k1
              rw [← HM2.out] at k2
              have HS1 := Lib.hid (HS.out.turnedRng HG.out hg1 (by omega))
              have HG1 := Lib.hid hrg1
              have hle := HG.out.left_eq
              have K1 := Lib.hid k1
              obtain ⟨yB, hyB⟩ : ∃ x, x = voteYes l rate p := ⟨_, rfl⟩
              rw [← hyB] at hen k2 ⊢
              have K2 := Lib.hid k2
              clear HS HG HM1 HM2 hrg1 hg1 hs1 k1 k2 hpm hLp hyB
              cases yB
              · have x1 := HS1.out.cell 0 rfl 6 rfl
                have x2 := HS1.out.frozen 0 rfl 6
                have x3 := HS1.out.ne 0 1 rfl rfl (by decide)
                have x4 := HS1.out.ne 1 0 rfl rfl (by decide)
                have x5 := HS1.out.ne 0 2 rfl rfl (by decide)
                have x6 := HS1.out.ne 2 0 rfl rfl (by decide)
                go_wp2
                have HS2 : Hid (St w [⟨wo.heap.size, #[.bool (negB (am)), .string (bs (numB (am))), .string (bs (denomB (am))), .bool (negB (fo)), .string (bs (numB (fo))), .string (bs (denomB (fo))), .int .i64 ((m1 : Int) + 1), .int .i64 (m2 : Nat)], 45⟩, ⟨w.heap.size + 1, #[.bool false, .string (bs []), .string (bs []), .bool false, .string (bs []), .string (bs []), .int .i64 0, .int .i64 0], 45⟩, ⟨w.heap.size, #[.bool rn, .string (bs ra), .string (bs rb)], 28⟩] _) := Lib.hid (St.set (HS1.out) 0 rfl 6 _)
                go_roundw
                case rel => exact ⟨_, cnt1, m1 + 1, m2, (HG1.out.setCell (HS1.out.blk 0 rfl) _), K1.out.symm, K2.out.symm, by rw [show ((m1 + 1 : Nat) : Int) = (m1 : Int) + 1 by omega]; exact HS2.out⟩
                case measure => rw [BRng.left_eq (HG1.out.setCell (HS1.out.blk 0 rfl) _), hle]; exact hlt1
              · have x1 := HS1.out.cell 0 rfl 6 rfl
                have x2 := HS1.out.cell 0 rfl 7 rfl
                have x3 := HS1.out.frozen 0 rfl 6
                have x4 := HS1.out.frozen 0 rfl 7
                have x5 := HS1.out.ne 0 1 rfl rfl (by decide)
                have x6 := HS1.out.ne 1 0 rfl rfl (by decide)
                have x7 := HS1.out.ne 0 2 rfl rfl (by decide)
                have x8 := HS1.out.ne 2 0 rfl rfl (by decide)
                go_wp2
                have HS2 : Hid (St w [⟨wo.heap.size, #[.bool (negB (am)), .string (bs (numB (am))), .string (bs (denomB (am))), .bool (negB (fo)), .string (bs (numB (fo))), .string (bs (denomB (fo))), .int .i64 ((m1 : Int) + 1), .int .i64 ((m2 : Int) + 1)], 45⟩, ⟨w.heap.size + 1, #[.bool false, .string (bs []), .string (bs []), .bool false, .string (bs []), .string (bs []), .int .i64 0, .int .i64 0], 45⟩, ⟨w.heap.size, #[.bool rn, .string (bs ra), .string (bs rb)], 28⟩] _) := Lib.hid (St.set ((St.set (HS1.out) 0 rfl 6 _)) 0 rfl 7 _)
                go_roundw
                case rel => exact ⟨_, cnt1, m1 + 1, m2 + 1, ((HG1.out.setCell (HS1.out.blk 0 rfl) _).setCell ((St.set (HS1.out) 0 rfl 6 _).blk 0 rfl) _), K1.out.symm, K2.out.symm, by rw [show ((m1 + 1 : Nat) : Int) = (m1 : Int) + 1 by omega, show ((m2 + 1 : Nat) : Int) = (m2 : Int) + 1 by omega]; exact HS2.out⟩
                case measure => rw [BRng.left_eq ((HG1.out.setCell (HS1.out.blk 0 rfl) _).setCell ((St.set (HS1.out) 0 rfl 6 _).blk 0 rfl) _), hle]; exact hlt1
end Go.Proofs.YtakoagjpmdcddaaDoor
