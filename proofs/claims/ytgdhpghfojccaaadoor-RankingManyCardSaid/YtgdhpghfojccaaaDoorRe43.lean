/-
Part 43 of the base.
-/
import Derived.Test.YtgdhpghfojccaaaDoorRe42
set_option maxRecDepth 100000
set_option maxHeartbeats 4000000
namespace Go.Proofs.YtgdhpghfojccaaaDoor
open Go.RowKit
def PrgL (w : World) (p : Value × Value) (R : List Int) (A : List (List (List Prt))) : Prop := IntsL w p.1 R /\ AgrL w p.2 A
theorem PrgL.below {w w' : World} {p : Value × Value} {R : List Int} {A : List (List (List Prt))} (h : PrgL w p R A) (hb : Below w.heap.size w w') : PrgL w' p R A := ⟨Slc.below h.1 hb, AgrL.below h.2 hb⟩
def CmpS (cl : List Nmd) (l : List Cls) (w : World) (e : Ending) (w' : World) : Prop := ∃ (A1 : Option Addr) (c1 : Nat) (A2 : Option Addr) (c2 : Nat) (R : List Int) (A : List (List (List Prt))) (i : Nat) (er : Int), e = .returned (.tuple #[.agg #[.slice A1 R.length c1, .slice A2 A.length c2], .int .i64 (i : Nat), .int .i64 er]) /\ PrgL w' (.slice A1 R.length c1, .slice A2 A.length c2) R A /\ Comp cl l R A i er /\ Below w.heap.size w w'
theorem CmpR.open {cl : List Nmd} {l : List Cls} {w : World} {e : Ending} {w' : World} (h : CmpR cl l w e w') : CmpS cl l w e w' := by
 obtain ⟨vr, va, R, A, i, er, rfl, h1, h2, h3, h4⟩ := h
 obtain ⟨A1, c1, rfl, _, _⟩ := Slc.slice h1
 obtain ⟨A2, c2, rfl, _, _⟩ := NstL.slice h2
 exact ⟨A1, c1, A2, c2, R, A, i, er, rfl, ⟨h1, h2⟩, h3, h4⟩
section
variable {α : Type} {enc : α -> List Value} {P : Program}
theorem a9r (w : World) {ops : Array Oper} {rest : List Oper} {o : Oper} {a : Act} {Q : Exit -> Act -> World -> Prop} (hgd : o.guard = none) (s x : Operand) (t : TypeId)
  (ho : o.op = .call { callee := .builtin .append, args := #[s, x], argTypes := #[t, t] })
  (base : Nat) (e : TypeId) (i : TypeInfo) (z : Value) (size bytes : Nat) (ht : P.underlying t = some (.slice e)) (hi : P.info? e = some i) (hz : i.zero = some z)
  (hsize : i.size = size) (hby : i.bytes = bytes) (hzs : z.cells.size = size) (hsz : 0 < size) (hk : ∀ y, (enc y).length = size)
  (v : Value) (n : Nat) (xs : List α) (hs : a.eval s = v) (hown : w.ownsRow base e size v n (flat enc xs)) (y : α) (g : Nat) (cs : Array Value) (hB : Blk w g cs e) (hcs : cs.toList = enc y) (hx : a.eval x = .slice (some ⟨g, 0, none⟩) 1 1)
  (h1 : ∀ u ∈ enc y, u.oneCell' = true) (h63 : n + 1 <= maxLen) (hbytes : (n + 1) * bytes <= 140737488355328) (hbase : base <= w.heap.size)
  (h : ∀ v' w', w'.ownsRow base e size v' (n + 1) (flat enc (xs ++ [y])) -> w.grownBy w' v.ownBlock -> wpList P ops Q rest (a.put o.dst v') w') : wpList P ops Q (o :: rest) a w := by
 refine wpList_append_own w hgd s x t ho base e i z size bytes ht hi hz hsize hby hzs hsz v n (flat enc xs) hs hown ⟨g, 0, none⟩ 1 1 (enc y) hx (by rw [hk, Nat.one_mul]) ?_ h1 h63 hbytes hbase ?_
 ·intro j u hu
  rw [Addr.add_lit, Nat.zero_add, hB.cell j u]
  rw [<- Array.getElem?_toList, hcs]; exact hu
 intro v' w' hown' hg _
 exact h v' w' (by rw [a1m]; simpa [flat] using hown') hg
end
theorem info_nmd : (Tryd.prog.info? 27).map (fun i => (i.zero, i.size, i.bytes)) = some (some (.agg #[.string (bs []), .int .i64 0, .bool false, .string (bs []), .string (bs [])]), 5, 64) := by kernel_rfl
theorem nmd_info : ∃ i, Tryd.prog.info? 27 = some i /\ i.zero = some (.agg #[.string (bs []), .int .i64 0, .bool false, .string (bs []), .string (bs [])]) /\ i.size = 5 /\ i.bytes = 64 := by
 obtain ⟨i, hi, hzz⟩ := Option.map_eq_some_iff.1 info_nmd
 simp only [Prod.mk.injEq] at hzz
 exact ⟨i, hi, hzz⟩
theorem b8s (c : Nmd) : ∀ u ∈ c.enc, u.oneCell' = true := by
 intro u hu
 unfold Nmd.enc at hu
 simp only [List.mem_cons, List.mem_nil_iff, or_false] at hu
 rcases hu with rfl | rfl | rfl | rfl | rfl <;> rfl
theorem b7k (r : CRow) (h : r.v.oneCell' = true) : ∀ u ∈ r.enc, u.oneCell' = true := by
 intro u hu
 unfold CRow.enc at hu
 simp only [List.mem_cons, List.mem_nil_iff, or_false] at hu
 rcases hu with rfl | rfl | rfl | rfl | rfl | rfl | rfl | rfl <;> first | rfl | exact h
theorem b7b (i : Nat) : a3j (i + 1) = a3j i ++ [b9d i] := by
 unfold a3j
 rw [List.range_succ, List.map_append]; rfl
theorem a6j (i : Nat) : (a3j i).length = i := by
 unfold a3j
 rw [List.length_map, List.length_range]
theorem many_fit (k m : Nat) (hk : k <= 1000) (hm : m <= 1000) : Fit (a3j k) (List.replicate m subC) := by
 refine ⟨by rw [a6j]; exact hk, by rw [List.length_replicate]; exact hm, fun x hx => ?_, fun x hx => ?_⟩
 ·unfold a3j at hx
  obtain ⟨j, _, rfl⟩ := List.mem_map.1 hx
  exact ⟨(by show 3 <= _; decide), (Nat.zero_le _), (Nat.zero_le _)⟩
 rw [(List.mem_replicate.1 hx).2]
 exact ⟨by decide, by decide, by decide, (fun s hs => by cases hs), by decide, by decide⟩
def subR : CRow := ⟨subC, .slice none 0 0⟩
theorem b8b (j : Nat) : List.replicate (j + 1) subR = List.replicate j subR ++ [subR] := List.replicate_succ'
theorem subs_L {w : World} {v : Value} {base j : Nat} (h : World.ownsRow w base 31 8 v j (flat CRow.enc (List.replicate j subR))) : ClsL w v (List.replicate j subC) :=
 ⟨List.replicate j subR, Slc.of_own a7y h List.length_replicate, List.map_replicate .., fun r hr => by rw [(List.mem_replicate.1 hr).2]; exact Slc.nil_ _ _ _ none 0 (by decide)⟩
theorem bs_join (x y z : UInt8) : bs [x] ++ bs [y, z] = bs [x, y, z] := by
 apply ByteArray.ext
 rw [ByteArray.data_append]
 rfl
theorem a8u (n m : Int) (w : World) (hn : 0 <= n /\ n <= 255) (hm : 0 <= m /\ m <= 255) : Calls Tryd.prog 3 #[.int .u8 n, .int .u8 m] w fun e w' => e = .returned (.bool true) /\ Below w.heap.size w w' := by
 obtain ⟨i0, hi0, hz0, hz1, hz2⟩ := nmd_info
 obtain ⟨ic, hic, hcz, hc1, hc8⟩ := b6j
 have HI := zh hi0
 have HZ0 := zh hz0
 have HC0 := zh hic
 have HCZ := zh hcz
 have dA := fun W => b4n W
 have DA := zh dA
 obtain ⟨K, hK⟩ : ∃ K : Nat, K = 1 + (n % 40).toNat := ⟨_, rfl⟩
 obtain ⟨L, hL⟩ : ∃ L : Nat, L = (m % 80).toNat := ⟨_, rfl⟩
 have hK1 : 1 <= K /\ K < 41 := by omega
 have hL1 : L < 80 := by omega
 have e1 : Int.tmod n 40 = (K : Int) - 1 := by rw [Int.tmod_eq_emod_of_nonneg hn.1]; omega
 have e2 : IntKind.u8.wrap ((K : Int) - 1) = (K : Int) - 1 := by rw [IntKind.wrap_u8]; omega
 have e3 : IntKind.i64.wrap ((K : Int) - 1) = (K : Int) - 1 := IntWalk.i64_in _ (by omega)
 have e4 : (1 : Int) + ((K : Int) - 1) = (K : Int) := by omega
 have e5 : IntKind.i64.wrap (K : Int) = (K : Int) := IntWalk.i64_in _ (by omega)
 have e6 : IntKind.i64.wrap m = m := IntWalk.i64_in _ (by omega)
 have e7 : Int.tmod m 80 = (L : Int) := by rw [Int.tmod_eq_emod_of_nonneg hm.1]; omega
 have e8 : IntKind.i64.wrap (L : Int) = (L : Int) := IntWalk.i64_in _ (by omega)
 have HK := zh hK1
 have HL := zh hL1
 clear hi0 hz0 hic hcz dA hn hm hK hL hK1 hL1
 go_enter Tryd.func3, Tryd.ntmps3
 have HS := zh (St.start w)
 go_wp2
 go_loopw [5, 6] (fun l_ i_ wr => ∃ i : Nat, i <= K /\ i_ = .int .i64 i /\ Hid (Grows wr w.heap.size 27 5 l_ i (flat Nmd.enc (a3j i))) /\ Hid (St w [] wr)) (fun _ i_ _ => K - (intOf i_).toNat)
 case atStart => exact ⟨0, Nat.zero_le _, rfl, World.ownsRow_nil _ _ _ _, HS.out⟩
 case round =>
  clear HS
  obtain ⟨i, hi, rfl, HG, HS⟩ := hrel
  obtain ⟨wo, hwo⟩ : ∃ wo : World, wo = wr := ⟨_, rfl⟩
  subst hwo
  by_cases hin : i < K
  ·have g0 : decide (((i : Nat) : Int) < (K : Int)) = true := decide_eq_true (by omega)
   have g1 : IntKind.i64.wrap ((i : Int) + 1) = ((i + 1 : Nat) : Int) := by have := HK.out; rw [IntWalk.i64_in _ (by omega)]; rfl
   obtain ⟨p, hp⟩ : ∃ p : Nat, p = i / 26 := ⟨_, rfl⟩
   obtain ⟨q, hq⟩ : ∃ q : Nat, q = i % 26 := ⟨_, rfl⟩
   obtain ⟨pa, hpa⟩ : ∃ x : Nat, x = 97 + p := ⟨_, rfl⟩
   obtain ⟨qa, hqa⟩ : ∃ x : Nat, x = 97 + q := ⟨_, rfl⟩
   have hpl : pa <= 100 /\ qa <= 130 := by have := HK.out; omega
   have g2 : Int.tdiv (i : Int) 26 = (p : Int) := by rw [Int.tdiv_eq_ediv_of_nonneg (by omega)]; omega
   have g3 : Int.tmod (i : Int) 26 = (q : Int) := by rw [Int.tmod_eq_emod_of_nonneg (by omega)]; omega
   have g2' : IntKind.i64.wrap (p : Int) = (p : Int) := IntWalk.i64_in _ (by omega)
   have g3' : IntKind.i64.wrap (q : Int) = (q : Int) := IntWalk.i64_in _ (by omega)
   have g4 : IntKind.u8.wrap (p : Int) = (p : Int) := by rw [IntKind.wrap_u8]; omega
   have g5 : IntKind.u8.wrap (q : Int) = (q : Int) := by rw [IntKind.wrap_u8]; omega
   have g6 : IntKind.u8.wrap (97 + (p : Int)) = (pa : Int) := by rw [IntKind.wrap_u8]; omega
   have g7 : IntKind.u8.wrap (97 + (q : Int)) = (qa : Int) := by rw [IntKind.wrap_u8]; omega
   have hconv := run_convert_bytes_arg (P := Tryd.prog) (wo.alloc (.cells #[.int .u8 (pa : Nat), .int .u8 (qa : Nat)] 5)) 23 5 Tryd.underlying23 Tryd.underlying5 wo.heap.size 0 2 2 [(pa : Int), (qa : Int)] rfl (fun j hj => by have hj2 : j = 0 \/ j = 1 := (by omega); rcases hj2 with rfl | rfl; exact (Blk.new wo _ _).cell 0 _ rfl; exact (Blk.new wo _ _).cell 1 _ rfl) 9 Tryd.underlying9
   have hst : strOfNums [(pa : Int), (qa : Int)] = bs [UInt8.ofNat pa, UInt8.ofNat qa] := rfl
   rw [hst] at hconv
   have hjn : (⟨#[110]⟩ : ByteArray) ++ bs [UInt8.ofNat pa, UInt8.ofNat qa] = bs [110, UInt8.ofNat pa, UInt8.ofNat qa] := bs_join 110 (UInt8.ofNat pa) (UInt8.ofNat qa)
   have HEN : Hid ((b9d i).enc = [.string (bs [110, UInt8.ofNat pa, UInt8.ofNat qa]), .int .i64 2, .bool false, .string (bs []), .string (bs [])]) := zh (by unfold b9d; rw [hpa, hqa, hp, hq]; rfl)
   have HFT := zh (b7b i)
   have HLN := zh (a6j i)
   clear hst hp hq hpa hqa hpl
   have HS2 := aL (aL HS #[.int .u8 (pa : Nat), .int .u8 (qa : Nat)] 5 wo.heap.size) #[.string (bs [110, UInt8.ofNat pa, UInt8.ofNat qa]), .int .i64 2, .bool false, .string (bs []), .string (bs [])] 27 (wo.heap.size + 1)
   have hgr : World.ownsRow _ w.heap.size 27 5 u5 i (flat Nmd.enc (a3j i)) := (HG.out.below (Ext.alloc (Ext.alloc (Below.refl wo.heap.size wo) (Obj.cells #[.int .u8 (pa : Nat), .int .u8 (qa : Nat)] 5)) (Obj.cells #[.string (bs [110, UInt8.ofNat pa, UInt8.ofNat qa]), .int .i64 2, .bool false, .string (bs []), .string (bs [])] 27)))
   have HB9 := zh HS2.out.below
   go_wp2_with (at_builtin; refine a9s _ rfl _ _ 22 rfl w.heap.size 27 i0 _ 5 64 Tryd.underlying22 HI.out HZ0.out hz1 hz2 rfl (by decide) b8r u5 i (a3j i) (by simp [Act.eval]) hgr (b9d i) (wo.heap.size + 1) _ (HS2.out.blk 0 rfl) HEN.out.symm (by simp [Act.eval]) (b8s _) (by have := HK.out; unfold maxLen; omega) (by have := HK.out; omega) HS2.out.below.size ?_)
   intro v9 w9 hown9 hb9
   rw [<- HFT.out] at hown9
   have HG9 := zh hown9
   have HS9 : Hid (St w [] w9) := zh (St.of (HB9.out.trans hb9))
   clear hown9 hb9 hgr hconv HS2 HG HS
   go_wp2
   go_roundw
   case rel => exact ⟨i + 1, by omega, by go_num, HG9.out, HS9.out⟩
   case measure => simp [intOf]; omega
  have hie : i = K := by omega
  rw [hie] at HG ⊢
  have g0 : decide (((K : Nat) : Int) < (K : Int)) = false := decide_eq_false (by omega)
  clear hie hi hin
  go_wp2
  go_loopw [7, 8] (fun l_ j_ wr => ∃ j : Nat, j <= L /\ j_ = .int .i64 j /\ Hid (Grows wr w.heap.size 31 8 l_ j (flat CRow.enc (List.replicate j subR))) /\ Hid (Grows wr w.heap.size 27 5 u5 K (flat Nmd.enc (a3j K))) /\ Hid (St w [] wr)) (fun _ j_ _ => L - (intOf j_).toNat)
  case atStart => exact ⟨0, Nat.zero_le _, rfl, World.ownsRow_nil _ _ _ _, HG.out, HS.out⟩
  case round =>
   clear HS HG g0
   obtain ⟨j, hj, rfl, HC, HG, HS⟩ := hrel
   obtain ⟨wo, hwo⟩ : ∃ wo : World, wo = wr := ⟨_, rfl⟩
   subst hwo
   by_cases hjn : j < L
   ·have g0 : decide (((j : Nat) : Int) < (L : Int)) = true := decide_eq_true (by omega)
    have g1 : IntKind.i64.wrap ((j : Int) + 1) = ((j + 1 : Nat) : Int) := by have := HL.out; rw [IntWalk.i64_in _ (by omega)]; rfl
    have HFT := zh (b8b j)
    have HS2 := aL HS #[.int .i64 4, .string (bs [110, 97, 97]), .string (bs []), .slice none 0 0, .bool false, .string (bs []), .string (bs []), .int .i64 0] 31 wo.heap.size
    have hcr : World.ownsRow _ w.heap.size 31 8 u7 j (flat CRow.enc (List.replicate j subR)) := (HC.out.below (Ext.alloc (Below.refl wo.heap.size wo) (Obj.cells #[.int .i64 4, .string (bs [110, 97, 97]), .string (bs []), .slice none 0 0, .bool false, .string (bs []), .string (bs []), .int .i64 0] 31)))
    have hgr : World.ownsRow _ w.heap.size 27 5 u5 K (flat Nmd.enc (a3j K)) := (HG.out.below (Ext.alloc (Below.refl wo.heap.size wo) (Obj.cells #[.int .i64 4, .string (bs [110, 97, 97]), .string (bs []), .slice none 0 0, .bool false, .string (bs []), .string (bs []), .int .i64 0] 31)))
    have HB9 := zh HS2.out.below
    go_wp2_with (at_builtin; refine a9r _ rfl _ _ 28 rfl w.heap.size 31 ic _ 8 112 Tryd.underlying28 HC0.out HCZ.out hc1 hc8 rfl (by decide) a7y u7 j (List.replicate j subR) (by simp [Act.eval]) hcr subR (wo.heap.size) _ (HS2.out.blk 0 rfl) rfl (by simp [Act.eval]) (b7k _ rfl) (by have := HL.out; unfold maxLen; omega) (by have := HL.out; omega) HS2.out.below.size ?_)
    intro v9 w9 hown9 hg9
    rw [<- HFT.out] at hown9
    have HC9 := zh hown9
    have HG9 := zh (a2m hgr hg9 (a2w hcr (by decide)))
    have HS9 : Hid (St w [] w9) := zh (St.of (HB9.out.grown hg9 HB9.out.size (fun q hq => (World.ownsRow.lt hcr q hq).1)))
    clear hown9 hg9 hgr hcr HS2 HG HC HS
    go_wp2
    go_roundw
    case rel => exact ⟨j + 1, by omega, by go_num, HC9.out, HG9.out, HS9.out⟩
    case measure => simp [intOf]; omega
   have hje : j = L := by omega
   rw [hje] at HC ⊢
   have g0 : decide (((L : Nat) : Int) < (L : Int)) = false := decide_eq_false (by omega)
   clear hje hj hjn
   have hN : NmdL wo u5 (a3j K) := Slc.of_own b8r HG.out (a6j K)
   have hC : ClsL wo u7 (List.replicate L subC) := subs_L HC.out
   obtain ⟨An, cn, hu5, _, _⟩ := Slc.slice hN
   obtain ⟨Al, cl2, hu7, _, _⟩ := ClsL.slice hC
   rw [a6j] at hu5
   rw [List.length_replicate] at hu7
   subst hu5 hu7
   have HN := zh hN
   have HCL := zh hC
   have DC := zh (fun W (hb : Below wo.heap.size wo W) => a3f _ _ (a3j K) (List.replicate L subC) W (hN.below hb) (hC.below hb) (many_fit K L (by have := HK.out; omega) (by have := HL.out; omega)))
   clear hN hC HC HG
   have HB0 := zh HS.out.below
   have HT := zh (St.start wo)
   clear HS
   go_wp2_with fail
   refine (((DC.out _ HT.out.below).mono fun _ _ h => h.open)).mono ?_
   rintro e w2 ⟨Ap, cp, Bp, dp, Rp, Gp, ip, ep, rfl, hPp, hCp, hb2⟩
   generalize hnR : Rp.length = nR at *
   have hmc := b9c HK.out.1 HK.out.2 hCp
   rw [hnR] at hmc
   clear hPp hCp hnR
   have HT2 := zh (HT.out.call hb2)
   by_cases h24 : 24 < K
   clear hb2 HT
   ·rw [if_pos (.inl h24)] at hmc
    obtain ⟨rfl, rfl, rfl⟩ := hmc
    have d1 : decide ((24 : Int) < (K : Int)) = true := decide_eq_true (by omega)
    have d1' : decide (24 < K) = true := decide_eq_true h24
    clear h24
    go_wp2_with fail
    have HT3 := aL HT2 #[.slice Ap 0 cp, .slice Bp Gp.length dp] 35 w2.heap.size
    refine (DA.out _).mono ?_
    rintro e w4 ⟨rfl, hb4⟩
    have HT4 := zh (HT3.out.call hb4)
    clear hb4 HT2 HT3
    have x1 := cC HT4 0 0
    go_wp2
    go_ret
    exact ⟨rfl, HB0.out.trans (HT4.out.below.mono HB0.out.size)⟩
   by_cases h64 : 64 < L
   ·rw [if_pos (.inr h64)] at hmc
    obtain ⟨rfl, rfl, rfl⟩ := hmc
    have d1 : decide ((24 : Int) < (K : Int)) = false := decide_eq_false (by omega)
    have d1' : decide (24 < K) = false := decide_eq_false h24
    have d2 : decide ((64 : Int) < (L : Int)) = true := decide_eq_true (by omega)
    have d2' : decide (64 < L) = true := decide_eq_true h64
    clear h24 h64
    go_wp2_with fail
    have HT3 := aL HT2 #[.slice Ap 0 cp, .slice Bp Gp.length dp] 35 w2.heap.size
    refine (DA.out _).mono ?_
    rintro e w4 ⟨rfl, hb4⟩
    have HT4 := zh (HT3.out.call hb4)
    clear hb4 HT2 HT3
    have x1 := cC HT4 0 0
    go_wp2
    go_ret
    exact ⟨rfl, HB0.out.trans (HT4.out.below.mono HB0.out.size)⟩
   rw [if_neg (by omega)] at hmc
   obtain ⟨rfl, hnk⟩ := hmc
   have hnk : K = nR := hnk.symm
   subst hnk
   have d1 : decide ((24 : Int) < (K : Int)) = false := decide_eq_false (by omega)
   have d1' : decide (24 < K) = false := decide_eq_false h24
   have d2 : decide ((64 : Int) < (L : Int)) = false := decide_eq_false (by omega)
   have d2' : decide (64 < L) = false := decide_eq_false h64
   clear h24 h64
   go_wp2_with fail
   have HT3 := aL HT2 #[.slice Ap K cp, .slice Bp Gp.length dp] 35 w2.heap.size
   refine (DA.out _).mono ?_
   rintro e w4 ⟨rfl, hb4⟩
   have HT4 := zh (HT3.out.call hb4)
   clear hb4 HT2 HT3
   have x1 := cC HT4 0 0
   go_wp2
   go_ret
   exact ⟨rfl, HB0.out.trans (HT4.out.below.mono HB0.out.size)⟩
end Go.Proofs.YtgdhpghfojccaaaDoor
