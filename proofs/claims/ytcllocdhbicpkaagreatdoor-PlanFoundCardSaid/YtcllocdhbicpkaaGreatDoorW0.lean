/-
Short words for printed walks: cells by threes and elevens; a region whose operations have values.
-/
import Derived.Test.YtcllocdhbicpkaaGreatDoorV9
import Derived.Test.YtcllocdhbicpkaaGreatDoorVC
import Derived.Test.YtcllocdhbicpkaaGreatDoorVH
import Derived.Test.YtcllocdhbicpkaaGreatDoorVI
import Derived.Test.YtcllocdhbicpkaaGreatDoorV8
import Derived.Test.YtcllocdhbicpkaaGreatDoorVF
import Derived.Test.YtcllocdhbicpkaaGreatDoorVG
import Derived.Deep.AppendSrc
import Derived.Laws.Slices
import Derived.Test.YtcllocdhbicpkaaGreatDoorVA
import Derived.Laws.MakeOwn
namespace Go.Proofs.YtcllocdhbicpkaaGreatDoor
open Go.RowKit

section
variable {w0 w : World} {R : List Own} {g : Nat} {cs : Array Value} {t : TypeId}
theorem St.k0 {a b c : Value} (h : St w0 R w) (k : Nat) (hk : R[k]? = some ⟨g, cs, t⟩) (h0 : cs[0]? = some a) (h1 : cs[1]? = some b) (h2 : cs[2]? = some c) : w.cell? ⟨g, 0, none⟩ = some a ∧ w.cell? ⟨g, 1, none⟩ = some b ∧ w.cell? ⟨g, 2, none⟩ = some c := ⟨h.cell k hk 0 h0, h.cell k hk 1 h1, h.cell k hk 2 h2⟩
theorem St.k1 {a b c : Value} (h : St w0 R w) (k : Nat) (hk : R[k]? = some ⟨g, cs, t⟩) (h0 : cs[1]? = some a) (h1 : cs[2]? = some b) (h2 : cs[3]? = some c) : w.cell? ⟨g, 1, none⟩ = some a ∧ w.cell? ⟨g, 2, none⟩ = some b ∧ w.cell? ⟨g, 3, none⟩ = some c := ⟨h.cell k hk 1 h0, h.cell k hk 2 h1, h.cell k hk 3 h2⟩
theorem St.k4 {a b c : Value} (h : St w0 R w) (k : Nat) (hk : R[k]? = some ⟨g, cs, t⟩) (h0 : cs[4]? = some a) (h1 : cs[5]? = some b) (h2 : cs[6]? = some c) : w.cell? ⟨g, 4, none⟩ = some a ∧ w.cell? ⟨g, 5, none⟩ = some b ∧ w.cell? ⟨g, 6, none⟩ = some c := ⟨h.cell k hk 4 h0, h.cell k hk 5 h1, h.cell k hk 6 h2⟩
theorem St.k7 {a b c : Value} (h : St w0 R w) (k : Nat) (hk : R[k]? = some ⟨g, cs, t⟩) (h0 : cs[7]? = some a) (h1 : cs[8]? = some b) (h2 : cs[9]? = some c) : w.cell? ⟨g, 7, none⟩ = some a ∧ w.cell? ⟨g, 8, none⟩ = some b ∧ w.cell? ⟨g, 9, none⟩ = some c := ⟨h.cell k hk 7 h0, h.cell k hk 8 h1, h.cell k hk 9 h2⟩
theorem St.kA {a0 a1 a2 a3 a4 a5 a6 a7 a8 a9 aA : Value} (h : St w0 R w) (k : Nat) (hk : R[k]? = some ⟨g, cs, t⟩) (h0 : cs[0]? = some a0) (h1 : cs[1]? = some a1) (h2 : cs[2]? = some a2) (h3 : cs[3]? = some a3) (h4 : cs[4]? = some a4) (h5 : cs[5]? = some a5) (h6 : cs[6]? = some a6) (h7 : cs[7]? = some a7) (h8 : cs[8]? = some a8) (h9 : cs[9]? = some a9) (hA : cs[10]? = some aA) :
    w.cell? ⟨g, 0, none⟩ = some a0 ∧ w.cell? ⟨g, 1, none⟩ = some a1 ∧ w.cell? ⟨g, 2, none⟩ = some a2 ∧ w.cell? ⟨g, 3, none⟩ = some a3 ∧ w.cell? ⟨g, 4, none⟩ = some a4 ∧ w.cell? ⟨g, 5, none⟩ = some a5 ∧ w.cell? ⟨g, 6, none⟩ = some a6 ∧ w.cell? ⟨g, 7, none⟩ = some a7 ∧ w.cell? ⟨g, 8, none⟩ = some a8 ∧ w.cell? ⟨g, 9, none⟩ = some a9 ∧ w.cell? ⟨g, 10, none⟩ = some aA :=
  ⟨h.cell k hk 0 h0, h.cell k hk 1 h1, h.cell k hk 2 h2, h.cell k hk 3 h3, h.cell k hk 4 h4, h.cell k hk 5 h5, h.cell k hk 6 h6, h.cell k hk 7 h7, h.cell k hk 8 h8, h.cell k hk 9 h9, h.cell k hk 10 hA⟩
theorem St.f0 (h : St w0 R w) (k : Nat) (hk : R[k]? = some ⟨g, cs, t⟩) : w.frozen? ⟨g, 0, none⟩ = false ∧ w.frozen? ⟨g, 1, none⟩ = false ∧ w.frozen? ⟨g, 2, none⟩ = false := ⟨h.frozen k hk 0, h.frozen k hk 1, h.frozen k hk 2⟩
theorem St.f4 (h : St w0 R w) (k : Nat) (hk : R[k]? = some ⟨g, cs, t⟩) : w.frozen? ⟨g, 4, none⟩ = false ∧ w.frozen? ⟨g, 5, none⟩ = false ∧ w.frozen? ⟨g, 6, none⟩ = false := ⟨h.frozen k hk 4, h.frozen k hk 5, h.frozen k hk 6⟩
theorem St.f7 (h : St w0 R w) (k : Nat) (hk : R[k]? = some ⟨g, cs, t⟩) : w.frozen? ⟨g, 7, none⟩ = false ∧ w.frozen? ⟨g, 8, none⟩ = false ∧ w.frozen? ⟨g, 9, none⟩ = false := ⟨h.frozen k hk 7, h.frozen k hk 8, h.frozen k hk 9⟩
theorem St.fA (h : St w0 R w) (k : Nat) (hk : R[k]? = some ⟨g, cs, t⟩) : w.frozen? ⟨g, 0, none⟩ = false ∧ w.frozen? ⟨g, 1, none⟩ = false ∧ w.frozen? ⟨g, 2, none⟩ = false ∧ w.frozen? ⟨g, 3, none⟩ = false ∧ w.frozen? ⟨g, 4, none⟩ = false ∧ w.frozen? ⟨g, 5, none⟩ = false ∧ w.frozen? ⟨g, 6, none⟩ = false ∧ w.frozen? ⟨g, 7, none⟩ = false ∧ w.frozen? ⟨g, 8, none⟩ = false ∧ w.frozen? ⟨g, 9, none⟩ = false ∧ w.frozen? ⟨g, 10, none⟩ = false :=
  ⟨h.frozen k hk 0, h.frozen k hk 1, h.frozen k hk 2, h.frozen k hk 3, h.frozen k hk 4, h.frozen k hk 5, h.frozen k hk 6, h.frozen k hk 7, h.frozen k hk 8, h.frozen k hk 9, h.frozen k hk 10⟩
end
theorem kE {w : World} {b o : Nat} {l : List Value} {a0 a1 a2 a3 a4 a5 a6 a7 a8 a9 a10 : Value} (h : ∀ i u, l[i]? = some u → w.cell? ⟨b, o + i, none⟩ = some u) (h0 : l[0]? = some a0) (h1 : l[1]? = some a1) (h2 : l[2]? = some a2) (h3 : l[3]? = some a3) (h4 : l[4]? = some a4) (h5 : l[5]? = some a5) (h6 : l[6]? = some a6) (h7 : l[7]? = some a7) (h8 : l[8]? = some a8) (h9 : l[9]? = some a9) (h10 : l[10]? = some a10) : w.cell? ⟨b, o, none⟩ = some a0 ∧ w.cell? ⟨b, o + 1, none⟩ = some a1 ∧ w.cell? ⟨b, o + 2, none⟩ = some a2 ∧ w.cell? ⟨b, o + 3, none⟩ = some a3 ∧ w.cell? ⟨b, o + 4, none⟩ = some a4 ∧ w.cell? ⟨b, o + 5, none⟩ = some a5 ∧ w.cell? ⟨b, o + 6, none⟩ = some a6 ∧ w.cell? ⟨b, o + 7, none⟩ = some a7 ∧ w.cell? ⟨b, o + 8, none⟩ = some a8 ∧ w.cell? ⟨b, o + 9, none⟩ = some a9 ∧ w.cell? ⟨b, o + 10, none⟩ = some a10 := ⟨h 0 _ h0, h 1 _ h1, h 2 _ h2, h 3 _ h3, h 4 _ h4, h 5 _ h5, h 6 _ h6, h 7 _ h7, h 8 _ h8, h 9 _ h9, h 10 _ h10⟩
theorem kE0 {w : World} {b o : Nat} {l : List Value} {a0 a1 a2 : Value} (h : ∀ i u, l[i]? = some u → w.cell? ⟨b, o + i, none⟩ = some u) (h0 : l[0]? = some a0) (h1 : l[1]? = some a1) (h2 : l[2]? = some a2) : w.cell? ⟨b, o, none⟩ = some a0 ∧ w.cell? ⟨b, o + 1, none⟩ = some a1 ∧ w.cell? ⟨b, o + 2, none⟩ = some a2 := ⟨h 0 _ h0, h 1 _ h1, h 2 _ h2⟩
theorem kE1 {w : World} {b o : Nat} {l : List Value} {a0 a1 a2 : Value} (h : ∀ i u, l[i]? = some u → w.cell? ⟨b, o + i, none⟩ = some u) (h0 : l[1]? = some a0) (h1 : l[2]? = some a1) (h2 : l[3]? = some a2) : w.cell? ⟨b, o + 1, none⟩ = some a0 ∧ w.cell? ⟨b, o + 2, none⟩ = some a1 ∧ w.cell? ⟨b, o + 3, none⟩ = some a2 := ⟨h 1 _ h0, h 2 _ h1, h 3 _ h2⟩
theorem kE4 {w : World} {b o : Nat} {l : List Value} {a0 a1 a2 : Value} (h : ∀ i u, l[i]? = some u → w.cell? ⟨b, o + i, none⟩ = some u) (h0 : l[4]? = some a0) (h1 : l[5]? = some a1) (h2 : l[6]? = some a2) : w.cell? ⟨b, o + 4, none⟩ = some a0 ∧ w.cell? ⟨b, o + 5, none⟩ = some a1 ∧ w.cell? ⟨b, o + 6, none⟩ = some a2 := ⟨h 4 _ h0, h 5 _ h1, h 6 _ h2⟩
theorem kE7 {w : World} {b o : Nat} {l : List Value} {a0 a1 a2 : Value} (h : ∀ i u, l[i]? = some u → w.cell? ⟨b, o + i, none⟩ = some u) (h0 : l[7]? = some a0) (h1 : l[8]? = some a1) (h2 : l[9]? = some a2) : w.cell? ⟨b, o + 7, none⟩ = some a0 ∧ w.cell? ⟨b, o + 8, none⟩ = some a1 ∧ w.cell? ⟨b, o + 9, none⟩ = some a2 := ⟨h 7 _ h0, h 8 _ h1, h 9 _ h2⟩
/-- The value is this one. -/
def eQ (x : Value) : World → Value → Prop := fun _ v => v = x
theorem stE {x : Value} (w1 w2 : World) (v : Value) (h : eQ x w1 v) (_ : Below w1.heap.size w1 w2) : eQ x w2 v := h
theorem sQ {a1 : Act} {d : Option Tmp} {w1 : World} {p : World → Value → Prop} {v : Value} (h : p w1 v) : StepQ a1 d w1 p .normal (a1.put d v) w1 := StepQ.mk v (Below.refl _ _) h
theorem stb_eq : ∀ V : List Value, stb (V.map eQ)
  | [] => trivial
  | _ :: V => ⟨fun _ _ _ h _ => h, stb_eq V⟩
theorem wp_region_eq {P : Program} {id : Nat} {Q : Exit → Act → World → Prop} {a : Act} {w : World} {l : List Oper} (n : Nat) (V : List Value) (hm : P.follows .mixedOrders = true) (hB : invB l.toArray n = true) (hD : apartB (l.take n) = true)
    (hS : (l.take n).all (fun o => match o.dst with | some d => decide (d < a.tmps.size) | none => true) = true)
    (hstep : stepsOk (StepR P l n (fun i => (V.map eQ).getD i (fun _ _ => True)) a w) (l.take n) 0)
    (hend : ∀ x w1, Below w.heap.size w w1 → (∀ i, i < n → ((V.map eQ).getD i (fun _ _ => True)) w1 (x i)) → wpList P l.toArray Q (l.drop n) (fillA (l.take n) 0 x a) w1) : (Code.region id l.toArray true).wp P Q a w :=
  wp_region_facts n (V.map eQ) hm hB hD hS (stb_eq V) hstep hend
end Go.Proofs.YtcllocdhbicpkaaGreatDoor

/-
The document's differences and comparisons of rational numbers (printed by gen_rc.py).
-/
namespace Go.Proofs.YtcllocdhbicpkaaGreatDoor
open Go.RowKit

theorem sgnR_dec (q : Rat) : sgnR (negB q) (numB q) = sgn q.num := sgnR_sgn q

set_option maxRecDepth 100000 in
set_option maxHeartbeats 1000000 in
theorem ref_Minus (p q : Rat) (w : World) (sp : Sized 17179869184 p) (sq : Sized 17179869184 q) :
    Calls Tryz.prog 55 #[rat p, rat q] w fun e w' => e = .returned (rat (p - q)) ∧ Below w.heap.size w w' := by
  rw [Rat.sub_eq_add_neg]
  have ng := fun W => ref_Opposite q W
  have ad := fun W => ref_Plus p (-q) W sp sq.neg
  clear sp sq
  generalize p + -q = r at *
  generalize hm : -q = m at *
  unfold rat raw at *
  generalize negB p = np at *
  generalize numB p = bp at *
  generalize denomB p = dp at *
  generalize negB q = nq at *
  generalize numB q = bq at *
  generalize denomB q = dq at *
  generalize negB r = nr at *
  generalize numB r = br at *
  generalize denomB r = dr at *
  generalize negB m = nm at *
  generalize numB m = bm at *
  generalize denomB m = dm at *
  clear hm
  have AD := Lib.hid ad
  have NG := Lib.hid ng
  clear ad ng
  go_enter Tryz.func55, Tryz.ntmps55
  have HS := Lib.hid (St.start w)
  go_wp2
  have HS2 : Hid (St w [⟨w.heap.size + 1 + 1, #[.bool false, .string (bs []), .string (bs [])], 25⟩, ⟨w.heap.size + 1, #[.bool nq, .string (bs bq), .string (bs dq)], 25⟩, ⟨w.heap.size, #[.bool np, .string (bs bp), .string (bs dp)], 25⟩] _) := Lib.hid (St.alloc ((St.alloc ((St.alloc (HS.out) #[.bool np, .string (bs bp), .string (bs dp)] 25 _ (by simp))) #[.bool nq, .string (bs bq), .string (bs dq)] 25 _ (by simp))) #[.bool false, .string (bs []), .string (bs [])] 25 _ (by simp))
  clear HS
  refine wp_region_facts 4 [fun _ vv => vv = .agg #[.bool np, .string (bs bp), .string (bs dp)], fun _ vv => vv = .agg #[.bool nq, .string (bs bq), .string (bs dq)], fun _ vv => vv = .agg #[.bool nm, .string (bs bm), .string (bs dm)], fun _ vv => vv = .agg #[.bool nr, .string (bs br), .string (bs dr)]] rfl (by kernel_rfl) (by kernel_rfl) (by kernel_rfl) ⟨fun _ _ _ h _ => h, fun _ _ _ h _ => h, fun _ _ _ h _ => h, fun _ _ _ h _ => h, trivial⟩ ?_ ?_
  refine ⟨?_, ?_, ?_, ?_, trivial⟩
  · intro xx af wv hbx hev hev0 hd
    have e2 : af.tmps[2]?.getD undef = .pointer (some ⟨w.heap.size, 0, none⟩) := hev0 2 rfl
    clear hev hev0 hd
    have hs1 := Lib.hid (HS2.out.call hbx)
    have y0 := hs1.out.cell 2 rfl 0 rfl
    have y1 := hs1.out.cell 2 rfl 1 rfl
    have y2 := hs1.out.cell 2 rfl 2 rfl
    go_wp2
    exact StepQ.mk _ (Below.refl _ _) rfl
  · intro xx af wv hbx hev hev0 hd
    have e3 : af.tmps[3]?.getD undef = .pointer (some ⟨w.heap.size + 1, 0, none⟩) := hev0 3 rfl
    clear hev hev0 hd
    have hs1 := Lib.hid (HS2.out.call hbx)
    have y0 := hs1.out.cell 1 rfl 0 rfl
    have y1 := hs1.out.cell 1 rfl 1 rfl
    have y2 := hs1.out.cell 1 rfl 2 rfl
    go_wp2
    exact StepQ.mk _ (Below.refl _ _) rfl
  · intro xx af wv hbx hev hev0 hd
    have e6 := hev 1 _ 6 rfl rfl
    have d1 : xx 1 = .agg #[.bool nq, .string (bs bq), .string (bs dq)] := hd ⟨1, .data⟩ (by simp) rfl
    rw [d1] at e6
    clear d1
    clear hev hev0 hd
    go_wp2_with fail
    refine (NG.out _).mono ?_
    rintro e w8 ⟨rfl, hb8⟩
    go_wp2
    exact StepQ.mk _ hb8 rfl
  · intro xx af wv hbx hev hev0 hd
    have e5 := hev 0 _ 5 rfl rfl
    have d0 : xx 0 = .agg #[.bool np, .string (bs bp), .string (bs dp)] := hd ⟨0, .data⟩ (by simp) rfl
    rw [d0] at e5
    clear d0
    have e7 := hev 2 _ 7 rfl rfl
    have d2 : xx 2 = .agg #[.bool nm, .string (bs bm), .string (bs dm)] := hd ⟨2, .data⟩ (by simp) rfl
    rw [d2] at e7
    clear d2
    clear hev hev0 hd
    go_wp2_with fail
    refine (AD.out _).mono ?_
    rintro e w8 ⟨rfl, hb8⟩
    go_wp2
    exact StepQ.mk _ hb8 rfl
  intro xx w6 hb9 hv
  have hv0 : xx 0 = .agg #[.bool np, .string (bs bp), .string (bs dp)] := hv 0 (by decide)
  have hv1 : xx 1 = .agg #[.bool nq, .string (bs bq), .string (bs dq)] := hv 1 (by decide)
  have hv2 : xx 2 = .agg #[.bool nm, .string (bs bm), .string (bs dm)] := hv 2 (by decide)
  have hv3 : xx 3 = .agg #[.bool nr, .string (bs br), .string (bs dr)] := hv 3 (by decide)
  clear hv
  simp only [List.take, List.drop, fillA, Act.put]
  simp only [hv0, hv1, hv2, hv3]
  clear hv0 hv1 hv2 hv3
  have HS6 := Lib.hid (HS2.out.call hb9)
  clear hb9 HS2
  have x1 := HS6.out.cell 0 rfl 0 rfl
  have x2 := HS6.out.cell 0 rfl 1 rfl
  have x3 := HS6.out.cell 0 rfl 2 rfl
  have x4 := HS6.out.frozen 0 rfl 0
  have x5 := HS6.out.frozen 0 rfl 1
  have x6 := HS6.out.frozen 0 rfl 2
  have x7 := HS6.out.ne 0 1 rfl rfl (by decide)
  have x8 := HS6.out.ne 1 0 rfl rfl (by decide)
  have x9 := HS6.out.ne 0 2 rfl rfl (by decide)
  have x10 := HS6.out.ne 2 0 rfl rfl (by decide)
  go_wp2
  have HS7 : Hid (St w [⟨w.heap.size + 1 + 1, #[.bool nr, .string (bs br), .string (bs dr)], 25⟩, ⟨w.heap.size + 1, #[.bool nq, .string (bs bq), .string (bs dq)], 25⟩, ⟨w.heap.size, #[.bool np, .string (bs bp), .string (bs dp)], 25⟩] _) := Lib.hid (St.set ((St.set ((St.set (HS6.out) 0 rfl 0 _)) 0 rfl 1 _)) 0 rfl 2 _)
  refine bodyPost_ret (raw_result rfl _ _ _ _ _ _ rfl (HS7.out.blk 0 rfl)) rfl ?_
  exact ⟨rfl, HS7.out.below⟩

set_option maxRecDepth 100000 in
set_option maxHeartbeats 1000000 in
theorem ref_Compare (n1 : Bool) (a1 b1 : List UInt8) (n2 : Bool) (a2 b2 : List UInt8) (w : World) (la1 : a1.length ≤ 17179869184) (lb1 : b1.length ≤ 17179869184) (la2 : a2.length ≤ 17179869184) (lb2 : b2.length ≤ 17179869184) :
    Calls Tryz.prog 26 #[raw n1 a1 b1, raw n2 a2 b2] w fun e w' => e = .returned (.int .i64 (sgn (decR n1 a1 b1 - decR n2 a2 b2).num)) ∧ Below w.heap.size w w' := by
  have c1 := fun W => ref_Fix n1 a1 b1 W (by omega) (by omega)
  have c2 := fun W => ref_Fix n2 a2 b2 W (by omega) (by omega)
  have sp := sized_dec (neg := n1) la1 lb1 (by decide)
  have sq := sized_dec (neg := n2) la2 lb2 (by decide)
  generalize decR n1 a1 b1 = p at *
  generalize decR n2 a2 b2 = q at *
  clear la1 lb1 la2 lb2
  have mi := fun W => ref_Minus p q W sp sq
  have sg := fun W => ref_Signum (negB (p - q)) (numB (p - q)) (denomB (p - q)) W
  rw [sgnR_dec] at sg
  clear sp sq
  generalize sgn (p - q).num = s at *
  generalize p - q = r at *
  unfold rat raw at *
  generalize negB p = np at *
  generalize numB p = bp at *
  generalize denomB p = dp at *
  generalize negB q = nq at *
  generalize numB q = bq at *
  generalize denomB q = dq at *
  generalize negB r = nr at *
  generalize numB r = br at *
  generalize denomB r = dr at *
  have C1 := Lib.hid c1
  have C2 := Lib.hid c2
  have MI := Lib.hid mi
  have SG := Lib.hid sg
  clear c1 c2 mi sg
  go_enter Tryz.func26, Tryz.ntmps26
  have HS := Lib.hid (St.start w)
  go_wp2
  have HS2 : Hid (St w [⟨w.heap.size + 1, #[.bool n2, .string (bs a2), .string (bs b2)], 25⟩, ⟨w.heap.size, #[.bool n1, .string (bs a1), .string (bs b1)], 25⟩] _) := Lib.hid (St.alloc ((St.alloc (HS.out) #[.bool n1, .string (bs a1), .string (bs b1)] 25 _ (by simp))) #[.bool n2, .string (bs a2), .string (bs b2)] 25 _ (by simp))
  clear HS
  refine wp_region_facts 6 [fun _ vv => vv = .agg #[.bool n1, .string (bs a1), .string (bs b1)], fun _ vv => vv = .agg #[.bool np, .string (bs bp), .string (bs dp)], fun _ vv => vv = .agg #[.bool n2, .string (bs a2), .string (bs b2)], fun _ vv => vv = .agg #[.bool nq, .string (bs bq), .string (bs dq)], fun _ vv => vv = .agg #[.bool nr, .string (bs br), .string (bs dr)], fun _ vv => vv = .int .i64 s] rfl (by kernel_rfl) (by kernel_rfl) (by kernel_rfl) ⟨fun _ _ _ h _ => h, fun _ _ _ h _ => h, fun _ _ _ h _ => h, fun _ _ _ h _ => h, fun _ _ _ h _ => h, fun _ _ _ h _ => h, trivial⟩ ?_ ?_
  refine ⟨?_, ?_, ?_, ?_, ?_, ?_, trivial⟩
  · intro xx af wv hbx hev hev0 hd
    have e2 : af.tmps[2]?.getD undef = .pointer (some ⟨w.heap.size, 0, none⟩) := hev0 2 rfl
    clear hev hev0 hd
    have hs1 := Lib.hid (HS2.out.call hbx)
    have y0 := hs1.out.cell 1 rfl 0 rfl
    have y1 := hs1.out.cell 1 rfl 1 rfl
    have y2 := hs1.out.cell 1 rfl 2 rfl
    go_wp2
    exact StepQ.mk _ (Below.refl _ _) rfl
  · intro xx af wv hbx hev hev0 hd
    have e5 := hev 0 _ 5 rfl rfl
    have d0 : xx 0 = .agg #[.bool n1, .string (bs a1), .string (bs b1)] := hd ⟨0, .data⟩ (by simp) rfl
    rw [d0] at e5
    clear d0
    clear hev hev0 hd
    go_wp2_with fail
    refine (C1.out _).mono ?_
    rintro e w8 ⟨rfl, hb8⟩
    go_wp2
    exact StepQ.mk _ hb8 rfl
  · intro xx af wv hbx hev hev0 hd
    have e3 : af.tmps[3]?.getD undef = .pointer (some ⟨w.heap.size + 1, 0, none⟩) := hev0 3 rfl
    clear hev hev0 hd
    have hs1 := Lib.hid (HS2.out.call hbx)
    have y0 := hs1.out.cell 0 rfl 0 rfl
    have y1 := hs1.out.cell 0 rfl 1 rfl
    have y2 := hs1.out.cell 0 rfl 2 rfl
    go_wp2
    exact StepQ.mk _ (Below.refl _ _) rfl
  · intro xx af wv hbx hev hev0 hd
    have e7 := hev 2 _ 7 rfl rfl
    have d2 : xx 2 = .agg #[.bool n2, .string (bs a2), .string (bs b2)] := hd ⟨2, .data⟩ (by simp) rfl
    rw [d2] at e7
    clear d2
    clear hev hev0 hd
    go_wp2_with fail
    refine (C2.out _).mono ?_
    rintro e w8 ⟨rfl, hb8⟩
    go_wp2
    exact StepQ.mk _ hb8 rfl
  · intro xx af wv hbx hev hev0 hd
    have e6 := hev 1 _ 6 rfl rfl
    have d1 : xx 1 = .agg #[.bool np, .string (bs bp), .string (bs dp)] := hd ⟨1, .data⟩ (by simp) rfl
    rw [d1] at e6
    clear d1
    have e8 := hev 3 _ 8 rfl rfl
    have d3 : xx 3 = .agg #[.bool nq, .string (bs bq), .string (bs dq)] := hd ⟨3, .data⟩ (by simp) rfl
    rw [d3] at e8
    clear d3
    clear hev hev0 hd
    go_wp2_with fail
    refine (MI.out _).mono ?_
    rintro e w8 ⟨rfl, hb8⟩
    go_wp2
    exact StepQ.mk _ hb8 rfl
  · intro xx af wv hbx hev hev0 hd
    have e9 := hev 4 _ 9 rfl rfl
    have d4 : xx 4 = .agg #[.bool nr, .string (bs br), .string (bs dr)] := hd ⟨4, .data⟩ (by simp) rfl
    rw [d4] at e9
    clear d4
    clear hev hev0 hd
    go_wp2_with fail
    refine (SG.out _).mono ?_
    rintro e w8 ⟨rfl, hb8⟩
    go_wp2
    exact StepQ.mk _ hb8 rfl
  intro xx w5 hb9 hv
  have hv0 : xx 0 = .agg #[.bool n1, .string (bs a1), .string (bs b1)] := hv 0 (by decide)
  have hv1 : xx 1 = .agg #[.bool np, .string (bs bp), .string (bs dp)] := hv 1 (by decide)
  have hv2 : xx 2 = .agg #[.bool n2, .string (bs a2), .string (bs b2)] := hv 2 (by decide)
  have hv3 : xx 3 = .agg #[.bool nq, .string (bs bq), .string (bs dq)] := hv 3 (by decide)
  have hv4 : xx 4 = .agg #[.bool nr, .string (bs br), .string (bs dr)] := hv 4 (by decide)
  have hv5 : xx 5 = .int .i64 s := hv 5 (by decide)
  clear hv
  simp only [List.take, List.drop, fillA, Act.put]
  simp only [hv0, hv1, hv2, hv3, hv4, hv5]
  clear hv0 hv1 hv2 hv3 hv4 hv5
  have HS5 := Lib.hid (HS2.out.call hb9)
  clear hb9 HS2
  go_wp2
  go_ret
  have HS6 : Hid (St w [⟨w.heap.size + 1, #[.bool n2, .string (bs a2), .string (bs b2)], 25⟩, ⟨w.heap.size, #[.bool n1, .string (bs a1), .string (bs b1)], 25⟩] _) := Lib.hid HS5.out
  exact ⟨rfl, HS6.out.below⟩

end Go.Proofs.YtcllocdhbicpkaaGreatDoor

/-
Votes: checked, counted, carried; plain Lean.
-/
namespace Go.Proofs.YtcllocdhbicpkaaGreatDoor
open Go.RowKit

/-- A voter. -/
structure Vtr where
  party : Int
  an : Bool
  aa : List UInt8
  ab : List UInt8
  kn : Bool
  ka : List UInt8
  kb : List UInt8
  ex : Bool
def Vtr.enc (v : Vtr) : List Value := [.int .i64 v.party, .bool v.an, .string (bs v.aa), .string (bs v.ab), .bool v.kn, .string (bs v.ka), .string (bs v.kb), .bool v.ex]
def Vtr.amount (v : Vtr) : Rat := decR v.an v.aa v.ab
def Vtr.ask (v : Vtr) : Rat := decR v.kn v.ka v.kb
abbrev VotersL (w : World) (v : Value) (l : List Vtr) : Prop := Slc Vtr.enc 8 w v l
theorem vtr_len (v : Vtr) : v.enc.length = 8 := rfl

def vErr (v : Vtr) : Int := if v.party < 0 then 14 else if sgn v.amount.num < 0 ∨ sgn v.ask.num < 0 then 7 else 0
def checkVTo : List Vtr → Int
  | [] => 0
  | v :: l => if vErr v = 0 then checkVTo l else vErr v
def checkV (l : List Vtr) : Int := if 64 < l.length then 2 else checkVTo l
theorem checkVTo_drop {l : List Vtr} {k : Nat} {v : Vtr} (hv : l[k]? = some v) : checkVTo (l.drop k) = if vErr v = 0 then checkVTo (l.drop (k + 1)) else vErr v := by rw [drop_at hv]; rfl
theorem checkV_long {l : List Vtr} (h : 64 < l.length) : checkV l = 2 := by unfold checkV; rw [if_pos h]
theorem checkV_short {l : List Vtr} (h : l.length ≤ 64) : checkV l = checkVTo l := by unfold checkV; rw [if_neg (by omega)]
theorem checkV_zero {l : List Vtr} (h : checkV l = 0) : l.length ≤ 64 ∧ ∀ v ∈ l, 0 ≤ v.party ∧ 0 ≤ v.amount ∧ 0 ≤ v.ask := by
  unfold checkV at h
  split at h
  · cases h
  · refine ⟨by omega, ?_⟩
    have : ∀ l : List Vtr, checkVTo l = 0 → ∀ v ∈ l, 0 ≤ v.party ∧ 0 ≤ v.amount ∧ 0 ≤ v.ask := by
      intro l
      induction l with
      | nil => intro _ v hv; cases hv
      | cons a l ih =>
        intro h v hv
        rw [checkVTo] at h
        by_cases he : vErr a = 0
        · rw [if_pos he] at h
          rcases List.mem_cons.1 hv with rfl | hv
          · unfold vErr at he
            split at he
            · cases he
            · split at he
              · cases he
              · rename_i h1 h2
                exact ⟨by omega, sgn_rat (by omega), sgn_rat (by omega)⟩
          · exact ih h v hv
        · rw [if_neg he] at h; exact absurd h he
    exact this l h

/-- Does a voter block its party's consent? -/
def blocks (party : Int) (rate : Rat) (v : Vtr) : Bool := v.party == party && (!v.ex && decide (0 < sgn (v.ask - rate).num))
def yesP (l : List Vtr) (party : Int) (rate : Rat) : Bool := l.all fun v => !blocks party rate v
/-- The parties that vote, in the order of their first votes. -/
def parts : List Vtr → List Int → List Int
  | [], acc => acc
  | v :: l, acc => parts l (if v.ex || acc.contains v.party then acc else acc ++ [v.party])
def amountV (l : List Vtr) : Rat := l.foldl (fun s v => if v.ex then s else s + v.amount) 0
def forOf (yes : Int → Bool) (l : List Vtr) : Rat := l.foldl (fun s v => if v.ex then s else if yes v.party then s + v.amount else s) 0
structure Tly where
  amount : Rat
  yes : Rat
  heads : Nat
  yesHeads : Nat
def tallyV (l : List Vtr) (rate : Rat) : Tly := ⟨amountV l, forOf (fun p => yesP l p rate) l, (parts l []).length, ((parts l []).filter fun p => yesP l p rate).length⟩
def passedV (t : Tly) : Bool := decide (0 ≤ sgn (3 * t.yes - 2 * t.amount).num) && decide (t.heads < 2 * t.yesHeads)

theorem sgn_pos_iff {q : Rat} : 0 < sgn q.num ↔ 0 < q := by
  have h : 0 < q ↔ 0 < q.num := by
    rw [← Rat.not_le, ← Int.not_le]
    have h1 : q ≤ 0 ↔ q.num ≤ 0 := by
      have := @Rat.num_nonneg (-q)
      rw [Rat.neg_num] at this
      constructor
      · intro h; have := this.2 (by grind); omega
      · intro h; have := this.1 (by omega); grind
    rw [h1]
  rw [h]
  rcases sgn_cases q.num with ⟨h1, e⟩ | ⟨h1, e⟩ | ⟨h1, e⟩ <;> rw [e] <;> omega
theorem blocks_iff {p : Int} {rate : Rat} {v : Vtr} : blocks p rate v = true ↔ v.party = p ∧ v.ex = false ∧ rate < v.ask := by
  unfold blocks
  simp only [Bool.and_eq_true, beq_iff_eq, Bool.not_eq_true', decide_eq_true_eq, sgn_pos_iff]
  have : 0 < v.ask - rate ↔ rate < v.ask := by grind
  rw [this]
theorem yesP_iff {l : List Vtr} {p : Int} {rate : Rat} : yesP l p rate = true ↔ ∀ v ∈ l, v.party = p → v.ex = false → v.ask ≤ rate := by
  unfold yesP
  rw [List.all_eq_true]
  constructor
  · intro h v hv h1 h2
    have := h v hv
    rw [Bool.not_eq_true'] at this
    refine Rat.not_lt.1 fun h3 => ?_
    rw [blocks_iff.2 ⟨h1, h2, h3⟩] at this; cases this
  · intro h v hv
    rw [Bool.not_eq_true']
    cases hb : blocks p rate v with
    | false => rfl
    | true =>
      obtain ⟨h1, h2, h3⟩ := blocks_iff.1 hb
      exact absurd (h v hv h1 h2) (Rat.not_le.2 h3)
theorem yesP_mono {l : List Vtr} {p : Int} {r s : Rat} (hrs : r ≤ s) (h : yesP l p r = true) : yesP l p s = true :=
  yesP_iff.2 fun v hv h1 h2 => Rat.le_trans (yesP_iff.1 h v hv h1 h2) hrs
theorem forOf_mono {f g : Int → Bool} (h : ∀ p, f p = true → g p = true) (l : List Vtr) (hl : ∀ v ∈ l, 0 ≤ v.amount) : forOf f l ≤ forOf g l := by
  unfold forOf
  have : ∀ (l : List Vtr) (s t : Rat), (∀ v ∈ l, 0 ≤ v.amount) → s ≤ t → l.foldl (fun s v => if v.ex then s else if f v.party then s + v.amount else s) s ≤ l.foldl (fun s v => if v.ex then s else if g v.party then s + v.amount else s) t := by
    intro l
    induction l with
    | nil => intro s t _ h; exact h
    | cons v l ih =>
      intro s t hl hst
      rw [List.foldl_cons, List.foldl_cons]
      refine ih _ _ (fun x hx => hl x (by simp [hx])) ?_
      have hv := hl v (by simp)
      by_cases he : v.ex = true
      · rw [if_pos he, if_pos he]; exact hst
      · rw [if_neg he, if_neg he]
        by_cases hf : f v.party = true
        · rw [if_pos hf, if_pos (h _ hf)]; grind
        · rw [if_neg hf]
          split
          · grind
          · exact hst
  exact this l 0 0 hl Rat.le_refl
theorem filter_more {f g : Int → Bool} (h : ∀ p, f p = true → g p = true) : ∀ m : List Int, (m.filter f).length ≤ (m.filter g).length
  | [] => Nat.le_refl _
  | x :: m => by
    have ih := filter_more h m
    rw [List.filter_cons, List.filter_cons]
    by_cases hf : f x = true
    · rw [if_pos hf, if_pos (h x hf)]; simp only [List.length_cons]; omega
    · rw [if_neg hf]
      split
      · simp only [List.length_cons]; omega
      · exact ih
theorem tally_mono {l : List Vtr} (hl : ∀ v ∈ l, 0 ≤ v.amount) {r s : Rat} (hrs : r ≤ s) : (tallyV l r).yes ≤ (tallyV l s).yes ∧ (tallyV l r).yesHeads ≤ (tallyV l s).yesHeads :=
  ⟨forOf_mono (fun _ h => yesP_mono hrs h) l hl, filter_more (fun _ h => yesP_mono hrs h) _⟩
theorem sgn_nonneg_iff {q : Rat} : 0 ≤ sgn q.num ↔ 0 ≤ q := ⟨sgn_rat, fun h => Int.not_lt.1 (sgn_nonneg h)⟩
theorem passed_mono {l : List Vtr} (hl : ∀ v ∈ l, 0 ≤ v.amount) {r s : Rat} (hrs : r ≤ s) (h : passedV (tallyV l r) = true) : passedV (tallyV l s) = true := by
  unfold passedV at *
  simp only [Bool.and_eq_true, decide_eq_true_eq, sgn_nonneg_iff] at *
  obtain ⟨h1, h2⟩ := tally_mono hl hrs
  have e1 : (tallyV l r).amount = (tallyV l s).amount := rfl
  have e2 : (tallyV l r).heads = (tallyV l s).heads := rfl
  rw [← e1, ← e2]
  exact ⟨by grind, by omega⟩
/-- Two rates with the same asks below them. -/
theorem tally_same {l : List Vtr} {r s : Rat} (h : ∀ v ∈ l, v.ex = false → (v.ask ≤ r ↔ v.ask ≤ s)) : tallyV l r = tallyV l s := by
  have hy : (fun p => yesP l p r) = (fun p => yesP l p s) := by
    funext p
    rw [Bool.eq_iff_iff, yesP_iff, yesP_iff]
    exact ⟨fun hh v hv h1 h2 => (h v hv h2).1 (hh v hv h1 h2), fun hh v hv h1 h2 => (h v hv h2).2 (hh v hv h1 h2)⟩
  unfold tallyV
  rw [hy]

/-- The rates at which a vote may turn. -/
def cands (l : List Vtr) : List Rat := 0 :: (l.filter fun v => !v.ex).map Vtr.ask
theorem cand_below {l : List Vtr} {r : Rat} (hr : 0 ≤ r) : ∃ a ∈ cands l, a ≤ r ∧ tallyV l a = tallyV l r := by
  -- the greatest candidate that is not above r
  have key : ∀ m : List Rat, (∃ a ∈ m, a ≤ r) → ∃ a ∈ m, a ≤ r ∧ ∀ b ∈ m, b ≤ r → b ≤ a := by
    intro m
    induction m with
    | nil => rintro ⟨a, ha, _⟩; cases ha
    | cons x m ih =>
      rintro ⟨a, ha, har⟩
      by_cases hm : ∃ a ∈ m, a ≤ r
      · obtain ⟨c, hc, hcr, hmax⟩ := ih hm
        by_cases hx : x ≤ r ∧ c ≤ x
        · refine ⟨x, by simp, hx.1, fun b hb hbr => ?_⟩
          rcases List.mem_cons.1 hb with rfl | hb
          · exact Rat.le_refl
          · exact Rat.le_trans (hmax b hb hbr) hx.2
        · refine ⟨c, by simp [hc], hcr, fun b hb hbr => ?_⟩
          rcases List.mem_cons.1 hb with rfl | hb
          · by_cases h2 : c ≤ b
            · exact absurd ⟨hbr, h2⟩ hx
            · exact Rat.le_of_lt (Rat.not_le.1 h2)
          · exact hmax b hb hbr
      · rcases List.mem_cons.1 ha with rfl | ha
        · refine ⟨a, by simp, har, fun b hb hbr => ?_⟩
          rcases List.mem_cons.1 hb with rfl | hb
          · exact Rat.le_refl
          · exact absurd ⟨b, hb, hbr⟩ hm
        · exact absurd ⟨a, ha, har⟩ hm
  obtain ⟨a, ha, har, hmax⟩ := key (cands l) ⟨0, by simp [cands], hr⟩
  refine ⟨a, ha, har, tally_same fun v hv hex => ⟨fun h => Rat.le_trans h har, fun h => hmax v.ask ?_ h⟩⟩
  unfold cands
  refine List.mem_cons_of_mem _ (List.mem_map.2 ⟨v, List.mem_filter.2 ⟨hv, by simp [hex]⟩, rfl⟩)
end Go.Proofs.YtcllocdhbicpkaaGreatDoor

/-
The threshold of a vote; the order of the voters; plain Lean.
-/
namespace Go.Proofs.YtcllocdhbicpkaaGreatDoor
open Go.RowKit

/-- A rate from 0 to 1 that carries. -/
def okRate (l : List Vtr) (r : Rat) : Bool := decide (r ≤ 1) && passedV (tallyV l r)
def tryV (l : List Vtr) (st : Rat × Bool) (r : Rat) : Rat × Bool := if (!st.2 || decide (r < st.1)) && okRate l r then (r, true) else st
/-- The program's search: 0, then the asks of those who vote. -/
def thrV (l : List Vtr) : Rat × Bool := (cands l).foldl (tryV l) (0, false)
/-- The document's: 0, else the asks of all. -/
def thrR (l : List Vtr) : Rat × Bool := if passedV (tallyV l 0) then (0, true) else (l.map Vtr.ask).foldl (tryV l) (0, false)

def IsLeast (P : Rat → Bool) (m : List Rat) (x : Rat × Bool) : Prop := (x.2 = true ∧ x.1 ∈ m ∧ P x.1 = true ∧ ∀ b ∈ m, P b = true → x.1 ≤ b) ∨ (x = (0, false) ∧ ∀ b ∈ m, P b = false)
theorem least_step {l : List Vtr} {m : List Rat} {x : Rat × Bool} {r : Rat} (h : IsLeast (okRate l) m x) : IsLeast (okRate l) (m ++ [r]) (tryV l x r) := by
  have hm : ∀ b, b ∈ m ++ [r] ↔ b ∈ m ∨ b = r := by intro b; simp
  unfold tryV
  by_cases hr : okRate l r = true
  · rcases h with ⟨h1, h2, h3, h4⟩ | ⟨rfl, h4⟩
    · rw [h1, hr]
      by_cases hlt : r < x.1
      · rw [if_pos (by simp [hlt])]
        refine .inl ⟨rfl, (hm r).2 (.inr rfl), hr, fun b hb hbp => ?_⟩
        rcases (hm b).1 hb with hb | rfl
        · exact Rat.le_trans (Rat.le_of_lt hlt) (h4 b hb hbp)
        · exact Rat.le_refl
      · rw [if_neg (by simp [hlt])]
        refine .inl ⟨h1, (hm _).2 (.inl h2), h3, fun b hb hbp => ?_⟩
        rcases (hm b).1 hb with hb | rfl
        · exact h4 b hb hbp
        · exact Rat.not_lt.1 hlt
    · rw [hr, if_pos (by rfl)]
      refine .inl ⟨rfl, (hm r).2 (.inr rfl), hr, fun b hb hbp => ?_⟩
      rcases (hm b).1 hb with hb | rfl
      · rw [h4 b hb] at hbp; cases hbp
      · exact Rat.le_refl
  · have hr' : okRate l r = false := by simpa using hr
    rw [hr', Bool.and_false, if_neg (by decide)]
    rcases h with ⟨h1, h2, h3, h4⟩ | ⟨rfl, h4⟩
    · refine .inl ⟨h1, (hm _).2 (.inl h2), h3, fun b hb hbp => ?_⟩
      rcases (hm b).1 hb with hb | rfl
      · exact h4 b hb hbp
      · rw [hr'] at hbp; cases hbp
    · refine .inr ⟨rfl, fun b hb => ?_⟩
      rcases (hm b).1 hb with hb | rfl
      · exact h4 b hb
      · exact hr'
theorem least_fold {l : List Vtr} (m : List Rat) : IsLeast (okRate l) m (m.foldl (tryV l) (0, false)) := by
  induction m using rev_ind with
  | h0 => exact .inr ⟨rfl, by simp⟩
  | h1 m r ih => rw [List.foldl_append]; exact least_step ih
theorem least_same {P : Rat → Bool} {m n : List Rat} {x y : Rat × Bool} (hx : IsLeast P m x) (hy : IsLeast P n y) (h1 : ∀ b ∈ m, P b = true → ∃ c ∈ n, P c = true ∧ c ≤ b) (h2 : ∀ b ∈ n, P b = true → ∃ c ∈ m, P c = true ∧ c ≤ b) : x = y := by
  rcases hx with ⟨x1, x2, x3, x4⟩ | ⟨rfl, x4⟩ <;> rcases hy with ⟨y1, y2, y3, y4⟩ | ⟨rfl, y4⟩
  · obtain ⟨c, hc, hcp, hcx⟩ := h1 _ x2 x3
    obtain ⟨e, he, hep, hey⟩ := h2 _ y2 y3
    have := y4 c hc hcp
    have := x4 e he hep
    have hxy : x.1 = y.1 := by grind
    exact Prod.ext hxy (x1.trans y1.symm)
  · obtain ⟨c, hc, hcp, _⟩ := h1 _ x2 x3
    rw [y4 c hc] at hcp; cases hcp
  · obtain ⟨c, hc, hcp, _⟩ := h2 _ y2 y3
    rw [x4 c hc] at hcp; cases hcp
  · rfl
theorem cands_sub {l : List Vtr} {b : Rat} (h : b ∈ cands l) : b = 0 ∨ b ∈ l.map Vtr.ask := by
  unfold cands at h
  rcases List.mem_cons.1 h with h | h
  · exact .inl h
  · obtain ⟨v, hv, e⟩ := List.mem_map.1 h
    exact .inr (List.mem_map.2 ⟨v, (List.mem_filter.1 hv).1, e⟩)
/-- Both searches find the same. -/
theorem thr_same {l : List Vtr} (hl : ∀ v ∈ l, 0 ≤ v.ask) : thrR l = thrV l := by
  have hV : IsLeast (okRate l) (cands l) (thrV l) := least_fold _
  unfold thrR
  by_cases h0 : passedV (tallyV l 0) = true
  · rw [if_pos h0]
    have hk : okRate l 0 = true := by unfold okRate; rw [h0]; decide
    have one : ∀ b : Rat, b ∈ [(0 : Rat)] → b = 0 := fun b hb => by simpa using hb
    have h0l : IsLeast (okRate l) [0] ((0 : Rat), true) := .inl ⟨rfl, by simp, hk, fun b hb _ => by rw [one b hb]; exact Rat.le_refl⟩
    refine least_same h0l hV (fun b hb _ => ⟨0, by simp [cands], hk, by rw [one b hb]; exact Rat.le_refl⟩) (fun b hb _ => ⟨0, by simp, hk, ?_⟩)
    rcases cands_sub hb with rfl | hb
    · exact Rat.le_refl
    · obtain ⟨v, hv, rfl⟩ := List.mem_map.1 hb
      exact hl v hv
  · rw [if_neg h0]
    refine least_same (least_fold _) hV (fun b hb hbp => ?_) (fun b hb hbp => ?_)
    · obtain ⟨v, hv, rfl⟩ := List.mem_map.1 hb
      obtain ⟨c, hc, hcb, ht⟩ := cand_below (l := l) (hl v hv)
      refine ⟨c, hc, ?_, hcb⟩
      unfold okRate at *
      rw [Bool.and_eq_true, decide_eq_true_eq] at *
      rw [ht]
      exact ⟨Rat.le_trans hcb hbp.1, hbp.2⟩
    · rcases cands_sub hb with rfl | hb
      · unfold okRate at hbp
        rw [Bool.and_eq_true] at hbp
        exact absurd hbp.2 h0
      · exact ⟨b, hb, hbp, Rat.le_refl⟩
/-- A rate from 0 to 1 carries exactly if it is at least the threshold. -/
theorem thr_least {l : List Vtr} (hl : ∀ v ∈ l, 0 ≤ v.amount ∧ 0 ≤ v.ask) {r : Rat} (h0 : 0 ≤ r) (h1 : r ≤ 1) : passedV (tallyV l r) = ((thrV l).2 && decide ((thrV l).1 ≤ r)) := by
  have hV : IsLeast (okRate l) (cands l) (thrV l) := least_fold _
  rw [Bool.eq_iff_iff, Bool.and_eq_true, decide_eq_true_eq]
  constructor
  · intro hp
    obtain ⟨c, hc, hcr, ht⟩ := cand_below (l := l) h0
    have hk : okRate l c = true := by
      unfold okRate; rw [ht, hp, decide_eq_true (Rat.le_trans hcr h1)]; rfl
    rcases hV with ⟨x1, x2, x3, x4⟩ | ⟨x0, x4⟩
    · exact ⟨x1, Rat.le_trans (x4 c hc hk) hcr⟩
    · rw [x4 c hc] at hk; cases hk
  · rintro ⟨hf, hle⟩
    rcases hV with ⟨x1, x2, x3, x4⟩ | ⟨x0, x4⟩
    · have := x3
      unfold okRate at this
      rw [Bool.and_eq_true] at this
      exact passed_mono (fun v hv => (hl v hv).1) hle this.2
    · rw [x0] at hf; cases hf

/-- The order of the voters has no influence. -/
theorem amount_app (a b : List Vtr) : amountV (a ++ b) = amountV a + amountV b := by
  unfold amountV
  rw [List.foldl_append]
  have : ∀ (b : List Vtr) (s : Rat), b.foldl (fun s v => if v.ex then s else s + v.amount) s = s + b.foldl (fun s v => if v.ex then s else s + v.amount) 0 := by
    intro b
    induction b with
    | nil => intro s; exact (Rat.add_zero s).symm
    | cons v b ih =>
      intro s
      rw [List.foldl_cons, List.foldl_cons]
      by_cases h : v.ex = true
      · rw [if_pos h, if_pos h]; exact ih s
      · rw [if_neg h, if_neg h, ih (s + v.amount), ih (0 + v.amount)]; grind
  exact this b _
theorem for_app (f : Int → Bool) (a b : List Vtr) : forOf f (a ++ b) = forOf f a + forOf f b := by
  unfold forOf
  rw [List.foldl_append]
  have : ∀ (b : List Vtr) (s : Rat), b.foldl (fun s v => if v.ex then s else if f v.party then s + v.amount else s) s = s + b.foldl (fun s v => if v.ex then s else if f v.party then s + v.amount else s) 0 := by
    intro b
    induction b with
    | nil => intro s; exact (Rat.add_zero s).symm
    | cons v b ih =>
      intro s
      rw [List.foldl_cons, List.foldl_cons]
      by_cases h : v.ex = true
      · rw [if_pos h, if_pos h]; exact ih s
      · rw [if_neg h, if_neg h]
        by_cases hf : f v.party = true
        · rw [if_pos hf, if_pos hf, ih (s + v.amount), ih (0 + v.amount)]; grind
        · rw [if_neg hf, if_neg hf]; exact ih s
  exact this b _
theorem parts_mem : ∀ (l : List Vtr) (acc : List Int) (p : Int), p ∈ parts l acc ↔ p ∈ acc ∨ ∃ v ∈ l, v.ex = false ∧ v.party = p
  | [], acc, p => by simp [parts]
  | v :: l, acc, p => by
    rw [parts, parts_mem l]
    by_cases hc : (v.ex || acc.contains v.party) = true
    · rw [if_pos hc]
      constructor
      · rintro (h | ⟨u, hu, h1, h2⟩)
        · exact .inl h
        · exact .inr ⟨u, by simp [hu], h1, h2⟩
      · rintro (h | ⟨u, hu, h1, h2⟩)
        · exact .inl h
        · rcases List.mem_cons.1 hu with rfl | hu
          · rw [h1, Bool.false_or] at hc
            exact .inl (by rw [← h2]; simpa using hc)
          · exact .inr ⟨u, hu, h1, h2⟩
    · rw [if_neg hc]
      have he : v.ex = false := by
        cases hh : v.ex with
        | false => rfl
        | true => rw [hh] at hc; exact absurd rfl hc
      constructor
      · rintro (h | ⟨u, hu, h1, h2⟩)
        · rcases List.mem_append.1 h with h | h
          · exact .inl h
          · exact .inr ⟨v, by simp, he, by simpa using (List.mem_singleton.1 h).symm⟩
        · exact .inr ⟨u, by simp [hu], h1, h2⟩
      · rintro (h | ⟨u, hu, h1, h2⟩)
        · exact .inl (List.mem_append.2 (.inl h))
        · rcases List.mem_cons.1 hu with rfl | hu
          · exact .inl (List.mem_append.2 (.inr (by simp [h2])))
          · exact .inr ⟨u, hu, h1, h2⟩
theorem parts_nodup : ∀ (l : List Vtr) (acc : List Int), acc.Nodup → (parts l acc).Nodup
  | [], _, h => h
  | v :: l, acc, h => by
    rw [parts]
    refine parts_nodup l _ ?_
    split
    · exact h
    · rename_i hc
      rw [List.nodup_append]
      refine ⟨h, by simp, fun a ha b hb => ?_⟩
      have : b = v.party := by simpa using hb
      subst this
      rintro rfl
      refine hc ?_
      rw [Bool.or_eq_true]; right
      simpa using ha
theorem tally_turn (a b : List Vtr) (r : Rat) : tallyV (b ++ a) r = tallyV (a ++ b) r := by
  have hy : (fun p => yesP (b ++ a) p r) = (fun p => yesP (a ++ b) p r) := by
    funext p
    unfold yesP
    rw [List.all_append, List.all_append, Bool.and_comm]
  have hp : (parts (b ++ a) []).Perm (parts (a ++ b) []) := by
    refine (List.perm_ext_iff_of_nodup (parts_nodup _ _ List.nodup_nil) (parts_nodup _ _ List.nodup_nil)).2 fun p => ?_
    rw [parts_mem, parts_mem]
    simp only [List.not_mem_nil, false_or, List.mem_append]
    constructor
    · rintro ⟨v, hv, h⟩; exact ⟨v, hv.symm, h⟩
    · rintro ⟨v, hv, h⟩; exact ⟨v, hv.symm, h⟩
  unfold tallyV
  rw [hy, amount_app, amount_app, for_app, for_app, hp.length_eq, (hp.filter _).length_eq, Rat.add_comm (amountV b), Rat.add_comm (forOf _ b)]
end Go.Proofs.YtcllocdhbicpkaaGreatDoor

/-
Votes counted voter by voter; the laws' voters; plain Lean.
-/
namespace Go.Proofs.YtcllocdhbicpkaaGreatDoor
open Go.RowKit

theorem amountV_snoc (l : List Vtr) (v : Vtr) : amountV (l ++ [v]) = if v.ex then amountV l else amountV l + v.amount := by
  unfold amountV; rw [List.foldl_append]; rfl
theorem forOf_snoc (f : Int → Bool) (l : List Vtr) (v : Vtr) : forOf f (l ++ [v]) = if v.ex then forOf f l else if f v.party then forOf f l + v.amount else forOf f l := by
  unfold forOf; rw [List.foldl_append]; rfl
theorem parts_app : ∀ (l : List Vtr) (acc : List Int) (v : Vtr), parts (l ++ [v]) acc = if v.ex || (parts l acc).contains v.party then parts l acc else parts l acc ++ [v.party]
  | [], acc, v => rfl
  | u :: l, acc, v => by rw [List.cons_append, parts, parts, parts_app l]
theorem parts_snoc (l : List Vtr) (v : Vtr) : parts (l ++ [v]) [] = if v.ex || (parts l []).contains v.party then parts l [] else parts l [] ++ [v.party] := parts_app l [] v
/-- Is the party new? -/
def fresh (l : List Vtr) (p : Int) : Bool := l.all fun v => v.ex || !(v.party == p)
theorem fresh_parts (l : List Vtr) (p : Int) : fresh l p = !(parts l []).contains p := by
  rw [Bool.eq_iff_iff, Bool.not_eq_true', ← Bool.not_eq_true, List.contains_iff_mem, parts_mem]
  unfold fresh
  rw [List.all_eq_true]
  simp only [List.not_mem_nil, false_or]
  constructor
  · rintro h ⟨v, hv, h1, h2⟩
    have := h v hv
    rw [h1, Bool.false_or, Bool.not_eq_true', beq_eq_false_iff_ne] at this
    exact this h2
  · intro h v hv
    rw [Bool.or_eq_true]
    cases hx : v.ex with
    | true => exact .inl rfl
    | false =>
      right
      rw [Bool.not_eq_true', beq_eq_false_iff_ne]
      exact fun e => h ⟨v, hv, hx, e⟩
theorem yesP_snoc (l : List Vtr) (v : Vtr) (p : Int) (r : Rat) : yesP (l ++ [v]) p r = (yesP l p r && !blocks p r v) := by
  unfold yesP; rw [List.all_append]; simp
/-- A party that does not vote consents. -/
theorem yesP_absent {l : List Vtr} {p : Int} {r : Rat} (h : (parts l []).contains p = false) : yesP l p r = true := by
  refine yesP_iff.2 fun v hv h1 h2 => ?_
  have : p ∈ parts l [] := (parts_mem l [] p).2 (.inr ⟨v, hv, h2, h1⟩)
  rw [List.contains_iff_mem.2 this] at h; cases h

/-- Four words. -/
structure Qua where
  a : Nat
  b : Nat
  c : Nat
  d : Nat
def Qua.enc (t : Qua) : List Value := [.int .u16 (t.a : Nat), .int .u16 (t.b : Nat), .int .u16 (t.c : Nat), .int .u16 (t.d : Nat)]
def Qua.ok (t : Qua) : Prop := t.a ≤ 65535 ∧ t.b ≤ 65535 ∧ t.c ≤ 65535 ∧ t.d ≤ 65535
abbrev Quas (w : World) (v : Value) (ts : List Qua) : Prop := Slc Qua.enc 4 w v ts
theorem qua_len (t : Qua) : t.enc.length = 4 := rfl
def quaR (t : Qua) : Rat := mkRat ((t.c : Int) % 14) 12
def quaV (t : Qua) : Vtr := ⟨((t.a % 5 : Nat) : Int), negB (amountR t.b), numB (amountR t.b), denomB (amountR t.b), negB (quaR t), numB (quaR t), denomB (quaR t), decide (t.d % 6 = 0)⟩
def votersOf (ts : List Qua) : List Vtr := (ts.take 7).map quaV
theorem quaV_amount (t : Qua) : (quaV t).amount = amountR t.b := dec_enc _
theorem quaV_ask (t : Qua) : (quaV t).ask = quaR t := dec_enc _
theorem quaR_sized (t : Qua) : Sized 8 (quaR t) := by
  have hp : (256 : Nat) ^ 8 = 18446744073709551616 := by decide
  exact sized_mkRat (by omega) (bytesOf_length _ _ (by omega)) (bytesOf_length _ _ (by omega))
theorem quaR_nonneg (t : Qua) : 0 ≤ quaR t := by
  unfold quaR
  rw [← Rat.num_nonneg, ← Rat.normalize_eq_mkRat (by decide), Rat.num_normalize]
  exact Int.ediv_nonneg (by omega) (by omega)
def Vtr.small (v : Vtr) (n : Nat) : Prop := v.aa.length ≤ n ∧ v.ab.length ≤ n ∧ v.ka.length ≤ n ∧ v.kb.length ≤ n
theorem votersOf_all {ts : List Qua} (hok : ∀ t ∈ ts, t.ok) : (votersOf ts).length ≤ 7 ∧ ∀ v ∈ votersOf ts, v.small 8 ∧ 0 ≤ v.party ∧ v.party ≤ 4 ∧ 0 ≤ v.amount ∧ 0 ≤ v.ask := by
  unfold votersOf
  refine ⟨by rw [List.length_map]; exact List.length_take_le _ _, fun v hv => ?_⟩
  obtain ⟨t, ht, rfl⟩ := List.mem_map.1 hv
  have hb := (hok t (List.mem_of_mem_take ht)).2.1
  have h1 := amountR_sized hb
  have h2 := quaR_sized t
  refine ⟨⟨h1.num, h1.denom, h2.num, h2.denom⟩, ?_, ?_, ?_, ?_⟩
  · show (0 : Int) ≤ ((t.a % 5 : Nat) : Int); omega
  · show ((t.a % 5 : Nat) : Int) ≤ 4; omega
  · rw [quaV_amount]; exact amountR_nonneg _
  · rw [quaV_ask]; exact quaR_nonneg _
theorem checkV_good {l : List Vtr} (hl : l.length ≤ 64) (h : ∀ v ∈ l, 0 ≤ v.party ∧ 0 ≤ v.amount ∧ 0 ≤ v.ask) : checkV l = 0 := by
  rw [checkV_short hl]
  clear hl
  induction l with
  | nil => rfl
  | cons v l ih =>
    obtain ⟨h1, h2, h3⟩ := h v (by simp)
    have he : vErr v = 0 := by
      unfold vErr
      rw [if_neg (by omega), if_neg (by
        have := sgn_nonneg h2
        have := sgn_nonneg h3
        omega)]
    rw [checkVTo, if_pos he]
    exact ih fun u hu => h u (by simp [hu])
theorem votersOf_check {ts : List Qua} (hok : ∀ t ∈ ts, t.ok) : checkV (votersOf ts) = 0 := by
  obtain ⟨h1, h2⟩ := votersOf_all hok
  exact checkV_good (by omega) fun v hv => ⟨(h2 v hv).2.1, (h2 v hv).2.2.2.1, (h2 v hv).2.2.2.2⟩
theorem votersOf_snoc {ts : List Qua} {k : Nat} {t : Qua} (h : ts[k]? = some t) : (ts.take (k + 1)).map quaV = (ts.take k).map quaV ++ [quaV t] := by rw [take_at h, List.map_append]; rfl
end Go.Proofs.YtcllocdhbicpkaaGreatDoor

/-
Plans: what can be confirmed, what the search finds; plain Lean.
-/
namespace Go.Proofs.YtcllocdhbicpkaaGreatDoor
open Go.RowKit

/-- A bloc. -/
structure Blc where
  rank : Int
  tn : Bool
  ta : List UInt8
  tb : List UInt8
  fn : Bool
  fa : List UInt8
  fb : List UInt8
  kn : Bool
  ka : List UInt8
  kb : List UInt8
  acc : Bool
def Blc.enc (b : Blc) : List Value := [.int .i64 b.rank, .bool b.tn, .string (bs b.ta), .string (bs b.tb), .bool b.fn, .string (bs b.fa), .string (bs b.fb), .bool b.kn, .string (bs b.ka), .string (bs b.kb), .bool b.acc]
def Blc.total (b : Blc) : Rat := decR b.tn b.ta b.tb
def Blc.floor (b : Blc) : Rat := decR b.fn b.fa b.fb
def Blc.ask (b : Blc) : Rat := decR b.kn b.ka b.kb
theorem blc_len (b : Blc) : b.enc.length = 11 := rfl

def maxR (a b : Rat) : Rat := if a < b then b else a
theorem maxR_l (a b : Rat) : a ≤ maxR a b := by unfold maxR; split <;> grind
theorem maxR_r (a b : Rat) : b ≤ maxR a b := by unfold maxR; split <;> grind
theorem maxR_le {a b c : Rat} (h1 : a ≤ c) (h2 : b ≤ c) : maxR a b ≤ c := by unfold maxR; split <;> assumption
/-- The least rate at which a bloc does not dissent. -/
def need (b : Blc) : Rat := if b.acc then maxR b.floor b.ask else 1
/-- What is left of a value. -/
def resid : Rat → List (Blc × Rat) → Rat
  | left, [] => left
  | left, (b, r) :: l => resid (left - b.total * r) l
def consents (x : Blc × Rat) : Prop := x.1.acc = true ∧ x.1.ask ≤ x.2
/-- Nobody dissents while a more junior bloc, or the owners, receive something. -/
def statute (left : Rat) : List (Blc × Rat) → Prop
  | [] => True
  | x :: l => (x.2 < 1 → consents x ∨ (left = 0 ∧ ∀ y ∈ l, y.2 ≤ 0)) ∧ statute left l
def carriedP (l : List (Blc × Rat)) : Prop := (∀ x ∈ l, ¬ x.2 < 1) ∨ ∃ x ∈ l, x.2 < 1 ∧ consents x
/-- A plan that can be confirmed. -/
def Conf (value : Rat) (l : List (Blc × Rat)) : Prop := 0 ≤ resid value l ∧ (∀ x ∈ l, x.1.floor ≤ x.2) ∧ statute (resid value l) l ∧ carriedP l
def goodB (b : Blc) : Prop := 0 < b.total ∧ 0 ≤ b.floor ∧ b.floor ≤ 1 ∧ 0 ≤ b.ask ∧ b.ask ≤ 1
def rateIn (r : Rat) : Prop := 0 ≤ r ∧ r ≤ 1
/-- What the search pays. -/
def search : Rat → List Blc → List (Blc × Rat)
  | _, [] => []
  | left, b :: l => if left < b.total * need b then (b, left / b.total) :: l.map (fun c => (c, 0)) else (b, need b) :: search (left - b.total * need b) l

theorem need_in {b : Blc} (h : goodB b) : 0 ≤ need b ∧ need b ≤ 1 ∧ b.floor ≤ need b := by
  obtain ⟨_, h1, h2, h3, h4⟩ := h
  unfold need
  split
  · exact ⟨Rat.le_trans h1 (maxR_l _ _), maxR_le h2 h4, maxR_l _ _⟩
  · exact ⟨by decide, Rat.le_refl, h2⟩
theorem need_consents {b : Blc} (h : need b < 1) : consents (b, need b) := by
  unfold need at *
  split at h
  · rename_i ha
    refine ⟨ha, ?_⟩
    rw [if_pos ha]; exact maxR_r _ _
  · exact absurd h (by decide)
theorem resid_zeros (left : Rat) : ∀ l : List Blc, resid left (l.map fun c => (c, 0)) = left
  | [] => rfl
  | b :: l => by
    show resid (left - b.total * 0) _ = left
    rw [Rat.mul_zero, Rat.sub_eq_add_neg, show left + -0 = left by grind]
    exact resid_zeros left l
theorem resid_mono {l : List (Blc × Rat)} : ∀ {a b : Rat}, a ≤ b → resid a l ≤ resid b l := by
  induction l with
  | nil => intro a b h; exact h
  | cons x l ih => intro a b h; exact ih (by grind)
theorem resid_le {l : List (Blc × Rat)} (h : ∀ x ∈ l, goodB x.1 ∧ 0 ≤ x.2) : ∀ a : Rat, resid a l ≤ a := by
  induction l with
  | nil => intro a; exact Rat.le_refl
  | cons x l ih =>
    intro a
    obtain ⟨h1, h2⟩ := h x (by simp)
    have := Rat.mul_nonneg (Rat.le_of_lt h1.1) h2
    exact Rat.le_trans (ih (fun y hy => h y (by simp [hy])) _) (by grind)
end Go.Proofs.YtcllocdhbicpkaaGreatDoor

/-
The search finds a plan whenever there is one, and no plan leaves more; plain Lean.
-/
namespace Go.Proofs.YtcllocdhbicpkaaGreatDoor
open Go.RowKit

theorem div_mul {a b : Rat} (h : 0 < b) : b * (a / b) = a := by
  have : b ≠ 0 := by grind
  grind
theorem div_nonneg {a b : Rat} (h : 0 < b) (ha : 0 ≤ a) : 0 ≤ a / b := by
  rw [Rat.div_def]; exact Rat.mul_nonneg ha (Rat.le_of_lt (Rat.inv_pos.2 h))
theorem le_div {r a b : Rat} (h : 0 < b) (hr : b * r ≤ a) : r ≤ a / b := by
  have h1 := div_nonneg h (show 0 ≤ a - b * r by grind)
  have h2 : a / b = (a - b * r) / b + r := by
    have : b ≠ 0 := by grind
    grind
  grind
theorem resid_break {b : Blc} (h : goodB b) (left : Rat) (l : List Blc) : resid left ((b, left / b.total) :: l.map (fun c => (c, 0))) = 0 := by
  show resid (left - b.total * (left / b.total)) _ = 0
  rw [div_mul h.1, resid_zeros]; grind
theorem search_nonneg : ∀ (l : List Blc) (left : Rat), (∀ b ∈ l, goodB b) → 0 ≤ left → 0 ≤ resid left (search left l) ∧ ∀ e ∈ search left l, 0 ≤ e.2
  | [], left, _, h => ⟨h, by simp [search]⟩
  | b :: l, left, hg, h => by
    have hb := hg b (by simp)
    rw [search]
    split
    · rw [resid_break hb]
      refine ⟨Rat.le_refl, fun e he => ?_⟩
      rcases List.mem_cons.1 he with rfl | he
      · exact div_nonneg hb.1 h
      · obtain ⟨c, _, rfl⟩ := List.mem_map.1 he
        exact Rat.le_refl
    · rename_i hn
      have hl : 0 ≤ left - b.total * need b := by have := Rat.not_lt.1 hn; grind
      obtain ⟨h1, h2⟩ := search_nonneg l _ (fun c hc => hg c (by simp [hc])) hl
      refine ⟨h1, fun e he => ?_⟩
      rcases List.mem_cons.1 he with rfl | he
      · exact (need_in hb).1
      · exact h2 e he
theorem statute_zeros : ∀ l : List Blc, statute 0 (l.map fun c => (c, 0))
  | [] => trivial
  | c :: l => ⟨fun _ => .inr ⟨rfl, fun y hy => by
      obtain ⟨d, _, rfl⟩ := List.mem_map.1 hy
      exact Rat.le_refl⟩, statute_zeros l⟩
theorem search_statute : ∀ (l : List Blc) (left : Rat), (∀ b ∈ l, goodB b) → statute (resid left (search left l)) (search left l)
  | [], _, _ => trivial
  | b :: l, left, hg => by
    have hb := hg b (by simp)
    rw [search]
    split
    · rw [resid_break hb]
      exact ⟨fun _ => .inr ⟨rfl, fun y hy => by
        obtain ⟨d, _, rfl⟩ := List.mem_map.1 hy
        exact Rat.le_refl⟩, statute_zeros l⟩
    · exact ⟨fun h => .inl (need_consents h), search_statute l _ (fun c hc => hg c (by simp [hc]))⟩
/-- Where nothing is asked, a bloc that accepts consents whatever is paid. -/
theorem search_free {c : Blc} (hc : c.acc = true) (ha : c.ask ≤ 0) (hf : c.floor ≤ 0) : ∀ (l : List Blc) (left : Rat), (∀ b ∈ l, goodB b) → 0 ≤ left → c ∈ l → ∃ e ∈ search left l, e.2 < 1 ∧ consents e
  | [], _, _, _, h => by cases h
  | b :: l, left, hg, h0, h => by
    have hb := hg b (by simp)
    rw [search]
    by_cases hbk : left < b.total * need b
    · rw [if_pos hbk]
      rcases List.mem_cons.1 h with rfl | h
      · have hn : need c ≤ 0 := by unfold need; rw [if_pos hc]; exact maxR_le hf ha
        have := Rat.mul_nonneg (Rat.le_of_lt hb.1) (show 0 ≤ -need c by grind)
        exact absurd hbk (by grind)
      · exact ⟨(c, 0), List.mem_cons_of_mem _ (List.mem_map.2 ⟨c, h, rfl⟩), show (0 : Rat) < 1 by decide, hc, ha⟩
    · rw [if_neg hbk]
      have hl : 0 ≤ left - b.total * need b := by have := Rat.not_lt.1 hbk; grind
      rcases List.mem_cons.1 h with rfl | h
      · have hn : need c ≤ 0 := by unfold need; rw [if_pos hc]; exact maxR_le hf ha
        refine ⟨(c, need c), by simp, show need c < 1 by grind, hc, ?_⟩
        show c.ask ≤ need c
        unfold need; rw [if_pos hc]; exact maxR_r _ _
      · obtain ⟨e, he, h1, h2⟩ := search_free hc ha hf l _ (fun d hd => hg d (by simp [hd])) hl h
        exact ⟨e, List.mem_cons_of_mem _ he, h1, h2⟩
theorem search_floors0 : ∀ (l : List Blc) (left : Rat), (∀ b ∈ l, goodB b) → 0 ≤ left → (∀ b ∈ l, b.floor ≤ 0) → ∀ e ∈ search left l, e.1.floor ≤ e.2 := by
  intro l left hg h0 hf e he
  have h1 := (search_nonneg l left hg h0).2 e he
  have h2 : ∀ (l : List Blc) (left : Rat), ∀ e ∈ search left l, e.1 ∈ l := by
    intro l
    induction l with
    | nil => intro left e he; cases he
    | cons b l ih =>
      intro left e he
      rw [search] at he
      split at he
      · rcases List.mem_cons.1 he with rfl | he
        · simp
        · obtain ⟨c, hc, rfl⟩ := List.mem_map.1 he
          simp [hc]
      · rcases List.mem_cons.1 he with rfl | he
        · simp
        · have := ih _ e he
          simp [this]
  exact Rat.le_trans (hf _ (h2 l left e he)) h1

/-- Every bloc is paid what it needs, up to one that is not, and behind that one nobody is paid. -/
def Tail0 : List (Blc × Rat) → Prop
  | [] => True
  | z :: t => (need z.1 ≤ z.2 ∧ Tail0 t) ∨ (z.2 < need z.1 ∧ ∀ u ∈ t, u.2 = 0)
structure Fits (x : List (Blc × Rat)) : Prop where
  good : ∀ z ∈ x, goodB z.1 ∧ 0 ≤ z.2
  floors : ∀ z ∈ x, z.1.floor ≤ z.2
  tail : Tail0 x
theorem Fits.of_cons {z : Blc × Rat} {t : List (Blc × Rat)} (h : Fits (z :: t)) (ht : Tail0 t) : Fits t :=
  ⟨fun u hu => h.good u (by simp [hu]), fun u hu => h.floors u (by simp [hu]), ht⟩
theorem paid_le {z : Blc × Rat} {t : List (Blc × Rat)} {left : Rat} (h : ∀ u ∈ z :: t, goodB u.1 ∧ 0 ≤ u.2) (h0 : 0 ≤ resid left (z :: t)) : z.1.total * z.2 ≤ left := by
  have h1 := resid_le (l := t) (fun u hu => h u (by simp [hu])) (left - z.1.total * z.2)
  have h2 : 0 ≤ resid (left - z.1.total * z.2) t := h0
  grind
theorem goods {x : List (Blc × Rat)} (h : Fits x) : ∀ b ∈ x.map Prod.fst, goodB b := fun b hb => by
  obtain ⟨z, hz, rfl⟩ := List.mem_map.1 hb
  exact (h.good z hz).1
theorem cost_le {z : Blc × Rat} (hg : goodB z.1) (h : need z.1 ≤ z.2) : z.1.total * need z.1 ≤ z.1.total * z.2 := by
  have := Rat.mul_nonneg (Rat.le_of_lt hg.1) (show 0 ≤ z.2 - need z.1 by grind)
  grind
theorem search_floors : ∀ (x : List (Blc × Rat)) (left : Rat), Fits x → 0 ≤ resid left x → ∀ e ∈ search left (x.map Prod.fst), e.1.floor ≤ e.2
  | [], _, _, _, e, he => by cases he
  | z :: t, left, hx, h0, e, he => by
    have hg := (hx.good z (by simp)).1
    have hp := paid_le hx.good h0
    rw [List.map_cons, search] at he
    rcases hx.tail with ⟨hn, ht⟩ | ⟨hn, ht⟩
    · have hc := cost_le hg hn
      rw [if_neg (by grind)] at he
      rcases List.mem_cons.1 he with rfl | he
      · exact (need_in hg).2.2
      · refine search_floors t _ (hx.of_cons ht) ?_ e he
        exact Rat.le_trans h0 (resid_mono (by grind))
    · have hf0 : ∀ b ∈ t.map Prod.fst, b.floor ≤ 0 := fun b hb => by
        obtain ⟨u, hu, rfl⟩ := List.mem_map.1 hb
        rw [← ht u hu]; exact hx.floors u (by simp [hu])
      have hgt : ∀ b ∈ t.map Prod.fst, goodB b := fun b hb => by
        obtain ⟨u, hu, rfl⟩ := List.mem_map.1 hb
        exact (hx.good u (by simp [hu])).1
      split at he
      · rcases List.mem_cons.1 he with rfl | he
        · exact Rat.le_trans (hx.floors z (by simp)) (le_div hg.1 hp)
        · obtain ⟨c, hc, rfl⟩ := List.mem_map.1 he
          exact hf0 c hc
      · rename_i hbk
        rcases List.mem_cons.1 he with rfl | he
        · exact (need_in hg).2.2
        · exact search_floors0 _ _ hgt (by have := Rat.not_lt.1 hbk; grind) hf0 e he
theorem search_carried : ∀ (x : List (Blc × Rat)) (left : Rat), Fits x → 0 ≤ resid left x → (∃ e ∈ x, e.2 < 1 ∧ consents e) → ∃ e ∈ search left (x.map Prod.fst), e.2 < 1 ∧ consents e
  | [], _, _, _, h => by obtain ⟨e, he, _⟩ := h; cases he
  | z :: t, left, hx, h0, h => by
    obtain ⟨e, he, h1, h2⟩ := h
    have hg := (hx.good z (by simp)).1
    have hp := paid_le hx.good h0
    have hgt : ∀ b ∈ t.map Prod.fst, goodB b := fun b hb => by
      obtain ⟨u, hu, rfl⟩ := List.mem_map.1 hb
      exact (hx.good u (by simp [hu])).1
    rw [List.map_cons, search]
    rcases hx.tail with ⟨hn, ht⟩ | ⟨hn, ht⟩
    · have hc := cost_le hg hn
      rw [if_neg (by grind)]
      rcases List.mem_cons.1 he with rfl | he
      · have hl : need e.1 < 1 := by grind
        exact ⟨(e.1, need e.1), by simp, hl, need_consents hl⟩
      · obtain ⟨f, hf, f1, f2⟩ := search_carried t (left - z.1.total * need z.1) (hx.of_cons ht) (Rat.le_trans h0 (resid_mono (by grind))) ⟨e, he, h1, h2⟩
        exact ⟨f, List.mem_cons_of_mem _ hf, f1, f2⟩
    · rcases List.mem_cons.1 he with rfl | he
      · -- one that consents and has its floor is paid what it needs
        have : need e.1 ≤ e.2 := by
          unfold need; rw [if_pos h2.1]; exact maxR_le (hx.floors e (by simp)) h2.2
        exact absurd hn (Rat.not_lt.2 this)
      · have e0 := ht e he
        have ha : e.1.ask ≤ 0 := by rw [← e0]; exact h2.2
        have hf : e.1.floor ≤ 0 := by rw [← e0]; exact hx.floors e (by simp [he])
        split
        · exact ⟨(e.1, 0), List.mem_cons_of_mem _ (List.mem_map.2 ⟨e.1, List.mem_map.2 ⟨e, he, rfl⟩, rfl⟩), show (0 : Rat) < 1 by decide, h2.1, ha⟩
        · rename_i hbk
          obtain ⟨f, hf', f1, f2⟩ := search_free h2.1 ha hf _ (left - z.1.total * need z.1) hgt (by have := Rat.not_lt.1 hbk; grind) (List.mem_map.2 ⟨e, he, rfl⟩)
          exact ⟨f, List.mem_cons_of_mem _ hf', f1, f2⟩
/-- Where all are paid what they need, the search pays just that, and no less is left. -/
theorem search_all : ∀ (x : List (Blc × Rat)) (left : Rat), (∀ z ∈ x, goodB z.1 ∧ 0 ≤ z.2) → (∀ z ∈ x, need z.1 ≤ z.2) → 0 ≤ resid left x → (∀ e ∈ search left (x.map Prod.fst), e.2 < 1 → consents e) ∧ resid left x ≤ resid left (search left (x.map Prod.fst))
  | [], _, _, _, _ => ⟨by simp [search], Rat.le_refl⟩
  | z :: t, left, hg, hn, h0 => by
    have hp := paid_le hg h0
    have hc := cost_le (hg z (by simp)).1 (hn z (by simp))
    rw [List.map_cons, search, if_neg (by grind)]
    have hr : resid (left - z.1.total * z.2) t ≤ resid (left - z.1.total * need z.1) t := resid_mono (by grind)
    obtain ⟨h1, h2⟩ := search_all t (left - z.1.total * need z.1) (fun u hu => hg u (by simp [hu])) (fun u hu => hn u (by simp [hu])) (Rat.le_trans h0 hr)
    refine ⟨fun e he hl => ?_, Rat.le_trans hr h2⟩
    rcases List.mem_cons.1 he with rfl | he
    · exact need_consents hl
    · exact h1 e he hl
end Go.Proofs.YtcllocdhbicpkaaGreatDoor

/-
The search is the best plan; one who dissents gets all that is left; plain Lean.
-/
namespace Go.Proofs.YtcllocdhbicpkaaGreatDoor
open Go.RowKit

theorem not_consents {z : Blc × Rat} (hf : z.1.floor ≤ z.2) (h : z.2 < need z.1) : ¬ consents z := by
  rintro ⟨h1, h2⟩
  have : need z.1 ≤ z.2 := by unfold need; rw [if_pos h1]; exact maxR_le hf h2
  exact absurd h (Rat.not_lt.2 this)
theorem tail0_of : ∀ (x : List (Blc × Rat)) (c : Rat), (∀ z ∈ x, goodB z.1 ∧ 0 ≤ z.2) → (∀ z ∈ x, z.1.floor ≤ z.2) → statute c x → Tail0 x ∧ ((∀ z ∈ x, need z.1 ≤ z.2) ∨ c = 0)
  | [], _, _, _, _ => ⟨trivial, .inl (by simp)⟩
  | z :: t, c, hg, hf, hs => by
    obtain ⟨h1, h2⟩ := tail0_of t c (fun u hu => hg u (by simp [hu])) (fun u hu => hf u (by simp [hu])) hs.2
    by_cases hn : need z.1 ≤ z.2
    · refine ⟨.inl ⟨hn, h1⟩, ?_⟩
      rcases h2 with h2 | h2
      · left
        intro u hu
        rcases List.mem_cons.1 hu with rfl | hu
        · exact hn
        · exact h2 u hu
      · exact .inr h2
    · have hl := Rat.not_le.1 hn
      have h3 : z.2 < 1 := by have := (need_in (hg z (by simp)).1).2.1; grind
      rcases hs.1 h3 with h4 | ⟨h4, h5⟩
      · exact absurd h4 (not_consents (hf z (by simp)) hl)
      · refine ⟨.inr ⟨hl, fun u hu => ?_⟩, .inr h4⟩
        have := h5 u hu
        have := (hg u (by simp [hu])).2
        grind
/-- Whenever there is a plan that can be confirmed, the search's can be, and leaves no less. -/
theorem plan_found {value : Rat} {x : List (Blc × Rat)} (hg : ∀ z ∈ x, goodB z.1 ∧ 0 ≤ z.2) (hv : 0 ≤ value) (h : Conf value x) :
    Conf value (search value (x.map Prod.fst)) ∧ resid value x ≤ resid value (search value (x.map Prod.fst)) := by
  obtain ⟨h1, h2, h3, h4⟩ := h
  obtain ⟨ht, hc⟩ := tail0_of x _ hg h2 h3
  have hx : Fits x := ⟨hg, h2, ht⟩
  have hgs := goods hx
  have hs0 := (search_nonneg _ value hgs hv).1
  have hr : resid value x ≤ resid value (search value (x.map Prod.fst)) := by
    rcases hc with hc | hc
    · exact (search_all x value hg hc h1).2
    · rw [hc]; exact hs0
  refine ⟨⟨hs0, search_floors x value hx h1, search_statute _ value hgs, ?_⟩, hr⟩
  by_cases he : ∃ e ∈ search value (x.map Prod.fst), e.2 < 1 ∧ consents e
  · exact .inr he
  · left
    intro e hem hl
    rcases hc with hc | hc
    · exact he ⟨e, hem, hl, (search_all x value hg hc h1).1 e hem hl⟩
    · rcases h4 with h4 | h4
      · -- nobody is impaired: all are paid what they need
        have hn : ∀ z ∈ x, need z.1 ≤ z.2 := fun z hz => by
          have := h4 z hz
          have := (need_in (hg z hz).1).2.1
          grind
        exact he ⟨e, hem, hl, (search_all x value hg hn h1).1 e hem hl⟩
      · exact he (search_carried x value hx h1 h4)
/-- If the value is enough for all, the search confirms. -/
theorem plan_rich {value : Rat} {l : List Blc} (hg : ∀ b ∈ l, goodB b) (h : 0 ≤ resid value (l.map fun b => (b, 1))) : Conf value (search value l) := by
  have e : (l.map fun b => ((b, 1) : Blc × Rat)).map Prod.fst = l := by
    rw [List.map_map]; exact List.map_id' l
  have hg2 : ∀ z ∈ l.map (fun b => ((b, 1) : Blc × Rat)), goodB z.1 ∧ 0 ≤ z.2 := fun z hz => by
    obtain ⟨b, hb, rfl⟩ := List.mem_map.1 hz
    exact ⟨hg b hb, show (0 : Rat) ≤ 1 by decide⟩
  have hv : 0 ≤ value := Rat.le_trans h (resid_le hg2 value)
  have hone : ∀ z ∈ l.map (fun b => ((b, 1) : Blc × Rat)), ¬ z.2 < 1 := fun z hz => by
    obtain ⟨b, _, rfl⟩ := List.mem_map.1 hz
    exact Rat.lt_irrefl
  have hst : ∀ (c : Rat) (m : List (Blc × Rat)), (∀ z ∈ m, ¬ z.2 < 1) → statute c m := by
    intro c m
    induction m with
    | nil => intro _; trivial
    | cons z m ih => intro hm; exact ⟨fun hl => absurd hl (hm z (by simp)), ih fun u hu => hm u (by simp [hu])⟩
  have := (plan_found hg2 hv ⟨h, fun z hz => by
    obtain ⟨b, hb, rfl⟩ := List.mem_map.1 hz
    exact (hg b hb).2.2.1, hst _ _ hone, .inl hone⟩).1
  rwa [e] at this
/-- What comes behind one who dissents is nothing: it gets all that the more senior ones leave. -/
theorem dissent_all : ∀ (pre : List (Blc × Rat)) (z : Blc × Rat) (post : List (Blc × Rat)) (value : Rat), (∀ u ∈ post, 0 ≤ u.2) → statute (resid value (pre ++ z :: post)) (pre ++ z :: post) → z.2 < 1 → ¬ consents z → z.1.total * z.2 = resid value pre
  | [], z, post, value, hp, hs, h1, h2 => by
    rcases hs.1 h1 with h3 | ⟨h3, h4⟩
    · exact absurd h3 h2
    · have hz : ∀ u ∈ post, u.2 = 0 := fun u hu => by have := h4 u hu; have := hp u hu; grind
      have : ∀ (m : List (Blc × Rat)) (a : Rat), (∀ u ∈ m, u.2 = 0) → resid a m = a := by
        intro m
        induction m with
        | nil => intro a _; rfl
        | cons u m ih =>
          intro a hm
          show resid (a - u.1.total * u.2) m = a
          rw [hm u (by simp), Rat.mul_zero, show a - 0 = a by grind]
          exact ih a fun y hy => hm y (by simp [hy])
      have h5 : resid (value - z.1.total * z.2) post = 0 := h3
      rw [this post _ hz] at h5
      show z.1.total * z.2 = value
      grind
  | p :: pre, z, post, value, hp, hs, h1, h2 => dissent_all pre z post (value - p.1.total * p.2) hp hs.2 h1 h2
end Go.Proofs.YtcllocdhbicpkaaGreatDoor

/-
A bloc that asks for less: a plan that was found is found still; plain Lean.
-/
namespace Go.Proofs.YtcllocdhbicpkaaGreatDoor
open Go.RowKit

/-- The same plan for blocs that ask for no more. -/
def Lower : List (Blc × Rat) → List (Blc × Rat) → Prop
  | [], [] => True
  | z :: t, z' :: t' => (z'.2 = z.2 ∧ z'.1.total = z.1.total ∧ z'.1.floor = z.1.floor ∧ z'.1.acc = z.1.acc ∧ z'.1.ask ≤ z.1.ask) ∧ Lower t t'
  | _, _ => False
theorem lower_resid : ∀ {x x' : List (Blc × Rat)}, Lower x x' → ∀ v, resid v x' = resid v x
  | [], [], _, _ => rfl
  | z :: t, z' :: t', h, v => by
    show resid (v - z'.1.total * z'.2) t' = resid (v - z.1.total * z.2) t
    rw [h.1.1, h.1.2.1]; exact lower_resid h.2 _
  | [], _ :: _, h, _ => h.elim
  | _ :: _, [], h, _ => h.elim
theorem lower_floors : ∀ {x x' : List (Blc × Rat)}, Lower x x' → (∀ z ∈ x, z.1.floor ≤ z.2) → ∀ z ∈ x', z.1.floor ≤ z.2
  | [], [], _, _, z, hz => by cases hz
  | u :: t, u' :: t', h, hf, z, hz => by
    rcases List.mem_cons.1 hz with rfl | hz
    · rw [h.1.1, h.1.2.2.1]; exact hf u (by simp)
    · exact lower_floors h.2 (fun y hy => hf y (by simp [hy])) z hz
  | [], _ :: _, h, _, _, _ => h.elim
  | _ :: _, [], h, _, _, _ => h.elim
theorem lower_zero : ∀ {x x' : List (Blc × Rat)}, Lower x x' → (∀ y ∈ x, y.2 ≤ 0) → ∀ y ∈ x', y.2 ≤ 0
  | [], [], _, _, z, hz => by cases hz
  | u :: t, u' :: t', h, hf, z, hz => by
    rcases List.mem_cons.1 hz with rfl | hz
    · rw [h.1.1]; exact hf u (by simp)
    · exact lower_zero h.2 (fun y hy => hf y (by simp [hy])) z hz
  | [], _ :: _, h, _, _, _ => h.elim
  | _ :: _, [], h, _, _, _ => h.elim
theorem lower_consents {z z' : Blc × Rat} (h : z'.2 = z.2 ∧ z'.1.total = z.1.total ∧ z'.1.floor = z.1.floor ∧ z'.1.acc = z.1.acc ∧ z'.1.ask ≤ z.1.ask) (hc : consents z) : consents z' :=
  ⟨h.2.2.2.1.trans hc.1, Rat.le_trans h.2.2.2.2 (by rw [h.1]; exact hc.2)⟩
theorem lower_statute {c : Rat} : ∀ {x x' : List (Blc × Rat)}, Lower x x' → statute c x → statute c x'
  | [], [], _, _ => trivial
  | u :: t, u' :: t', h, hs => ⟨fun hl => by
      rw [h.1.1] at hl
      rcases hs.1 hl with h1 | ⟨h1, h2⟩
      · exact .inl (lower_consents h.1 h1)
      · exact .inr ⟨h1, lower_zero h.2 h2⟩, lower_statute h.2 hs.2⟩
  | [], _ :: _, h, _ => h.elim
  | _ :: _, [], h, _ => h.elim
theorem lower_all : ∀ {x x' : List (Blc × Rat)}, Lower x x' → (∀ z ∈ x, ¬ z.2 < 1) → ∀ z ∈ x', ¬ z.2 < 1
  | [], [], _, _, z, hz => by cases hz
  | u :: t, u' :: t', h, hf, z, hz => by
    rcases List.mem_cons.1 hz with rfl | hz
    · rw [h.1.1]; exact hf u (by simp)
    · exact lower_all h.2 (fun y hy => hf y (by simp [hy])) z hz
  | [], _ :: _, h, _, _, _ => h.elim
  | _ :: _, [], h, _, _, _ => h.elim
theorem lower_some : ∀ {x x' : List (Blc × Rat)}, Lower x x' → (∃ z ∈ x, z.2 < 1 ∧ consents z) → ∃ z ∈ x', z.2 < 1 ∧ consents z
  | [], [], _, h => by obtain ⟨z, hz, _⟩ := h; cases hz
  | u :: t, u' :: t', h, hh => by
    obtain ⟨z, hz, h1, h2⟩ := hh
    rcases List.mem_cons.1 hz with rfl | hz
    · exact ⟨u', by simp, by rw [h.1.1]; exact h1, lower_consents h.1 h2⟩
    · obtain ⟨y, hy, g⟩ := lower_some h.2 ⟨z, hz, h1, h2⟩
      exact ⟨y, by simp [hy], g⟩
  | [], _ :: _, h, _ => h.elim
  | _ :: _, [], h, _ => h.elim
theorem lower_conf {v : Rat} {x x' : List (Blc × Rat)} (h : Lower x x') (hc : Conf v x) : Conf v x' := by
  obtain ⟨h1, h2, h3, h4⟩ := hc
  refine ⟨by rw [lower_resid h]; exact h1, lower_floors h h2, by rw [lower_resid h]; exact lower_statute h h3, ?_⟩
  rcases h4 with h4 | h4
  · exact .inl (lower_all h h4)
  · exact .inr (lower_some h h4)
theorem plan_more {v : Rat} {x x' : List (Blc × Rat)} (h : Lower x x') (hg : ∀ z ∈ x', goodB z.1 ∧ 0 ≤ z.2) (hv : 0 ≤ v) (hc : Conf v x) :
    Conf v (search v (x'.map Prod.fst)) ∧ resid v x ≤ resid v (search v (x'.map Prod.fst)) := by
  have := plan_found hg hv (lower_conf h hc)
  rwa [lower_resid h] at this
end Go.Proofs.YtcllocdhbicpkaaGreatDoor

/-
Ventures checked; what a plan leaves; which plan is confirmed, as answers; plain Lean.
-/
namespace Go.Proofs.YtcllocdhbicpkaaGreatDoor
open Go.RowKit

def rateB (q : Rat) : Bool := decide (0 ≤ sgn q.num) && decide (sgn (q - 1).num ≤ 0)
theorem sgn_nn {q : Rat} : 0 ≤ sgn q.num ↔ 0 ≤ q := ⟨sgn_rat, fun h => Int.not_lt.1 (sgn_nonneg h)⟩
theorem sgn_neg_num (q : Rat) : sgn (-q).num = -sgn q.num := by
  rw [Rat.neg_num]
  rcases sgn_cases q.num with ⟨h, e⟩ | ⟨h, e⟩ | ⟨h, e⟩
  · rw [e, sgn_pos (by omega)]; rfl
  · rw [e, h]; rfl
  · rw [e, sgn_neg (by omega)]
theorem sgn_np {q : Rat} : sgn q.num ≤ 0 ↔ q ≤ 0 := by
  have h := @sgn_nn (-q)
  rw [sgn_neg_num] at h
  constructor
  · intro h1
    have := h.1 (by omega)
    grind
  · intro h1
    have := h.2 (by grind)
    omega
theorem rateB_iff {q : Rat} : rateB q = true ↔ 0 ≤ q ∧ q ≤ 1 := by
  unfold rateB
  rw [Bool.and_eq_true, decide_eq_true_eq, decide_eq_true_eq, sgn_nn, sgn_np]
  have : q - 1 ≤ 0 ↔ q ≤ 1 := by grind
  rw [this]

def notAfter : Option Blc → Blc → Bool
  | some p, b => decide (b.rank ≤ p.rank)
  | none, _ => false
def bErr (prev : Option Blc) (b : Blc) : Int :=
  if b.rank < 0 ∨ 7 < b.rank then 1 else if notAfter prev b = true then 15 else if sgn b.total.num ≤ 0 ∨ rateB b.floor = false ∨ rateB b.ask = false then 1 else 0
def checkBl : Option Blc → List Blc → Int
  | _, [] => 0
  | prev, b :: l => if bErr prev b = 0 then checkBl (some b) l else bErr prev b
def checkVn (value : Rat) (l : List Blc) : Int := if sgn value.num < 0 then 7 else if 16 < l.length then 2 else checkBl none l
theorem bErr_zero {prev : Option Blc} {b : Blc} (h : bErr prev b = 0) : 0 ≤ b.rank ∧ b.rank ≤ 7 ∧ goodB b := by
  unfold bErr at h
  split at h
  · cases h
  · rename_i h1
    split at h
    · cases h
    · split at h
      · cases h
      · rename_i h3
        have h4 : rateB b.floor = true := by
          cases hh : rateB b.floor with
          | true => rfl
          | false => exact absurd (.inr (.inl hh)) h3
        have h5 : rateB b.ask = true := by
          cases hh : rateB b.ask with
          | true => rfl
          | false => exact absurd (.inr (.inr hh)) h3
        have h6 : ¬ b.total ≤ 0 := fun hh => h3 (.inl (sgn_np.2 hh))
        exact ⟨by omega, by omega, Rat.not_le.1 h6, (rateB_iff.1 h4).1, (rateB_iff.1 h4).2, (rateB_iff.1 h5).1, (rateB_iff.1 h5).2⟩
theorem checkBl_zero : ∀ (l : List Blc) (prev : Option Blc), checkBl prev l = 0 → ∀ b ∈ l, 0 ≤ b.rank ∧ b.rank ≤ 7 ∧ goodB b
  | [], _, _, b, hb => by cases hb
  | c :: l, prev, h, b, hb => by
    rw [checkBl] at h
    by_cases he : bErr prev c = 0
    · rw [if_pos he] at h
      rcases List.mem_cons.1 hb with rfl | hb
      · exact bErr_zero he
      · exact checkBl_zero l _ h b hb
    · rw [if_neg he] at h; exact absurd h he
theorem checkVn_zero {value : Rat} {l : List Blc} (h : checkVn value l = 0) : 0 ≤ value ∧ l.length ≤ 16 ∧ ∀ b ∈ l, 0 ≤ b.rank ∧ b.rank ≤ 7 ∧ goodB b := by
  unfold checkVn at h
  split at h
  · cases h
  · rename_i h1
    split at h
    · cases h
    · exact ⟨sgn_nn.1 (by omega), by omega, checkBl_zero l none h⟩
/-- What a plan leaves, or an error. -/
def residR (value : Rat) (l : List Blc) (rs : List Rat) : Rat × Int :=
  if checkVn value l ≠ 0 then (0, checkVn value l) else if rs.length ≠ l.length then (0, 4) else if rs.all rateB = false then (0, 1) else (resid value (l.zip rs), 0)
def impB (x : Blc × Rat) : Bool := decide (sgn (x.2 - 1).num < 0)
def consB (x : Blc × Rat) : Bool := x.1.acc && decide (0 ≤ sgn (x.2 - x.1.ask).num)
theorem impB_iff {x : Blc × Rat} : impB x = true ↔ x.2 < 1 := by
  unfold impB
  rw [decide_eq_true_eq, ← Int.not_le, sgn_nn]
  constructor
  · intro h; exact Rat.not_le.1 fun h2 => h (by grind)
  · intro h h2; exact absurd h (by grind)
theorem consB_iff {x : Blc × Rat} : consB x = true ↔ consents x := by
  unfold consB consents
  rw [Bool.and_eq_true, decide_eq_true_eq, sgn_nn]
  have : 0 ≤ x.2 - x.1.ask ↔ x.1.ask ≤ x.2 := by grind
  rw [this]
/-- The first who dissents although a more junior one, or the owners, receive something. -/
def dissentAt (c : Rat) : List (Blc × Rat) → Option Nat
  | [] => none
  | x :: l => if impB x && (!consB x && (!(sgn c.num == 0) || l.any fun y => decide (0 < sgn y.2.num))) then some 0 else (dissentAt c l).map (· + 1)
def belowAt : List (Blc × Rat) → Option Nat
  | [] => none
  | x :: l => if sgn (x.2 - x.1.floor).num < 0 then some 0 else (belowAt l).map (· + 1)
def carriedB (l : List (Blc × Rat)) : Bool := !(l.any impB) || l.any fun x => impB x && consB x
def confR (value : Rat) (l : List Blc) (rs : List Rat) : Int × Int :=
  if (residR value l rs).2 ≠ 0 then (-1, (residR value l rs).2) else if sgn (residR value l rs).1.num < 0 then (-1, 46) else
    match belowAt (l.zip rs) with
    | some i => ((i : Nat), 47)
    | none => match dissentAt (residR value l rs).1 (l.zip rs) with
      | some i => ((i : Nat), 18)
      | none => if carriedB (l.zip rs) then (-1, 0) else (-1, 48)
end Go.Proofs.YtcllocdhbicpkaaGreatDoor

/-
'confirm answers (-1, 0)' is 'the plan can be confirmed'; plain Lean.
-/
namespace Go.Proofs.YtcllocdhbicpkaaGreatDoor
open Go.RowKit

theorem sgn_z {q : Rat} : sgn q.num = 0 ↔ q = 0 := by
  have h1 := @sgn_nn q
  have h2 := @sgn_np q
  constructor
  · intro h
    have a := h1.1 (by omega)
    have b := h2.1 (by omega)
    grind
  · intro h
    have a := h1.2 (by grind)
    have b := h2.2 (by grind)
    omega
theorem sgn_lt {q : Rat} : sgn q.num < 0 ↔ q < 0 := by
  rw [← Int.not_le, sgn_nn, Rat.not_le]
theorem sgn_gt {q : Rat} : 0 < sgn q.num ↔ 0 < q := by
  rw [← Int.not_le, sgn_np, Rat.not_le]
theorem belowAt_none : ∀ l : List (Blc × Rat), belowAt l = none ↔ ∀ x ∈ l, x.1.floor ≤ x.2
  | [] => by simp [belowAt]
  | x :: l => by
    have ih := belowAt_none l
    have e : sgn (x.2 - x.1.floor).num < 0 ↔ ¬ x.1.floor ≤ x.2 := by
      rw [sgn_lt]; grind
    rw [belowAt]
    by_cases h : x.1.floor ≤ x.2
    · rw [if_neg (fun hh => e.1 hh h), Option.map_eq_none_iff, ih, List.forall_mem_cons]
      exact ⟨fun k => ⟨h, k⟩, fun k => k.2⟩
    · rw [if_pos (e.2 h)]
      exact ⟨fun k => (by cases k), fun k => absurd (k x (List.mem_cons_self ..)) h⟩
theorem dissentAt_none (c : Rat) : ∀ l : List (Blc × Rat), dissentAt c l = none ↔ statute c l
  | [] => by simp [dissentAt, statute]
  | x :: l => by
    have ih := dissentAt_none c l
    have e : (impB x && (!consB x && (!(sgn c.num == 0) || l.any fun y => decide (0 < sgn y.2.num)))) = true ↔ ¬ (x.2 < 1 → consents x ∨ (c = 0 ∧ ∀ y ∈ l, y.2 ≤ 0)) := by
      have a : (l.any fun y => decide (0 < sgn y.2.num)) = true ↔ ¬ ∀ y ∈ l, y.2 ≤ 0 := by
        rw [List.any_eq_true]
        constructor
        · rintro ⟨y, hy, h⟩ k
          rw [decide_eq_true_eq, sgn_gt] at h
          exact absurd (k y hy) (Rat.not_le.2 h)
        · intro k
          apply Classical.byContradiction
          intro k2
          apply k
          intro y hy
          apply Classical.byContradiction
          intro k3
          exact k2 ⟨y, hy, by rw [decide_eq_true_eq, sgn_gt]; exact Rat.not_le.1 k3⟩
      rw [Bool.and_eq_true, Bool.and_eq_true, Bool.or_eq_true, impB_iff, a, Bool.not_eq_true', Bool.not_eq_true', ← Bool.not_eq_true, consB_iff, beq_eq_false_iff_ne, ne_eq, sgn_z]
      by_cases h1 : x.2 < 1 <;> by_cases h2 : consents x <;> by_cases h3 : c = 0 <;> by_cases h4 : ∀ y ∈ l, y.2 ≤ 0 <;> simp only [h1, h2, h3, true_and, false_and, true_or, false_or, not_true_eq_false, not_false_eq_true, and_true, and_false, forall_const, iff_self, false_implies, or_false] <;> simp [h4]
    rw [dissentAt, statute]
    by_cases h : x.2 < 1 → consents x ∨ (c = 0 ∧ ∀ y ∈ l, y.2 ≤ 0)
    · rw [if_neg (fun hh => e.1 hh h), Option.map_eq_none_iff, ih]
      exact ⟨fun k => ⟨h, k⟩, fun k => k.2⟩
    · rw [if_pos (e.2 h)]
      exact ⟨fun k => (by cases k), fun k => absurd k.1 h⟩
theorem carriedB_iff (l : List (Blc × Rat)) : carriedB l = true ↔ carriedP l := by
  unfold carriedB carriedP
  rw [Bool.or_eq_true, Bool.not_eq_true', ← Bool.not_eq_true, List.any_eq_true, List.any_eq_true]
  constructor
  · rintro (h | ⟨x, hx, h⟩)
    · left
      intro x hx k
      exact h ⟨x, hx, impB_iff.2 k⟩
    · right
      rw [Bool.and_eq_true, impB_iff, consB_iff] at h
      exact ⟨x, hx, h⟩
  · rintro (h | ⟨x, hx, h⟩)
    · left
      rintro ⟨x, hx, k⟩
      exact h x hx (impB_iff.1 k)
    · right
      exact ⟨x, hx, by rw [Bool.and_eq_true, impB_iff, consB_iff]; exact h⟩
theorem all_rateB {rs : List Rat} : rs.all rateB = true ↔ ∀ r ∈ rs, rateIn r := by
  rw [List.all_eq_true]
  constructor
  · intro h r hr; exact rateB_iff.1 (h r hr)
  · intro h r hr; exact rateB_iff.2 (h r hr)
/-- Confirm answers (-1, 0) exactly where the plan can be confirmed. -/
theorem confR_iff {value : Rat} {l : List Blc} {rs : List Rat} (hv : checkVn value l = 0) (hl : rs.length = l.length) (hr : ∀ r ∈ rs, rateIn r) :
    confR value l rs = (-1, 0) ↔ Conf value (l.zip rs) := by
  have e : residR value l rs = (resid value (l.zip rs), 0) := by
    unfold residR
    rw [if_neg (fun h => h hv), if_neg (fun h => h hl), if_neg (by rw [all_rateB.2 hr]; decide)]
  unfold confR Conf
  rw [e, ← belowAt_none, ← dissentAt_none, ← carriedB_iff]
  dsimp only
  rw [if_neg (by decide)]
  by_cases h1 : 0 ≤ resid value (l.zip rs)
  · rw [if_neg (sgn_nonneg h1)]
    cases h2 : belowAt (l.zip rs) with
    | some i => simp
    | none =>
      cases h3 : dissentAt (resid value (l.zip rs)) (l.zip rs) with
      | some i => simp
      | none => cases h4 : carriedB (l.zip rs) <;> simp [h1]
  · rw [if_pos (by rw [sgn_lt]; exact Rat.not_le.1 h1)]
    simp [h1]
end Go.Proofs.YtcllocdhbicpkaaGreatDoor

/-
What the search answers; its rates are search's; plain Lean.
-/
namespace Go.Proofs.YtcllocdhbicpkaaGreatDoor
open Go.RowKit

def ratesOf : Rat → List Blc → List Rat
  | _, [] => []
  | left, b :: l => if sgn (left - b.total * need b).num < 0 then left / b.total :: l.map (fun _ => 0) else need b :: ratesOf (left - b.total * need b) l
theorem ratesOf_len : ∀ (l : List Blc) (left : Rat), (ratesOf left l).length = l.length
  | [], _ => rfl
  | b :: l, left => by
    rw [ratesOf]
    split
    · rw [List.length_cons, List.length_map, List.length_cons]
    · rw [List.length_cons, ratesOf_len l, List.length_cons]
theorem zip_zeros : ∀ l : List Blc, l.zip (l.map fun _ => (0 : Rat)) = l.map fun c => (c, 0)
  | [] => rfl
  | b :: l => by rw [List.map_cons, List.zip_cons_cons, zip_zeros l, List.map_cons]
theorem ratesOf_zip : ∀ (l : List Blc) (left : Rat), l.zip (ratesOf left l) = search left l
  | [], _ => rfl
  | b :: l, left => by
    have e : sgn (left - b.total * need b).num < 0 ↔ left < b.total * need b := by
      rw [sgn_lt]; constructor <;> intro h <;> grind
    rw [ratesOf, search]
    by_cases h : left < b.total * need b
    · rw [if_pos (e.2 h), if_pos h, List.zip_cons_cons, zip_zeros]
    · rw [if_neg (fun k => h (e.1 k)), if_neg h, List.zip_cons_cons, ratesOf_zip l]
def searchR (value : Rat) (l : List Blc) : List Rat × Bool × Int :=
  if checkVn value l ≠ 0 then ([], false, checkVn value l) else if (confR value l (ratesOf value l)).2 ≠ 0 then ([], false, 0) else (ratesOf value l, true, 0)
end Go.Proofs.YtcllocdhbicpkaaGreatDoor

/-
Plans: what the walks' loops keep; sizes; plain Lean.
-/
namespace Go.Proofs.YtcllocdhbicpkaaGreatDoor
open Go.RowKit

/-- A number as it came. -/
structure Rtr where
  n : Bool
  a : List UInt8
  b : List UInt8
def Rtr.enc (t : Rtr) : List Value := [.bool t.n, .string (bs t.a), .string (bs t.b)]
def Rtr.val (t : Rtr) : Rat := decR t.n t.a t.b
abbrev RatsL (w : World) (v : Value) (l : List Rtr) : Prop := Slc Rtr.enc 3 w v l
theorem rtr_len (t : Rtr) : t.enc.length = 3 := rfl
def SmallT (N : Nat) (l : List Rtr) : Prop := ∀ t ∈ l, t.a.length ≤ N ∧ t.b.length ≤ N
abbrev BlocsL (w : World) (v : Value) (l : List Blc) : Prop := Slc Blc.enc 11 w v l
def Blc.small (b : Blc) (N : Nat) : Prop := (b.ta.length ≤ N ∧ b.tb.length ≤ N) ∧ (b.fa.length ≤ N ∧ b.fb.length ≤ N) ∧ b.ka.length ≤ N ∧ b.kb.length ≤ N
def SmallBl (N : Nat) (l : List Blc) : Prop := ∀ b ∈ l, b.small N
theorem SmallBl.mono {M N : Nat} {l : List Blc} (h : SmallBl M l) (hN : M ≤ N) : SmallBl N l := fun b hb => by
  obtain ⟨⟨h1, h2⟩, ⟨h3, h4⟩, h5, h6⟩ := h b hb
  exact ⟨⟨Nat.le_trans h1 hN, Nat.le_trans h2 hN⟩, ⟨Nat.le_trans h3 hN, Nat.le_trans h4 hN⟩, Nat.le_trans h5 hN, Nat.le_trans h6 hN⟩
theorem SmallT.mono {M N : Nat} {l : List Rtr} (h : SmallT M l) (hN : M ≤ N) : SmallT N l := fun t ht => ⟨Nat.le_trans (h t ht).1 hN, Nat.le_trans (h t ht).2 hN⟩
theorem SmallT.val {N : Nat} {l : List Rtr} (h : SmallT N l) (h1 : 1 ≤ N) {t : Rtr} (ht : t ∈ l) : Sized N t.val := sized_dec (h t ht).1 (h t ht).2 h1
theorem SmallBl.total {N : Nat} {l : List Blc} (h : SmallBl N l) (h1 : 1 ≤ N) {b : Blc} (hb : b ∈ l) : Sized N b.total := sized_dec (h b hb).1.1 (h b hb).1.2 h1
theorem SmallBl.floor {N : Nat} {l : List Blc} (h : SmallBl N l) (h1 : 1 ≤ N) {b : Blc} (hb : b ∈ l) : Sized N b.floor := sized_dec (h b hb).2.1.1 (h b hb).2.1.2 h1
theorem SmallBl.ask {N : Nat} {l : List Blc} (h : SmallBl N l) (h1 : 1 ≤ N) {b : Blc} (hb : b ∈ l) : Sized N b.ask := sized_dec (h b hb).2.2.1 (h b hb).2.2.2 h1

/-- The bloc ahead of the k-th. -/
def prevAt (l : List Blc) (k : Nat) : Option Blc := if k = 0 then none else l[k - 1]?
theorem prevAt_zero (l : List Blc) : prevAt l 0 = none := rfl
theorem prevAt_succ {l : List Blc} {k : Nat} {b : Blc} (hb : l[k]? = some b) : prevAt l (k + 1) = some b := by unfold prevAt; rw [if_neg (by omega)]; exact hb
theorem checkBl_drop {l : List Blc} {k : Nat} {b : Blc} (hb : l[k]? = some b) : checkBl (prevAt l k) (l.drop k) = if bErr (prevAt l k) b = 0 then checkBl (prevAt l (k + 1)) (l.drop (k + 1)) else bErr (prevAt l k) b := by
  rw [drop_at hb, prevAt_succ hb]; rfl
theorem bErr_range {p : Option Blc} {b : Blc} (h : b.rank < 0 ∨ 7 < b.rank) : bErr p b = 1 := by unfold bErr; rw [if_pos h]
theorem bErr_order {p : Option Blc} {b : Blc} (h : ¬ (b.rank < 0 ∨ 7 < b.rank)) (h2 : notAfter p b = true) : bErr p b = 15 := by unfold bErr; rw [if_neg h, if_pos h2]
theorem bErr_rate {p : Option Blc} {b : Blc} (h : ¬ (b.rank < 0 ∨ 7 < b.rank)) (h2 : notAfter p b = false) (h3 : sgn b.total.num ≤ 0 ∨ rateB b.floor = false ∨ rateB b.ask = false) : bErr p b = 1 := by unfold bErr; rw [if_neg h, h2, if_neg (by decide), if_pos h3]
theorem bErr_none {p : Option Blc} {b : Blc} (h : ¬ (b.rank < 0 ∨ 7 < b.rank)) (h2 : notAfter p b = false) (h3 : ¬ sgn b.total.num ≤ 0) (h4 : rateB b.floor = true) (h5 : rateB b.ask = true) : bErr p b = 0 := by
  unfold bErr
  rw [if_neg h, h2, if_neg (by decide), if_neg]
  rintro (h6 | h6 | h6)
  · exact h3 h6
  · rw [h4] at h6; cases h6
  · rw [h5] at h6; cases h6

/-- What is left behind k blocs. -/
def residTo (value : Rat) (zl : List (Blc × Rat)) (k : Nat) : Rat := (zl.take k).foldl (fun s x => s - x.1.total * x.2) value
theorem resid_fold : ∀ (zl : List (Blc × Rat)) (value : Rat), resid value zl = zl.foldl (fun s x => s - x.1.total * x.2) value
  | [], _ => rfl
  | x :: l, value => by rw [resid, resid_fold l, List.foldl_cons]
theorem residTo_step {value : Rat} {zl : List (Blc × Rat)} {k : Nat} {x : Blc × Rat} (h : zl[k]? = some x) : residTo value zl (k + 1) = residTo value zl k - x.1.total * x.2 := by
  unfold residTo; rw [take_at h, List.foldl_append]; rfl
theorem residTo_end (value : Rat) (zl : List (Blc × Rat)) : residTo value zl zl.length = resid value zl := by unfold residTo; rw [List.take_length, resid_fold]
theorem residTo_sized {M N R : Nat} {value : Rat} {zl : List (Blc × Rat)} (hv : Sized M value) (h : ∀ x ∈ zl, Sized N x.1.total ∧ Sized R x.2) : ∀ k, k ≤ zl.length → Sized (M + k * (N + R + 1)) (residTo value zl k)
  | 0, _ => by unfold residTo; rw [Nat.zero_mul]; exact hv
  | k + 1, hk => by
    have hq : zl[k]? = some zl[k] := List.getElem?_eq_getElem (by omega)
    have ih := residTo_sized hv h k (by omega)
    obtain ⟨h1, h2⟩ := h _ (List.mem_of_getElem? hq)
    rw [residTo_step hq, Rat.sub_eq_add_neg]
    exact (ih.add (h1.mul h2).neg).mono (by rw [Nat.add_mul]; omega)
theorem zip_at {l : List Blc} {rs : List Rat} {k : Nat} {b : Blc} {r : Rat} (hb : l[k]? = some b) (hr : rs[k]? = some r) : (l.zip rs)[k]? = some (b, r) := by
  rw [List.getElem?_zip_eq_some]; exact ⟨hb, hr⟩

/-- Does the k-th dissent although a more junior one, or the owners, receive something? -/
def dissB (c : Rat) (zl : List (Blc × Rat)) (k : Nat) (x : Blc × Rat) : Bool := impB x && (!consB x && (!(sgn c.num == 0) || (zl.drop (k + 1)).any fun y => decide (0 < sgn y.2.num)))
theorem dissent_yes {c : Rat} {zl : List (Blc × Rat)} {k : Nat} {x : Blc × Rat} (h : dissentAt c zl = (dissentAt c (zl.drop k)).map (· + k)) (hx : zl[k]? = some x) (hd : dissB c zl k x = true) : dissentAt c zl = some k := by
  rw [h, drop_at hx, dissentAt]
  unfold dissB at hd
  rw [if_pos hd]; simp
theorem dissent_no {c : Rat} {zl : List (Blc × Rat)} {k : Nat} {x : Blc × Rat} (h : dissentAt c zl = (dissentAt c (zl.drop k)).map (· + k)) (hx : zl[k]? = some x) (hd : dissB c zl k x = false) : dissentAt c zl = (dissentAt c (zl.drop (k + 1))).map (· + (k + 1)) := by
  rw [h, drop_at hx, dissentAt]
  unfold dissB at hd
  rw [hd, if_neg (by decide), Option.map_map]
  congr 1
  funext n
  show n + 1 + k = n + (k + 1)
  omega
theorem dissent_start (c : Rat) (zl : List (Blc × Rat)) : dissentAt c zl = (dissentAt c (zl.drop 0)).map (· + 0) := by
  rw [List.drop_zero]; cases dissentAt c zl <;> rfl
theorem dissent_end {c : Rat} {zl : List (Blc × Rat)} (h : dissentAt c zl = (dissentAt c (zl.drop zl.length)).map (· + zl.length)) : dissentAt c zl = none := by rw [h, List.drop_length]; rfl
theorem below_yes {zl : List (Blc × Rat)} {k : Nat} {x : Blc × Rat} (h : belowAt zl = (belowAt (zl.drop k)).map (· + k)) (hx : zl[k]? = some x) (hd : sgn (x.2 - x.1.floor).num < 0) : belowAt zl = some k := by
  rw [h, drop_at hx, belowAt, if_pos hd]; simp
theorem below_no {zl : List (Blc × Rat)} {k : Nat} {x : Blc × Rat} (h : belowAt zl = (belowAt (zl.drop k)).map (· + k)) (hx : zl[k]? = some x) (hd : ¬ sgn (x.2 - x.1.floor).num < 0) : belowAt zl = (belowAt (zl.drop (k + 1))).map (· + (k + 1)) := by
  rw [h, drop_at hx, belowAt, if_neg hd, Option.map_map]
  congr 1
  funext n
  show n + 1 + k = n + (k + 1)
  omega
theorem below_start (zl : List (Blc × Rat)) : belowAt zl = (belowAt (zl.drop 0)).map (· + 0) := by
  rw [List.drop_zero]; cases belowAt zl <;> rfl
theorem below_end {zl : List (Blc × Rat)} (h : belowAt zl = (belowAt (zl.drop zl.length)).map (· + zl.length)) : belowAt zl = none := by rw [h, List.drop_length]; rfl
end Go.Proofs.YtcllocdhbicpkaaGreatDoor

/-
The laws' ventures and rates; the tests of shortness; plain Lean.
-/
namespace Go.Proofs.YtcllocdhbicpkaaGreatDoor
open Go.RowKit

def totR (t : Qua) : Rat := ((12 * (1 + (t.a : Int) / 2 % 3) : Int) : Rat)
def flrR (t : Qua) : Rat := if t.b % 3 = 0 then 0 else mkRat ((t.b : Int) / 3 % 13) 12
def askR (t : Qua) : Rat := mkRat ((t.c : Int) % 13) 12
def venB (rank : Int) (t : Qua) : Blc := ⟨rank, negB (totR t), numB (totR t), denomB (totR t), negB (flrR t), numB (flrR t), denomB (flrR t), negB (askR t), numB (askR t), denomB (askR t), !decide (t.d % 5 = 0)⟩
theorem venB_total (r : Int) (t : Qua) : (venB r t).total = totR t := dec_enc _
theorem venB_floor (r : Int) (t : Qua) : (venB r t).floor = flrR t := dec_enc _
theorem venB_ask (r : Int) (t : Qua) : (venB r t).ask = askR t := dec_enc _
/-- The rank behind these words. -/
def rankOf (ts : List Qua) : Int := ts.foldl (fun r t => r + (1 + (t.a : Int) % 2)) (-1)
def venTo : List Qua → List Blc → List Qua → List Blc
  | _, out, [] => out
  | pre, out, t :: l => venTo (pre ++ [t]) (out ++ [venB (rankOf (pre ++ [t])) t]) l
/-- The blocs of the first k words. -/
def blocsK (ts : List Qua) (k : Nat) : List Blc := (List.range k).map fun i => venB (rankOf (ts.take (i + 1))) (ts.getD i ⟨0, 0, 0, 0⟩)
def blocsOf (ts : List Qua) : List Blc := blocsK (ts.take 3) (ts.take 3).length
def valueOf (x : Nat) : Rat := (((x : Int) % 90 : Int) : Rat)
theorem blocsK_succ {ts : List Qua} {k : Nat} {t : Qua} (h : ts[k]? = some t) : blocsK ts (k + 1) = blocsK ts k ++ [venB (rankOf (ts.take (k + 1))) t] := by
  unfold blocsK
  rw [List.range_succ, List.map_append, List.map_singleton]
  have : ts.getD k ⟨0, 0, 0, 0⟩ = t := by rw [List.getD_eq_getElem?_getD, h]; rfl
  rw [this]
theorem rankOf_succ {ts : List Qua} {k : Nat} {t : Qua} (h : ts[k]? = some t) : rankOf (ts.take (k + 1)) = rankOf (ts.take k) + (1 + (t.a : Int) % 2) := by
  unfold rankOf; rw [take_at h, List.foldl_append]; rfl
theorem rankOf_in (ts : List Qua) : ∀ k, k ≤ ts.length → -1 + (k : Int) ≤ rankOf (ts.take k) ∧ rankOf (ts.take k) ≤ -1 + 2 * (k : Int)
  | 0, _ => by unfold rankOf; simp
  | k + 1, hk => by
    have hq : ts[k]? = some ts[k] := List.getElem?_eq_getElem (by omega)
    have ih := rankOf_in ts k (by omega)
    rw [rankOf_succ hq]
    omega
theorem blocsK_len (ts : List Qua) (k : Nat) : (blocsK ts k).length = k := by unfold blocsK; simp
theorem blocsK_at {ts : List Qua} {k i : Nat} (hi : i < k) {t : Qua} (h : ts[i]? = some t) : (blocsK ts k)[i]? = some (venB (rankOf (ts.take (i + 1))) t) := by
  unfold blocsK
  rw [List.getElem?_map, List.getElem?_range hi]
  have : ts.getD i ⟨0, 0, 0, 0⟩ = t := by rw [List.getD_eq_getElem?_getD, h]; rfl
  rw [Option.map_some, this]
theorem mkR_nonneg {n : Int} {d : Nat} (hn : 0 ≤ n) (hd : d ≠ 0) : 0 ≤ mkRat n d := by
  rw [← Rat.num_nonneg, ← Rat.normalize_eq_mkRat hd, Rat.num_normalize]
  exact Int.ediv_nonneg hn (by omega)
theorem mkR_le {n : Int} {d : Nat} (hd : d ≠ 0) (h : n ≤ d) : mkRat n d ≤ 1 := by
  have h0 : 0 ≤ mkRat ((d : Int) - n) d := mkR_nonneg (by omega) hd
  have h1 : mkRat n d + mkRat ((d : Int) - n) d = 1 := by
    have hd' : ((d : Int) : Rat) ≠ 0 := by exact_mod_cast hd
    have hdc : ((d : Nat) : Rat) = ((d : Int) : Rat) := (Rat.intCast_natCast d).symm
    rw [Rat.mkRat_eq_div, Rat.mkRat_eq_div, Rat.intCast_sub, hdc]
    generalize ((d : Int) : Rat) = D at *
    generalize (n : Rat) = N at *
    clear h0 hdc
    grind
  grind
theorem mkR_sized {n : Int} {d : Nat} (hd : d ≠ 0) (h1 : n.natAbs < 18446744073709551616) (h2 : d < 18446744073709551616) : Sized 8 (mkRat n d) := by
  have hp : (256 : Nat) ^ 8 = 18446744073709551616 := by decide
  exact sized_mkRat hd (bytesOf_length _ _ (by omega)) (bytesOf_length _ _ (by omega))
theorem totR_pos (t : Qua) : 0 < totR t := by
  unfold totR
  have h : (1 : Int) ≤ 12 * (1 + (t.a : Int) / 2 % 3) := by omega
  have h2 : ((1 : Int) : Rat) ≤ ((12 * (1 + (t.a : Int) / 2 % 3) : Int) : Rat) := Rat.intCast_le_intCast.2 h
  have h3 : ((1 : Int) : Rat) = 1 := rfl
  grind
theorem venB_good (r : Int) (t : Qua) : goodB (venB r t) := by
  unfold goodB
  rw [venB_total, venB_floor, venB_ask]
  refine ⟨totR_pos t, ?_, ?_, mkR_nonneg (by omega) (by decide), mkR_le (by decide) (by omega)⟩
  · unfold flrR
    split
    · exact Rat.le_refl
    · exact mkR_nonneg (by omega) (by decide)
  · unfold flrR
    split
    · decide
    · exact mkR_le (by decide) (by omega)
theorem venB_small (r : Int) (t : Qua) (_ : t.ok) : (venB r t).small 8 := by
  have h1 : Sized 8 (totR t) := sized_int8 (by omega)
  have h2 : Sized 8 (flrR t) := by
    unfold flrR
    split
    · exact sized_zero.mono (by decide)
    · exact mkR_sized (by decide) (by omega) (by decide)
  have h3 : Sized 8 (askR t) := mkR_sized (by decide) (by omega) (by decide)
  exact ⟨⟨h1.num, h1.denom⟩, ⟨h2.num, h2.denom⟩, h3.num, h3.denom⟩
theorem valueOf_nonneg (x : Nat) : 0 ≤ valueOf x := by
  unfold valueOf
  rw [← Rat.num_nonneg, Rat.num_intCast]; omega

/-- The laws' rates. -/
def rateW (ws : List Nat) (i : Nat) : Rat := mkRat ((ws.getD i 0 : Int) % 13) 12
def ratesW (ws : List Nat) (n : Nat) : List Rat := (List.range n).map (rateW ws)
def rtrOf (q : Rat) : Rtr := ⟨negB q, numB q, denomB q⟩
theorem rtrOf_val (q : Rat) : (rtrOf q).val = q := dec_enc q
theorem ratesW_succ (ws : List Nat) (n : Nat) : ratesW ws (n + 1) = ratesW ws n ++ [rateW ws n] := by unfold ratesW; rw [List.range_succ, List.map_append]; rfl
theorem ratesW_len (ws : List Nat) (n : Nat) : (ratesW ws n).length = n := by unfold ratesW; simp
theorem rateW_sized (ws : List Nat) (i : Nat) : Sized 8 (rateW ws i) := mkR_sized (by decide) (by omega) (by decide)
theorem rateW_in (ws : List Nat) (i : Nat) : 0 ≤ rateW ws i ∧ rateW ws i ≤ 1 := ⟨mkR_nonneg (by omega) (by decide), mkR_le (by decide) (by omega)⟩

/-- A word as it came. -/
def w16 (x : Nat) : List Value := [.int .u16 (x : Nat)]
def W16ok (x : Nat) : Prop := x ≤ 65535
theorem w16_len (x : Nat) : (w16 x).length = 1 := rfl

/-- The tests of shortness. -/
def fewBl (b : Blc) : Bool := fewR b.ta b.tb && (fewR b.fa b.fb && fewR b.ka b.kb)
def fewVn (va vb : List UInt8) (l : List Blc) : Bool := decide (l.length ≤ 20) && (fewR va vb && l.all fewBl)
theorem fewR_in {a b : List UInt8} (h : fewR a b = true) : a.length ≤ 24 ∧ b.length ≤ 24 := by
  unfold fewR at h
  simpa only [Bool.and_eq_true, decide_eq_true_eq] using h
theorem fewVn_in {va vb : List UInt8} {l : List Blc} (h : fewVn va vb l = true) : l.length ≤ 20 ∧ (va.length ≤ 24 ∧ vb.length ≤ 24) ∧ SmallBl 24 l := by
  unfold fewVn at h
  rw [Bool.and_eq_true, Bool.and_eq_true, decide_eq_true_eq] at h
  refine ⟨h.1, fewR_in h.2.1, fun b hb => ?_⟩
  have := List.all_eq_true.1 h.2.2 b hb
  unfold fewBl at this
  rw [Bool.and_eq_true, Bool.and_eq_true] at this
  exact ⟨fewR_in this.1, fewR_in this.2.1, fewR_in this.2.2⟩
def fewT (l : List Rtr) (n : Nat) : Bool := decide (l.length ≤ n) && l.all fun t => fewR t.a t.b
theorem fewT_in {l : List Rtr} {n : Nat} (h : fewT l n = true) : l.length ≤ n ∧ SmallT 24 l := by
  unfold fewT at h
  rw [Bool.and_eq_true, decide_eq_true_eq] at h
  exact ⟨h.1, fun t ht => fewR_in (List.all_eq_true.1 h.2 t ht)⟩
end Go.Proofs.YtcllocdhbicpkaaGreatDoor

/-
What the laws of plans need; plain Lean.
-/
namespace Go.Proofs.YtcllocdhbicpkaaGreatDoor
open Go.RowKit

theorem ratesOf_in : ∀ (l : List Blc) (left : Rat), (∀ b ∈ l, goodB b) → 0 ≤ left → ∀ r ∈ ratesOf left l, rateIn r
  | [], _, _, _, r, hr => by cases hr
  | b :: l, left, hg, h0, r, hr => by
    have hb := hg b (by simp)
    have hn := need_in hb
    have e : sgn (left - b.total * need b).num < 0 ↔ left < b.total * need b := by
      rw [sgn_lt]; constructor <;> intro h <;> grind
    rw [ratesOf] at hr
    by_cases h : left < b.total * need b
    · rw [if_pos (e.2 h)] at hr
      rcases List.mem_cons.1 hr with rfl | hr
      · refine ⟨div_nonneg hb.1 h0, ?_⟩
        apply Classical.byContradiction
        intro h2
        have h2 := Rat.not_le.1 h2
        have h1 := div_mul (a := left) hb.1
        have h3 := Rat.mul_nonneg (Rat.le_of_lt hb.1) (show 0 ≤ left / b.total - need b by grind)
        rw [show b.total * (left / b.total - need b) = b.total * (left / b.total) - b.total * need b by grind, h1] at h3
        grind
      · obtain ⟨c, _, rfl⟩ := List.mem_map.1 hr
        exact ⟨Rat.le_refl, by decide⟩
    · rw [if_neg (fun k => h (e.1 k))] at hr
      rcases List.mem_cons.1 hr with rfl | hr
      · exact ⟨hn.1, hn.2.1⟩
      · exact ratesOf_in l _ (fun c hc => hg c (by simp [hc])) (by have := Rat.not_lt.1 h; grind) r hr
theorem confR_ok {value : Rat} {l : List Blc} {rs : List Rat} (h : (confR value l rs).2 = 0) : confR value l rs = (-1, 0) ∧ (residR value l rs).2 = 0 := by
  unfold confR at h ⊢
  by_cases h1 : (residR value l rs).2 = 0
  · rw [if_neg (fun k => k h1)] at h ⊢
    refine ⟨?_, h1⟩
    by_cases h2 : sgn (residR value l rs).1.num < 0
    · rw [if_pos h2] at h; exact absurd h (by decide)
    · rw [if_neg h2] at h ⊢
      cases h3 : belowAt (l.zip rs) with
      | some i => rw [h3] at h; exact absurd (show (47 : Int) = 0 from h) (by decide)
      | none =>
        rw [h3] at h
        dsimp only at h ⊢
        cases h4 : dissentAt (residR value l rs).1 (l.zip rs) with
        | some i => rw [h4] at h; exact absurd (show (18 : Int) = 0 from h) (by decide)
        | none =>
          rw [h4] at h
          dsimp only at h ⊢
          cases h5 : carriedB (l.zip rs) with
          | true => rfl
          | false => rw [h5] at h; exact absurd h (by decide)
  · rw [if_pos h1] at h; exact absurd h h1
theorem residR_ok {value : Rat} {l : List Blc} {rs : List Rat} (h : (residR value l rs).2 = 0) : checkVn value l = 0 ∧ rs.length = l.length ∧ (∀ r ∈ rs, rateIn r) ∧ residR value l rs = (resid value (l.zip rs), 0) := by
  unfold residR at h ⊢
  by_cases h1 : checkVn value l = 0
  · rw [if_neg (fun k => k h1)] at h ⊢
    by_cases h2 : rs.length = l.length
    · rw [if_neg (fun k => k h2)] at h ⊢
      cases h3 : rs.all rateB with
      | true => exact ⟨h1, h2, all_rateB.1 h3, by rw [if_neg (by decide)]⟩
      | false => rw [h3, if_pos rfl] at h; exact absurd h (by decide)
    · rw [if_pos h2] at h; exact absurd h (by decide)
  · rw [if_pos h1] at h; exact absurd h h1
theorem searchR_ok {value : Rat} {l : List Blc} (h : (searchR value l).2.1 = true) : checkVn value l = 0 ∧ (searchR value l).1 = ratesOf value l ∧ confR value l (ratesOf value l) = (-1, 0) ∧ residR value l (ratesOf value l) = (resid value (search value l), 0) := by
  unfold searchR at h ⊢
  by_cases h1 : checkVn value l = 0
  · rw [if_neg (fun k => k h1)] at h ⊢
    by_cases h2 : (confR value l (ratesOf value l)).2 = 0
    · obtain ⟨a, b⟩ := confR_ok h2
      obtain ⟨_, _, _, c⟩ := residR_ok b
      rw [if_neg (fun k => k h2)]
      rw [ratesOf_zip] at c
      exact ⟨h1, rfl, a, c⟩
    · rw [if_pos h2] at h; exact absurd h (by decide)
  · rw [if_pos h1] at h; exact absurd (show false = true from h) (by decide)
theorem searchR_err {value : Rat} {l : List Blc} (h : checkVn value l = 0) : (searchR value l).2.2 = 0 := by
  unfold searchR; rw [if_neg (fun k => k h)]; split <;> rfl
theorem zip_fst : ∀ {l : List Blc} {rs : List Rat}, rs.length = l.length → (l.zip rs).map Prod.fst = l
  | [], _, _ => by simp
  | b :: l, [], h => by simp at h
  | b :: l, r :: rs, h => by rw [List.zip_cons_cons, List.map_cons, zip_fst (by simpa using h)]
theorem mem_zip {l : List Blc} {rs : List Rat} {x : Blc × Rat} (h : x ∈ l.zip rs) : x.1 ∈ l ∧ x.2 ∈ rs := List.of_mem_zip (a := x.1) (b := x.2) h
theorem zip_good {value : Rat} {l : List Blc} {rs : List Rat} (hv : checkVn value l = 0) (hr : ∀ r ∈ rs, rateIn r) : ∀ z ∈ l.zip rs, goodB z.1 ∧ 0 ≤ z.2 := fun z hz => by
  obtain ⟨h1, h2⟩ := mem_zip hz
  exact ⟨((checkVn_zero hv).2.2 _ h1).2.2, (hr _ h2).1⟩
/-- Where there is a plan, the search finds one, and it leaves no less. -/
theorem law_found {value : Rat} {l : List Blc} {rs : List Rat} (h : (confR value l rs).2 = 0) : (searchR value l).2.1 = true ∧ resid value (l.zip rs) ≤ resid value (search value l) := by
  obtain ⟨h1, h2⟩ := confR_ok h
  obtain ⟨hv, hl, hr, _⟩ := residR_ok h2
  obtain ⟨v0, _, hb⟩ := checkVn_zero hv
  have hg := zip_good hv hr
  obtain ⟨g1, g2⟩ := plan_found hg v0 ((confR_iff hv hl hr).1 h1)
  rw [zip_fst hl] at g1 g2
  refine ⟨?_, g2⟩
  have hc : confR value l (ratesOf value l) = (-1, 0) := (confR_iff hv (ratesOf_len l value) (ratesOf_in l value (fun b hb2 => (hb b hb2).2.2) v0)).2 (by rw [ratesOf_zip]; exact g1)
  unfold searchR
  rw [if_neg (fun k => k hv), hc, if_neg (by decide)]
/-- The same rates when one bloc asks for less. -/
theorem lower_refl : ∀ x : List (Blc × Rat), Lower x x
  | [] => trivial
  | _ :: t => ⟨⟨rfl, rfl, rfl, rfl, Rat.le_refl⟩, lower_refl t⟩
theorem lower_set : ∀ (l : List Blc) (rs : List Rat) (i : Nat) (b b' : Blc), l[i]? = some b → b'.total = b.total → b'.floor = b.floor → b'.acc = b.acc → b'.ask ≤ b.ask → Lower (l.zip rs) ((l.set i b').zip rs)
  | [], _, _, _, _, h, _, _, _, _ => by simp at h
  | c :: l, [], i, b, b', _, _, _, _, _ => by rw [List.zip_nil_right, List.zip_nil_right]; trivial
  | c :: l, r :: rs, 0, b, b', h, h1, h2, h3, h4 => by
    rw [List.getElem?_cons_zero] at h
    obtain rfl : c = b := by simpa using h
    exact ⟨⟨rfl, h1, h2, h3, h4⟩, lower_refl _⟩
  | c :: l, r :: rs, i + 1, b, b', h, h1, h2, h3, h4 => by
    rw [List.getElem?_cons_succ] at h
    exact ⟨⟨rfl, rfl, rfl, rfl, Rat.le_refl⟩, lower_set l rs i b b' h h1 h2 h3 h4⟩
theorem law_more {value : Rat} {l : List Blc} {i : Nat} {b b' : Blc} (hi : l[i]? = some b) (h1 : b'.total = b.total) (h2 : b'.floor = b.floor) (h3 : b'.acc = b.acc) (h4 : b'.ask ≤ b.ask) (hc : checkVn value (l.set i b') = 0) (h : (searchR value l).2.1 = true) :
    (searchR value (l.set i b')).2.1 = true ∧ resid value (search value l) ≤ resid value (search value (l.set i b')) := by
  obtain ⟨hv, _, hf, hres⟩ := searchR_ok h
  obtain ⟨v0, _, hb⟩ := checkVn_zero hv
  have hr := ratesOf_in l value (fun b hb2 => (hb b hb2).2.2) v0
  have hconf := (confR_iff hv (ratesOf_len l value) hr).1 hf
  have hlow := lower_set l (ratesOf value l) i b b' hi h1 h2 h3 h4
  have hc2 := lower_conf hlow hconf
  have hlen : (ratesOf value l).length = (l.set i b').length := by rw [ratesOf_len, List.length_set]
  have := law_found (value := value) (l := l.set i b') (rs := ratesOf value l) (by rw [(confR_iff hc hlen hr).2 hc2])
  rw [lower_resid hlow, ratesOf_zip] at this
  exact this
/-- One who dissents gets all that the more senior ones leave. -/
theorem law_dissent {value : Rat} {l : List Blc} {rs : List Rat} (h : (confR value l rs).2 = 0) {k : Nat} {b : Blc} {r : Rat} (hb : l[k]? = some b) (hk : rs[k]? = some r) :
    (impB (b, r) = true → consB (b, r) = false → b.total * r = residTo value (l.zip rs) k) ∧ b.floor ≤ r := by
  obtain ⟨h1, h2⟩ := confR_ok h
  obtain ⟨hv, hl, hr, _⟩ := residR_ok h2
  obtain ⟨c1, c2, c3, _⟩ := (confR_iff hv hl hr).1 h1
  have hz := zip_at hb hk
  have hm := List.mem_of_getElem? hz
  refine ⟨fun i1 i2 => ?_, c2 _ hm⟩
  have e : l.zip rs = (l.zip rs).take k ++ (b, r) :: (l.zip rs).drop (k + 1) := by rw [← drop_at hz, List.take_append_drop]
  have hn : ¬ consents (b, r) := fun hh => by rw [consB_iff.2 hh] at i2; cases i2
  have hp : ∀ u ∈ (l.zip rs).drop (k + 1), 0 ≤ u.2 := fun u hu => (hr _ (mem_zip (List.mem_of_mem_drop hu)).2).1
  rw [e] at c3
  have := dissent_all _ (b, r) _ value hp c3 (impB_iff.1 i1) hn
  rw [resid_fold] at this
  exact this
theorem law_left {value : Rat} {l : List Blc} {rs : List Rat} (h : (confR value l rs).2 = 0) : 0 ≤ residTo value (l.zip rs) (l.zip rs).length := by
  obtain ⟨h1, h2⟩ := confR_ok h
  obtain ⟨hv, hl, hr, _⟩ := residR_ok h2
  rw [residTo_end]
  exact ((confR_iff hv hl hr).1 h1).1

/-- The laws' ventures are in order. -/
theorem checkBl_all {l : List Blc} (h : ∀ k b, l[k]? = some b → bErr (prevAt l k) b = 0) : ∀ m k, k + m = l.length → checkBl (prevAt l k) (l.drop k) = 0
  | 0, k, hk => by rw [List.drop_eq_nil_of_le (by omega)]; rfl
  | m + 1, k, hk => by
    have hq : l[k]? = some l[k] := List.getElem?_eq_getElem (by omega)
    rw [checkBl_drop hq, if_pos (h k _ hq)]
    exact checkBl_all h m (k + 1) (by omega)
theorem bErr_good {p : Option Blc} {b : Blc} (h : 0 ≤ b.rank ∧ b.rank ≤ 7) (h2 : notAfter p b = false) (hg : goodB b) : bErr p b = 0 :=
  bErr_none (by omega) h2 (fun k => absurd (sgn_np.1 k) (Rat.not_le.2 hg.1)) (rateB_iff.2 ⟨hg.2.1, hg.2.2.1⟩) (rateB_iff.2 hg.2.2.2)
theorem blocsOf_check (x : Nat) (ts : List Qua) : checkVn (valueOf x) (blocsOf ts) = 0 := by
  unfold checkVn
  have hlen : (blocsOf ts).length = (ts.take 3).length := blocsK_len _ _
  have h3 : (ts.take 3).length ≤ 3 := by rw [List.length_take]; omega
  rw [if_neg (sgn_nonneg (valueOf_nonneg x)), if_neg (by omega)]
  have := checkBl_all (l := blocsOf ts) (fun k b hk => ?_) (blocsOf ts).length 0 (by omega)
  · rwa [List.drop_zero] at this
  · have hkl : k < (blocsOf ts).length := (List.getElem?_eq_some_iff.1 hk).1
    have hq : (ts.take 3)[k]? = some (ts.take 3)[k] := List.getElem?_eq_getElem (by omega)
    have hb := blocsK_at (ts := ts.take 3) (k := (ts.take 3).length) (i := k) (by omega) hq
    unfold blocsOf at hk
    rw [hb] at hk
    obtain rfl : venB (rankOf ((ts.take 3).take (k + 1))) (ts.take 3)[k] = b := by simpa using hk
    have hr := rankOf_in (ts.take 3) (k + 1) (by omega)
    refine bErr_good (by show 0 ≤ rankOf _ ∧ rankOf _ ≤ 7; omega) ?_ (venB_good _ _)
    unfold prevAt
    by_cases h0 : k = 0
    · rw [if_pos h0]; rfl
    · rw [if_neg h0]
      have hq2 : (ts.take 3)[k - 1]? = some (ts.take 3)[k - 1] := List.getElem?_eq_getElem (by omega)
      unfold blocsOf
      rw [blocsK_at (ts := ts.take 3) (k := (ts.take 3).length) (i := k - 1) (by omega) hq2]
      show decide (rankOf _ ≤ rankOf _) = false
      have e := rankOf_succ hq
      have e2 : k - 1 + 1 = k := by omega
      rw [e2, e]
      exact decide_eq_false (by omega)
end Go.Proofs.YtcllocdhbicpkaaGreatDoor

/-
A whole list appended to a row of the call's own; a part of a slice reads as the part of its list.
-/
namespace Go.Proofs.YtcllocdhbicpkaaGreatDoor
open Go.RowKit

section
variable {α : Type} {enc : α → List Value} {k : Nat}
theorem flat_inv (hk : ∀ x, (enc x).length = k) : ∀ (xs : List α) (j : Nat) (u : Value), (flat enc xs)[j]? = some u → ∃ q i x, j = q * k + i ∧ xs[q]? = some x ∧ (enc x)[i]? = some u
  | [], j, u, h => by simp [flat] at h
  | x :: xs, j, u, h => by
    have h' : (enc x ++ flat enc xs)[j]? = some u := h
    by_cases hj : j < k
    · rw [List.getElem?_append_left (by rw [hk]; exact hj)] at h'
      exact ⟨0, j, x, by omega, rfl, h'⟩
    · rw [List.getElem?_append_right (by rw [hk]; omega), hk] at h'
      obtain ⟨q, i, y, h1, h2, h3⟩ := flat_inv hk xs (j - k) u h'
      exact ⟨q + 1, i, y, by rw [Nat.add_mul]; omega, by simpa using h2, h3⟩
theorem Slc.none_nil {w : World} {n c : Nat} {xs : List α} (h : Slc enc k w (.slice none n c) xs) : xs = [] := by
  obtain ⟨A, c', e, _, _, hr⟩ := h
  injection e with e1 e2 e3
  subst e1
  rcases Nat.eq_zero_or_pos xs.length with h0 | h0
  · exact List.length_eq_zero_iff.1 h0
  · obtain ⟨b, o, e, _⟩ := hr h0
    cases e
theorem Slc.flat_cells (hk : ∀ x, (enc x).length = k) {w w' : World} {ad : Addr} {n c : Nat} {xs : List α} (h : Slc enc k w (.slice (some ad) n c) xs) (hb : Below w.heap.size w w') : ∀ j u, (flat enc xs)[j]? = some u → w'.cell? (ad.add j) = some u := by
  intro j u hj
  obtain ⟨q, i, x, rfl, hq, hi⟩ := flat_inv hk xs j u hj
  have hql : q < xs.length := (List.getElem?_eq_some_iff.1 hq).1
  obtain ⟨b, o, y, e, hbb, hy, hx⟩ := h.at_ hql
  injection e with e
  subst e
  rw [hq] at hy
  injection hy with hy
  subst hy
  have := hx w' hb i u hi
  rw [Addr.add_lit, ← Nat.add_assoc]
  exact this
/-- The first of a slice. -/
theorem Slc.first {w : World} {A : Option Addr} {n c h : Nat} {xs : List α} (hs : Slc enc k w (.slice A n c) xs) (hhn : h ≤ xs.length) : Slc enc k w (.slice A h c) (xs.take h) := by
  obtain ⟨A', c', e, h1, h2, hr⟩ := hs
  injection e with e1 e2 e3
  subst e1; subst e2; subst e3
  have hlen : (xs.take h).length = h := by rw [List.length_take]; omega
  refine ⟨A, c, by rw [hlen], by rw [hlen]; omega, h2, fun hpos => ?_⟩
  rw [hlen] at hpos
  obtain ⟨b, o, e, hb, hx⟩ := hr (by omega)
  refine ⟨b, o, e, hb, fun j x hj i u hu => hx j x ?_ i u hu⟩
  have hlt : j < h := by
    rcases Nat.lt_or_ge j h with h3 | h3
    · exact h3
    · rw [List.getElem?_eq_none (by rw [hlen]; omega)] at hj; cases hj
  rwa [List.getElem?_take, if_pos hlt] at hj
/-- A part of a slice. -/
theorem Slc.sliced {w : World} {A : Option Addr} {n c l h : Nat} {xs : List α} (hs : Slc enc k w (.slice A n c) xs) (hlh : l ≤ h) (hhn : h ≤ xs.length) : Slc enc k w (Go.sliced A l h c k) ((xs.take h).drop l) := by
  obtain ⟨A', c', e, h1, h2, hr⟩ := hs
  injection e with e1 e2 e3
  subst e1; subst e2; subst e3
  have hlen : ((xs.take h).drop l).length = h - l := by rw [List.length_drop, List.length_take]; omega
  unfold Go.sliced
  refine ⟨if c = l then A else A.map (·.add (l * k)), c - l, by rw [hlen], by rw [hlen]; omega, by omega, fun hpos => ?_⟩
  rw [hlen] at hpos
  obtain ⟨b, o, e, hb, hx⟩ := hr (by omega)
  subst e
  rw [if_neg (by omega)]
  refine ⟨b, o + l * k, by simp [Addr.add_lit], hb, fun j x hj i u hu => ?_⟩
  have hj' : xs[l + j]? = some x := by
    rw [List.getElem?_drop] at hj
    have hlt : l + j < h := by
      rcases Nat.lt_or_ge (l + j) h with h3 | h3
      · exact h3
      · rw [List.getElem?_eq_none (by rw [List.length_take]; omega)] at hj; cases hj
    rwa [List.getElem?_take, if_pos hlt] at hj
  have := hx (l + j) x hj' i u hu
  rw [show o + l * k + j * k + i = o + (l + j) * k + i by rw [Nat.add_mul]; omega]
  exact this
end

section
variable {α : Type} {enc : α → List Value} {P : Program}
theorem wpList_append_list (w : World) {ops : Array Oper} {rest : List Oper} {o : Oper} {a : Act} {Q : Exit → Act → World → Prop} (hgd : o.guard = none) (s x : Operand) (t : TypeId)
    (ho : o.op = .call { callee := .builtin .append, args := #[s, x], argTypes := #[t, t] })
    (base : Nat) (e : TypeId) (i : TypeInfo) (z : Value) (size bytes : Nat) (ht : P.underlying t = some (.slice e)) (hi : P.info? e = some i) (hz : i.zero = some z)
    (hsize : i.size = size) (hby : i.bytes = bytes) (hzs : z.cells.size = size) (hsz : 0 < size) (hk : ∀ y, (enc y).length = size)
    (g cap n : Nat) (xs : List α) (hs : a.eval s = .slice (some ⟨g, 0, none⟩) n cap) (hown : w.ownsRow base e size (.slice (some ⟨g, 0, none⟩) n cap) n (flat enc xs)) (u : Value) (ys : List α) (w0 : World) (hsrc : Slc enc size w0 u ys) (hb : Below w0.heap.size w0 w) (hx : a.eval x = u)
    (h1 : ∀ y ∈ ys, ∀ c ∈ enc y, c.oneCell' = true) (h63 : n + ys.length ≤ maxLen) (hbytes : (n + ys.length) * bytes ≤ 140737488355328) (hbase : base ≤ w.heap.size)
    (h : ∀ g' cap' w', w'.ownsRow base e size (.slice (some ⟨g', 0, none⟩) (n + ys.length) cap') (n + ys.length) (flat enc (xs ++ ys)) → Below base w w' → wpList P ops Q rest (a.put o.dst (.slice (some ⟨g', 0, none⟩) (n + ys.length) cap')) w') : wpList P ops Q (o :: rest) a w := by
  obtain ⟨A, c, rfl, hl, hc⟩ := hsrc.slice
  have hgb : base ≤ g := by
    rcases hown.2 with ⟨h2, _⟩ | ⟨g2, cap2, cur, h2, h3, _⟩
    · cases h2
    · injection h2 with h2
      injection h2 with h2
      injection h2 with h2
      omega
  cases A with
  | some ad =>
    refine wpList_append_own w hgd s x t ho base e i z size bytes ht hi hz hsize hby hzs hsz _ n (flat enc xs) hs hown ad ys.length c (flat enc ys) hx (flat_length hk ys) (hsrc.flat_cells hk hb) ?_ h63 hbytes hbase ?_
    · intro c' hc'
      obtain ⟨j, hj⟩ := List.mem_iff_getElem?.1 hc'
      obtain ⟨q, i', y, _, hq, hi'⟩ := flat_inv hk ys j c' hj
      exact h1 y (List.mem_of_getElem? hq) c' (List.mem_of_getElem? hi')
    · intro v' w' hown' hg hnil
      rw [← flat_append] at hown'
      have hbel : Below base w w' := (Below.refl base w).grown hg hbase (fun k' hk' => by
        have : g = k' := by simpa [Value.ownBlock] using hk'
        omega)
      rcases hown'.2 with ⟨h2, _⟩ | ⟨g2, cap2, cur, h2, _⟩
      · exact absurd (hnil.1 h2).1 (by intro h3; cases h3)
      · subst h2
        exact h g2 cap2 w' hown' hbel
  | none =>
    have hy : ys = [] := hsrc.none_nil
    subst hy
    refine wpList_plain hgd fun K hK => ?_
    have hroom : n + 0 ≤ cap := by
      rcases hown.2 with ⟨h2, _⟩ | ⟨g2, cap2, cur, h2, _, _, h3, _⟩
      · cases h2
      · injection h2 with _ _ h4
        omega
    have hr := run_append_room_src (P := P) w t t o.type e i ht hi g 0 n cap (.slice none 0 c) 0 [] (Src.ofNil w ht c) hroom (by simp) (by simp)
    have hset : w.setCells g (0 + n * i.size) [] = w := rfl
    rw [hset] at hr
    unfold Oper.wp execOp
    simp only [ho, resolve, invoke, builtin, Sem.run_bind, Sem.run_pure, Result.andThen_ok, List.map_toArray, List.map_cons, List.map_nil, hs, hx]
    have hx' : (([] : List α).length) = 0 := rfl
    rw [hx'] at hx ⊢
    simp only [hr, Result.andThen_ok]
    exact hK _ _ (h g cap w (by simpa using hown) (Below.refl _ _))
end
end Go.Proofs.YtcllocdhbicpkaaGreatDoor

/-
A region that draws its order and makes two blocks, which its tail fills: every other operation has a value; the two blocks differ.
-/
namespace Go.Proofs.YtcllocdhbicpkaaGreatDoor
open Go.RowKit

def StepT (P : Program) (l : List Oper) (n : Nat) (V : List Value) (A B : Nat) (Z : Array Value) (T : TypeId) (Z' : Array Value) (T' : TypeId) (a : Act) (w : World) (i : Nat) (o : Oper) : Prop :=
  ∀ (x : Nat → Value) (a1 : Act) (w1 : World), Below w.heap.size w w1 → (∀ j o' t, (l.take n)[j]? = some o' → o'.dst = some t → a1.tmps[t]?.getD undef = x j) → (∀ t, (l.take n).all (fun o => o.dst != some t) = true → a1.tmps[t]?.getD undef = a.tmps[t]?.getD undef) →
    (∀ e ∈ o.after, Region.binds .any e = true → e.on ≠ A → e.on ≠ B → x e.on = V.getD e.on undef) →
    if i = A then wpList P l.toArray (StepQ a1 o.dst w1 (fun w2 v => ∃ g, v = .pointer (some ⟨g, 0, none⟩) ∧ w1.heap.size ≤ g ∧ Blk w2 g Z T)) [o] a1 w1
    else if i = B then wpList P l.toArray (StepQ a1 o.dst w1 (fun w2 v => ∃ g, v = .pointer (some ⟨g, 0, none⟩) ∧ w1.heap.size ≤ g ∧ Blk w2 g Z' T')) [o] a1 w1
    else wpList P l.toArray (StepQ a1 o.dst w1 (fun _ v => v = V.getD i undef)) [o] a1 w1

theorem wp_region_two {P : Program} {id : Nat} {Q : Exit → Act → World → Prop} {a : Act} {w : World} {l : List Oper} (n A B : Nat) (V : List Value) (Z : Array Value) (T : TypeId) (Z' : Array Value) (T' : TypeId) (hm : P.follows .mixedOrders = true) (hB : invB l.toArray n = true) (hD : apartB (l.take n) = true)
    (hS : (l.take n).all (fun o => match o.dst with | some d => decide (d < a.tmps.size) | none => true) = true) (hAn : A < n) (hBn : B < n) (hAB : A ≠ B)
    (hstep : stepsOk (StepT P l n V A B Z T Z' T' a w) (l.take n) 0)
    (hend : ∀ x w1 g g', Below w.heap.size w w1 → (∀ i, i < n → i ≠ A → i ≠ B → x i = V.getD i undef) → x A = .pointer (some ⟨g, 0, none⟩) → x B = .pointer (some ⟨g', 0, none⟩) → w.heap.size ≤ g → w.heap.size ≤ g' → Blk w1 g Z T → Blk w1 g' Z' T' → g ≠ g' → wpList P l.toArray Q (l.drop n) (fillA (l.take n) 0 x a) w1) : (Code.region id l.toArray true).wp P Q a w := by
  refine wp_region_any hm ?_
  obtain ⟨x0, hx0⟩ := fillA_self a (l.take n) 0
  have inv0 : HeadInv .any l.toArray n (Array.replicate l.toArray.size false) :=
    ⟨by simp, fun j oj _ hl => (by rw [getD_replicate_false] at hl; cases hl), fun t _ ht => getD_in (by simpa using ht) (getD_replicate_false _ _)⟩
  have hBs := hB
  simp only [invB, Bool.and_eq_true, decide_eq_true_eq] at hBs
  have hlen : n < l.toArray.size := hBs.1.1.1.1
  have hedge := hBs.2
  have hunl : (unl (Array.replicate l.toArray.size false) n).length = n := by
    unfold unl
    rw [List.filter_eq_self.2]
    · simp
    · intro j hj
      have hjn := List.mem_range.1 hj
      have : (Array.replicate l.toArray.size false).getD j true = false := getD_in (by simpa using Nat.lt_trans hjn (by simpa using hlen)) (getD_replicate_false _ _)
      rw [this]; rfl
  have hfalse : ∀ i, i < n → (Array.replicate l.toArray.size false).getD i true = true → False := fun i hi h => by
    rw [getD_in (by simpa using Nat.lt_trans hi (by simpa using hlen)) (getD_replicate_false _ _)] at h; cases h
  have hw : Below w.heap.size w { w with drawn := w.drawn + 1 } := ⟨rfl, rfl, rfl, Nat.le_refl _, fun _ _ => rfl⟩
  have := inv_J (P := P) (Q := Q) (a0 := a) rfl hB hD
    (fun listed x w1 => Below w.heap.size w w1 ∧ (∀ i, i < n → i ≠ A → i ≠ B → listed.getD i true = true → x i = V.getD i undef) ∧
      (listed.getD A true = true → ∃ g, x A = .pointer (some ⟨g, 0, none⟩) ∧ w.heap.size ≤ g ∧ Blk w1 g Z T) ∧ (listed.getD B true = true → ∃ g, x B = .pointer (some ⟨g, 0, none⟩) ∧ w.heap.size ≤ g ∧ Blk w1 g Z' T') ∧
      (listed.getD A true = true → listed.getD B true = true → x A ≠ x B))
    (fun listed x w1 i o ho hi hsz hun hdeps ⟨hb, hv, hA, hBx, hne⟩ => by
      have hot : (l.take n)[i]? = some o := by rw [List.getElem?_take, if_pos hi]; exact ho
      have hq0 := stepsOk_spec _ _ hstep i o hot
      rw [Nat.zero_add] at hq0
      have h := hq0 x (fillA (l.take n) 0 x a) w1 hb (fun j o' t hj hd' => by
        have hs := List.all_eq_true.1 hS o' (List.mem_of_getElem? hj)
        rw [hd'] at hs
        have := fillA_at (l.take n) 0 x a j o' t hD hj hd' (by simpa using hs)
        rwa [Nat.zero_add, eval_tmp] at this) (fun t ht => by
        have := fillA_other (l.take n) 0 x a t ht
        rwa [eval_tmp, eval_tmp] at this) (fun e he hbe hnA hnB => by
        have h2 := List.all_eq_true.1 hedge i (List.mem_range.2 hi)
        rw [show l.toArray[i]? = some o by simpa using ho] at h2
        have h3 := Array.all_eq_true'.1 h2 e he
        rw [hbe] at h3
        have h4 : e.on < i := by simpa using h3
        exact hv e.on (by omega) hnA hnB (hdeps e he hbe))
      clear hq0
      by_cases hiA : i = A
      · rw [if_pos hiA] at h
        subst hiA
        unfold StepQ at h
        refine one_step (fun v w2 hY => ?_) h
        obtain ⟨hb2, g, rfl, hg, hblk⟩ := hY
        refine ⟨hb.trans (hb2.mono hb.size), fun j hj hjA hjB hlj => ?_, fun _ => ⟨g, by simp [upd], Nat.le_trans hb.size hg, hblk⟩, fun hl => ?_, fun _ hl => ?_⟩
        · rw [set_ne (fun e => hjA e.symm)] at hlj
          rw [upd, if_neg hjA]; exact hv j hj hjA hjB hlj
        · rw [set_ne hAB] at hl
          obtain ⟨g', h1, h2, h3⟩ := hBx hl
          exact ⟨g', by rw [upd, if_neg hAB.symm]; exact h1, h2, h3.below hb2 h3.lt⟩
        · rw [set_ne hAB] at hl
          obtain ⟨g', h1, h2, h3⟩ := hBx hl
          rw [upd, if_pos rfl, upd, if_neg hAB.symm, h1]
          intro e
          have e1 : g = g' := by simpa using e
          have := h3.lt
          omega
      · rw [if_neg hiA] at h
        by_cases hiB : i = B
        · rw [if_pos hiB] at h
          subst hiB
          unfold StepQ at h
          refine one_step (fun v w2 hY => ?_) h
          obtain ⟨hb2, g, rfl, hg, hblk⟩ := hY
          refine ⟨hb.trans (hb2.mono hb.size), fun j hj hjA hjB hlj => ?_, fun hl => ?_, fun _ => ⟨g, by simp [upd], Nat.le_trans hb.size hg, hblk⟩, fun hl _ => ?_⟩
          · rw [set_ne (fun e => hjB e.symm)] at hlj
            rw [upd, if_neg hjB]; exact hv j hj hjA hjB hlj
          · rw [set_ne hiA] at hl
            obtain ⟨g', h1, h2, h3⟩ := hA hl
            exact ⟨g', by rw [upd, if_neg hAB]; exact h1, h2, h3.below hb2 h3.lt⟩
          · rw [set_ne hiA] at hl
            obtain ⟨g', h1, h2, h3⟩ := hA hl
            rw [upd, if_neg hAB, h1, upd, if_pos rfl]
            intro e
            have e1 : g' = g := by simpa using e
            have := h3.lt
            omega
        · rw [if_neg hiB] at h
          unfold StepQ at h
          refine one_step (fun v w2 hY => ?_) h
          obtain ⟨hb2, hvv⟩ := hY
          refine ⟨hb.trans (hb2.mono hb.size), fun j hj hjA hjB hlj => ?_, fun hl => ?_, fun hl => ?_, fun hl hl' => ?_⟩
          · by_cases hji : j = i
            · subst hji; rw [upd, if_pos rfl]; exact hvv
            · rw [set_ne (fun e => hji e.symm)] at hlj
              rw [upd, if_neg hji]; exact hv j hj hjA hjB hlj
          · rw [set_ne hiA] at hl
            obtain ⟨g, hxg, hg, hblk⟩ := hA hl
            exact ⟨g, by rw [upd, if_neg (fun e => hiA e.symm)]; exact hxg, hg, hblk.below hb2 hblk.lt⟩
          · rw [set_ne hiB] at hl
            obtain ⟨g, hxg, hg, hblk⟩ := hBx hl
            exact ⟨g, by rw [upd, if_neg (fun e => hiB e.symm)]; exact hxg, hg, hblk.below hb2 hblk.lt⟩
          · rw [set_ne hiA] at hl
            rw [set_ne hiB] at hl'
            rw [upd, if_neg (fun e => hiA e.symm), upd, if_neg (fun e => hiB e.symm)]
            exact hne hl hl')
    (fun x w1 ⟨hb, hv, hA, hBx, hne⟩ => by
      have hc : ∀ i, i < n → (canon l.toArray.size n).getD i true = true := by
        intro i hi
        unfold canon
        rw [Array.getD_eq_getD_getElem?, Array.getElem?_map, Array.getElem?_range, if_pos (by omega)]
        simp [hi]
      obtain ⟨g, hxg, hg, hblk⟩ := hA (hc A hAn)
      obtain ⟨g', hxg', hg', hblk'⟩ := hBx (hc B hBn)
      exact hend x w1 g g' hb (fun i hi h1 h2 => hv i hi h1 h2 (hc i hi)) hxg hxg' hg hg' hblk hblk' (fun e => hne (hc A hAn) (hc B hBn) (by rw [hxg, hxg', e])))
    n (Array.replicate l.toArray.size false) x0 { w with drawn := w.drawn + 1 } inv0 hunl ⟨hw, fun i hi _ _ h => (hfalse i hi h).elim, fun h => (hfalse A hAn h).elim, fun h => (hfalse B hBn h).elim, fun h => (hfalse A hAn h).elim⟩
  rw [hx0 x0 (fun _ _ => rfl)] at this
  rw [show n + (l.toArray.size - n) = l.toArray.size by omega] at this
  exact this
theorem St.fill2 {w0 w w' : World} {R : List Own} {g g' : Nat} {cs cs' : Array Value} {t t' : TypeId} (h : St w0 R w) (hb : Below w.heap.size w w') (hg : w.heap.size ≤ g) (hB : Blk w' g cs t) (hg' : w.heap.size ≤ g') (hB' : Blk w' g' cs' t') (hne : g ≠ g') : St w0 (⟨g', cs', t'⟩ :: ⟨g, cs, t⟩ :: R) w' := by
  have h1 := h.fill hb hg hB
  refine ⟨h1.below, fun r hr => ?_, List.pairwise_cons.2 ⟨fun r hr => ?_, h1.apart⟩⟩
  · rcases List.mem_cons.1 hr with rfl | hr
    · exact ⟨hB', Nat.le_trans h.below.size hg'⟩
    · exact h1.ok r hr
  · rcases List.mem_cons.1 hr with rfl | hr
    · exact fun e => hne e.symm
    · have := (h.ok r hr).1.lt
      show g' ≠ r.g
      omega
end Go.Proofs.YtcllocdhbicpkaaGreatDoor

/-
Rows of numbers that are written by index; plain Lean and the laws of memory.
-/
namespace Go.Proofs.YtcllocdhbicpkaaGreatDoor
open Go.RowKit

section
variable {α : Type} {enc : α → List Value} {k : Nat}
theorem flat_set (hk : ∀ x, (enc x).length = k) : ∀ (xs : List α) (j : Nat) (x x' : α), xs[j]? = some x → ∀ (i : Nat) (u : Value), i < k → (enc x).set i u = enc x' → (flat enc xs).set (j * k + i) u = flat enc (xs.set j x')
  | [], j, x, _, h, _, _, _, _ => by simp at h
  | y :: ys, 0, x, x', h, i, u, hi, he => by
    have e : y = x := by simpa using h
    subst e
    rw [List.set_cons_zero, flat, flat, Nat.zero_mul, Nat.zero_add, List.set_append_left _ _ (by rw [hk]; exact hi), he]
  | y :: ys, j + 1, x, x', h, i, u, hi, he => by
    have e : (j + 1) * k + i = (enc y).length + (j * k + i) := by rw [hk, Nat.add_mul]; omega
    rw [List.set_cons_succ, flat, flat, e, List.set_append_right _ _ (by omega), Nat.add_sub_cancel_left, flat_set hk ys j x x' (by simpa using h) i u hi he]
end
/-- A row of numbers. -/
def rowA (rs : List Rtr) : Array Value := (flat Rtr.enc rs).toArray
def rtr0 : Rtr := ⟨false, [], []⟩
theorem rowA_size (rs : List Rtr) : (rowA rs).size = rs.length * 3 := by
  unfold rowA; rw [List.size_toArray, flat_length rtr_len]
theorem rowA_cell {rs : List Rtr} {j : Nat} {x : Rtr} (h : rs[j]? = some x) {i : Nat} {u : Value} (hu : x.enc[i]? = some u) : (rowA rs)[j * 3 + i]? = some u := by
  unfold rowA; rw [List.getElem?_toArray]; exact flat_get rtr_len rs j x h i u hu
theorem rowA_set {rs : List Rtr} {j : Nat} {x x' : Rtr} (h : rs[j]? = some x) {i : Nat} {u : Value} (hi : i < 3) (he : x.enc.set i u = x'.enc) : (rowA rs).setIfInBounds (j * 3 + i) u = rowA (rs.set j x') := by
  unfold rowA
  rw [List.setIfInBounds_toArray, flat_set rtr_len rs j x x' h i u hi he]
theorem St.setRow {w0 w : World} {R : List Own} (h : St w0 R w) (k : Nat) {g : Nat} {rs : List Rtr} {t : TypeId} (hk : R[k]? = some ⟨g, rowA rs, t⟩) (j : Nat) (x : Rtr) (hj : j < rs.length) :
    St w0 (R.set k ⟨g, rowA (rs.set j x), t⟩) (((w.setCell ⟨g, j * 3, none⟩ (.bool x.n)).setCell ⟨g, j * 3 + 1, none⟩ (.string (bs x.a))).setCell ⟨g, j * 3 + 2, none⟩ (.string (bs x.b))) := by
  have hl := (List.getElem?_eq_some_iff.1 hk).1
  have hq : rs[j]? = some rs[j] := List.getElem?_eq_getElem hj
  have h1 := h.set k hk (j * 3) (.bool x.n)
  have e1 := rowA_set (x' := ⟨x.n, rs[j].a, rs[j].b⟩) hq (i := 0) (u := .bool x.n) (by decide) rfl
  rw [Nat.add_zero] at e1
  rw [e1] at h1
  have hj1 : j < (rs.set j (⟨x.n, rs[j].a, rs[j].b⟩ : Rtr)).length := by rw [List.length_set]; exact hj
  have h2 := h1.set k (g := g) (t := t) (by rw [List.getElem?_set_self hl]) (j * 3 + 1) (.string (bs x.a))
  rw [rowA_set (x := ⟨x.n, rs[j].a, rs[j].b⟩) (x' := ⟨x.n, x.a, rs[j].b⟩) (by rw [List.getElem?_set_self hj]) (by decide) rfl] at h2
  simp only [List.set_set] at h2
  have h3 := h2.set k (g := g) (t := t) (by rw [List.getElem?_set_self (by simpa using hl)]) (j * 3 + 2) (.string (bs x.b))
  rw [rowA_set (x := ⟨x.n, x.a, rs[j].b⟩) (x' := x) (by rw [List.getElem?_set_self hj]) (by decide) rfl] at h3
  simp only [List.set_set] at h3
  exact h3
theorem St.rowCells {w0 w : World} {R : List Own} (h : St w0 R w) (k : Nat) {g : Nat} {rs : List Rtr} {t : TypeId} (hk : R[k]? = some ⟨g, rowA rs, t⟩) {j : Nat} {x : Rtr} (hx : rs[j]? = some x) :
    w.cell? ⟨g, j * 3, none⟩ = some (.bool x.n) ∧ w.cell? ⟨g, j * 3 + 1, none⟩ = some (.string (bs x.a)) ∧ w.cell? ⟨g, j * 3 + 2, none⟩ = some (.string (bs x.b)) := by
  refine ⟨h.cell k hk _ ?_, h.cell k hk _ (rowA_cell hx rfl), h.cell k hk _ (rowA_cell hx rfl)⟩
  have := rowA_cell hx (i := 0) rfl
  exact this
theorem St.rowL {w0 w : World} {R : List Own} (h : St w0 R w) (k : Nat) {g : Nat} {rs : List Rtr} {t : TypeId} (hk : R[k]? = some ⟨g, rowA rs, t⟩) {n : Nat} (hn : rs.length = n) (h9 : n ≤ 9223372036854775807) : RatsL w (.slice (some ⟨g, 0, none⟩) n n) rs :=
  Slc.of_blk rtr_len (h.blk k hk) (by unfold rowA; rfl) hn (Nat.le_refl _) h9
theorem made_rats (n : Nat) : madeCells #[.bool false, .string (bs []), .string (bs [])] (n * 3) = rowA (List.replicate n rtr0) := by
  apply Array.ext
  · rw [size_madeCells, rowA_size, List.length_replicate]
  · intro i h1 h2
    rw [size_madeCells] at h1
    have h3 : i / 3 < n := by omega
    have hq : (List.replicate n rtr0)[i / 3]? = some rtr0 := by rw [List.getElem?_replicate, if_pos h3]
    have hm : i % 3 = 0 ∨ i % 3 = 1 ∨ i % 3 = 2 := by omega
    have hd : i / 3 * 3 + i % 3 = i := by omega
    have key : ∀ u, rtr0.enc[i % 3]? = some u → (rowA (List.replicate n rtr0))[i] = u := fun u hu => by
      have := rowA_cell hq hu
      rw [hd, Array.getElem?_eq_getElem h2] at this
      exact Option.some.inj this
    have hL : (madeCells #[.bool false, .string (bs []), .string (bs [])] (n * 3))[i]? = some ((#[.bool false, .string (bs []), .string (bs [])] : Array Value)[i % 3]!) := by
      unfold madeCells
      rw [Array.getElem?_map, Array.getElem?_range, if_pos h1]; rfl
    rw [Array.getElem?_eq_getElem (by rw [size_madeCells]; exact h1)] at hL
    rw [Option.some.inj hL]
    rcases hm with e | e | e
    · rw [key (.bool false) (by rw [e]; rfl), e]; rfl
    · rw [key (.string (bs [])) (by rw [e]; rfl), e]; rfl
    · rw [key (.string (bs [])) (by rw [e]; rfl), e]; rfl
theorem info_rat3 : (Tryz.prog.info? 25).map (fun i => (i.zero, i.size, i.bytes)) = some (some (.agg #[.bool false, .string (bs []), .string (bs [])]), 3, 40) := by kernel_rfl
theorem make_rats (n : Nat) (hn : n ≤ 1000) (W : World) :
    (Instr.makeSlice 37 (.int .i64 (n : Int)) (.int .i64 (n : Int))).run Tryz.prog W = .ok (.slice (some ⟨W.heap.size, 0, none⟩) n n) (W.alloc (.cells (rowA (List.replicate n rtr0)) 25)) := by
  obtain ⟨i, hi, hzz⟩ := Option.map_eq_some_iff.1 info_rat3
  simp only [Prod.mk.injEq] at hzz
  obtain ⟨hz, hs, hb⟩ := hzz
  have := Go.run_make (P := Tryz.prog) W 37 25 i _ Tryz.underlying37 hi hz .i64 .i64 (n : Int) (n : Int) (by omega) (Int.le_refl _) (by rw [hb]; omega) (by omega)
  rw [hs, Int.toNat_natCast, show (Value.agg #[.bool false, .string (bs []), .string (bs [])]).cells = #[.bool false, .string (bs []), .string (bs [])] from rfl, made_rats] at this
  exact this
end Go.Proofs.YtcllocdhbicpkaaGreatDoor

/-
Rows of blocs that are written in place; plain Lean and the laws of memory.
-/
namespace Go.Proofs.YtcllocdhbicpkaaGreatDoor
open Go.RowKit

/-- A row of blocs, and what room is behind it. -/
def rowX (l : List Blc) (rest : List Value) : Array Value := (flat Blc.enc l ++ rest).toArray
theorem rowX_cell {l : List Blc} {rest : List Value} {j : Nat} {x : Blc} (h : l[j]? = some x) {i : Nat} {u : Value} (hu : x.enc[i]? = some u) : (rowX l rest)[j * 11 + i]? = some u := by
  have hi := (List.getElem?_eq_some_iff.1 hu).1
  rw [blc_len] at hi
  have hj := (List.getElem?_eq_some_iff.1 h).1
  have hl := flat_length blc_len l
  have hm : j * 11 + 11 ≤ l.length * 11 := by omega
  unfold rowX
  rw [List.getElem?_toArray, List.getElem?_append_left (by rw [hl]; omega)]
  exact flat_get blc_len l j x h i u hu
theorem rowX_cell0 {l : List Blc} {rest : List Value} {j : Nat} {x : Blc} (h : l[j]? = some x) {u : Value} (hu : x.enc[0]? = some u) : (rowX l rest)[j * 11]? = some u := rowX_cell h hu
theorem rowX_set {l : List Blc} {rest : List Value} {j : Nat} {x x' : Blc} (h : l[j]? = some x) {i : Nat} {u : Value} (hi : i < 11) (he : x.enc.set i u = x'.enc) : (rowX l rest).setIfInBounds (j * 11 + i) u = rowX (l.set j x') rest := by
  have hj := (List.getElem?_eq_some_iff.1 h).1
  have hl := flat_length blc_len l
  unfold rowX
  rw [List.setIfInBounds_toArray, List.set_append_left _ _ (by rw [hl]; omega), flat_set blc_len l j x x' h i u hi he]
def Blc.wRank (u : Blc) (r : Int) : Blc := ⟨r, u.tn, u.ta, u.tb, u.fn, u.fa, u.fb, u.kn, u.ka, u.kb, u.acc⟩
def Blc.wTotal (u : Blc) (n : Bool) (a b : List UInt8) : Blc := ⟨u.rank, n, a, b, u.fn, u.fa, u.fb, u.kn, u.ka, u.kb, u.acc⟩
def Blc.wFloor (u : Blc) (n : Bool) (a b : List UInt8) : Blc := ⟨u.rank, u.tn, u.ta, u.tb, n, a, b, u.kn, u.ka, u.kb, u.acc⟩
def Blc.wAsk (u : Blc) (n : Bool) (a b : List UInt8) : Blc := ⟨u.rank, u.tn, u.ta, u.tb, u.fn, u.fa, u.fb, n, a, b, u.acc⟩
theorem rowX_slc {w : World} {g : Nat} {l : List Blc} {rest : List Value} {t : TypeId} (h : Blk w g (rowX l rest) t) {n c : Nat} (hn : l.length = n) (hl : n ≤ c) (hc : c ≤ 9223372036854775807) : BlocsL w (.slice (some ⟨g, 0, none⟩) n c) l := by
  subst hn
  refine ⟨_, c, rfl, hl, hc, fun _ => ⟨g, 0, rfl, h.lt, fun j x hj i u hu => ?_⟩⟩
  rw [Nat.zero_add]
  exact h.cell _ _ (rowX_cell hj hu)
theorem Grows.toX {w : World} {base n : Nat} {e : TypeId} {v : Value} {l : List Blc} (h : Grows w base e 11 v n (flat Blc.enc l)) (h0 : 0 < n) :
    ∃ g cap rest, v = .slice (some ⟨g, 0, none⟩) n cap ∧ base ≤ g ∧ n ≤ cap ∧ cap ≤ maxLen ∧ rest.length + n * 11 = cap * 11 ∧ Blk w g (rowX l rest) e := by
  rcases h.2 with ⟨_, hz⟩ | ⟨g, cap, cur, rfl, hb, hg, hc, hm, hs, ht⟩
  · omega
  · refine ⟨g, cap, cur.toList.drop (n * 11), rfl, hb, hc, hm, ?_, ?_⟩
    · have : n * 11 ≤ cap * 11 := by omega
      rw [List.length_drop, Array.length_toList, hs]; omega
    · have : rowX l (cur.toList.drop (n * 11)) = cur := by
        unfold rowX
        rw [← ht, List.take_append_drop]
      rw [this]; exact hg
theorem rowX_grows {w : World} {base g cap : Nat} {e : TypeId} {l : List Blc} {rest : List Value} (h : Blk w g (rowX l rest) e) (hb : base ≤ g) (hc : l.length ≤ cap) (hm : cap ≤ maxLen) (hr : rest.length + l.length * 11 = cap * 11) :
    Grows w base e 11 (.slice (some ⟨g, 0, none⟩) l.length cap) l.length (flat Blc.enc l) := by
  have hl := flat_length blc_len l
  refine ⟨hl, .inr ⟨g, cap, _, rfl, hb, h, hc, hm, ?_, ?_⟩⟩
  · unfold rowX; rw [List.size_toArray, List.length_append, hl]; omega
  · unfold rowX
    show (flat Blc.enc l ++ rest).take (l.length * 11) = _
    rw [← hl, List.take_left']; rfl
section
variable {w0 w : World} {R : List Own}
theorem St.wRank (h : St w0 R w) (k : Nat) {g : Nat} {l : List Blc} {rest : List Value} {t : TypeId} (hk : R[k]? = some ⟨g, rowX l rest, t⟩) (j : Nat) (u : Blc) (hq : l[j]? = some u) (r : Int) :
    St w0 (R.set k ⟨g, rowX (l.set j (u.wRank r)) rest, t⟩) (w.setCell ⟨g, j * 11, none⟩ (.int .i64 r)) := by
  have h1 := h.set k hk (j * 11) (.int .i64 r)
  have e1 := rowX_set (rest := rest) (x' := u.wRank r) hq (i := 0) (u := .int .i64 r) (by decide) rfl
  rw [Nat.add_zero] at e1
  rwa [e1] at h1
theorem set_one {l : List Blc} {j : Nat} {u x : Blc} (hq : l[j]? = some u) : (l.set j x)[j]? = some x := by
  rw [List.getElem?_set_self (List.getElem?_eq_some_iff.1 hq).1]
theorem St.w3 (h : St w0 R w) (k : Nat) {g : Nat} {l : List Blc} {rest : List Value} {t : TypeId} (hk : R[k]? = some ⟨g, rowX l rest, t⟩) (j : Nat) {u u1 u2 u3 : Blc} (hq : l[j]? = some u) (i : Nat) {a b c : Value} (hi : i + 2 < 11)
    (e1 : u.enc.set i a = u1.enc) (e2 : u1.enc.set (i + 1) b = u2.enc) (e3 : u2.enc.set (i + 2) c = u3.enc) :
    St w0 (R.set k ⟨g, rowX (l.set j u3) rest, t⟩) (((w.setCell ⟨g, j * 11 + i, none⟩ a).setCell ⟨g, j * 11 + (i + 1), none⟩ b).setCell ⟨g, j * 11 + (i + 2), none⟩ c) := by
  have hl := (List.getElem?_eq_some_iff.1 hk).1
  have h1 := h.set k hk (j * 11 + i) a
  rw [rowX_set hq (by omega) e1] at h1
  have h2 := h1.set k (g := g) (t := t) (by rw [List.getElem?_set_self hl]) (j * 11 + (i + 1)) b
  rw [rowX_set (set_one hq) (by omega) e2] at h2
  simp only [List.set_set] at h2
  have h3 := h2.set k (g := g) (t := t) (by rw [List.getElem?_set_self hl]) (j * 11 + (i + 2)) c
  rw [rowX_set (set_one hq) (by omega) e3] at h3
  simp only [List.set_set] at h3
  exact h3
theorem St.wTotal (h : St w0 R w) (k : Nat) {g : Nat} {l : List Blc} {rest : List Value} {t : TypeId} (hk : R[k]? = some ⟨g, rowX l rest, t⟩) (j : Nat) (u : Blc) (hq : l[j]? = some u) (n : Bool) (a b : List UInt8) :
    St w0 (R.set k ⟨g, rowX (l.set j (u.wTotal n a b)) rest, t⟩) (((w.setCell ⟨g, j * 11 + 1, none⟩ (.bool n)).setCell ⟨g, j * 11 + 2, none⟩ (.string (bs a))).setCell ⟨g, j * 11 + 3, none⟩ (.string (bs b))) :=
  h.w3 k hk j (u1 := ⟨u.rank, n, u.ta, u.tb, u.fn, u.fa, u.fb, u.kn, u.ka, u.kb, u.acc⟩) (u2 := ⟨u.rank, n, a, u.tb, u.fn, u.fa, u.fb, u.kn, u.ka, u.kb, u.acc⟩) hq 1 (by decide) rfl rfl rfl
theorem St.wFloor (h : St w0 R w) (k : Nat) {g : Nat} {l : List Blc} {rest : List Value} {t : TypeId} (hk : R[k]? = some ⟨g, rowX l rest, t⟩) (j : Nat) (u : Blc) (hq : l[j]? = some u) (n : Bool) (a b : List UInt8) :
    St w0 (R.set k ⟨g, rowX (l.set j (u.wFloor n a b)) rest, t⟩) (((w.setCell ⟨g, j * 11 + 4, none⟩ (.bool n)).setCell ⟨g, j * 11 + 5, none⟩ (.string (bs a))).setCell ⟨g, j * 11 + 6, none⟩ (.string (bs b))) :=
  h.w3 k hk j (u1 := ⟨u.rank, u.tn, u.ta, u.tb, n, u.fa, u.fb, u.kn, u.ka, u.kb, u.acc⟩) (u2 := ⟨u.rank, u.tn, u.ta, u.tb, n, a, u.fb, u.kn, u.ka, u.kb, u.acc⟩) hq 4 (by decide) rfl rfl rfl
theorem St.wAsk (h : St w0 R w) (k : Nat) {g : Nat} {l : List Blc} {rest : List Value} {t : TypeId} (hk : R[k]? = some ⟨g, rowX l rest, t⟩) (j : Nat) (u : Blc) (hq : l[j]? = some u) (n : Bool) (a b : List UInt8) :
    St w0 (R.set k ⟨g, rowX (l.set j (u.wAsk n a b)) rest, t⟩) (((w.setCell ⟨g, j * 11 + 7, none⟩ (.bool n)).setCell ⟨g, j * 11 + 8, none⟩ (.string (bs a))).setCell ⟨g, j * 11 + 9, none⟩ (.string (bs b))) :=
  h.w3 k hk j (u1 := ⟨u.rank, u.tn, u.ta, u.tb, u.fn, u.fa, u.fb, n, u.ka, u.kb, u.acc⟩) (u2 := ⟨u.rank, u.tn, u.ta, u.tb, u.fn, u.fa, u.fb, n, a, u.kb, u.acc⟩) hq 7 (by decide) rfl rfl rfl
end
/-- A bloc with one field changed is short. -/
theorem smallB_set {N : Nat} {l : List Blc} (h : SmallBl N l) (j : Nat) {x : Blc} (hx : x.small N) : SmallBl N (l.set j x) := fun b hb => by
  rcases List.mem_or_eq_of_mem_set hb with h1 | h1
  · exact h b h1
  · rw [h1]; exact hx
theorem wRank_small {N : Nat} {u : Blc} (h : u.small N) (r : Int) : (u.wRank r).small N := h
theorem wTotal_small {N : Nat} {u : Blc} (h : u.small N) {n : Bool} {a b : List UInt8} (ha : a.length ≤ N ∧ b.length ≤ N) : (u.wTotal n a b).small N := ⟨ha, h.2⟩
theorem wFloor_small {N : Nat} {u : Blc} (h : u.small N) {n : Bool} {a b : List UInt8} (ha : a.length ≤ N ∧ b.length ≤ N) : (u.wFloor n a b).small N := ⟨h.1, ha, h.2.2⟩
theorem wAsk_small {N : Nat} {u : Blc} (h : u.small N) {n : Bool} {a b : List UInt8} (ha : a.length ≤ N ∧ b.length ≤ N) : (u.wAsk n a b).small N := ⟨h.1, h.2.1, ha.1, ha.2⟩
end Go.Proofs.YtcllocdhbicpkaaGreatDoor
