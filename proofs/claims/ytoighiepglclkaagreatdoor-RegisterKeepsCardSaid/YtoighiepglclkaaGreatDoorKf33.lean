/-
Part 33 of the base.
-/
import Derived.Test.YtoighiepglclkaaGreatDoorKf32
set_option maxRecDepth 100000
set_option maxHeartbeats 4000000
namespace Go.Proofs.YtoighiepglclkaaGreatDoor
open Go.RowKit
theorem a3m : (Tryz.prog.info? 44).map (·.size) = some 21 := by kernel_rfl
def Bnd (B : Nat) (w : World) : Prop := B <= w.heap.size
theorem Bnd.below {B : Nat} {w w' : World} (h : Bnd B w) (hb : Below w.heap.size w w') : Bnd B w' := Nat.le_trans h hb.size
theorem St.grown {w0 w w' : World} {R : List Own} {B : Nat} (h : St w0 R w) (h0 : w0.heap.size <= B) (hR : ∀ r ∈ R, r.g < B) (hb : Below B w w') : St w0 R w' :=
 ⟨h.below.trans (hb.mono h0), fun r hr => ⟨(hb.block r.g (hR r hr)).trans (h.ok r hr).1, (h.ok r hr).2⟩, h.apart⟩
section
variable {α : Type} {enc : α -> List Value} {P : Program}
theorem a7n (w : World) {ops : Array Oper} {rest : List Oper} {o : Oper} {a : Act} {Q : Exit -> Act -> World -> Prop} (hgd : o.guard = none) (s x : Operand) (t : TypeId)
  (ho : o.op = .call { callee := .builtin .append, args := #[s, x], argTypes := #[t, t] })
  (base : Nat) (e : TypeId) (i : TypeInfo) (z : Value) (size bytes : Nat) (ht : P.underlying t = some (.slice e)) (hi : P.info? e = some i) (hz : i.zero = some z)
  (hsize : i.size = size) (hby : i.bytes = bytes) (hzs : z.cells.size = size) (hsz : 0 < size) (hk : ∀ y, (enc y).length = size)
  (v : Value) (n : Nat) (xs : List α) (hs : a.eval s = v) (hown : w.ownsRow base e size v n (flat enc xs)) (y : α) (g : Nat) (cs : Array Value) (hB : Blk w g cs e) (hcs : cs.toList = enc y) (hx : a.eval x = .slice (some ⟨g, 0, none⟩) 1 1)
  (h1 : ∀ u ∈ enc y, u.oneCell' = true) (h63 : n + 1 <= maxLen) (hbytes : (n + 1) * bytes <= 140737488355328) (hbase : base <= w.heap.size)
  (h : ∀ v' w', w'.ownsRow base e size v' (n + 1) (flat enc (xs ++ [y])) -> w.grownBy w' v.ownBlock -> wpList P ops Q rest (a.put o.dst v') w') : wpList P ops Q (o :: rest) a w := by
 refine wpList_append_own w hgd s x t ho base e i z size bytes ht hi hz hsize hby hzs hsz v n (flat enc xs) hs hown ⟨g, 0, none⟩ 1 1 (enc y) hx (by rw [hk, Nat.one_mul]) ?_ h1 h63 hbytes hbase ?_
 ·intro j u hu
  rw [Addr.add_lit, Nat.zero_add, hB.cell j u]
  rw [<- Array.getElem?_toList, hcs]; exact hu
 intro v' w' hown' hg _
 exact h v' w' (by rw [a8p]; simpa [flat] using hown') hg
end
theorem St.grownRow {w0 w w' : World} {R : List Own} {B n k : Nat} {e : TypeId} {v : Value} {xs : List Value} (h : St w0 R w) (hT : ∀ r ∈ R, r.t ≠ e) (h0 : w0.heap.size <= B) (hG : Grows w B e k v n xs) (hg : w.grownBy w' v.ownBlock) : St w0 R w' := by
 refine ⟨h.below.grown hg h.below.size (fun q hq => Nat.le_trans h0 (World.ownsRow.lt hG q hq).1), fun r hr => ⟨(hg.block r.g (h.ok r hr).1.lt (fun e1 => ?_)).trans (h.ok r hr).1, (h.ok r hr).2⟩, h.apart⟩
 rcases hG.2 with ⟨rfl, _⟩ | ⟨g, cap, cur, rfl, hb, hgg, _⟩
 ·simp [Value.ownBlock] at e1
 have : r.g = g := by simpa [Value.ownBlock] using e1
 subst this
 have e2 := Option.some.inj ((h.ok r hr).1.symm.trans hgg)
 injection e2 with _ e3
 exact hT r hr e3
def FileI (w0 : World) (R : List Own) (B : Nat) (sl : Value) (l : List Ent) (y : Ent) : Nat -> World -> Value -> Prop
 | 0, wv, _ => Hid (St w0 R wv) /\ Hid (Bnd B wv) /\ Hid (Grows wv B 57 30 sl l.length (flat Ent.enc l))
 | 1, wv, v => Hid (St w0 R wv) /\ Hid (Bnd B wv) /\ Hid (Grows wv B 57 30 sl l.length (flat Ent.enc l)) /\ ∃ g5, v = .slice (some ⟨g5, 0, none⟩) 1 1 /\ Blk wv g5 y.enc.toArray 57
 | _ + 2, wv, v => Hid (St w0 R wv) /\ Hid (Bnd B wv) /\ ∃ A2 m2 c2, v = .slice A2 m2 c2 /\ Hid (Grows wv B 57 30 v (l.length + 1) (flat Ent.enc (l ++ [y])))
theorem FileI.st {w0 : World} {R : List Own} {B : Nat} {sl : Value} {l : List Ent} {y : Ent} {wv : World} {v : Value} : ∀ {k : Nat}, FileI w0 R B sl l y k wv v -> Hid (St w0 R wv)
 | 0, h => h.1
 | 1, h => h.1
 | _ + 2, h => h.1
theorem a3c {R : List Own} {r0 : Own} {e : TypeId} (h0 : r0.t ≠ e) (h : ∀ r ∈ R, r.t ≠ e) : ∀ r ∈ r0 :: R, r.t ≠ e := fun r hr => by
 rcases List.mem_cons.1 hr with rfl | hr
 ·exact h0
 exact h r hr
theorem Grows.setFar {w : World} {B n k : Nat} {e : TypeId} {v : Value} {xs : List Value} (h : Grows w B e k v n xs) {p : Addr} (hp : p.block < B) (u : Value) : Grows (w.setCell p u) B e k v n xs := by
 refine ⟨h.1, ?_⟩
 rcases h.2 with h2 | ⟨g, cap, cur, h3, h4, h5, h6⟩
 ·exact .inl h2
 exact .inr ⟨g, cap, cur, h3, h4, Blk.far (show Blk w g cur e from h5) (by omega) u, h6⟩
def a6m (l : List Ent) (cut : Int) (e : Evt) (qs : List Quo) : Int :=
 if (a0u e.p cut qs).2 ≠ 0 then (a0u e.p cut qs).2 else if (a3k l e.p.id).isSome = true then 12 else if 64 <= l.length then 2 else 0
def b8a (l : List Ent) (cut bar : Int) (e : Evt) (qs : List Quo) : List Ent := if a6m l cut e qs = 0 then l ++ [newE e.p e.day bar (a0u e.p cut qs).1] else l
theorem d0v {l : List Ent} {cut bar : Int} {e : Evt} {qs : List Quo} {n : Int} (h : a6m l cut e qs = n) (hn : n ≠ 0) : b8a l cut bar e qs = l := if_neg (by rw [h]; exact hn)
theorem c0c (cut bar day : Int) (v qv : Value) (l : List Ent) (e : Evt) (qs : List Quo) (g B : Nat) (w0 w : World) (R0 : List Own) (hs : St w0 (⟨g, #[.int .i64 cut, .int .i64 bar, .int .i64 day, v], 32⟩ :: R0) w)
  (hT : ∀ r ∈ R0, r.t ≠ 57) (hg : g < B) (hB0 : w0.heap.size <= B) (hBw : B <= w.heap.size) (hv : Grows w B 57 30 v l.length (flat Ent.enc l)) (hq : a3f w0 qv qs) (hok : ∀ q ∈ qs, q.ok) (hqs : ∀ q ∈ qs, q.num.length <= 100 /\ q.den.length <= 100) (hid : e.p.id.length <= 9223372036854775807 /\ e.p.code.length <= 9223372036854775807) (hsz : (e.p.aa.length <= 100 /\ e.p.ab.length <= 100) /\ e.p.ra.length <= 100 /\ e.p.rb.length <= 100) (hsec : -9223372036854775808 <= e.p.sec /\ e.p.sec <= 9223372036854775807) :
  Calls Tryz.prog 17 #[.pointer (some ⟨g, 0, none⟩), .agg (evC e.kind e.day e.id e.am e.cre e.p), qv] w fun r w' => ∃ v', r = .returned (.int .i64 (a6m l cut e qs)) /\ St w0 (⟨g, #[.int .i64 cut, .int .i64 bar, .int .i64 day, v'], 32⟩ :: R0) w' /\ Grows w' B 57 30 v' (b8a l cut bar e qs).length (flat Ent.enc (b8a l cut bar e qs)) /\ B <= w'.heap.size := by
 unfold evC
 obtain ⟨i0, hi0, hz0, hz1, hz2⟩ := info_parts a4g
 have HI := zh hi0
 have HG := zh hv
 obtain ⟨A, c, rfl, hll, hcc⟩ := (Slc.of_own a1g hv rfl).slice
 have hV := fun W (hb : Below w0.heap.size w0 W) => b7f e.p cut qv qs W hid hsz hsec (hq.below hb) hok hqs
 have hF := fun W (hb : Grows W B 57 30 (.slice A l.length c) l.length (flat Ent.enc l)) => b1q cut bar day (.slice A l.length c) l e.p.id W (Slc.of_own a1g hb rfl)
 have hd : a6m l cut e qs = if (a0u e.p cut qs).2 ≠ 0 then (a0u e.p cut qs).2 else if (a3k l e.p.id).isSome = true then 12 else if 64 <= l.length then 2 else 0 := rfl
 have hL : a6m l cut e qs = 0 -> b8a l cut bar e qs = l ++ [newE e.p e.day bar (a0u e.p cut qs).1] := fun h => if_pos h
 have hE : ∀ n : Int, a6m l cut e qs = n -> n ≠ 0 -> b8a l cut bar e qs = l := fun n h hn => d0v h hn
 unfold rat at hV
 generalize a6m l cut e qs = fc at *
 generalize b8a l cut bar e qs = fl at *
 generalize (a0u e.p cut qs).1 = q at *
 generalize (a0u e.p cut qs).2 = n at *
 generalize (a3k l e.p.id).isSome = fB at *
 generalize (((a3k l e.p.id).getD 0 : Nat) : Int) = fi at *
 have HS := zh hs
 have HV := zh hV
 have HF := zh hF
 have HL := zh hL
 have HE := zh hE
 have HD := zh hd
 have HT := zh hT
 have HGB := zh hg
 have HB0 := zh hB0
 have HBW := zh (show Bnd B w from hBw)
 have HLL := zh hll
 clear hs hV hF hL hE hd hT hg hB0 hBw hll hv hi0 hq hok hqs hid hsz hsec
 by_cases h0 : n = 0
 have z1 : (n != 0) = false := by rw [h0]; rfl
 have H0 := zh h0
 clear h0
 cases fB
 by_cases h6 : 64 <= l.length
 have z2 : decide ((64 : Int) <= ((l.length : Nat) : Int)) = true := decide_eq_true (by omega)
 have R := zh (HD.out.trans (by rw [if_neg (fun k => k H0.out), if_neg (by simp), if_pos h6]))
 clear h6
 rotate_left
 have z2 : decide ((64 : Int) <= ((l.length : Nat) : Int)) = false := decide_eq_false (by omega)
 have R := zh (HD.out.trans (by rw [if_neg (fun k => k H0.out), if_neg (by simp), if_neg h6]))
 have H6 := zh h6
 clear h6
 rotate_left
 have R := zh (HD.out.trans (by rw [if_neg (fun k => k H0.out), if_pos rfl]))
 rotate_left
 have z1 : (n != 0) = true := by rw [bne_iff_ne]; exact h0
 have R := zh (HD.out.trans (if_pos h0))
 have H0 := zh h0
 clear h0
 rotate_left
 all_goals
   go_enter Tryz.func17, Tryz.ntmps17
   go_wp2
   have HS2 := aL HS (evC e.kind e.day e.id e.am e.cre e.p) 44 w.heap.size
   clear HS
   have G_2 := zh (HG.out.below (Ext.alloc (Below.refl w.heap.size w) (Obj.cells #[.int .i64 e.kind, .int .i64 e.day, .string (bs e.id), .bool e.am.n, .string (bs e.am.a), .string (bs e.am.b), .int .i64 e.cre, .string (bs e.p.id), .int .i64 e.p.est, .int .i64 e.p.cre, .string (bs e.p.code), .bool e.p.an, .string (bs e.p.aa), .string (bs e.p.ab), .int .i64 e.p.inc, .int .i64 e.p.rank, .bool e.p.rn, .string (bs e.p.ra), .string (bs e.p.rb), .int .i64 e.p.rf, .int .i64 e.p.sec] 44)))
   clear HG
   have W_2 := zh (HBW.out.below (Ext.alloc (Below.refl w.heap.size w) (Obj.cells #[.int .i64 e.kind, .int .i64 e.day, .string (bs e.id), .bool e.am.n, .string (bs e.am.a), .string (bs e.am.b), .int .i64 e.cre, .string (bs e.p.id), .int .i64 e.p.est, .int .i64 e.p.cre, .string (bs e.p.code), .bool e.p.an, .string (bs e.p.aa), .string (bs e.p.ab), .int .i64 e.p.inc, .int .i64 e.p.rank, .bool e.p.rn, .string (bs e.p.ra), .string (bs e.p.rb), .int .i64 e.p.rf, .int .i64 e.p.sec] 44)))
   clear HBW
   refine a6c 13 11 12 [.pointer (some ⟨w.heap.size, 7, none⟩), .agg #[.string (bs e.p.id), .int .i64 e.p.est, .int .i64 e.p.cre, .string (bs e.p.code), .bool e.p.an, .string (bs e.p.aa), .string (bs e.p.ab), .int .i64 e.p.inc, .int .i64 e.p.rank, .bool e.p.rn, .string (bs e.p.ra), .string (bs e.p.rb), .int .i64 e.p.rf, .int .i64 e.p.sec], .pointer (some ⟨g, 0, none⟩), .pointer (some ⟨g, 0, none⟩), .pointer (some ⟨g, 0, none⟩), .int .i64 cut, qv, .tuple #[.agg #[.bool (negB (q)), .string (bs (numB (q))), .string (bs (a0a (q)))], .int .i64 n], .tuple #[.agg #[.bool (negB (q)), .string (bs (numB (q))), .string (bs (a0a (q)))], .int .i64 n], .agg #[.bool (negB (q)), .string (bs (numB (q))), .string (bs (a0a (q)))], .int .i64 n, undef, undef] #[.bool false, .string (bs []), .string (bs [])] #[.bool (negB (q)), .string (bs (numB (q))), .string (bs (a0a (q)))] 40 rfl (by kernel_rfl) (by kernel_rfl) (by kernel_rfl) (by kernel_rfl) (by decide) (by decide) (by decide) ?_ ?_
   refine ⟨?_, ?_, ?_, ?_, ?_, ?_, ?_, ?_, ?_, ?_, ?_, ?_, ?_, trivial⟩ <;> (intro xx af wv hbx hev hev0 hd; have H := SH.mk hev hev0 hd; clear hev hev0 hd)
   ·have e4 := H.i 4; clear H; rw [if_neg (by decide), if_neg (by decide)]; go_wp2; exact sQ rfl
   ·have e12 := H.ev 0 _ 12 rfl rfl; have d0 : xx 0 = .pointer (some ⟨w.heap.size, 7, none⟩) := H.hd ⟨0, .data⟩ (by simp) rfl (by decide) (by decide); rw [d0] at e12; clear d0; clear H; rw [if_neg (by decide), if_neg (by decide)]; have hs1 := zh (HS2.out.call hbx); have y0 := cC (v := .string (bs e.p.id)) hs1 0 7; have y1 := cC (v := .int .i64 e.p.est) hs1 0 8; have y2 := cC (v := .int .i64 e.p.cre) hs1 0 9; have y3 := cC (v := .string (bs e.p.code)) hs1 0 10; have y4 := cC (v := .bool e.p.an) hs1 0 11; have y5 := cC (v := .string (bs e.p.aa)) hs1 0 12; have y6 := cC (v := .string (bs e.p.ab)) hs1 0 13; have y7 := cC (v := .int .i64 e.p.inc) hs1 0 14; have y8 := cC (v := .int .i64 e.p.rank) hs1 0 15; have y9 := cC (v := .bool e.p.rn) hs1 0 16; have y10 := cC (v := .string (bs e.p.ra)) hs1 0 17; have y11 := cC (v := .string (bs e.p.rb)) hs1 0 18; have y12 := cC (v := .int .i64 e.p.rf) hs1 0 19; have y13 := cC (v := .int .i64 e.p.sec) hs1 0 20; go_wp2; exact sQ rfl
   ·have e0 := H.i 0; clear H; rw [if_neg (by decide), if_neg (by decide)]; go_wp2; exact sQ rfl
   ·have e14 := H.ev 2 _ 14 rfl rfl; have d2 : xx 2 = .pointer (some ⟨g, 0, none⟩) := H.hd ⟨2, .data⟩ (by simp) rfl (by decide) (by decide); rw [d2] at e14; clear d2; clear H; rw [if_neg (by decide), if_neg (by decide)]; go_wp2; exact sQ rfl
   ·have e15 := H.ev 3 _ 15 rfl rfl; have d3 : xx 3 = .pointer (some ⟨g, 0, none⟩) := H.hd ⟨3, .data⟩ (by simp) rfl (by decide) (by decide); rw [d3] at e15; clear d3; clear H; rw [if_neg (by decide), if_neg (by decide)]; go_wp2; exact sQ rfl
   ·have e16 := H.ev 4 _ 16 rfl rfl; have d4 : xx 4 = .pointer (some ⟨g, 0, none⟩) := H.hd ⟨4, .data⟩ (by simp) rfl (by decide) (by decide); rw [d4] at e16; clear d4; clear H; rw [if_neg (by decide), if_neg (by decide)]; have hs1 := zh (HS2.out.call hbx); have y0 := cC hs1 1 0; go_wp2; exact sQ rfl
   ·have e2 := H.i 2; clear H; rw [if_neg (by decide), if_neg (by decide)]; go_wp2; exact sQ rfl
   ·have e13 := H.ev 1 _ 13 rfl rfl; have d1 : xx 1 = .agg #[.string (bs e.p.id), .int .i64 e.p.est, .int .i64 e.p.cre, .string (bs e.p.code), .bool e.p.an, .string (bs e.p.aa), .string (bs e.p.ab), .int .i64 e.p.inc, .int .i64 e.p.rank, .bool e.p.rn, .string (bs e.p.ra), .string (bs e.p.rb), .int .i64 e.p.rf, .int .i64 e.p.sec] := H.hd ⟨1, .data⟩ (by simp) rfl (by decide) (by decide); rw [d1] at e13; clear d1; have e17 := H.ev 5 _ 17 rfl rfl; have d5 : xx 5 = .int .i64 cut := H.hd ⟨5, .data⟩ (by simp) rfl (by decide) (by decide); rw [d5] at e17; clear d5; have e18 := H.ev 6 _ 18 rfl rfl; have d6 : xx 6 = qv := H.hd ⟨6, .data⟩ (by simp) rfl (by decide) (by decide); rw [d6] at e18; clear d6; clear H; rw [if_neg (by decide), if_neg (by decide)]; have hs1 := zh (HS2.out.call hbx)
    go_wp2_with fail
    refine (HV.out _ hs1.out.below).mono ?_
    rintro e w8 ⟨rfl, hb8⟩; go_wp2; exact StepQ.mk _ hb8 rfl
   ·have e19 := H.ev 7 _ 19 rfl rfl; have d7 : xx 7 = .tuple #[.agg #[.bool (negB (q)), .string (bs (numB (q))), .string (bs (a0a (q)))], .int .i64 n] := H.hd ⟨7, .data⟩ (by simp) rfl (by decide) (by decide); rw [d7] at e19; clear d7; clear H; rw [if_neg (by decide), if_neg (by decide)]; go_wp2; exact sQ rfl
   ·have e11 := H.ev 8 _ 11 rfl rfl; have d8 : xx 8 = .tuple #[.agg #[.bool (negB (q)), .string (bs (numB (q))), .string (bs (a0a (q)))], .int .i64 n] := H.hd ⟨8, .data⟩ (by simp) rfl (by decide) (by decide); rw [d8] at e11; clear d8; clear H; rw [if_neg (by decide), if_neg (by decide)]; go_wp2; exact sQ rfl
   ·have e11 := H.ev 8 _ 11 rfl rfl; have d8 : xx 8 = .tuple #[.agg #[.bool (negB (q)), .string (bs (numB (q))), .string (bs (a0a (q)))], .int .i64 n] := H.hd ⟨8, .data⟩ (by simp) rfl (by decide) (by decide); rw [d8] at e11; clear d8; clear H; rw [if_neg (by decide), if_neg (by decide)]; go_wp2; exact sQ rfl
   ·clear H; rw [if_pos rfl]; go_wp2; exact StepQ.mk _ (Ext.alloc (Below.refl _ _) _) ⟨_, rfl, Nat.le_refl _, Blk.new _ _ _⟩
   ·have e7 := H.ev 11 _ 7 rfl rfl; have e20 := H.ev 9 _ 20 rfl rfl; have d9 : xx 9 = .agg #[.bool (negB (q)), .string (bs (numB (q))), .string (bs (a0a (q)))] := H.hd ⟨9, .data⟩ (by simp) rfl (by decide) (by decide); rw [d9] at e20; clear d9; clear H; rw [if_neg (by decide), if_pos rfl]; intro g hxg hlg hBl; rw [hxg] at e7; clear hxg; have hBl : Blk wv g #[.bool false, .string (bs []), .string (bs [])] 40 := hBl; have z0 := hBl.cell 0 _ rfl; have z1 := hBl.cell 1 _ rfl; have z2 := hBl.cell 2 _ rfl; have zf0 := hBl.frozen 0; have zf1 := hBl.frozen 1; have zf2 := hBl.frozen 2; go_wp2; simp only [size_alloc] at hlg; exact StepQB.mk ((((Below.refl _ _).setCell hlg _).setCell hlg _).setCell hlg _) ((((hBl).set' 0 _).set' 1 _).set' 2 _)
   intro xx w4 g4 hb9 hv hxg hlg hBl
   have hv0 : xx 0 = .pointer (some ⟨w.heap.size, 7, none⟩) := hv 0 (by decide) (by decide) (by decide)
   have hv1 : xx 1 = .agg #[.string (bs e.p.id), .int .i64 e.p.est, .int .i64 e.p.cre, .string (bs e.p.code), .bool e.p.an, .string (bs e.p.aa), .string (bs e.p.ab), .int .i64 e.p.inc, .int .i64 e.p.rank, .bool e.p.rn, .string (bs e.p.ra), .string (bs e.p.rb), .int .i64 e.p.rf, .int .i64 e.p.sec] := hv 1 (by decide) (by decide) (by decide)
   have hv2 : xx 2 = .pointer (some ⟨g, 0, none⟩) := hv 2 (by decide) (by decide) (by decide)
   have hv3 : xx 3 = .pointer (some ⟨g, 0, none⟩) := hv 3 (by decide) (by decide) (by decide)
   have hv4 : xx 4 = .pointer (some ⟨g, 0, none⟩) := hv 4 (by decide) (by decide) (by decide)
   have hv5 : xx 5 = .int .i64 cut := hv 5 (by decide) (by decide) (by decide)
   have hv6 : xx 6 = qv := hv 6 (by decide) (by decide) (by decide)
   have hv7 : xx 7 = .tuple #[.agg #[.bool (negB (q)), .string (bs (numB (q))), .string (bs (a0a (q)))], .int .i64 n] := hv 7 (by decide) (by decide) (by decide)
   have hv8 : xx 8 = .tuple #[.agg #[.bool (negB (q)), .string (bs (numB (q))), .string (bs (a0a (q)))], .int .i64 n] := hv 8 (by decide) (by decide) (by decide)
   have hv9 : xx 9 = .agg #[.bool (negB (q)), .string (bs (numB (q))), .string (bs (a0a (q)))] := hv 9 (by decide) (by decide) (by decide)
   have hv10 : xx 10 = .int .i64 n := hv 10 (by decide) (by decide) (by decide)
   clear hv
   simp only [List.take, List.drop, a0r, Act.put]
   simp only [hxg, hv0, hv1, hv2, hv3, hv4, hv5, hv6, hv7, hv8, hv9, hv10]
   clear hxg hv0 hv1 hv2 hv3 hv4 hv5 hv6 hv7 hv8 hv9 hv10
   have HS4 := zh (HS2.out.fill hb9 hlg hBl)
   have G_4 := zh (G_2.out.below hb9)
   clear G_2
   have W_4 := zh (W_2.out.below hb9)
   clear W_2 hb9 hlg hBl HS2
   go_wp2
 ·refine a1z 11 [.pointer (some ⟨g, 0, none⟩), .pointer (some ⟨g, 0, none⟩), .agg #[.int .i64 cut, .int .i64 bar, .int .i64 day, .slice A l.length c], .pointer (some ⟨w.heap.size, 7, none⟩), .pointer (some ⟨w.heap.size, 7, none⟩), .string (bs e.p.id), .tuple #[.int .i64 fi, .bool false], .tuple #[.int .i64 fi, .bool false], .int .i64 fi, .bool false, .int .i64 fi] rfl (by kernel_rfl) (by kernel_rfl) (by kernel_rfl) ?_ ?_
  refine ⟨?_, ?_, ?_, ?_, ?_, ?_, ?_, ?_, ?_, ?_, ?_, trivial⟩ <;> (intro xx af wv hbx hev hev0 hd; have H := SH.mk hev hev0 hd; clear hev hev0 hd)
  ·have e0 := H.i 0; clear H; go_wp2; exact sQ rfl
  ·have e26 := H.r 0 26; clear H; go_wp2; exact sQ rfl
  ·have e27 := H.r 1 27; clear H; have hs1 := zh (HS4.out.call hbx); obtain ⟨y0, y1, y2⟩ := hs1.out.k0 2 rfl rfl rfl rfl; have y3 := cC hs1 2 3; go_wp2; exact sQ rfl
  ·have e4 := H.i 4; clear H; go_wp2; exact sQ rfl
  ·have e29 := H.r 3 29; clear H; go_wp2; exact sQ rfl
  ·have e30 := H.r 4 30; clear H; have hs1 := zh (HS4.out.call hbx); have y0 := cC (v := .string (bs e.p.id)) hs1 1 7; go_wp2; exact sQ rfl
  ·have e28 := H.r 2 28; have e31 := H.r 5 31; clear H
   go_wp2_with fail
   refine (HF.out _ (G_4.out.below hbx)).mono ?_
   rintro e w8 ⟨rfl, hb8⟩; go_wp2; exact StepQ.mk _ hb8 rfl
  ·have e32 := H.r 6 32; clear H; go_wp2; exact sQ rfl
  ·have e25 := H.r 7 25; clear H; go_wp2; exact sQ rfl
  ·have e25 := H.r 7 25; clear H; go_wp2; exact sQ rfl
  ·have e33 := H.r 8 33; clear H; go_wp2; exact sQ rfl
  intro xx w5 hb9 hv
  simp only [List.take, List.drop, a0r, Act.put]
  simp only [vQ hv 0, vQ hv 1, vQ hv 2, vQ hv 3, vQ hv 4, vQ hv 5, vQ hv 6, vQ hv 7, vQ hv 8, vQ hv 9, vQ hv 10]
  clear hv
  have HS5 := zh (HS4.out.call hb9)
  have G_5 := zh (G_4.out.below hb9)
  clear G_4
  have W_5 := zh (W_4.out.below hb9)
  clear W_4 hb9 HS4
  have x1 := cC HS5 2 3
  go_wp2
  go_ret
  have HS6 := zh HS5.out
  rw [R.out, HE.out _ R.out (by decide)]
  exact ⟨_, rfl, HS6.out.sub (List.Sublist.cons _ (List.Sublist.cons _ (List.Sublist.refl _))), G_5.out, W_5.out⟩
 ·refine a1z 11 [.pointer (some ⟨g, 0, none⟩), .pointer (some ⟨g, 0, none⟩), .agg #[.int .i64 cut, .int .i64 bar, .int .i64 day, .slice A l.length c], .pointer (some ⟨w.heap.size, 7, none⟩), .pointer (some ⟨w.heap.size, 7, none⟩), .string (bs e.p.id), .tuple #[.int .i64 fi, .bool false], .tuple #[.int .i64 fi, .bool false], .int .i64 fi, .bool false, .int .i64 fi] rfl (by kernel_rfl) (by kernel_rfl) (by kernel_rfl) ?_ ?_
  refine ⟨?_, ?_, ?_, ?_, ?_, ?_, ?_, ?_, ?_, ?_, ?_, trivial⟩ <;> (intro xx af wv hbx hev hev0 hd; have H := SH.mk hev hev0 hd; clear hev hev0 hd)
  ·have e0 := H.i 0; clear H; go_wp2; exact sQ rfl
  ·have e26 := H.r 0 26; clear H; go_wp2; exact sQ rfl
  ·have e27 := H.r 1 27; clear H; have hs1 := zh (HS4.out.call hbx); obtain ⟨y0, y1, y2⟩ := hs1.out.k0 2 rfl rfl rfl rfl; have y3 := cC hs1 2 3; go_wp2; exact sQ rfl
  ·have e4 := H.i 4; clear H; go_wp2; exact sQ rfl
  ·have e29 := H.r 3 29; clear H; go_wp2; exact sQ rfl
  ·have e30 := H.r 4 30; clear H; have hs1 := zh (HS4.out.call hbx); have y0 := cC (v := .string (bs e.p.id)) hs1 1 7; go_wp2; exact sQ rfl
  ·have e28 := H.r 2 28; have e31 := H.r 5 31; clear H
   go_wp2_with fail
   refine (HF.out _ (G_4.out.below hbx)).mono ?_
   rintro e w8 ⟨rfl, hb8⟩; go_wp2; exact StepQ.mk _ hb8 rfl
  ·have e32 := H.r 6 32; clear H; go_wp2; exact sQ rfl
  ·have e25 := H.r 7 25; clear H; go_wp2; exact sQ rfl
  ·have e25 := H.r 7 25; clear H; go_wp2; exact sQ rfl
  ·have e33 := H.r 8 33; clear H; go_wp2; exact sQ rfl
  intro xx w5 hb9 hv
  simp only [List.take, List.drop, a0r, Act.put]
  simp only [vQ hv 0, vQ hv 1, vQ hv 2, vQ hv 3, vQ hv 4, vQ hv 5, vQ hv 6, vQ hv 7, vQ hv 8, vQ hv 9, vQ hv 10]
  clear hv
  have HS5 := zh (HS4.out.call hb9)
  have G_5 := zh (G_4.out.below hb9)
  clear G_4
  have W_5 := zh (W_4.out.below hb9)
  clear W_4 hb9 HS4
  have x1 := cC HS5 2 3
  go_wp2
  clear x1
  refine a1v 24 [22, 23] [.pointer (some ⟨g, 0, none⟩), .pointer (some ⟨g, 0, none⟩), .pointer (some ⟨g, 0, none⟩), .pointer (some ⟨g, 3, none⟩), .slice A l.length c, .pointer (some ⟨w.heap.size, 7, none⟩), .agg #[.string (bs e.p.id), .int .i64 e.p.est, .int .i64 e.p.cre, .string (bs e.p.code), .bool e.p.an, .string (bs e.p.aa), .string (bs e.p.ab), .int .i64 e.p.inc, .int .i64 e.p.rank, .bool e.p.rn, .string (bs e.p.ra), .string (bs e.p.rb), .int .i64 e.p.rf, .int .i64 e.p.sec], .pointer (some ⟨w.heap.size, 1, none⟩), .int .i64 e.day, .pointer (some ⟨g, 0, none⟩), .pointer (some ⟨g, 0, none⟩), .pointer (some ⟨g, 1, none⟩), .int .i64 bar, .bool (decide (bar < e.day)), .agg #[.bool (negB (q)), .string (bs (numB (q))), .string (bs (a0a (q)))], .agg #[.bool (negB (q)), .string (bs (numB (q))), .string (bs (a0a (q)))], .pointer (some ⟨w.heap.size, 7, none⟩), .pointer (some ⟨w.heap.size, 14, none⟩), .int .i64 e.p.inc, .pointer (some ⟨w.heap.size, 1, none⟩), .int .i64 e.day, .agg #[.string (bs e.p.id), .int .i64 e.p.est, .int .i64 e.p.cre, .string (bs e.p.code), .bool e.p.an, .string (bs e.p.aa), .string (bs e.p.ab), .int .i64 e.p.inc, .int .i64 e.p.rank, .bool e.p.rn, .string (bs e.p.ra), .string (bs e.p.rb), .int .i64 e.p.rf, .int .i64 e.p.sec, .int .i64 1, .bool (decide (bar < e.day)), .bool (negB (q)), .string (bs (numB (q))), .string (bs (a0a (q))), .bool false, .string (bs []), .string (bs []), .bool false, .string (bs []), .string (bs []), .bool (negB (q)), .string (bs (numB (q))), .string (bs (a0a (q))), .int .i64 e.p.inc, .int .i64 e.day], undef, undef] (FileI w0 (⟨g4, #[.bool (negB (q)), .string (bs (numB (q))), .string (bs (a0a (q)))], 40⟩ :: ⟨w.heap.size, e.enc.toArray, 44⟩ :: ⟨g, #[.int .i64 cut, .int .i64 bar, .int .i64 day, .slice A l.length c], 32⟩ :: R0) B (.slice A l.length c) l (newE e.p e.day bar q)) rfl (by kernel_rfl) (by kernel_rfl) (by kernel_rfl) (by kernel_rfl) (by decide) (by decide) ⟨zh HS5.out.drew, zh (Bnd.below W_5.out (Below.refl _ _).drew), zh (Grows.below G_5.out (Below.refl _ _).drew)⟩ ?_ ?_
  refine ⟨?_, ?_, ?_, ?_, ?_, ?_, ?_, ?_, ?_, ?_, ?_, ?_, ?_, ?_, ?_, ?_, ?_, ?_, ?_, ?_, ?_, ?_, ?_, ?_, trivial⟩ <;> (intro xx af wv k hk hI hev hev0 hd; have H := SH.mk hev hev0 hd; clear hev hev0 hd)
  ·have e0 := H.i 0; clear H hI; rw [if_neg (by decide)]; go_wp2; exact StepW.mk _
  ·have e0 := H.i 0; clear H hI; rw [if_neg (by decide)]; go_wp2; exact StepW.mk _
  ·have e43 := H.n 1 43; clear H hI; rw [if_neg (by decide)]; go_wp2; exact StepW.mk _
  ·have e44 := H.n 2 44; clear H hI; rw [if_neg (by decide)]; go_wp2; exact StepW.mk _
  ·have e45 := H.n 3 45; clear H; have y0 := hI.st.out.cell 2 rfl 3 rfl; clear hI; rw [if_neg (by decide)]; go_wp2; exact StepW.mk _
  ·have e4 := H.i 4; clear H hI; rw [if_neg (by decide)]; go_wp2; exact StepW.mk _
  ·have e47 := H.n 5 47; clear H; have y0 := hI.st.out.cell (v := .string (bs e.p.id)) 1 rfl 7 rfl; have y1 := hI.st.out.cell (v := .int .i64 e.p.est) 1 rfl 8 rfl; have y2 := hI.st.out.cell (v := .int .i64 e.p.cre) 1 rfl 9 rfl; have y3 := hI.st.out.cell (v := .string (bs e.p.code)) 1 rfl 10 rfl; have y4 := hI.st.out.cell (v := .bool e.p.an) 1 rfl 11 rfl; have y5 := hI.st.out.cell (v := .string (bs e.p.aa)) 1 rfl 12 rfl; have y6 := hI.st.out.cell (v := .string (bs e.p.ab)) 1 rfl 13 rfl; have y7 := hI.st.out.cell (v := .int .i64 e.p.inc) 1 rfl 14 rfl; have y8 := hI.st.out.cell (v := .int .i64 e.p.rank) 1 rfl 15 rfl; have y9 := hI.st.out.cell (v := .bool e.p.rn) 1 rfl 16 rfl; have y10 := hI.st.out.cell (v := .string (bs e.p.ra)) 1 rfl 17 rfl; have y11 := hI.st.out.cell (v := .string (bs e.p.rb)) 1 rfl 18 rfl; have y12 := hI.st.out.cell (v := .int .i64 e.p.rf) 1 rfl 19 rfl; have y13 := hI.st.out.cell (v := .int .i64 e.p.sec) 1 rfl 20 rfl; clear hI; rw [if_neg (by decide)]; go_wp2; exact StepW.mk _
  ·have e4 := H.i 4; clear H hI; rw [if_neg (by decide)]; go_wp2; exact StepW.mk _
  ·have e49 := H.n 7 49; clear H; have y0 := hI.st.out.cell (v := .int .i64 e.day) 1 rfl 1 rfl; clear hI; rw [if_neg (by decide)]; go_wp2; exact StepW.mk _
  ·have e0 := H.i 0; clear H hI; rw [if_neg (by decide)]; go_wp2; exact StepW.mk _
  ·have e51 := H.n 9 51; clear H hI; rw [if_neg (by decide)]; go_wp2; exact StepW.mk _
  ·have e52 := H.n 10 52; clear H hI; rw [if_neg (by decide)]; go_wp2; exact StepW.mk _
  ·have e53 := H.n 11 53; clear H; have y0 := hI.st.out.cell 2 rfl 1 rfl; clear hI; rw [if_neg (by decide)]; go_wp2; exact StepW.mk _
  ·have e50 := H.n 8 50; have e54 := H.n 12 54; clear H hI; rw [if_neg (by decide)]; go_wp2; exact StepW.mk _
  ·have e7 := H.i 7; clear H; have y0 := hI.st.out.cell 0 rfl 0 rfl; have y1 := hI.st.out.cell 0 rfl 1 rfl; have y2 := hI.st.out.cell 0 rfl 2 rfl; clear hI; rw [if_neg (by decide)]; go_wp2; exact StepW.mk _
  ·have e7 := H.i 7; clear H; have y0 := hI.st.out.cell 0 rfl 0 rfl; have y1 := hI.st.out.cell 0 rfl 1 rfl; have y2 := hI.st.out.cell 0 rfl 2 rfl; clear hI; rw [if_neg (by decide)]; go_wp2; exact StepW.mk _
  ·have e4 := H.i 4; clear H hI; rw [if_neg (by decide)]; go_wp2; exact StepW.mk _
  ·have e58 := H.n 16 58; clear H hI; rw [if_neg (by decide)]; go_wp2; exact StepW.mk _
  ·have e59 := H.n 17 59; clear H; have y0 := hI.st.out.cell (v := .int .i64 e.p.inc) 1 rfl 14 rfl; clear hI; rw [if_neg (by decide)]; go_wp2; exact StepW.mk _
  ·have e4 := H.i 4; clear H hI; rw [if_neg (by decide)]; go_wp2; exact StepW.mk _
  ·have e61 := H.n 19 61; clear H; have y0 := hI.st.out.cell (v := .int .i64 e.day) 1 rfl 1 rfl; clear hI; rw [if_neg (by decide)]; go_wp2; exact StepW.mk _
  ·have e48 := H.n 6 48; have e55 := H.n 13 55; have e56 := H.n 14 56; have e57 := H.n 15 57; have e60 := H.n 18 60; have e62 := H.n 20 62; clear H hI; rw [if_neg (by decide)]; go_wp2; exact StepW.mk _
  ·have e63 := H.n 21 63; clear H; rw [if_pos (by decide)]; intro hk0; obtain rfl : k = 0 := hk0; obtain ⟨hS, hW, hG⟩ := hI; go_wp2; exact StepI.mkv _ ⟨zh (hS.out.alloc' _), zh (Bnd.below hW.out (Ext.alloc (Below.refl _ _) _)), zh (Grows.below hG.out (Ext.alloc (Below.refl _ _) _)), _, rfl, Blk.new _ _ _⟩
  ·have e46 := H.n 4 46; have e64 := H.ev 22 _ 64 rfl rfl; clear H; rw [if_pos (by decide)]; intro hk0; obtain rfl : k = 1 := hk0; obtain ⟨hS, hW, hG, g5, hv5, hB5⟩ := hI; have e64 := e64.trans (show xx 22 = _ from hv5); clear hv5
   go_wp2_with (at_builtin; refine a7n _ rfl _ _ 30 rfl B 57 i0 _ 30 352 Tryz.underlying30 HI.out hz0 hz1 hz2 rfl (by decide) a1g (.slice A l.length c) l.length l ((a1p _ _).trans e46) hG.out (newE e.p e.day bar q) g5 _ hB5 rfl ((a1p _ _).trans e64) (a9p _) (by have := H6.out; unfold maxLen; omega) (by have := H6.out; omega) hW.out ?_)
   intro v2 w2 hown2 hgb2
   obtain ⟨A2, m2, c2, hv2⟩ : ∃ A m c, v2 = .slice A m c := by
    obtain ⟨A2, c2, e2, _, _⟩ := (Slc.of_own a1g hown2 (by simp)).slice
    exact ⟨_, _, _, e2⟩
   unfold wpList; exact StepI.mkv _ ⟨zh (hS.out.grownRow (a3c (show (40 : TypeId) ≠ 57 by decide) (a3c (show (44 : TypeId) ≠ 57 by decide) (a3c (show (32 : TypeId) ≠ 57 by decide) HT.out))) HB0.out hG.out hgb2), zh (Nat.le_trans hW.out hgb2.size), A2, m2, c2, hv2, zh hown2⟩
  intro xx w6 hI hv
  obtain ⟨hS9, HW9, A2, m2, c2, hx, HG9⟩ := hI
  have hx : xx 23 = .slice A2 m2 c2 := hx
  rw [show c0m [22, 23] xx ([22, 23] : List Nat).length = .slice A2 m2 c2 from hx] at HG9
  simp only [List.take, List.drop, a0r, Act.put]
  simp only [show xx 0 = _ from hv 0 (by decide) (by decide), show xx 1 = _ from hv 1 (by decide) (by decide), show xx 2 = _ from hv 2 (by decide) (by decide), show xx 3 = _ from hv 3 (by decide) (by decide), show xx 4 = _ from hv 4 (by decide) (by decide), show xx 5 = _ from hv 5 (by decide) (by decide), show xx 6 = _ from hv 6 (by decide) (by decide), show xx 7 = _ from hv 7 (by decide) (by decide), show xx 8 = _ from hv 8 (by decide) (by decide), show xx 9 = _ from hv 9 (by decide) (by decide), show xx 10 = _ from hv 10 (by decide) (by decide), show xx 11 = _ from hv 11 (by decide) (by decide), show xx 12 = _ from hv 12 (by decide) (by decide), show xx 13 = _ from hv 13 (by decide) (by decide), show xx 14 = _ from hv 14 (by decide) (by decide), show xx 15 = _ from hv 15 (by decide) (by decide), show xx 16 = _ from hv 16 (by decide) (by decide), show xx 17 = _ from hv 17 (by decide) (by decide), show xx 18 = _ from hv 18 (by decide) (by decide), show xx 19 = _ from hv 19 (by decide) (by decide), show xx 20 = _ from hv 20 (by decide) (by decide), show xx 21 = _ from hv 21 (by decide) (by decide), hx]
  have HS6 : Hid (St w0 (⟨g4, #[.bool (negB (q)), .string (bs (numB (q))), .string (bs (a0a (q)))], 40⟩ :: _ :: ⟨g, #[.int .i64 cut, .int .i64 bar, .int .i64 day, .slice A l.length c], 32⟩ :: R0) w6) := hS9
  clear hv hS9 HS5 G_5 W_5
  have x2 := cC HS6 2 3
  have x3 := cF HS6 2 3
  have x4 := cN HS6 2 0
  have x5 := cN HS6 0 2
  have x6 := cN HS6 2 1
  have x7 := cN HS6 1 2
  go_wp2
  go_ret
  have HS7 : Hid (St w0 (⟨g4, #[.bool (negB (q)), .string (bs (numB (q))), .string (bs (a0a (q)))], 40⟩ :: ⟨w.heap.size, e.enc.toArray, 44⟩ :: ⟨g, #[.int .i64 cut, .int .i64 bar, .int .i64 day, .slice A2 m2 c2], 32⟩ :: R0) _) := zh (St.set (HS6.out) 2 rfl 3 _)
  rw [R.out, HL.out R.out]
  exact ⟨.slice A2 m2 c2, rfl, HS7.out.sub (List.Sublist.cons _ (List.Sublist.cons _ (List.Sublist.refl _))), ⟨by rw [a8n a1g], by rw [List.length_append]; exact (Grows.setFar (show Grows w6 B 57 30 (.slice A2 m2 c2) (l.length + 1) (flat Ent.enc (l ++ [newE e.p e.day bar q])) from HG9.out) (p := ⟨g, 3, none⟩) HGB.out (.slice A2 m2 c2)).2⟩, by have := HW9.out; unfold Bnd at this; simpa using this⟩
 ·refine a1z 11 [.pointer (some ⟨g, 0, none⟩), .pointer (some ⟨g, 0, none⟩), .agg #[.int .i64 cut, .int .i64 bar, .int .i64 day, .slice A l.length c], .pointer (some ⟨w.heap.size, 7, none⟩), .pointer (some ⟨w.heap.size, 7, none⟩), .string (bs e.p.id), .tuple #[.int .i64 fi, .bool true], .tuple #[.int .i64 fi, .bool true], .int .i64 fi, .bool true, .int .i64 fi] rfl (by kernel_rfl) (by kernel_rfl) (by kernel_rfl) ?_ ?_
  refine ⟨?_, ?_, ?_, ?_, ?_, ?_, ?_, ?_, ?_, ?_, ?_, trivial⟩ <;> (intro xx af wv hbx hev hev0 hd; have H := SH.mk hev hev0 hd; clear hev hev0 hd)
  ·have e0 := H.i 0; clear H; go_wp2; exact sQ rfl
  ·have e26 := H.r 0 26; clear H; go_wp2; exact sQ rfl
  ·have e27 := H.r 1 27; clear H; have hs1 := zh (HS4.out.call hbx); obtain ⟨y0, y1, y2⟩ := hs1.out.k0 2 rfl rfl rfl rfl; have y3 := cC hs1 2 3; go_wp2; exact sQ rfl
  ·have e4 := H.i 4; clear H; go_wp2; exact sQ rfl
  ·have e29 := H.r 3 29; clear H; go_wp2; exact sQ rfl
  ·have e30 := H.r 4 30; clear H; have hs1 := zh (HS4.out.call hbx); have y0 := cC (v := .string (bs e.p.id)) hs1 1 7; go_wp2; exact sQ rfl
  ·have e28 := H.r 2 28; have e31 := H.r 5 31; clear H
   go_wp2_with fail
   refine (HF.out _ (G_4.out.below hbx)).mono ?_
   rintro e w8 ⟨rfl, hb8⟩; go_wp2; exact StepQ.mk _ hb8 rfl
  ·have e32 := H.r 6 32; clear H; go_wp2; exact sQ rfl
  ·have e25 := H.r 7 25; clear H; go_wp2; exact sQ rfl
  ·have e25 := H.r 7 25; clear H; go_wp2; exact sQ rfl
  ·have e33 := H.r 8 33; clear H; go_wp2; exact sQ rfl
  intro xx w5 hb9 hv
  simp only [List.take, List.drop, a0r, Act.put]
  simp only [vQ hv 0, vQ hv 1, vQ hv 2, vQ hv 3, vQ hv 4, vQ hv 5, vQ hv 6, vQ hv 7, vQ hv 8, vQ hv 9, vQ hv 10]
  clear hv
  have HS5 := zh (HS4.out.call hb9)
  have G_5 := zh (G_4.out.below hb9)
  clear G_4
  have W_5 := zh (W_4.out.below hb9)
  clear W_4 hb9 HS4
  go_wp2
  go_ret
  have HS6 := zh HS5.out
  rw [R.out, HE.out _ R.out (by decide)]
  exact ⟨_, rfl, HS6.out.sub (List.Sublist.cons _ (List.Sublist.cons _ (List.Sublist.refl _))), G_5.out, W_5.out⟩
 go_ret
 have HS5 := zh HS4.out
 rw [R.out, HE.out _ R.out H0.out]
 exact ⟨_, rfl, HS5.out.sub (List.Sublist.cons _ (List.Sublist.cons _ (List.Sublist.refl _))), G_4.out, W_4.out⟩
end Go.Proofs.YtoighiepglclkaaGreatDoor
