/-
Part 25 of the base.
-/
import Derived.Test.YtgdhpghfojccaaaDoorRe22
import Derived.Test.YtgdhpghfojccaaaDoorRe21
import Derived.Test.YtgdhpghfojccaaaDoorRe17
import Derived.Laws.OwnMore
namespace Go.Proofs.YtgdhpghfojccaaaDoor
open Go.RowKit
structure CAd where
 g : Nat
 v1 : Value
 v2 : Value
 mc : Nat
 mkb : Nat
 ml : Nat
 nc : Nat
 vb : Value
 vp : Value
 vr : Value
 gsb : List Nat
 gsp : List Nat
 ex : List Own
structure CCo where
 B : Nat -> Nat -> Bool
 P : Nat -> Nat -> Bool
 R : List Int
 Sk : List UInt8 -> Bool
 fk : List UInt8 -> Value
 nk : Nat
 Sl : Int -> Bool
 fl : Int -> Value
 nl : Nat
def optI : Option Nat -> Int
 | some i => (i : Nat)
 | none => -1
def CAd.cells (A : CAd) : Array Value := #[A.v1, A.v2, .map (some A.mc), .map (some A.mkb), A.vb, A.vp, .map (some A.ml), A.vr]
def CAd.own (A : CAd) (n : Nat) (C : CCo) : List Own := ⟨A.g, A.cells, 48⟩ :: (a3b 4 n A.gsb C.B ++ (a3b 4 n A.gsp C.P ++ A.ex))
structure Cst (w0 : World) (cl : List Nmd) (l : List Cls) (A : CAd) (C : CCo) (w : World) : Prop where
 st : St w0 (A.own cl.length C) w
 lb : A.gsb.length = cl.length
 lp : A.gsp.length = cl.length
 ob : World.ownsRow w w0.heap.size 49 1 A.vb cl.length (flat (slcE cl.length) A.gsb)
 op : World.ownsRow w w0.heap.size 49 1 A.vp cl.length (flat (slcE cl.length) A.gsp)
 or_ : World.ownsRow w w0.heap.size 3 1 A.vr cl.length (C.R.map (.int .i64))
 mc : RMap Tryd.prog 9 strL w A.mc A.nc (fun s => (a0b cl s).isSome) (fun s => .int .i64 (optI (a0b cl s)))
 mkb : RMap Tryd.prog 9 strL w A.mkb C.nk C.Sk C.fk
 ml : RMap Tryd.prog 3 intL w A.ml C.nl C.Sl C.fl
 ne : A.mc ≠ A.mkb /\ A.mc ≠ A.ml /\ A.mkb ≠ A.ml
 ge : w0.heap.size <= A.mkb /\ w0.heap.size <= A.ml
 h1 : NmdL w0 A.v1 cl
 h2 : ClsL w0 A.v2 l
 ext : ∀ x, x ∈ A.ex -> x.t ≠ 3
theorem a3g {w : World} {base k n g : Nat} {e t : TypeId} {v : Value} {xs : List Value} {cs : Array Value} (h : World.ownsRow w base e k v n xs) (hB : Blk w g cs t) (ht : t ≠ e) : v.ownBlock ≠ some g := by
 rcases h.2 with ⟨rfl, _⟩ | ⟨g', cap, cur, rfl, _, hg, _⟩
 ·simp [Value.ownBlock]
 intro e1
 have e2 : g' = g := by simpa [Value.ownBlock] using e1
 subst e2
 unfold Blk at hB
 rw [hB] at hg
 have := Option.some.inj hg
 injection this with _ e3
 exact ht e3
theorem a1k {w : World} {base k n g i : Nat} {e t : TypeId} {v : Value} {xs : List Value} {cs : Array Value} (h : World.ownsRow w base e k v n xs) (hB : Blk w g cs t) (ht : t ≠ e) (u : Value) : World.ownsRow (w.setCell ⟨g, i, none⟩ u) base e k v n xs :=
 h.kept (a2c w ⟨g, i, none⟩ u) (.inr (a3g h hB ht))
variable {w0 w w' : World} {cl : List Nmd} {l : List Cls} {A : CAd} {C : CCo}
theorem Cst.size (h : Cst w0 cl l A C w) : w0.heap.size <= w.heap.size := h.st.below.size
theorem Cst.below (h : Cst w0 cl l A C w) (hb : Below w.heap.size w w') : Cst w0 cl l A C w' :=
 ⟨h.st.call hb, h.lb, h.lp, Grows.below h.ob hb, Grows.below h.op hb, Grows.below h.or_ hb, h.mc.below hb, h.mkb.below hb, h.ml.below hb, h.ne, h.ge, h.h1, h.h2, h.ext⟩
theorem Cst.n1 (h : Cst w0 cl l A C w) : NmdL w A.v1 cl := Slc.below h.h1 h.st.below
theorem Cst.n2 (h : Cst w0 cl l A C w) : ClsL w A.v2 l := h.h2.below h.st.below
theorem Cst.fld (h : Cst w0 cl l A C w) (j : Nat) {v : Value} (hv : A.cells[j]? = some v) : w.cell? ⟨A.g, j, none⟩ = some v := h.st.cell 0 rfl j hv
theorem Cst.lt (h : Cst w0 cl l A C w) : A.g < w.heap.size := h.st.lt 0 rfl
theorem CAd.atB {A : CAd} {C : CCo} {n i : Nat} (hi : i < A.gsb.length) : (A.own n C)[i + 1]? = some ⟨A.gsb.getD i 0, rowE .bool n (C.B i), 4⟩ := by
 unfold CAd.own
 rw [List.getElem?_cons_succ, List.getElem?_append_left (by unfold a3b; rw [a0q]; exact hi)]
 exact b5r hi
theorem CAd.atP {A : CAd} {C : CCo} {n i : Nat} (hi : i < A.gsp.length) : (A.own n C)[A.gsb.length + i + 1]? = some ⟨A.gsp.getD i 0, rowE .bool n (C.P i), 4⟩ := by
 unfold CAd.own
 have hl : (a3b 4 n A.gsb C.B).length = A.gsb.length := by unfold a3b; rw [a0q]
 rw [List.getElem?_cons_succ, List.getElem?_append_right (by rw [hl]; omega), hl, Nat.add_sub_cancel_left, List.getElem?_append_left (by unfold a3b; rw [a0q]; exact hi)]
 exact b5r hi
theorem Cst.blkB (h : Cst w0 cl l A C w) {i : Nat} (hi : i < cl.length) : Blk w (A.gsb.getD i 0) (rowE .bool cl.length (C.B i)) 4 := h.st.blk _ (CAd.atB (by rw [h.lb]; exact hi))
theorem Cst.blkP (h : Cst w0 cl l A C w) {i : Nat} (hi : i < cl.length) : Blk w (A.gsp.getD i 0) (rowE .bool cl.length (C.P i)) 4 := h.st.blk _ (CAd.atP (by rw [h.lp]; exact hi))
theorem Cst.atB (h : Cst w0 cl l A C w) {i k : Nat} (hi : i < cl.length) (hk : k < cl.length) : w.cell? ⟨A.gsb.getD i 0, k, none⟩ = some (.bool (C.B i k)) := (h.blkB hi).cell k _ (a4j hk)
theorem Cst.atP (h : Cst w0 cl l A C w) {i k : Nat} (hi : i < cl.length) (hk : k < cl.length) : w.cell? ⟨A.gsp.getD i 0, k, none⟩ = some (.bool (C.P i k)) := (h.blkP hi).cell k _ (a4j hk)
theorem CAd.atE {A : CAd} {C : CCo} {n i : Nat} : (A.own n C)[A.gsb.length + (A.gsp.length + i) + 1]? = A.ex[i]? := by
 unfold CAd.own
 have hl : (a3b 4 n A.gsb C.B).length = A.gsb.length := by unfold a3b; rw [a0q]
 have hl2 : (a3b 4 n A.gsp C.P).length = A.gsp.length := by unfold a3b; rw [a0q]
 rw [List.getElem?_cons_succ, List.getElem?_append_right (by rw [hl]; omega), hl, Nat.add_sub_cancel_left, List.getElem?_append_right (by rw [hl2]; omega), hl2, Nat.add_sub_cancel_left]
theorem a7t {w : World} {base n : Nat} {e : TypeId} {v : Value} {gs : List Nat} (h : World.ownsRow w base e 1 v n (flat (slcE n) gs)) (hn : 0 < n) (hg : gs.length = n) :
  ∃ go cap, v = .slice (some ⟨go, 0, none⟩) n cap /\ base <= go /\ go < w.heap.size /\ n <= cap /\ ∀ i, i < n -> w.cell? ⟨go, i, none⟩ = some (.slice (some ⟨gs.getD i 0, 0, none⟩) n n) := by
 obtain ⟨A, c, hv, hl, _⟩ := (Slc.of_own (b5p n) h hg).slice
 obtain ⟨go, cap, rfl, h1, h2⟩ := World.ownsRow.form h hn
 refine ⟨go, cap, rfl, h1, h2, ?_, fun i hi => ?_⟩
 ·injection hv with _ _ h3
  omega
 rw [World.ownsRow.cellAt h i (by omega)]
 have hgi : gs[i]? = some (gs.getD i 0) := by rw [List.getD_eq_getElem?_getD, List.getElem?_eq_getElem (by omega)]; rfl
 have := a3d (b5p n) gs i _ hgi 0 _ rfl
 rwa [Nat.mul_one, Nat.add_zero] at this
theorem Cst.formB (h : Cst w0 cl l A C w) (hn : 0 < cl.length) : ∃ go cap, A.vb = .slice (some ⟨go, 0, none⟩) cl.length cap /\ w0.heap.size <= go /\ go < w.heap.size /\ cl.length <= cap /\ ∀ i, i < cl.length -> w.cell? ⟨go, i, none⟩ = some (.slice (some ⟨A.gsb.getD i 0, 0, none⟩) cl.length cl.length) := a7t h.ob hn h.lb
theorem Cst.formP (h : Cst w0 cl l A C w) (hn : 0 < cl.length) : ∃ go cap, A.vp = .slice (some ⟨go, 0, none⟩) cl.length cap /\ w0.heap.size <= go /\ go < w.heap.size /\ cl.length <= cap /\ ∀ i, i < cl.length -> w.cell? ⟨go, i, none⟩ = some (.slice (some ⟨A.gsp.getD i 0, 0, none⟩) cl.length cl.length) := a7t h.op hn h.lp
theorem Cst.lenR (h : Cst w0 cl l A C w) : C.R.length = cl.length := by have := h.or_.1; rw [List.length_map] at this; omega
theorem Cst.formR (h : Cst w0 cl l A C w) (hn : 0 < cl.length) : ∃ gr cap, A.vr = .slice (some ⟨gr, 0, none⟩) cl.length cap /\ w0.heap.size <= gr /\ gr < w.heap.size /\ ∀ (i : Nat) (r : Int), C.R[i]? = some r -> w.cell? ⟨gr, i, none⟩ = some (.int .i64 r) := by
 obtain ⟨gr, cap, hv, h1, h2⟩ := World.ownsRow.form h.or_ hn
 have ho := h.or_
 rw [hv] at ho
 refine ⟨gr, cap, hv, h1, h2, fun i r hr => ?_⟩
 rw [World.ownsRow.cellAt ho i (by have := (List.getElem?_eq_some_iff.1 hr).1; have := h.lenR; omega), List.getElem?_map, hr]
 rfl
theorem b5t {M : Nat -> Nat -> Bool} {i k : Nat} {v : Bool} : (fun x => if x = i then putA (M i) k v else M x) = putM M i k v := by
 funext x y
 unfold putM putA
 by_cases hx : x = i
 ·subst hx
  rw [if_pos rfl]
  by_cases hy : y = k
  ·rw [if_pos hy, if_pos ⟨rfl, hy⟩]
  rw [if_neg hy, if_neg (fun h => hy h.2)]
 rw [if_neg hx, if_neg (fun h => hx h.1)]
theorem b2v {α : Type} {a b : List α} {i n : Nat} {x : α} (hn : a.length = n) : (a ++ b).set (n + i) x = a ++ b.set i x := by
 subst hn
 rw [List.set_append_right _ _ (by omega), Nat.add_sub_cancel_left]
theorem Cst.setB (h : Cst w0 cl l A C w) {i k : Nat} (hi : i < cl.length) (v : Bool) : Cst w0 cl l A { C with B := putM C.B i k v } (w.setCell ⟨A.gsb.getD i 0, k, none⟩ (.bool v)) := by
 have hB := h.blkB hi
 have hib : i < A.gsb.length := by rw [h.lb]; exact hi
 refine ⟨?_, h.lb, h.lp, a1k h.ob hB (by decide) _, a1k h.op hB (by decide) _, a1k h.or_ hB (by decide) _, h.mc.setCell hB _, h.mkb.setCell hB _, h.ml.setCell hB _, h.ne, h.ge, h.h1, h.h2, h.ext⟩
 have h2 := h.st.setE (i + 1) (CAd.atB hib) k v
 have e : (A.own cl.length C).set (i + 1) ⟨A.gsb.getD i 0, rowE .bool cl.length (putA (C.B i) k v), 4⟩ = A.own cl.length { C with B := putM C.B i k v } := by
  unfold CAd.own
  rw [List.set_cons_succ, List.set_append_left _ _ (by unfold a3b; rw [a0q]; exact hib), b2x, b5t]
 rw [e] at h2
 exact h2
theorem Cst.setP (h : Cst w0 cl l A C w) {i k : Nat} (hi : i < cl.length) (v : Bool) : Cst w0 cl l A { C with P := putM C.P i k v } (w.setCell ⟨A.gsp.getD i 0, k, none⟩ (.bool v)) := by
 have hB := h.blkP hi
 have hib : i < A.gsp.length := by rw [h.lp]; exact hi
 refine ⟨?_, h.lb, h.lp, a1k h.ob hB (by decide) _, a1k h.op hB (by decide) _, a1k h.or_ hB (by decide) _, h.mc.setCell hB _, h.mkb.setCell hB _, h.ml.setCell hB _, h.ne, h.ge, h.h1, h.h2, h.ext⟩
 have h2 := h.st.setE (A.gsb.length + i + 1) (CAd.atP hib) k v
 have e : (A.own cl.length C).set (A.gsb.length + i + 1) ⟨A.gsp.getD i 0, rowE .bool cl.length (putA (C.P i) k v), 4⟩ = A.own cl.length { C with P := putM C.P i k v } := by
  unfold CAd.own
  rw [List.set_cons_succ, b2v (by unfold a3b; rw [a0q]), List.set_append_left _ _ (by unfold a3b; rw [a0q]; exact hib), b2x, b5t]
 rw [e] at h2
 exact h2
theorem CAd.types {A : CAd} {n : Nat} {C : CCo} {x : Own} (hx : x ∈ A.own n C) : x.t = 48 \/ x.t = 4 \/ x ∈ A.ex := by
 unfold CAd.own a3b a9u at hx
 rcases List.mem_cons.1 hx with rfl | hx
 ·exact .inl rfl
 rcases List.mem_append.1 hx with hx | hx
 ·obtain ⟨_, _, rfl⟩ := List.mem_map.1 hx; exact .inr (.inl rfl)
 rcases List.mem_append.1 hx with hx | hx
 ·obtain ⟨_, _, rfl⟩ := List.mem_map.1 hx; exact .inr (.inl rfl)
 exact .inr (.inr hx)
theorem b8p {w : World} {base k n g cap : Nat} {e : TypeId} {xs : List Value} (h : World.ownsRow w base e k (.slice (some ⟨g, 0, none⟩) n cap) n xs) : ∃ cs, Blk w g cs e := by
 rcases h.2 with ⟨h1, _⟩ | ⟨g', cap', cur, h1, _, hg, _⟩
 ·cases h1
 have e1 : g = g' := by
  injection h1 with h1
  injection h1 with h1
  injection h1
 subst e1
 exact ⟨cur, hg⟩
theorem Cst.setR (h : Cst w0 cl l A C w) {i gr cap : Nat} (hv : A.vr = .slice (some ⟨gr, 0, none⟩) cl.length cap) (r : Int) : Cst w0 cl l A { C with R := C.R.set i r } (w.setCell ⟨gr, i, none⟩ (.int .i64 r)) := by
 have ho := h.or_
 rw [hv] at ho
 obtain ⟨cs, hB⟩ := b8p ho
 have hge := (World.ownsRow.lt ho gr rfl).1
 refine ⟨h.st.turnedR (a2c w ⟨gr, i, none⟩ _) hge (fun x hx e => ?_), h.lb, h.lp, a1k h.ob hB (by decide) _, a1k h.op hB (by decide) _, ?_, h.mc.setCell hB _, h.mkb.setCell hB _, h.ml.setCell hB _, h.ne, h.ge, h.h1, h.h2, h.ext⟩
 ·have e' : gr = x.g := e
  have h2 := (h.st.ok x hx).1
  rw [<- e'] at h2
  unfold Blk at hB h2
  rw [hB] at h2
  have := Option.some.inj h2
  injection this with _ e3
  rcases CAd.types hx with h4 | h4 | h4
  ·rw [h4] at e3; exact absurd e3 (by decide)
  ·rw [h4] at e3; exact absurd e3 (by decide)
  exact h.ext x h4 e3.symm
 rw [hv, List.map_set]
 exact (World.ownsRow.stored ho i _).1
theorem RMap.ne_own {P : Program} {kt : TypeId} {κ : Type} {kl : κ -> Lit} {S : κ -> Bool} {f : κ -> Value} {b n base k m : Nat} {e : TypeId} {v : Value} {xs : List Value} (h : RMap P kt kl w b n S f) (ho : World.ownsRow w base e k v m xs) : v.ownBlock ≠ some b := by
 rcases ho.2 with ⟨rfl, _⟩ | ⟨g', cap, cur, rfl, _, hg, _⟩
 ·simp [Value.ownBlock]
 intro e1
 have e2 : g' = b := by simpa [Value.ownBlock] using e1
 exact h.ne_blk (show Blk w g' cur e from hg) e2.symm
theorem Cst.putClass (h : Cst w0 cl l A C w) {n' : Nat} {S' : List UInt8 -> Bool} {f' : List UInt8 -> Value} (hm : RMap Tryd.prog 9 strL w' A.mkb n' S' f') (hg : w.grownBy w' (some A.mkb)) : Cst w0 cl l A { C with nk := n', Sk := S', fk := f' } w' :=
 ⟨h.st.turnedM h.mkb hg h.ge.1, h.lb, h.lp, h.ob.kept hg (.inr (h.mkb.ne_own h.ob)), h.op.kept hg (.inr (h.mkb.ne_own h.op)), h.or_.kept hg (.inr (h.mkb.ne_own h.or_)), h.mc.kept hg (fun e => h.ne.1 (Option.some.inj e)), hm, h.ml.kept hg (fun e => h.ne.2.2 (Option.some.inj e).symm), h.ne, h.ge, h.h1, h.h2, h.ext⟩
theorem Cst.putLim (h : Cst w0 cl l A C w) {n' : Nat} {S' : Int -> Bool} {f' : Int -> Value} (hm : RMap Tryd.prog 3 intL w' A.ml n' S' f') (hg : w.grownBy w' (some A.ml)) : Cst w0 cl l A { C with nl := n', Sl := S', fl := f' } w' :=
 ⟨h.st.turnedM h.ml hg h.ge.2, h.lb, h.lp, h.ob.kept hg (.inr (h.ml.ne_own h.ob)), h.op.kept hg (.inr (h.ml.ne_own h.op)), h.or_.kept hg (.inr (h.ml.ne_own h.or_)), h.mc.kept hg (fun e => h.ne.2.1 (Option.some.inj e)), h.mkb.kept hg (fun e => h.ne.2.2 (Option.some.inj e)), hm, h.ne, h.ge, h.h1, h.h2, h.ext⟩
theorem Cst.below0 (h : Cst w0 cl l A C w) : Below w0.heap.size w0 w := h.st.below
end Go.Proofs.YtgdhpghfojccaaaDoor
