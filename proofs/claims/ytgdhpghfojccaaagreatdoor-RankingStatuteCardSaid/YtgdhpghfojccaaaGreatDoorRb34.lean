/-
Part 34 of the base.
-/
import Derived.Test.YtgdhpghfojccaaaGreatDoorRb25
import Derived.Deep.AppendLies
import Derived.Test.YtgdhpghfojccaaaGreatDoorRb33
namespace Go.Proofs.YtgdhpghfojccaaaGreatDoor
open Go.RowKit
def rawL (u : Value) : List Value := [u]
theorem b2p (u : Value) : (rawL u).length = 1 := rfl
theorem a9y : ∀ us : List Value, flat rawL us = us
 | [] => rfl
 | u :: us => by rw [flat, a9y us]; rfl
abbrev PartL (w : World) (v : Value) (ps : List Prt) : Prop := Slc Prt.enc 5 w v ps
def NstL {α : Type} (P : World -> Value -> α -> Prop) (w : World) (v : Value) (xs : List α) : Prop := ∃ us : List Value, us.length = xs.length /\ Slc rawL 1 w v us /\ ∀ (i : Nat) (x : α) (u : Value), xs[i]? = some x -> us[i]? = some u -> P w u x
section
variable {α : Type} {P : World -> Value -> α -> Prop} {w w' : World} {v : Value} {xs : List α}
theorem NstL.below (hP : ∀ w w' v x, P w v x -> Below w.heap.size w w' -> P w' v x) (h : NstL P w v xs) (hb : Below w.heap.size w w') : NstL P w' v xs := by
 obtain ⟨us, h1, h2, h3⟩ := h
 exact ⟨us, h1, h2.below hb, fun i x u hx hu => hP _ _ _ _ (h3 i x u hx hu) hb⟩
theorem NstL.slice (h : NstL P w v xs) : ∃ A c, v = .slice A xs.length c /\ xs.length <= c /\ c <= 9223372036854775807 := by
 obtain ⟨us, h1, h2, _⟩ := h
 rw [<- h1]
 exact h2.slice
theorem NstL.nil_ (w : World) (A : Option Addr) (c : Nat) (hc : c <= 9223372036854775807) : NstL P w (.slice A 0 c) [] := ⟨[], rfl, Slc.nil_ _ _ _ _ _ hc, fun i x u hx => by simp at hx⟩
theorem NstL.at_ {A : Option Addr} {n c : Nat} (h : NstL P w (.slice A n c) xs) {j : Nat} (hj : j < xs.length) :
  ∃ b o u x, A = some ⟨b, o, none⟩ /\ b < w.heap.size /\ xs[j]? = some x /\ P w u x /\ ∀ w', Below w.heap.size w w' -> ∀ i y, [u][i]? = some y -> w'.cell? ⟨b, o + j + i, none⟩ = some y := by
 obtain ⟨us, h1, h2, h3⟩ := h
 obtain ⟨b, o, u, hA, hb, hu, hx⟩ := h2.at_ (j := j) (by omega)
 refine ⟨b, o, u, _, hA, hb, List.getElem?_eq_getElem hj, h3 j _ u (List.getElem?_eq_getElem hj) hu, fun w' hw i y hy => ?_⟩
 have := hx w' hw i y hy
 rwa [Nat.mul_one] at this
end
def TierL : World -> Value -> List (List Prt) -> Prop := NstL PartL
def AgrL : World -> Value -> List (List (List Prt)) -> Prop := NstL TierL
theorem TierL.below {w w' : World} {v : Value} {T : List (List Prt)} (h : TierL w v T) (hb : Below w.heap.size w w') : TierL w' v T := NstL.below (fun _ _ _ _ h hb => Slc.below h hb) h hb
theorem AgrL.below {w w' : World} {v : Value} {A : List (List (List Prt))} (h : AgrL w v A) (hb : Below w.heap.size w w') : AgrL w' v A := NstL.below (fun _ _ _ _ h hb => TierL.below h hb) h hb
theorem a3e {w w' : World} {base k n : Nat} {e : TypeId} {v : Value} {xs : List Value} {o : Option Nat} (h : World.ownsRow w base e k v n xs) (hg : w.grownBy w' o) (ho : ∀ g, o = some g -> ∃ cs t, Blk w g cs t /\ t ≠ e) : World.ownsRow w' base e k v n xs := by
 refine h.kept hg ?_
 cases hv : v.ownBlock with
 | none => exact .inl rfl
 | some g =>
  right
  intro e1
  obtain ⟨cs, t, hB, ht⟩ := ho g e1.symm
  exact a2y h hB ht hv
theorem c0s {w : World} {base k n : Nat} {e : TypeId} {v : Value} {xs : List Value} (h : World.ownsRow w base e k v n xs) : ∀ g, v.ownBlock = some g -> ∃ cs t, Blk w g cs t /\ t = e := by
 intro g hg
 rcases h.2 with ⟨rfl, _⟩ | ⟨g', cap, cur, rfl, _, hB, _⟩
 ·cases hg
 have e2 : g' = g := by simpa [Value.ownBlock] using hg
 subst e2
 exact ⟨cur, e, hB, rfl⟩
theorem a3t {w : World} {base k n : Nat} {e t : TypeId} {v : Value} {xs : List Value} (h : World.ownsRow w base e k v n xs) (ht : e ≠ t) : ∀ g, v.ownBlock = some g -> ∃ cs t', Blk w g cs t' /\ t' ≠ t := by
 intro g hg
 obtain ⟨cs, t', hB, rfl⟩ := c0s h g hg
 exact ⟨cs, _, hB, ht⟩
theorem c2t {w : World} {base k n : Nat} {e : TypeId} {v : Value} {xs : List Value} (h : World.ownsRow w base e k v n xs) : v.oneCell' = true := by
 rcases h.2 with ⟨rfl, _⟩ | ⟨g', cap, cur, rfl, _⟩ <;> rfl
theorem b2r {w : World} {B B' n k : Nat} {e : TypeId} {v : Value} {xs : List Value} (h : World.ownsRow w B e k v n xs) (hb : B' <= B) : World.ownsRow w B' e k v n xs := by
 refine ⟨h.1, ?_⟩
 rcases h.2 with ⟨rfl, h0⟩ | ⟨g, cap, cur, rfl, hbl, hrest⟩
 ·exact .inl ⟨rfl, h0⟩
 exact .inr ⟨g, cap, cur, rfl, Nat.le_trans hb hbl, hrest⟩
abbrev c1x (w : World) (base : Nat) (u : Value) (ps : List Prt) : Prop := World.ownsRow w base 50 5 u ps.length (flat Prt.enc ps)
def c1v (a b : Value) : Prop := ∀ g, a.ownBlock = some g -> b.ownBlock ≠ some g
structure TirU (w : World) (base : Nat) (v : Value) (us : List Value) (T : List (List Prt)) : Prop where
 len : us.length = T.length
 out : World.ownsRow w base 46 1 v us.length us
 inn : ∀ (t : Nat) (u : Value) (ps : List Prt), us[t]? = some u -> T[t]? = some ps -> c1x w base u ps
 apart : us.Pairwise c1v
def Tir (w : World) (base : Nat) (v : Value) (T : List (List Prt)) : Prop := ∃ us, TirU w base v us T
section
variable {w w' : World} {base : Nat} {v : Value} {us : List Value} {T : List (List Prt)}
theorem Tir.nil (w : World) (base : Nat) : Tir w base (.slice none 0 0) [] := ⟨[], rfl, World.ownsRow_nil _ _ _ _, fun t u ps h => by simp at h, List.Pairwise.nil⟩
theorem TirU.at_ (h : TirU w base v us T) {t : Nat} (ht : t < T.length) : ∃ u ps, us[t]? = some u /\ T[t]? = some ps /\ c1x w base u ps := by
 have h1 : t < us.length := by rw [h.len]; exact ht
 exact ⟨_, _, List.getElem?_eq_getElem h1, List.getElem?_eq_getElem ht, h.inn t _ _ (List.getElem?_eq_getElem h1) (List.getElem?_eq_getElem ht)⟩
theorem TirU.one (h : TirU w base v us T) : ∀ u ∈ us, u.oneCell' = true := by
 intro u hu
 obtain ⟨t, ht⟩ := List.mem_iff_getElem?.1 hu
 have h1 := (List.getElem?_eq_some_iff.1 ht).1
 exact c2t (h.inn t u _ ht (List.getElem?_eq_getElem (by rw [<- h.len]; exact h1)))
theorem TirU.below (h : TirU w base v us T) (hb : Below w.heap.size w w') : TirU w' base v us T :=
 ⟨h.len, Grows.below h.out hb, fun t u ps h1 h2 => Grows.below (h.inn t u ps h1 h2) hb, h.apart⟩
theorem Tir.below (h : Tir w base v T) (hb : Below w.heap.size w w') : Tir w' base v T := by
 obtain ⟨us, hu⟩ := h
 exact ⟨us, hu.below hb⟩
theorem TirU.mono {base' : Nat} (h : TirU w base v us T) (hb : base' <= base) : TirU w base' v us T := ⟨h.len, b2r h.out hb, fun t u ps h1 h2 => b2r (h.inn t u ps h1 h2) hb, h.apart⟩
theorem Tir.grown {o : Option Nat} (h : Tir w base v T) (hg : w.grownBy w' o) (ho : ∀ g, o = some g -> ∃ cs t, Blk w g cs t /\ t ≠ 46 /\ t ≠ 50) : Tir w' base v T := by
 obtain ⟨us, h⟩ := h
 exact ⟨us, h.len, a3e h.out hg (fun g e => by obtain ⟨cs, t, h1, h2, _⟩ := ho g e; exact ⟨cs, t, h1, h2⟩), fun t u ps h1 h2 => a3e (h.inn t u ps h1 h2) hg (fun g e => by obtain ⟨cs, t, h1, _, h2⟩ := ho g e; exact ⟨cs, t, h1, h2⟩), h.apart⟩
theorem Tir.toL (h : Tir w base v T) : TierL w v T := by
 obtain ⟨us, h⟩ := h
 exact ⟨us, h.len, Slc.of_own b2p (by rw [a9y]; exact h.out) rfl, fun i x u hx hu => Slc.of_own c2q (h.inn i u x hu hx) rfl⟩
theorem TirU.put {u v' : Value} {ps : List Prt} (h : TirU w base v us T) (hu : c1x w base u ps) (hnew : ∀ a ∈ us, c1v a u) (ho : World.ownsRow w' base 46 1 v' (us.length + 1) (us ++ [u])) (hg : w.grownBy w' v.ownBlock) : Tir w' base v' (T ++ [ps]) := by
 refine ⟨us ++ [u], by rw [List.length_append, List.length_append, h.len]; rfl, by rw [List.length_append]; exact ho, fun t a qs ha hq => ?_, ?_⟩
 ·have key : c1x w base a qs -> c1x w' base a qs := fun hp => a3e hp hg (a3t h.out (by decide))
  rw [List.getElem?_append] at ha hq
  by_cases ht : t < us.length
  ·rw [if_pos ht] at ha
   rw [if_pos (by rw [<- h.len]; exact ht)] at hq
   exact key (h.inn t a qs ha hq)
  rw [if_neg ht] at ha
  rw [if_neg (by rw [<- h.len]; exact ht), <- h.len] at hq
  cases hd : t - us.length with
  | zero =>
   rw [hd] at ha hq
   obtain rfl : u = a := by simpa using ha
   obtain rfl : ps = qs := by simpa using hq
   exact key hu
  | succ m => rw [hd] at ha; simp at ha
 rw [List.pairwise_append]
 exact ⟨h.apart, List.pairwise_singleton _ _, fun a ha b hb => by obtain rfl := List.mem_singleton.1 hb; exact hnew a ha⟩
theorem d0y (a : Value) : c1v a (.slice none 0 0) := fun g _ => by simp [Value.ownBlock]
theorem TirU.young {base' : Nat} {u : Value} {ps : List Prt} (h : TirU w base v us T) (hb : w.heap.size <= base') {w2 : World} (hu : c1x w2 base' u ps) : ∀ a ∈ us, c1v a u := by
 intro a ha g hg e
 obtain ⟨t, ht⟩ := List.mem_iff_getElem?.1 ha
 have h1 := (List.getElem?_eq_some_iff.1 ht).1
 have h2 := World.ownsRow.lt (h.inn t a _ ht (List.getElem?_eq_getElem (by rw [<- h.len]; exact h1))) g hg
 have h3 := World.ownsRow.lt hu g e
 omega
theorem TirU.app {t go cap g' : Nat} {u u' : Value} {ps : List Prt} {p : Prt} {w1 : World} (h : TirU w base (.slice (some ⟨go, 0, none⟩) us.length cap) us T) (hu : us[t]? = some u) (hT : T[t]? = some ps) (hg : w.grownBy w1 u.ownBlock) (hat : u.ownBlock = some g' \/ w.heap.size <= g') (he : u'.ownBlock = some g')
  (hu' : World.ownsRow w1 base 50 5 u' (ps.length + 1) (flat Prt.enc (ps ++ [p]))) : TirU (w1.setCell ⟨go, t, none⟩ u') base (.slice (some ⟨go, 0, none⟩) us.length cap) (us.set t u') (T.set t (ps ++ [p])) := by
 have hup := h.inn t u ps hu hT
 have htl := (List.getElem?_eq_some_iff.1 hu).1
 have ho1 : World.ownsRow w1 base 46 1 (.slice (some ⟨go, 0, none⟩) us.length cap) us.length us := a3e h.out hg (a3t hup (by decide))
 obtain ⟨ho2, hg2⟩ := World.ownsRow.stored ho1 t u'
 have key : ∀ {a : Value} {n : Nat} {xs : List Value}, World.ownsRow w1 base 50 5 a n xs -> World.ownsRow (w1.setCell ⟨go, t, none⟩ u') base 50 5 a n xs := fun ha => a3e ha hg2 (fun g e => by
  obtain ⟨cs, hB⟩ := b8p ho1
  obtain rfl := Option.some.inj e
  exact ⟨cs, _, hB, by decide⟩)
 have hother : ∀ (s : Nat) (a : Value), s ≠ t -> us[s]? = some a -> ∀ g, a.ownBlock = some g -> u.ownBlock ≠ some g := by
  intro s a hs ha g hag hug
  have hsl := (List.getElem?_eq_some_iff.1 ha).1
  have hA := List.pairwise_iff_getElem.1 h.apart
  rcases Nat.lt_or_ge s t with hlt | hge
  ·have := hA s t hsl htl hlt
   rw [(List.getElem?_eq_some_iff.1 ha).2, (List.getElem?_eq_some_iff.1 hu).2] at this
   exact this g hag hug
  have := hA t s htl hsl (by omega)
  rw [(List.getElem?_eq_some_iff.1 ha).2, (List.getElem?_eq_some_iff.1 hu).2] at this
  exact this g hug hag
 have hkeep : ∀ (s : Nat) (a : Value) (qs : List Prt), s ≠ t -> us[s]? = some a -> T[s]? = some qs -> c1x w1 base a qs := fun s a qs hs ha hq => by
  refine (h.inn s a qs ha hq).kept hg ?_
  cases hav : a.ownBlock with
  | none => exact .inl rfl
  | some g => right; intro e1; exact hother s a hs ha g hav e1.symm
 refine ⟨by rw [List.length_set, List.length_set, h.len], by rw [List.length_set]; exact ho2, fun s a qs ha hq => ?_, ?_⟩
 ·by_cases hs : s = t
  ·subst hs
   rw [List.getElem?_set_self htl] at ha
   rw [List.getElem?_set_self (by rw [<- h.len]; exact htl)] at hq
   obtain rfl := Option.some.inj ha
   obtain rfl := Option.some.inj hq
   refine key ?_
   rw [List.length_append]; exact hu'
  rw [List.getElem?_set_ne (fun e => hs e.symm)] at ha hq
  exact key (hkeep s a qs hs ha hq)
 rw [List.pairwise_iff_getElem]
 intro a b ha hb hab g h1 h2
 rw [List.length_set] at ha hb
 have low : ∀ (s : Nat) (hs : s < us.length), s ≠ t -> ∀ g, (us[s]).ownBlock = some g -> g ≠ g' := by
  intro s hs hst g hg1 e
  subst e
  rcases hat with hat | hat
  ·exact hother s _ hst (List.getElem?_eq_getElem hs) g hg1 hat
  have := (World.ownsRow.lt (h.inn s _ _ (List.getElem?_eq_getElem hs) (List.getElem?_eq_getElem (by rw [<- h.len]; exact hs))) g hg1).2
  omega
 rw [List.getElem_set] at h1 h2
 by_cases e1 : t = a
 ·rw [if_pos e1, he] at h1
  rw [if_neg (by omega)] at h2
  exact low b hb (by omega) g h2 (Option.some.inj h1).symm
 rw [if_neg e1] at h1
 by_cases e2 : t = b
 ·rw [if_pos e2, he] at h2
  exact low a ha (by omega) g h1 (Option.some.inj h2).symm
 rw [if_neg e2] at h2
 exact List.pairwise_iff_getElem.1 h.apart a b ha hb hab g h1 h2
end
theorem Tir.mono {w : World} {base base' : Nat} {v : Value} {T : List (List Prt)} (h : Tir w base v T) (hb : base' <= base) : Tir w base' v T := by
 obtain ⟨us, hu⟩ := h
 exact ⟨us, hu.mono hb⟩
theorem c2u {w w' : World} {base k n g : Nat} {e : TypeId} {v : Value} {xs : List Value} (h : World.ownsRow w base e k v n xs) (hg : w.grownBy w' (some g)) (hlt : g < base) : World.ownsRow w' base e k v n xs := by
 refine h.kept hg ?_
 cases hv : v.ownBlock with
 | none => exact .inl rfl
 | some q =>
  right
  intro e1
  have := (World.ownsRow.lt h q hv).1
  have := Option.some.inj e1
  omega
theorem Tir.far {w w' : World} {base g : Nat} {v : Value} {T : List (List Prt)} (h : Tir w base v T) (hg : w.grownBy w' (some g)) (hlt : g < base) : Tir w' base v T := by
 obtain ⟨us, h⟩ := h
 exact ⟨us, h.len, c2u h.out hg hlt, fun t u ps h1 h2 => c2u (h.inn t u ps h1 h2) hg hlt, h.apart⟩
def Agr (w : World) (base : Nat) (v : Value) (A : List (List (List Prt))) : Prop := ∃ us : List Value, us.length = A.length /\ World.ownsRow w base 45 1 v us.length us /\ ∀ (k : Nat) (u : Value) (T : List (List Prt)), us[k]? = some u -> A[k]? = some T -> Tir w base u T
section
variable {w w' : World} {base : Nat} {v : Value} {A : List (List (List Prt))}
theorem Agr.nil (w : World) (base : Nat) : Agr w base (.slice none 0 0) [] := ⟨[], rfl, World.ownsRow_nil _ _ _ _, fun k u T h => by simp at h⟩
theorem Agr.below (h : Agr w base v A) (hb : Below w.heap.size w w') : Agr w' base v A := by
 obtain ⟨us, h1, h2, h3⟩ := h
 exact ⟨us, h1, Grows.below h2 hb, fun k u T hu hT => (h3 k u T hu hT).below hb⟩
theorem Agr.toL (h : Agr w base v A) : AgrL w v A := by
 obtain ⟨us, h1, h2, h3⟩ := h
 exact ⟨us, h1, Slc.of_own b2p (by rw [a9y]; exact h2) rfl, fun i x u hx hu => (h3 i u x hu hx).toL⟩
theorem Agr.put {us : List Value} {u v' : Value} {T : List (List Prt)} (h1 : us.length = A.length) (h2 : World.ownsRow w base 45 1 v us.length us) (h3 : ∀ (k : Nat) (u : Value) (T : List (List Prt)), us[k]? = some u -> A[k]? = some T -> Tir w base u T)
  (hu : Tir w base u T) (ho : World.ownsRow w' base 45 1 v' (us.length + 1) (us ++ [u])) (hg : w.grownBy w' v.ownBlock) : Agr w' base v' (A ++ [T]) := by
 have hk : ∀ g, v.ownBlock = some g -> ∃ cs t, Blk w g cs t /\ t ≠ 46 /\ t ≠ 50 := fun g e => by
  obtain ⟨cs, t, hB, rfl⟩ := c0s h2 g e
  exact ⟨cs, _, hB, by decide, by decide⟩
 refine ⟨us ++ [u], by rw [List.length_append, List.length_append, h1]; rfl, by rw [List.length_append]; exact ho, fun k a S ha hS => ?_⟩
 rw [List.getElem?_append] at ha hS
 by_cases ht : k < us.length
 ·rw [if_pos ht] at ha
  rw [if_pos (by rw [<- h1]; exact ht)] at hS
  exact (h3 k a S ha hS).grown hg hk
 rw [if_neg ht] at ha
 rw [if_neg (by rw [<- h1]; exact ht), <- h1] at hS
 cases hd : k - us.length with
 | zero =>
  rw [hd] at ha hS
  obtain rfl : u = a := by simpa using ha
  obtain rfl : T = S := by simpa using hS
  exact hu.grown hg hk
 | succ m => rw [hd] at ha; simp at ha
theorem Agr.far {g i : Nat} (h : Agr w base v A) (hlt : g < base) (y : Value) : Agr (w.setCell ⟨g, i, none⟩ y) base v A := by
 obtain ⟨us, h1, h2, h3⟩ := h
 exact ⟨us, h1, c2u h2 (a3n w ⟨g, i, none⟩ y) hlt, fun k u T hu hT => (h3 k u T hu hT).far (a3n w ⟨g, i, none⟩ y) hlt⟩
end
set_option maxRecDepth 100000
set_option maxHeartbeats 4000000
theorem c9y : (Tryz.prog.info? 50).map (fun i => (i.zero, i.size, i.bytes)) = some (some (.agg #[.int .i64 0, .bool false, .bool false, .string (bs []), .string (bs [])]), 5, 56) := by kernel_rfl
theorem c0k : ∃ i, Tryz.prog.info? 50 = some i /\ i.zero = some (.agg #[.int .i64 0, .bool false, .bool false, .string (bs []), .string (bs [])]) /\ i.size = 5 /\ i.bytes = 56 := by
 obtain ⟨i, hi, hzz⟩ := Option.map_eq_some_iff.1 c9y
 simp only [Prod.mk.injEq] at hzz
 exact ⟨i, hi, hzz⟩
theorem c9x : (Tryz.prog.info? 46).map (fun i => (i.zero, i.size, i.bytes)) = some (some (.slice none 0 0), 1, 24) := by kernel_rfl
theorem c0h : ∃ i, Tryz.prog.info? 46 = some i /\ i.zero = some (.slice none 0 0) /\ i.size = 1 /\ i.bytes = 24 := by
 obtain ⟨i, hi, hzz⟩ := Option.map_eq_some_iff.1 c9x
 simp only [Prod.mk.injEq] at hzz
 exact ⟨i, hi, hzz⟩
theorem c5d : (Tryz.prog.info? 45).map (fun i => (i.zero, i.size, i.bytes)) = some (some (.agg #[.slice none 0 0]), 1, 24) := by kernel_rfl
theorem c5w : ∃ i, Tryz.prog.info? 45 = some i /\ i.zero = some (.agg #[.slice none 0 0]) /\ i.size = 1 /\ i.bytes = 24 := by
 obtain ⟨i, hi, hzz⟩ := Option.map_eq_some_iff.1 c5d
 simp only [Prod.mk.injEq] at hzz
 exact ⟨i, hi, hzz⟩
theorem c8p (p : Prt) : ∀ u ∈ p.enc, u.oneCell' = true := by
 intro u hu
 simp only [Prt.enc, List.mem_cons, List.not_mem_nil, or_false] at hu
 rcases hu with rfl | rfl | rfl | rfl | rfl <;> rfl
theorem b9g {w : World} {g : Nat} {cs : Array Value} {t : TypeId} {news : List Value} (h : Blk w g cs t) (hc : cs.toList = news) : ∀ j u, news[j]? = some u -> w.cell? ((⟨g, 0, none⟩ : Addr).add j) = some u := by
 intro j u hu
 rw [Addr.add_lit, Nat.zero_add]
 exact h.cell j u (by rw [<- Array.getElem?_toList, hc]; exact hu)
theorem c2k (v : Value) (n : Nat) (M : Nat -> Nat -> Bool) (r : Nat -> Nat -> Prop) (w : World) (h : MatB w v n M) (hM : ∀ a b, a < n -> b < n -> (M a b = true ↔ r a b)) (hb : ∀ i j, r i j -> i < n /\ j < n) (hn : n <= 1000) (hf : ¬ ∃ x, Way r x x) :
  Calls Tryz.prog 73 #[v] w fun e w' => ∃ g f, e = .returned (.tuple #[.slice (some ⟨g, 0, none⟩) n n, .bool true]) /\ Blk w' g (rowE (.int .i64) n (lvE f)) 3 /\ Lv r n f /\ w.heap.size <= g /\ Below w.heap.size w w' := by
 refine (b1s v n M r w h hM hb hn).mono ?_
 rintro e w' ⟨⟨g, f, h1, h2, h3, h4⟩ | ⟨_, hc⟩, hw⟩
 ·exact ⟨g, f, h1, h2, h3, h4, hw⟩
 exact absurd hc hf
def agrU (n : Nat) (r cn : Nat -> Nat -> Bool) (lev : Nat -> Nat) (part : Nat -> Prt) (k : Nat) : List (List (List Prt)) := ((List.range k).filter (b4n n r cn)).map (b9q n lev cn part)
def tirU (n : Nat) (cn : Nat -> Nat -> Bool) (lev : Nat -> Nat) (part : Nat -> Prt) (k t : Nat) : List (List Prt) := ((List.range t).map (a8n n lev cn part k)).filter fun t => !t.isEmpty
def prtU (cn : Nat -> Nat -> Bool) (lev : Nat -> Nat) (part : Nat -> Prt) (k t i : Nat) : List Prt := ((List.range i).filter fun i => cn k i && decide (lev i = t)).map part
theorem b5q {n : Nat} {r cn : Nat -> Nat -> Bool} {lev : Nat -> Nat} {part : Nat -> Prt} {k : Nat} (h : b4n n r cn k = false) : agrU n r cn lev part (k + 1) = agrU n r cn lev part k := by
 unfold agrU
 rw [a0w, if_neg (by rw [h]; decide), List.append_nil]
theorem c5y {n : Nat} {r cn : Nat -> Nat -> Bool} {lev : Nat -> Nat} {part : Nat -> Prt} {k : Nat} (h : b4n n r cn k = true) : agrU n r cn lev part (k + 1) = agrU n r cn lev part k ++ [tirU n cn lev part k n] := by
 unfold agrU
 rw [a0w, if_pos h, List.map_append]
 rfl
theorem c7t {n : Nat} {cn : Nat -> Nat -> Bool} {lev : Nat -> Nat} {part : Nat -> Prt} {k t : Nat} (h : (prtU cn lev part k t n).length = 0) : tirU n cn lev part k (t + 1) = tirU n cn lev part k t := by
 unfold tirU
 rw [List.range_succ, List.map_append, List.filter_append]
 have h0 : a8n n lev cn part k t = [] := List.length_eq_zero_iff.1 h
 rw [List.map_cons, List.map_nil, h0]
 simp
theorem tirU_add {n : Nat} {cn : Nat -> Nat -> Bool} {lev : Nat -> Nat} {part : Nat -> Prt} {k t : Nat} (h : (prtU cn lev part k t n).length ≠ 0) : tirU n cn lev part k (t + 1) = tirU n cn lev part k t ++ [prtU cn lev part k t n] := by
 unfold tirU
 rw [List.range_succ, List.map_append, List.filter_append]
 congr 1
 show List.filter _ [prtU cn lev part k t n] = _
 rw [List.filter_cons, if_pos, List.filter_nil]
 cases hp : prtU cn lev part k t n with
 | nil => rw [hp] at h; exact absurd rfl h
 | cons a b => rfl
theorem c8q {cn : Nat -> Nat -> Bool} {lev : Nat -> Nat} {part : Nat -> Prt} {k t i : Nat} (h : (cn k i && decide (lev i = t)) = false) : prtU cn lev part k t (i + 1) = prtU cn lev part k t i := by
 unfold prtU
 rw [a0w, if_neg (by rw [h]; decide), List.append_nil]
theorem prtU_add {cn : Nat -> Nat -> Bool} {lev : Nat -> Nat} {part : Nat -> Prt} {k t i : Nat} (h : (cn k i && decide (lev i = t)) = true) : prtU cn lev part k t (i + 1) = prtU cn lev part k t i ++ [part i] := by
 unfold prtU
 rw [a0w, if_pos h, List.map_append]
 rfl
theorem c4j (cn : Nat -> Nat -> Bool) (lev : Nat -> Nat) (part : Nat -> Prt) (k t i : Nat) : (prtU cn lev part k t i).length <= i := by
 unfold prtU
 rw [List.length_map]
 exact Nat.le_trans (List.length_filter_le _ _) (by rw [List.length_range]; exact Nat.le_refl _)
theorem tirU_len (n : Nat) (cn : Nat -> Nat -> Bool) (lev : Nat -> Nat) (part : Nat -> Prt) (k t : Nat) : (tirU n cn lev part k t).length <= t := by
 unfold tirU
 exact Nat.le_trans (List.length_filter_le _ _) (by rw [List.length_map, List.length_range]; exact Nat.le_refl _)
theorem c5x (n : Nat) (r cn : Nat -> Nat -> Bool) (lev : Nat -> Nat) (part : Nat -> Prt) (k : Nat) : (agrU n r cn lev part k).length <= k := by
 unfold agrU
 rw [List.length_map]
 exact Nat.le_trans (List.length_filter_le _ _) (by rw [List.length_range]; exact Nat.le_refl _)
theorem c1z {w : World} {base g i : Nat} {v u : Value} {cs : Array Value} {T : List (List Prt)} (h : Tir w base v T) (hB : Blk w g cs 45) : Tir (w.setCell ⟨g, i, none⟩ u) base v T :=
 h.grown (a3n w ⟨g, i, none⟩ u) (fun g' e => by obtain rfl := Option.some.inj e; exact ⟨cs, _, hB, by decide, by decide⟩)
theorem c8d {β : Type} {e : β -> Value} {w : World} {g n i : Nat} {f : Nat -> β} {t : TypeId} (h : Blk w g (rowE e n f) t) (hi : i < n) : ∀ w', Below w.heap.size w w' -> ∀ (j : Nat) (v : Value), [e (f i)][j]? = some v -> w'.cell? ⟨g, i + j, none⟩ = some v := by
 intro w' hb j v hv
 have hj : j = 0 := by have := (List.getElem?_eq_some_iff.1 hv).1; simpa using this
 subst hj
 obtain rfl : e (f i) = v := by simpa using hv
 exact (h.below hb h.lt).cell i _ (a5w hi)
theorem b3s (v v2 : Value) (cl : List Nmd) (l : List Cls) (w : World) (h : NmdL w v cl) (h2 : ClsL w v2 l) (hO : Okay cl l) (hl : cl.length <= 1000) (hl2 : l.length <= 1000) (hbig : ∀ c ∈ l, c.kind = 1 -> c.list.length <= 1000) (hfit : ∀ x ∈ l, x.am.a.length <= 17179869184 /\ x.am.b.length <= 17179869184) :
  Calls Tryz.prog 39 #[v, v2] w fun e w' => ∃ va A, e = .returned va /\ Agr w' w.heap.size va A /\ Agrs cl l A /\ Below w.heap.size w w' := by
 classical
 have hb : ∀ a b, Rel cl l l.length a b -> a < cl.length /\ b < cl.length := fun _ _ h => h.lt
 have dR := fun W (hb : Below w.heap.size w W) => a6j v v2 cl l W (h.below hb) (h2.below hb) (a1p hO.one) hl hl2 hbig
 have dL := fun vm M W (hm : MatB W vm cl.length M) (hM : ∀ a b, a < cl.length -> b < cl.length -> (M a b = true ↔ Rel cl l l.length a b)) => c2k vm cl.length M (Rel cl l l.length) W hm hM hb hl hO.free
 have dC := fun vm M W (hm : MatB W vm cl.length M) (hM : ∀ a b, a < cl.length -> b < cl.length -> (M a b = true ↔ Rel cl l l.length a b)) => b3t vm cl.length M (Rel cl l l.length) W hm hM hb hl
 have dP := fun i W (hb : Below w.heap.size w W) (hi : i < cl.length) => c2j v v2 cl l i W (h.below hb) (h2.below hb) hi hO.lim hl2 hfit
 obtain ⟨rb, hrb⟩ : ∃ rb : Nat -> Nat -> Bool, ∀ a b, rb a b = true ↔ Rel cl l l.length a b := ⟨fun a b => decide (Rel cl l l.length a b), fun a b => decide_eq_true_iff⟩
 obtain ⟨cn, hcn⟩ : ∃ cn : Nat -> Nat -> Bool, ∀ a b, cn a b = true ↔ Conn (Rel cl l l.length) a b := ⟨fun a b => decide (Conn (Rel cl l l.length) a b), fun a b => decide_eq_true_iff⟩
 have hag : ∀ lev, Lv (Rel cl l l.length) cl.length lev -> Agrs cl l (agrU cl.length rb cn lev (a3b cl l) cl.length) := fun lev hlv => ⟨rb, cn, lev, hrb, hcn, hlv, rfl⟩
 have hld := fun (c : Nat -> Int) (hc : Cmp (Rel cl l l.length) cl.length c) hs k hk => hc.lead (rb := rb) (cn := cn) hb hrb hcn hs (k := k) hk
 obtain ⟨A1, c1, rfl, _, _⟩ := Slc.slice h
 obtain ⟨i1, hi1, z10, z11, z12⟩ := c0k
 obtain ⟨i2, hi2, z20, z21, z22⟩ := c0h
 obtain ⟨i3, hi3, z30, z31, z32⟩ := c5w
 obtain ⟨n, hn⟩ : ∃ n, n = cl.length := ⟨_, rfl⟩
 obtain ⟨part, hpt⟩ : ∃ part, part = a3b cl l := ⟨_, rfl⟩
 obtain ⟨r, hr⟩ : ∃ r, r = Rel cl l l.length := ⟨_, rfl⟩
 rw [<- hpt, <- hn, <- hr] at hag
 rw [<- hn, <- hr] at hld
 rw [<- hn, <- hr] at dR dL dC
 rw [<- hpt, <- hn] at dP
 rw [<- hn] at hl ⊢
 have HAG := zh hag
 have HLD := zh hld
 have DR := zh dR
 have DL := zh dL
 have DC := zh dC
 have DP := zh dP
 have LN := zh hl
 have Z10 := zh z10
 have Z20 := zh z20
 have Z30 := zh z30
 clear h h2 hO hl hl2 hbig hfit hb dR dL dC dP hag hld hrb hcn hpt hn hr z10 z20 z30
 go_enter Tryz.func39, Tryz.ntmps39
 have HS := zh (St.start w)
 go_wp2_with fail
 refine (DR.out _ HS.out.below).mono ?_
 rintro e w2 ⟨v2, M2, rfl, hm2, hM2, hb2⟩
 have HS2 := zh (HS.out.call hb2)
 have HM2 := zh hm2
 have HMR2 := zh hM2
 clear hm2 hM2 hb2 HS
 go_wp2_with fail
 refine (DL.out _ _ _ HM2.out HMR2.out).mono ?_
 rintro e w3 ⟨g3, lev, rfl, hst3, hlv, hge, hb3⟩
 have hst3 := HS2.out.fill hb3 hge hst3
 have HLV := zh hlv
 have HMb3 := zh (HM2.out.below (Ext.trans (Below.refl _ _) hb3))
 clear hb3 hge hlv
 have HS3 : Hid (St w [⟨g3, (rowE (.int .i64) n (lvE lev)), 3⟩] w3) := zh hst3
 clear hst3 HS2
 go_wp2_with fail
 refine (DC.out _ _ _ HMb3.out HMR2.out).mono ?_
 rintro e w4 ⟨g4, cc, rfl, hst4, hcm, hcs, hge, hb4⟩
 have hst4 := HS3.out.fill hb4 hge hst4
 have HLE := zh (fun k hk => HLD.out cc hcm hcs k hk)
 clear hb4 hge hcm hcs
 have HS4 : Hid (St w [⟨g4, (rowE (.int .i64) n cc), 3⟩, ⟨g3, (rowE (.int .i64) n (lvE lev)), 3⟩] w4) := zh hst4
 clear hst4 HS3
 go_wp2
 have HAGL := zh (HAG.out lev HLV.out)
 clear HAG HLV HLD DR DL DC HM2 HMR2 HMb3
 go_loopw [9, 10] (fun v_ k_ wr => ∃ k : Nat, k <= n /\ k_ = .int .i64 k /\ Hid (Agr wr w.heap.size v_ (agrU n rb cn lev part k)) /\ Hid (St w [⟨g4, rowE (.int .i64) n cc, 3⟩, ⟨g3, rowE (.int .i64) n (lvE lev), 3⟩] wr)) (fun _ k_ _ => n - (intOf k_).toNat)
 case atStart => exact ⟨0, Nat.zero_le _, rfl, Agr.nil _ _, HS4.out⟩
 case round =>
  clear HS4
  obtain ⟨k, hk, rfl, HA, HS⟩ := hrel
  rename_i u9 _
  obtain ⟨W1, rfl⟩ : ∃ W1, W1 = wr := ⟨_, rfl⟩
  by_cases hkn : k < n
  ·have e1 : (((k : Nat)) : Int) < (n : Int) := by omega
   have e2 : decide (((k : Nat) : Int) < (n : Int)) = true := decide_eq_true e1
   have e3 : (0 : Int) <= ((k : Nat) : Int) := by omega
   have i5 : IntKind.i64.wrap ((k : Int) + 1) = ((k + 1 : Nat) : Int) := by have := LN.out; rw [IntWalk.i64_in _ (by omega)]; rfl
   have HLK := zh (HLE.out k hkn)
   by_cases hck : cc k = (k : Int)
   ·have d1 : (cc k != (k : Int)) = false := by rw [hck]; simp
    have HLD := zh (HLK.out.1.2 hck)
    have HCK := zh (HLK.out.2 hck)
    have HCC := zh hck
    clear hck
    have x1 := HS.out.cellE 0 rfl hkn
    have x2 := HS.out.lt 0 rfl
    have x3 : ¬ g4 = W1.heap.size := by omega
    have x4 : ¬ W1.heap.size = g4 := by omega
    go_wp2
    have HS1 : Hid (St W1 [⟨W1.heap.size, #[.slice none 0 0], 45⟩] _) := zh (St.alloc (St.start W1) #[.slice none 0 0] 45 W1.heap.size rfl)
    go_loopw [12] (fun t_ wr => ∃ (t : Nat) (va : Value), t <= n /\ t_ = .int .i64 t /\ Hid (Tir wr W1.heap.size va (tirU n cn lev part k t)) /\ Hid (St W1 [⟨W1.heap.size, #[va], 45⟩] wr)) (fun t_ _ => n - (intOf t_).toNat)
    case atStart => exact ⟨0, .slice none 0 0, Nat.zero_le _, rfl, Tir.nil _ _, HS1.out⟩
    case round =>
     clear HS1
     obtain ⟨t, va, ht, rfl, HT, HS2⟩ := hrel
     obtain ⟨W2, rfl⟩ : ∃ W2, W2 = wr := ⟨_, rfl⟩
     by_cases htn : t < n
     ·have f1 : (((t : Nat)) : Int) < (n : Int) := by omega
      have f2 : decide (((t : Nat) : Int) < (n : Int)) = true := decide_eq_true f1
      have f3 : (0 : Int) <= ((t : Nat) : Int) := by omega
      have i6 : IntKind.i64.wrap ((t : Int) + 1) = ((t + 1 : Nat) : Int) := by have := LN.out; rw [IntWalk.i64_in _ (by omega)]; rfl
      have HS3 := zh (St.start W2)
      have HCB := zh (fun i (hi : i < n) => c8d ((HS.out.blk 0 rfl).below HS2.out.below (HS.out.lt 0 rfl)) hi)
      have HLB := zh (fun i (hi : i < n) => c8d ((HS.out.blk 1 rfl).below HS2.out.below (HS.out.lt 1 rfl)) hi)
      have hgc : g4 < W2.heap.size := Nat.lt_of_lt_of_le (HS.out.lt 0 rfl) HS2.out.below.size
      have hgl : g3 < W2.heap.size := Nat.lt_of_lt_of_le (HS.out.lt 1 rfl) HS2.out.below.size
      have HBW := zh (Ext.trans HS.out.below HS2.out.below)
      go_wp2
      go_loopw [13, 14] (fun v_ i_ wr => ∃ i : Nat, i <= n /\ i_ = .int .i64 i /\ Hid (Grows wr W2.heap.size 50 5 v_ (prtU cn lev part k t i).length (flat Prt.enc (prtU cn lev part k t i))) /\ Hid (St W2 [] wr)) (fun _ i_ _ => n - (intOf i_).toNat)
      case atStart => exact ⟨0, Nat.zero_le _, rfl, World.ownsRow_nil _ _ _ _, HS3.out⟩
      case round =>
       clear HS3
       obtain ⟨i, hi, rfl, HG, HV⟩ := hrel
       rename_i u13 _
       by_cases hin : i < n
       ·have m1 : (((i : Nat)) : Int) < (n : Int) := by omega
        have m2 : decide (((i : Nat) : Int) < (n : Int)) = true := decide_eq_true m1
        have m3 : (0 : Int) <= ((i : Nat) : Int) := by omega
        have i7 : IntKind.i64.wrap ((i : Int) + 1) = ((i + 1 : Nat) : Int) := by have := LN.out; rw [IntWalk.i64_in _ (by omega)]; rfl
        have HCI := zh (HCB.out i hin)
        have HLI := zh (show ∀ w', Below W2.heap.size W2 w' -> ∀ (j : Nat) (y : Value), [Value.int .i64 ((lev i : Nat) : Int)][j]? = some y -> w'.cell? ⟨g3, i + j, none⟩ = some y from HLB.out i hin)
        have hcki := HCK.out i hin
        have HDP := zh (fun W hb => DP.out i W hb hin)
        have hskip := fun h => c8q (cn := cn) (lev := lev) (part := part) (k := k) (t := t) (i := i) h
        have hadd := fun h => prtU_add (cn := cn) (lev := lev) (part := part) (k := k) (t := t) (i := i) h
        have hPL := c4j cn lev part k t i
        obtain ⟨ps, hps⟩ : ∃ ps, ps = prtU cn lev part k t i := ⟨_, rfl⟩
        rw [<- hps] at HG hskip hadd hPL
        generalize part i = p at *
        have HSK := zh hskip
        have HAD := zh hadd
        have HPL := zh hPL
        clear hskip hadd hps hPL
        by_cases hci : cc i = (k : Int)
        ·have hcn : cn k i = true := hcki.1 hci
         by_cases hli : lev i = t
         ·have d1 : (cc i == (k : Int)) = true := beq_iff_eq.2 hci
          have d2 : (((lev i : Nat) : Int) == ((t : Nat) : Int)) = true := by rw [beq_iff_eq]; omega
          have d3 : (lev i == t) = true := beq_iff_eq.2 hli
          have d4 : decide (lev i = t) = true := decide_eq_true hli
          have HEQ := zh (HAD.out (by rw [hcn, d4]; rfl))
          clear hci hli hcn hcki HSK HAD
          have x5 := HCI.out _ HV.out.below 0 _ rfl
          rw [Nat.add_zero] at x5
          have x6 := HLI.out _ HV.out.below 0 _ rfl
          rw [Nat.add_zero] at x6
          go_wp2_with fail
          refine (HDP.out _ (Ext.trans HBW.out HV.out.below)).mono ?_
          rintro e w5 ⟨rfl, hb5⟩
          have HV5 := zh (HV.out.call hb5)
          have HG_5 := zh (HG.out.below hb5)
          clear HG hb5 HV x5 x6
          have HV6 := aL HV5 #[.int .i64 p.claim, .bool p.capped, .bool p.cap.n, .string (bs p.cap.a), .string (bs p.cap.b)] 50 w5.heap.size
          have hsz := HV6.out.below.size
          have HB9 := zh HV6.out.below
          have hblk := HV6.out.blk 0 rfl
          have hgr : World.ownsRow _ W2.heap.size 50 5 u13 ps.length (flat Prt.enc ps) := (HG_5.out.below (Ext.alloc (Below.refl w5.heap.size w5) (Obj.cells #[.int .i64 p.claim, .bool p.capped, .bool p.cap.n, .string (bs p.cap.a), .string (bs p.cap.b)] 50)))
          go_wp2_with (at_builtin; refine a3a _ rfl _ _ 46 rfl W2.heap.size 50 i1 _ 5 56 Tryz.underlying46 hi1 Z10.out z11 z12 rfl (by decide) c2q u13 ps.length ps (by simp [Act.eval]) hgr p w5.heap.size _ hblk ?c1 (by simp [Act.eval]) (c8p _) (by have := HPL.out; have := LN.out; unfold maxLen; omega) (by have := HPL.out; have := LN.out; omega) hsz ?_)
          case c1 => exact rfl
          intro v5 w5 hown5 hb5
          have HG5 := zh hown5
          have HS9 := zh (St.of (HB9.out.trans hb5))
          clear hown5 hb5 hblk hgr hsz HG_5 HV6 HV5
          go_wp2
          go_roundw
          case rel => exact ⟨i + 1, by omega, by go_num, by show Grows _ _ _ _ _ _ _; rw [HEQ.out, List.length_append]; exact HG5.out, HS9.out⟩
          case measure => simp [intOf]; omega
         have d1 : (cc i == (k : Int)) = true := beq_iff_eq.2 hci
         have d2 : (((lev i : Nat) : Int) == ((t : Nat) : Int)) = false := by rw [beq_eq_false_iff_ne]; omega
         have d3 : (lev i == t) = false := beq_eq_false_iff_ne.2 hli
         have d4 : decide (lev i = t) = false := decide_eq_false hli
         have HEQ := zh (HSK.out (by rw [hcn, d4]; rfl))
         clear hci hli hcn hcki HSK HAD
         have x5 := HCI.out _ HV.out.below 0 _ rfl
         rw [Nat.add_zero] at x5
         have x6 := HLI.out _ HV.out.below 0 _ rfl
         rw [Nat.add_zero] at x6
         go_wp2
         go_roundw
         case rel => exact ⟨i + 1, by omega, by go_num, by show Grows _ _ _ _ _ _ _; rw [HEQ.out]; exact HG.out, HV.out⟩
         case measure => simp [intOf]; omega
        have hcn : cn k i = false := by rw [Bool.eq_false_iff]; exact fun h => hci (hcki.2 h)
        have d1 : (cc i == (k : Int)) = false := beq_eq_false_iff_ne.2 hci
        have HEQ := zh (HSK.out (by rw [hcn]; rfl))
        clear hci hcn hcki HSK HAD
        have x5 := HCI.out _ HV.out.below 0 _ rfl
        rw [Nat.add_zero] at x5
        go_wp2
        go_roundw
        case rel => exact ⟨i + 1, by omega, by go_num, by show Grows _ _ _ _ _ _ _; rw [HEQ.out]; exact HG.out, HV.out⟩
        case measure => simp [intOf]; omega
       have hie : i = n := by omega
       rw [hie] at HG ⊢
       have m1 : decide (((n : Nat) : Int) < (n : Int)) = false := decide_eq_false (by omega)
       clear hie hi hin
       have hPL := c4j cn lev part k t n
       have hTL := tirU_len n cn lev part k t
       have hts := c7t (n := n) (cn := cn) (lev := lev) (part := part) (k := k) (t := t)
       have hta := tirU_add (n := n) (cn := cn) (lev := lev) (part := part) (k := k) (t := t)
       obtain ⟨ps, hps⟩ : ∃ ps, ps = prtU cn lev part k t n := ⟨_, rfl⟩
       rw [<- hps] at HG hts hta hPL
       obtain ⟨T, hT⟩ : ∃ T, T = tirU n cn lev part k t := ⟨_, rfl⟩
       rw [<- hT] at HT hTL hts hta
       obtain ⟨A13, c13, rfl, _, _⟩ := (Slc.of_own c2q HG.out rfl).slice
       have HTL := zh hTL
       have HTS := zh hts
       have HTA := zh hta
       clear hPL hTL hts hta hps hT
       have HT2 := zh (HT.out.below HV.out.below)
       have HS4 : Hid (St W1 [⟨W1.heap.size, #[va], 45⟩] wr) := zh (HS2.out.call HV.out.below)
       by_cases hz : ps.length = 0
       ·have d1 : decide ((0 : Int) < (ps.length : Int)) = false := decide_eq_false (by omega)
        have d2 : decide (0 < ps.length) = false := decide_eq_false (by omega)
        have HEQ := zh (HTS.out hz)
        clear hz
        go_wp2
        go_roundw
        case rel => exact ⟨t + 1, va, by omega, by go_num, by show Tir _ _ _ _; rw [HEQ.out]; exact HT2.out, HS4.out⟩
        case measure => simp [intOf]; omega
       have d1 : decide ((0 : Int) < (ps.length : Int)) = true := decide_eq_true (by omega)
       have d2 : decide (0 < ps.length) = true := decide_eq_true (by omega)
       have HEQ := zh (HTA.out hz)
       clear hz
       have x5 := cC HS4 0 0
       have x6 := HS4.out.lt 0 rfl
       have x7 : ¬ W1.heap.size = wr.heap.size := by omega
       have x8 : ¬ wr.heap.size = W1.heap.size := by omega
       have HS5 := aL HS4 #[.slice A13 ps.length c13] 46 wr.heap.size
       obtain ⟨us, HU0⟩ := HT.out
       have HU := HU0.below (Ext.trans HV.out.below (Ext.alloc (Below.refl wr.heap.size wr) (Obj.cells #[.slice A13 ps.length c13] 46)))
       have HUL := zh HU.len
       have hsz := HS5.out.below.size
       have hblk := HS5.out.blk 0 rfl
       skip
       have hpo : c1x _ W1.heap.size (.slice A13 ps.length c13) ps := b2r (Grows.below HG.out (Ext.alloc (Below.refl wr.heap.size wr) (Obj.cells #[.slice A13 ps.length c13] 46))) HS2.out.below.size
       go_wp2_with (at_builtin; refine wpList_append_own _ rfl _ _ 43 rfl W1.heap.size 46 i2 _ 1 24 Tryz.underlying43 hi2 Z20.out z21 z22 rfl (by decide) va us.length us (by simp [Act.eval]) HU.out ⟨wr.heap.size, 0, none⟩ 1 1 [.slice A13 ps.length c13] (by simp [Act.eval]) rfl (b9g hblk rfl) (fun u hu => by rw [List.mem_singleton.1 hu]; rfl) (by have := HUL.out; have := HTL.out; have := LN.out; unfold maxLen; omega) (by have := HUL.out; have := HTL.out; have := LN.out; omega) hsz ?_)
       intro v9 w9 hown5 hg5 _
       have hfrm := World.ownsRow.form hown5 (Nat.succ_pos _)
       have HT5 := zh (HU.put hpo ?ap hown5 hg5)
       case ap => exact HU0.young (Nat.le_refl _) HG.out
       have HSA := zh ((HS5.out.sub (List.sublist_cons_self ..)).turnedO hg5 (fun q hq => (World.ownsRow.lt HU.out q hq).1) (fun x hx => by rw [List.mem_singleton.1 hx]; exact a2y HU.out (HS5.out.blk 1 rfl) (by decide)))
       obtain ⟨g9, c9, rfl, _, _⟩ := hfrm
       generalize us.length + 1 = m9 at *
       clear hown5 hg5 hblk hsz HU HU0 HUL hpo HS5 HS4 HT2 x5 x6 x7 x8
       have x9 := cC HSA 0 0
       have x10 := cF HSA 0 0
       go_wp2
       have HSA6 : Hid (St W1 [⟨W1.heap.size, #[.slice (some ⟨g9, 0, none⟩) m9 c9], 45⟩] _) := zh (St.set (HSA.out) 0 rfl 0 _)
       go_roundw
       case rel => exact ⟨t + 1, .slice (some ⟨g9, 0, none⟩) m9 c9, by omega, by go_num, by show Tir _ _ _ _; rw [HEQ.out]; exact c1z HT5.out (HSA.out.blk 0 rfl), HSA6.out⟩
       case measure => simp [intOf]; omega
     have hte : t = n := by omega
     rw [hte] at HT ⊢
     have f1 : decide (((n : Nat) : Int) < (n : Int)) = false := decide_eq_false (by omega)
     clear hte ht htn
     have hAL := c5x n rb cn lev part k
     have HEQ := zh (c5y (lev := lev) (part := part) HLD.out)
     obtain ⟨AA, hAA⟩ : ∃ AA, AA = agrU n rb cn lev part k := ⟨_, rfl⟩
     rw [<- hAA] at HA hAL HEQ
     obtain ⟨T, hT⟩ : ∃ T, T = tirU n cn lev part k n := ⟨_, rfl⟩
     rw [<- hT] at HT HEQ
     have HAL := zh hAL
     clear hAL hAA hT
     have HA2 := zh (HA.out.below HS2.out.below)
     have x5 := cC HS2 0 0
     have x6 := HS2.out.lt 0 rfl
     have x7 : ¬ W1.heap.size = W2.heap.size := by omega
     have x8 : ¬ W2.heap.size = W1.heap.size := by omega
     have HS5 := aL HS2 #[va] 45 W2.heap.size
     obtain ⟨us, hul, HU, HI⟩ := (HA2.out.below (Ext.alloc (Below.refl W2.heap.size W2) (Obj.cells #[va] 45)))
     have HUL := zh hul
     clear hul
     have hti := ((HT.out.below (Ext.alloc (Below.refl W2.heap.size W2) (Obj.cells #[va] 45)))).mono HS.out.below.size
     have hsz : w.heap.size <= _ := (Ext.trans HS.out.below HS5.out.below).size
     have hblk := HS5.out.blk 0 rfl
     have hone : va.oneCell' = true := by obtain ⟨_, hh⟩ := HT.out; exact c2t hh.out
     go_wp2_with (at_builtin; refine wpList_append_own _ rfl _ _ 27 rfl w.heap.size 45 i3 _ 1 24 Tryz.underlying27 hi3 Z30.out z31 z32 rfl (by decide) u9 us.length us (by simp [Act.eval]) HU ⟨W2.heap.size, 0, none⟩ 1 1 [va] (by simp [Act.eval]) rfl (b9g hblk rfl) (fun u hu => by rw [List.mem_singleton.1 hu]; exact hone) (by have := HUL.out; have := HAL.out; have := LN.out; unfold maxLen; omega) (by have := HUL.out; have := HAL.out; have := LN.out; omega) hsz ?_)
     intro v9 w9 hown5 hg5 _
     have HA5 := zh (Agr.put HUL.out HU HI hti hown5 hg5)
     have HSA := zh ((HS.out.call HS5.out.below).turnedO hg5 (fun q hq => (World.ownsRow.lt HU q hq).1) (fun x hx => by rcases List.mem_cons.1 hx with rfl | hx; exact a2y HU ((HS.out.call HS5.out.below).blk 0 rfl) (by decide); rw [List.mem_singleton.1 hx]; exact a2y HU ((HS.out.call HS5.out.below).blk 1 rfl) (by decide)))
     clear hown5 hg5 hblk hsz HUL HU HI hti hone HS5 HA2 x5 x6 x7 x8
     go_wp2
     go_roundw
     case rel => exact ⟨k + 1, by omega, by go_num, by show Agr _ _ _ _; rw [HEQ.out]; exact HA5.out, HSA.out⟩
     case measure => simp [intOf]; omega
   have d1 : (cc k != (k : Int)) = true := bne_iff_ne.2 hck
   have HNL := zh (show b4n n rb cn k = false from by rw [Bool.eq_false_iff]; exact fun h => hck (HLK.out.1.1 h))
   clear hck
   have x1 := HS.out.cellE 0 rfl hkn
   go_wp2
   go_roundw
   case rel => exact ⟨k + 1, by omega, by go_num, by show Agr _ _ _ _; rw [b5q HNL.out]; exact HA.out, HS.out⟩
   case measure => simp [intOf]; omega
  have hke : k = n := by omega
  rw [hke] at HA ⊢
  have e1 : decide (((n : Nat) : Int) < (n : Int)) = false := decide_eq_false (by omega)
  clear hke hk hkn
  go_wp2
  go_ret
  exact ⟨u9, _, rfl, HA.out, HAGL.out, HS.out.below⟩
end Go.Proofs.YtgdhpghfojccaaaGreatDoor
