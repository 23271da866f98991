/-
Part 34 of the base.
-/
import Derived.Test.YtgdhpghfojccaaaDoorRe25
import Derived.Deep.AppendLies
import Derived.Test.YtgdhpghfojccaaaDoorRe33
namespace Go.Proofs.YtgdhpghfojccaaaDoor
open Go.RowKit
def rawL (u : Value) : List Value := [u]
theorem a7u (u : Value) : (rawL u).length = 1 := rfl
theorem a6n : ∀ us : List Value, flat rawL us = us
 | [] => rfl
 | u :: us => by rw [flat, a6n us]; rfl
abbrev PartL (w : World) (v : Value) (ps : List Prt) : Prop := Slc Prt.enc 5 w v ps
def NstL {α : Type} (P : World -> Value -> α -> Prop) (w : World) (v : Value) (xs : List α) : Prop := ∃ us : List Value, us.length = xs.length /\ Slc rawL 1 w v us /\ ∀ (i : Nat) (x : α) (u : Value), xs[i]? = some x -> us[i]? = some u -> P w u x
section
variable {α : Type} {P : World -> Value -> α -> Prop} {w w' : World} {v : Value} {xs : List α}
theorem NstL.below (hP : ∀ w w' v x, P w v x -> Below w.heap.size w w' -> P w' v x) (h : NstL P w v xs) (hb : Below w.heap.size w w') : NstL P w' v xs := by
 obtain ⟨us, h1, h2, h3⟩ := h
 exact ⟨us, h1, h2.below hb, fun i x u hx hu => hP _ _ _ _ (h3 i x u hx hu) hb⟩
theorem NstL.slice (h : NstL P w v xs) : ∃ A c, v = .slice A xs.length c /\ xs.length <= c /\ c <= 9223372036854775807 := by
 obtain ⟨us, h1, h2, _⟩ := h
 rw [<- h1]
 exact h2.slice
theorem NstL.nil_ (w : World) (A : Option Addr) (c : Nat) (hc : c <= 9223372036854775807) : NstL P w (.slice A 0 c) [] := ⟨[], rfl, Slc.nil_ _ _ _ _ _ hc, fun i x u hx => by simp at hx⟩
theorem NstL.at_ {A : Option Addr} {n c : Nat} (h : NstL P w (.slice A n c) xs) {j : Nat} (hj : j < xs.length) :
  ∃ b o u x, A = some ⟨b, o, none⟩ /\ b < w.heap.size /\ xs[j]? = some x /\ P w u x /\ ∀ w', Below w.heap.size w w' -> ∀ i y, [u][i]? = some y -> w'.cell? ⟨b, o + j + i, none⟩ = some y := by
 obtain ⟨us, h1, h2, h3⟩ := h
 obtain ⟨b, o, u, hA, hb, hu, hx⟩ := h2.at_ (j := j) (by omega)
 refine ⟨b, o, u, _, hA, hb, List.getElem?_eq_getElem hj, h3 j _ u (List.getElem?_eq_getElem hj) hu, fun w' hw i y hy => ?_⟩
 have := hx w' hw i y hy
 rwa [Nat.mul_one] at this
end
def TierL : World -> Value -> List (List Prt) -> Prop := NstL PartL
def AgrL : World -> Value -> List (List (List Prt)) -> Prop := NstL TierL
theorem TierL.below {w w' : World} {v : Value} {T : List (List Prt)} (h : TierL w v T) (hb : Below w.heap.size w w') : TierL w' v T := NstL.below (fun _ _ _ _ h hb => Slc.below h hb) h hb
theorem AgrL.below {w w' : World} {v : Value} {A : List (List (List Prt))} (h : AgrL w v A) (hb : Below w.heap.size w w') : AgrL w' v A := NstL.below (fun _ _ _ _ h hb => TierL.below h hb) h hb
theorem a2m {w w' : World} {base k n : Nat} {e : TypeId} {v : Value} {xs : List Value} {o : Option Nat} (h : World.ownsRow w base e k v n xs) (hg : w.grownBy w' o) (ho : ∀ g, o = some g -> ∃ cs t, Blk w g cs t /\ t ≠ e) : World.ownsRow w' base e k v n xs := by
 refine h.kept hg ?_
 cases hv : v.ownBlock with
 | none => exact .inl rfl
 | some g =>
  right
  intro e1
  obtain ⟨cs, t, hB, ht⟩ := ho g e1.symm
  exact a3g h hB ht hv
theorem b3f {w : World} {base k n : Nat} {e : TypeId} {v : Value} {xs : List Value} (h : World.ownsRow w base e k v n xs) : ∀ g, v.ownBlock = some g -> ∃ cs t, Blk w g cs t /\ t = e := by
 intro g hg
 rcases h.2 with ⟨rfl, _⟩ | ⟨g', cap, cur, rfl, _, hB, _⟩
 ·cases hg
 have e2 : g' = g := by simpa [Value.ownBlock] using hg
 subst e2
 exact ⟨cur, e, hB, rfl⟩
theorem a2w {w : World} {base k n : Nat} {e t : TypeId} {v : Value} {xs : List Value} (h : World.ownsRow w base e k v n xs) (ht : e ≠ t) : ∀ g, v.ownBlock = some g -> ∃ cs t', Blk w g cs t' /\ t' ≠ t := by
 intro g hg
 obtain ⟨cs, t', hB, rfl⟩ := b3f h g hg
 exact ⟨cs, _, hB, ht⟩
theorem b8n {w : World} {base k n : Nat} {e : TypeId} {v : Value} {xs : List Value} (h : World.ownsRow w base e k v n xs) : v.oneCell' = true := by
 rcases h.2 with ⟨rfl, _⟩ | ⟨g', cap, cur, rfl, _⟩ <;> rfl
theorem b5v {w : World} {B B' n k : Nat} {e : TypeId} {v : Value} {xs : List Value} (h : World.ownsRow w B e k v n xs) (hb : B' <= B) : World.ownsRow w B' e k v n xs := by
 refine ⟨h.1, ?_⟩
 rcases h.2 with ⟨rfl, h0⟩ | ⟨g, cap, cur, rfl, hbl, hrest⟩
 ·exact .inl ⟨rfl, h0⟩
 exact .inr ⟨g, cap, cur, rfl, Nat.le_trans hb hbl, hrest⟩
abbrev b7s (w : World) (base : Nat) (u : Value) (ps : List Prt) : Prop := World.ownsRow w base 61 5 u ps.length (flat Prt.enc ps)
def b6n (a b : Value) : Prop := ∀ g, a.ownBlock = some g -> b.ownBlock ≠ some g
structure TirU (w : World) (base : Nat) (v : Value) (us : List Value) (T : List (List Prt)) : Prop where
 len : us.length = T.length
 out : World.ownsRow w base 59 1 v us.length us
 inn : ∀ (t : Nat) (u : Value) (ps : List Prt), us[t]? = some u -> T[t]? = some ps -> b7s w base u ps
 apart : us.Pairwise b6n
def Tir (w : World) (base : Nat) (v : Value) (T : List (List Prt)) : Prop := ∃ us, TirU w base v us T
section
variable {w w' : World} {base : Nat} {v : Value} {us : List Value} {T : List (List Prt)}
theorem Tir.nil (w : World) (base : Nat) : Tir w base (.slice none 0 0) [] := ⟨[], rfl, World.ownsRow_nil _ _ _ _, fun t u ps h => by simp at h, List.Pairwise.nil⟩
theorem TirU.at_ (h : TirU w base v us T) {t : Nat} (ht : t < T.length) : ∃ u ps, us[t]? = some u /\ T[t]? = some ps /\ b7s w base u ps := by
 have h1 : t < us.length := by rw [h.len]; exact ht
 exact ⟨_, _, List.getElem?_eq_getElem h1, List.getElem?_eq_getElem ht, h.inn t _ _ (List.getElem?_eq_getElem h1) (List.getElem?_eq_getElem ht)⟩
theorem TirU.one (h : TirU w base v us T) : ∀ u ∈ us, u.oneCell' = true := by
 intro u hu
 obtain ⟨t, ht⟩ := List.mem_iff_getElem?.1 hu
 have h1 := (List.getElem?_eq_some_iff.1 ht).1
 exact b8n (h.inn t u _ ht (List.getElem?_eq_getElem (by rw [<- h.len]; exact h1)))
theorem TirU.below (h : TirU w base v us T) (hb : Below w.heap.size w w') : TirU w' base v us T :=
 ⟨h.len, Grows.below h.out hb, fun t u ps h1 h2 => Grows.below (h.inn t u ps h1 h2) hb, h.apart⟩
theorem Tir.below (h : Tir w base v T) (hb : Below w.heap.size w w') : Tir w' base v T := by
 obtain ⟨us, hu⟩ := h
 exact ⟨us, hu.below hb⟩
theorem TirU.mono {base' : Nat} (h : TirU w base v us T) (hb : base' <= base) : TirU w base' v us T := ⟨h.len, b5v h.out hb, fun t u ps h1 h2 => b5v (h.inn t u ps h1 h2) hb, h.apart⟩
theorem Tir.grown {o : Option Nat} (h : Tir w base v T) (hg : w.grownBy w' o) (ho : ∀ g, o = some g -> ∃ cs t, Blk w g cs t /\ t ≠ 59 /\ t ≠ 61) : Tir w' base v T := by
 obtain ⟨us, h⟩ := h
 exact ⟨us, h.len, a2m h.out hg (fun g e => by obtain ⟨cs, t, h1, h2, _⟩ := ho g e; exact ⟨cs, t, h1, h2⟩), fun t u ps h1 h2 => a2m (h.inn t u ps h1 h2) hg (fun g e => by obtain ⟨cs, t, h1, _, h2⟩ := ho g e; exact ⟨cs, t, h1, h2⟩), h.apart⟩
theorem Tir.toL (h : Tir w base v T) : TierL w v T := by
 obtain ⟨us, h⟩ := h
 exact ⟨us, h.len, Slc.of_own a7u (by rw [a6n]; exact h.out) rfl, fun i x u hx hu => Slc.of_own prt_len (h.inn i u x hu hx) rfl⟩
theorem TirU.put {u v' : Value} {ps : List Prt} (h : TirU w base v us T) (hu : b7s w base u ps) (hnew : ∀ a ∈ us, b6n a u) (ho : World.ownsRow w' base 59 1 v' (us.length + 1) (us ++ [u])) (hg : w.grownBy w' v.ownBlock) : Tir w' base v' (T ++ [ps]) := by
 refine ⟨us ++ [u], by rw [List.length_append, List.length_append, h.len]; rfl, by rw [List.length_append]; exact ho, fun t a qs ha hq => ?_, ?_⟩
 ·have key : b7s w base a qs -> b7s w' base a qs := fun hp => a2m hp hg (a2w h.out (by decide))
  rw [List.getElem?_append] at ha hq
  by_cases ht : t < us.length
  ·rw [if_pos ht] at ha
   rw [if_pos (by rw [<- h.len]; exact ht)] at hq
   exact key (h.inn t a qs ha hq)
  rw [if_neg ht] at ha
  rw [if_neg (by rw [<- h.len]; exact ht), <- h.len] at hq
  cases hd : t - us.length with
  | zero =>
   rw [hd] at ha hq
   obtain rfl : u = a := by simpa using ha
   obtain rfl : ps = qs := by simpa using hq
   exact key hu
  | succ m => rw [hd] at ha; simp at ha
 rw [List.pairwise_append]
 exact ⟨h.apart, List.pairwise_singleton _ _, fun a ha b hb => by obtain rfl := List.mem_singleton.1 hb; exact hnew a ha⟩
theorem c0b (a : Value) : b6n a (.slice none 0 0) := fun g _ => by simp [Value.ownBlock]
theorem TirU.app {t go cap g' : Nat} {u u' : Value} {ps : List Prt} {p : Prt} {w1 : World} (h : TirU w base (.slice (some ⟨go, 0, none⟩) us.length cap) us T) (hu : us[t]? = some u) (hT : T[t]? = some ps) (hg : w.grownBy w1 u.ownBlock) (hat : u.ownBlock = some g' \/ w.heap.size <= g') (he : u'.ownBlock = some g')
  (hu' : World.ownsRow w1 base 61 5 u' (ps.length + 1) (flat Prt.enc (ps ++ [p]))) : TirU (w1.setCell ⟨go, t, none⟩ u') base (.slice (some ⟨go, 0, none⟩) us.length cap) (us.set t u') (T.set t (ps ++ [p])) := by
 have hup := h.inn t u ps hu hT
 have htl := (List.getElem?_eq_some_iff.1 hu).1
 have ho1 : World.ownsRow w1 base 59 1 (.slice (some ⟨go, 0, none⟩) us.length cap) us.length us := a2m h.out hg (a2w hup (by decide))
 obtain ⟨ho2, hg2⟩ := World.ownsRow.stored ho1 t u'
 have key : ∀ {a : Value} {n : Nat} {xs : List Value}, World.ownsRow w1 base 61 5 a n xs -> World.ownsRow (w1.setCell ⟨go, t, none⟩ u') base 61 5 a n xs := fun ha => a2m ha hg2 (fun g e => by
  obtain ⟨cs, hB⟩ := b8p ho1
  obtain rfl := Option.some.inj e
  exact ⟨cs, _, hB, by decide⟩)
 have hother : ∀ (s : Nat) (a : Value), s ≠ t -> us[s]? = some a -> ∀ g, a.ownBlock = some g -> u.ownBlock ≠ some g := by
  intro s a hs ha g hag hug
  have hsl := (List.getElem?_eq_some_iff.1 ha).1
  have hA := List.pairwise_iff_getElem.1 h.apart
  rcases Nat.lt_or_ge s t with hlt | hge
  ·have := hA s t hsl htl hlt
   rw [(List.getElem?_eq_some_iff.1 ha).2, (List.getElem?_eq_some_iff.1 hu).2] at this
   exact this g hag hug
  have := hA t s htl hsl (by omega)
  rw [(List.getElem?_eq_some_iff.1 ha).2, (List.getElem?_eq_some_iff.1 hu).2] at this
  exact this g hug hag
 have hkeep : ∀ (s : Nat) (a : Value) (qs : List Prt), s ≠ t -> us[s]? = some a -> T[s]? = some qs -> b7s w1 base a qs := fun s a qs hs ha hq => by
  refine (h.inn s a qs ha hq).kept hg ?_
  cases hav : a.ownBlock with
  | none => exact .inl rfl
  | some g => right; intro e1; exact hother s a hs ha g hav e1.symm
 refine ⟨by rw [List.length_set, List.length_set, h.len], by rw [List.length_set]; exact ho2, fun s a qs ha hq => ?_, ?_⟩
 ·by_cases hs : s = t
  ·subst hs
   rw [List.getElem?_set_self htl] at ha
   rw [List.getElem?_set_self (by rw [<- h.len]; exact htl)] at hq
   obtain rfl := Option.some.inj ha
   obtain rfl := Option.some.inj hq
   refine key ?_
   rw [List.length_append]; exact hu'
  rw [List.getElem?_set_ne (fun e => hs e.symm)] at ha hq
  exact key (hkeep s a qs hs ha hq)
 rw [List.pairwise_iff_getElem]
 intro a b ha hb hab g h1 h2
 rw [List.length_set] at ha hb
 have low : ∀ (s : Nat) (hs : s < us.length), s ≠ t -> ∀ g, (us[s]).ownBlock = some g -> g ≠ g' := by
  intro s hs hst g hg1 e
  subst e
  rcases hat with hat | hat
  ·exact hother s _ hst (List.getElem?_eq_getElem hs) g hg1 hat
  have := (World.ownsRow.lt (h.inn s _ _ (List.getElem?_eq_getElem hs) (List.getElem?_eq_getElem (by rw [<- h.len]; exact hs))) g hg1).2
  omega
 rw [List.getElem_set] at h1 h2
 by_cases e1 : t = a
 ·rw [if_pos e1, he] at h1
  rw [if_neg (by omega)] at h2
  exact low b hb (by omega) g h2 (Option.some.inj h1).symm
 rw [if_neg e1] at h1
 by_cases e2 : t = b
 ·rw [if_pos e2, he] at h2
  exact low a ha (by omega) g h1 (Option.some.inj h2).symm
 rw [if_neg e2] at h2
 exact List.pairwise_iff_getElem.1 h.apart a b ha hb hab g h1 h2
end
theorem Tir.mono {w : World} {base base' : Nat} {v : Value} {T : List (List Prt)} (h : Tir w base v T) (hb : base' <= base) : Tir w base' v T := by
 obtain ⟨us, hu⟩ := h
 exact ⟨us, hu.mono hb⟩
theorem b4g {w w' : World} {base k n g : Nat} {e : TypeId} {v : Value} {xs : List Value} (h : World.ownsRow w base e k v n xs) (hg : w.grownBy w' (some g)) (hlt : g < base) : World.ownsRow w' base e k v n xs := by
 refine h.kept hg ?_
 cases hv : v.ownBlock with
 | none => exact .inl rfl
 | some q =>
  right
  intro e1
  have := (World.ownsRow.lt h q hv).1
  have := Option.some.inj e1
  omega
theorem Tir.far {w w' : World} {base g : Nat} {v : Value} {T : List (List Prt)} (h : Tir w base v T) (hg : w.grownBy w' (some g)) (hlt : g < base) : Tir w' base v T := by
 obtain ⟨us, h⟩ := h
 exact ⟨us, h.len, b4g h.out hg hlt, fun t u ps h1 h2 => b4g (h.inn t u ps h1 h2) hg hlt, h.apart⟩
def Agr (w : World) (base : Nat) (v : Value) (A : List (List (List Prt))) : Prop := ∃ us : List Value, us.length = A.length /\ World.ownsRow w base 58 1 v us.length us /\ ∀ (k : Nat) (u : Value) (T : List (List Prt)), us[k]? = some u -> A[k]? = some T -> Tir w base u T
section
variable {w w' : World} {base : Nat} {v : Value} {A : List (List (List Prt))}
theorem Agr.nil (w : World) (base : Nat) : Agr w base (.slice none 0 0) [] := ⟨[], rfl, World.ownsRow_nil _ _ _ _, fun k u T h => by simp at h⟩
theorem Agr.below (h : Agr w base v A) (hb : Below w.heap.size w w') : Agr w' base v A := by
 obtain ⟨us, h1, h2, h3⟩ := h
 exact ⟨us, h1, Grows.below h2 hb, fun k u T hu hT => (h3 k u T hu hT).below hb⟩
theorem Agr.toL (h : Agr w base v A) : AgrL w v A := by
 obtain ⟨us, h1, h2, h3⟩ := h
 exact ⟨us, h1, Slc.of_own a7u (by rw [a6n]; exact h2) rfl, fun i x u hx hu => (h3 i u x hu hx).toL⟩
theorem Agr.put {us : List Value} {u v' : Value} {T : List (List Prt)} (h1 : us.length = A.length) (h2 : World.ownsRow w base 58 1 v us.length us) (h3 : ∀ (k : Nat) (u : Value) (T : List (List Prt)), us[k]? = some u -> A[k]? = some T -> Tir w base u T)
  (hu : Tir w base u T) (ho : World.ownsRow w' base 58 1 v' (us.length + 1) (us ++ [u])) (hg : w.grownBy w' v.ownBlock) : Agr w' base v' (A ++ [T]) := by
 have hk : ∀ g, v.ownBlock = some g -> ∃ cs t, Blk w g cs t /\ t ≠ 59 /\ t ≠ 61 := fun g e => by
  obtain ⟨cs, t, hB, rfl⟩ := b3f h2 g e
  exact ⟨cs, _, hB, by decide, by decide⟩
 refine ⟨us ++ [u], by rw [List.length_append, List.length_append, h1]; rfl, by rw [List.length_append]; exact ho, fun k a S ha hS => ?_⟩
 rw [List.getElem?_append] at ha hS
 by_cases ht : k < us.length
 ·rw [if_pos ht] at ha
  rw [if_pos (by rw [<- h1]; exact ht)] at hS
  exact (h3 k a S ha hS).grown hg hk
 rw [if_neg ht] at ha
 rw [if_neg (by rw [<- h1]; exact ht), <- h1] at hS
 cases hd : k - us.length with
 | zero =>
  rw [hd] at ha hS
  obtain rfl : u = a := by simpa using ha
  obtain rfl : T = S := by simpa using hS
  exact hu.grown hg hk
 | succ m => rw [hd] at ha; simp at ha
theorem Agr.far {g i : Nat} (h : Agr w base v A) (hlt : g < base) (y : Value) : Agr (w.setCell ⟨g, i, none⟩ y) base v A := by
 obtain ⟨us, h1, h2, h3⟩ := h
 exact ⟨us, h1, b4g h2 (a2c w ⟨g, i, none⟩ y) hlt, fun k u T hu hT => (h3 k u T hu hT).far (a2c w ⟨g, i, none⟩ y) hlt⟩
end
theorem b9p : (Tryd.prog.info? 61).map (fun i => (i.zero, i.size, i.bytes)) = some (some (.agg #[.int .i64 0, .bool false, .bool false, .string (bs []), .string (bs [])]), 5, 56) := by kernel_rfl
theorem b8m : ∃ i, Tryd.prog.info? 61 = some i /\ i.zero = some (.agg #[.int .i64 0, .bool false, .bool false, .string (bs []), .string (bs [])]) /\ i.size = 5 /\ i.bytes = 56 := by
 obtain ⟨i, hi, hzz⟩ := Option.map_eq_some_iff.1 b9p
 simp only [Prod.mk.injEq] at hzz
 exact ⟨i, hi, hzz⟩
theorem b9n : (Tryd.prog.info? 59).map (fun i => (i.zero, i.size, i.bytes)) = some (some (.slice none 0 0), 1, 24) := by kernel_rfl
theorem b8k : ∃ i, Tryd.prog.info? 59 = some i /\ i.zero = some (.slice none 0 0) /\ i.size = 1 /\ i.bytes = 24 := by
 obtain ⟨i, hi, hzz⟩ := Option.map_eq_some_iff.1 b9n
 simp only [Prod.mk.injEq] at hzz
 exact ⟨i, hi, hzz⟩
theorem b6f : (Tryd.prog.info? 58).map (fun i => (i.zero, i.size, i.bytes)) = some (some (.agg #[.slice none 0 0]), 1, 24) := by kernel_rfl
theorem agr_info : ∃ i, Tryd.prog.info? 58 = some i /\ i.zero = some (.agg #[.slice none 0 0]) /\ i.size = 1 /\ i.bytes = 24 := by
 obtain ⟨i, hi, hzz⟩ := Option.map_eq_some_iff.1 b6f
 simp only [Prod.mk.injEq] at hzz
 exact ⟨i, hi, hzz⟩
theorem prt_one (p : Prt) : ∀ u ∈ p.enc, u.oneCell' = true := by
 intro u hu
 simp only [Prt.enc, List.mem_cons, List.not_mem_nil, or_false] at hu
 rcases hu with rfl | rfl | rfl | rfl | rfl <;> rfl
def agrU (n : Nat) (r cn : Nat -> Nat -> Bool) (lev : Nat -> Nat) (part : Nat -> Prt) (k : Nat) : List (List (List Prt)) := ((List.range k).filter (b3r n r cn)).map (b2s n lev cn part)
def tirU (n : Nat) (cn : Nat -> Nat -> Bool) (lev : Nat -> Nat) (part : Nat -> Prt) (k t : Nat) : List (List Prt) := ((List.range t).map (a5r n lev cn part k)).filter fun t => !t.isEmpty
theorem b4b {n : Nat} {r cn : Nat -> Nat -> Bool} {lev : Nat -> Nat} {part : Nat -> Prt} {k : Nat} (h : b3r n r cn k = false) : agrU n r cn lev part (k + 1) = agrU n r cn lev part k := by
 unfold agrU
 rw [a1j, if_neg (by rw [h]; decide), List.append_nil]
theorem agrU_add {n : Nat} {r cn : Nat -> Nat -> Bool} {lev : Nat -> Nat} {part : Nat -> Prt} {k : Nat} (h : b3r n r cn k = true) : agrU n r cn lev part (k + 1) = agrU n r cn lev part k ++ [tirU n cn lev part k n] := by
 unfold agrU
 rw [a1j, if_pos h, List.map_append]
 rfl
theorem agrU_len (n : Nat) (r cn : Nat -> Nat -> Bool) (lev : Nat -> Nat) (part : Nat -> Prt) (k : Nat) : (agrU n r cn lev part k).length <= k := by
 unfold agrU
 rw [List.length_map]
 exact Nat.le_trans (List.length_filter_le _ _) (by rw [List.length_range]; exact Nat.le_refl _)
theorem b7y {w : World} {base g i : Nat} {v u : Value} {cs : Array Value} {T : List (List Prt)} (h : Tir w base v T) (hB : Blk w g cs 58) : Tir (w.setCell ⟨g, i, none⟩ u) base v T :=
 h.grown (a2c w ⟨g, i, none⟩ u) (fun g' e => by obtain rfl := Option.some.inj e; exact ⟨cs, _, hB, by decide, by decide⟩)
end Go.Proofs.YtgdhpghfojccaaaDoor
