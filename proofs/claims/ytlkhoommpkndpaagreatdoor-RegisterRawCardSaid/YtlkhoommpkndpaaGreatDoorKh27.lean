/-
Part 27 of the base.
-/
import Derived.Test.YtlkhoommpkndpaaGreatDoorKh26
import Derived.Test.YtlkhoommpkndpaaGreatDoorKh29
namespace Go.Proofs.YtlkhoommpkndpaaGreatDoor
open Go.RowKit
theorem b9y {x : Ent} {e : Evt} (h : (a0f x e).2 = 0) : a1d e.kind x.st = true /\
    ((e.kind = 2 /\ (a0f x e).1 = { x with st := 2, fl := enc3 x.ce.val, ad := enc3 x.ce.val }) \/
     (e.kind = 3 /\ inB e.am.val 0 x.ce.val = true /\ (a0f x e).1 = { x with st := 3, fl := enc3 e.am.val, ad := enc3 e.am.val }) \/
     (e.kind = 4 /\ inB e.am.val x.fl.val x.ce.val = true /\ (a0f x e).1 = { x with st := 4, ad := enc3 e.am.val }) \/
     (e.kind = 5 /\ (a0f x e).1 = { x with st := 5 }) \/
     (e.kind = 6 /\ inB e.am.val x.fl.val x.ce.val = true /\ (a0f x e).1 = { x with st := 6, fl := enc3 e.am.val, ad := enc3 e.am.val, ce := enc3 e.am.val }) \/
     (e.kind = 9 /\ (a0f x e).1 = { x with st := 6, fl := enc3 x.ad.val, ce := enc3 x.ad.val }) \/
     (e.kind = 7 /\ (a0f x e).1 = { x with st := 7, fl := zero3, ad := zero3, ce := zero3 }) \/
     (¬ (e.cre < 0 \/ 32 <= e.cre \/ e.cre = x.p.cre) /\ (a0f x e).1 = { x with p := { x.p with cre := e.cre }, acq := e.day })) := by
  unfold a0f at h ⊢
  by_cases h0 : a1d e.kind x.st = false
  · rw [if_pos h0] at h; exact absurd h (by simp)
  rw [if_neg h0] at h ⊢
  refine ⟨by simpa using h0, ?_⟩
  by_cases h2 : e.kind = 2
  · rw [if_pos h2]; exact .inl ⟨h2, rfl⟩
  rw [if_neg h2] at h ⊢
  by_cases h3 : e.kind = 3
  · rw [if_pos h3] at h ⊢
    by_cases hi : inB e.am.val 0 x.ce.val = true
    · rw [if_pos hi]; exact .inr (.inl ⟨h3, hi, rfl⟩)
    rw [if_neg hi] at h; exact absurd h (by simp)
  rw [if_neg h3] at h ⊢
  by_cases h4 : e.kind = 4
  · rw [if_pos h4] at h ⊢
    by_cases hi : inB e.am.val x.fl.val x.ce.val = true
    · rw [if_pos hi]; exact .inr (.inr (.inl ⟨h4, hi, rfl⟩))
    rw [if_neg hi] at h; exact absurd h (by simp)
  rw [if_neg h4] at h ⊢
  by_cases h5 : e.kind = 5
  · rw [if_pos h5]; exact .inr (.inr (.inr (.inl ⟨h5, rfl⟩)))
  rw [if_neg h5] at h ⊢
  by_cases h6 : e.kind = 6
  · rw [if_pos h6] at h ⊢
    by_cases hi : inB e.am.val x.fl.val x.ce.val = true
    · rw [if_pos hi]; exact .inr (.inr (.inr (.inr (.inl ⟨h6, hi, rfl⟩))))
    rw [if_neg hi] at h; exact absurd h (by simp)
  rw [if_neg h6] at h ⊢
  by_cases h9 : e.kind = 9
  · rw [if_pos h9]; exact .inr (.inr (.inr (.inr (.inr (.inl ⟨h9, rfl⟩)))))
  rw [if_neg h9] at h ⊢
  by_cases h7 : e.kind = 7
  · rw [if_pos h7]; exact .inr (.inr (.inr (.inr (.inr (.inr (.inl ⟨h7, rfl⟩))))))
  rw [if_neg h7] at h ⊢
  by_cases hc : e.cre < 0 \/ 32 <= e.cre \/ e.cre = x.p.cre
  · rw [if_pos hc] at h; exact absurd h (by simp)
  rw [if_neg hc]; exact .inr (.inr (.inr (.inr (.inr (.inr (.inr ⟨hc, rfl⟩))))))

theorem find_id {l : List Ent} {id : List UInt8} {i : Nat} (h : a3h l id = some i) : ∃ x, l[i]? = some x /\ x.p.id = id := by
 unfold a3h at h
 rw [List.findIdx?_eq_some_iff_getElem] at h
 obtain ⟨hl, he, _⟩ := h
 exact ⟨l[i], List.getElem?_eq_getElem hl, by simpa using he⟩
theorem c2c {r : Rgs} {e : Evt} {qs : List Quo} (h : (a0y r e qs).2 = 0) : (r.day <= e.day /\ dayB e.day = true /\ 1 <= e.kind /\ e.kind <= 9) /\
    ((e.kind = 1 /\ (a0t e.p r.cut qs).2 = 0 /\ (a3h r.es e.p.id).isSome = false /\ r.es.length < 64 /\ (a0y r e qs).1 = ⟨r.cut, r.bar, e.day, r.es ++ [newE e.p e.day r.bar (a0t e.p r.cut qs).1]⟩) \/
     (∃ i x, 2 <= e.kind /\ a3h r.es e.id = some i /\ r.es[i]? = some x /\ (a0f x e).2 = 0 /\ (a0y r e qs).1 = ⟨r.cut, r.bar, e.day, r.es.set i { (a0f x e).1 with chg := e.day }⟩)) := by
  unfold a0y at h ⊢
  by_cases h1 : e.kind < 1 \/ 9 < e.kind \/ dayB e.day = false
  · rw [if_pos h1] at h; exact absurd h (by simp)
  rw [if_neg h1] at h ⊢
  by_cases h2 : e.day < r.day
  · rw [if_pos h2] at h; exact absurd h (by simp)
  rw [if_neg h2] at h ⊢
  have hd : dayB e.day = true := by
    cases hb : dayB e.day
    · exact absurd (.inr (.inr hb)) h1
    rfl
  refine ⟨⟨by omega, hd, by omega, by omega⟩, ?_⟩
  by_cases h3 : e.kind = 1
  · rw [if_pos h3] at h ⊢
    by_cases h4 : (a0t e.p r.cut qs).2 ≠ 0
    · rw [if_pos h4] at h; exact absurd h h4
    rw [if_neg h4] at h ⊢
    by_cases h5 : (a3h r.es e.p.id).isSome = true
    · rw [if_pos h5] at h; exact absurd h (by simp)
    rw [if_neg h5] at h ⊢
    by_cases h6 : 64 <= r.es.length
    · rw [if_pos h6] at h; exact absurd h (by simp)
    rw [if_neg h6]
    exact .inl ⟨h3, Classical.not_not.1 h4, by simpa using h5, by omega, rfl⟩
  rw [if_neg h3] at h ⊢
  right
  cases hf : a3h r.es e.id with
  | none => rw [hf] at h; exact absurd h (by simp)
  | some i =>
    obtain ⟨x, hx, _⟩ := find_id hf
    rw [hf] at h
    dsimp only at h ⊢
    rw [hx] at h ⊢
    dsimp only at h ⊢
    by_cases h7 : (a0f x e).2 ≠ 0
    · rw [if_pos h7] at h; exact absurd h h7
    rw [if_neg h7]
    exact ⟨i, x, by omega, rfl, hx, Classical.not_not.1 h7, rfl⟩
theorem c6t {r : Rgs} {e : Evt} {qs : List Quo} (h : (a0y r e qs).2 ≠ 0) : (a0y r e qs).1 = rgs0 := by
 unfold a0y at h ⊢
 split
 ·rfl
 split
 ·rfl
 split
 ·split
  ·rfl
  split
  ·rfl
  split
  ·rfl
  rename_i h1 h2 h3 h4 h5 h6
  rw [if_neg h1, if_neg h2, if_pos h3, if_neg h4, if_neg h5, if_neg h6] at h
  exact absurd rfl h
 rename_i h1 h2 h3
 rw [if_neg h1, if_neg h2, if_neg h3] at h
 cases hf : a3h r.es e.id with
 | none => rfl
 | some i =>
  rw [hf] at h
  dsimp only at h ⊢
  cases hx : r.es[i]? with
  | none => rfl
  | some x =>
   rw [hx] at h
   dsimp only at h ⊢
   split
   ·rfl
   rename_i h7
   rw [if_neg h7] at h
   exact absurd rfl h
structure Six where
 a : Nat
 b : Nat
 c : Nat
 d : Nat
 e : Nat
 f : Nat
def Six.enc (x : Six) : List Value := [.int .u16 (x.a : Nat), .int .u16 (x.b : Nat), .int .u16 (x.c : Nat), .int .u16 (x.d : Nat), .int .u16 (x.e : Nat), .int .u16 (x.f : Nat)]
def Six.ok (x : Six) : Prop := x.a <= 65535 /\ x.b <= 65535 /\ x.c <= 65535 /\ x.d <= 65535 /\ x.e <= 65535 /\ x.f <= 65535
structure ActN where
 kind : Nat
 pass : Nat
 claim : Nat
 am : Nat
 p : Six
def ActN.enc (a : ActN) : List Value := [.int .u8 (a.kind : Nat), .int .u8 (a.pass : Nat), .int .u8 (a.claim : Nat), .int .u16 (a.am : Nat)] ++ a.p.enc
def ActN.ok (a : ActN) : Prop := (a.kind <= 255 /\ a.pass <= 255 /\ a.claim <= 255 /\ a.am <= 65535) /\ a.p.ok
def prf0 : Prf := ⟨[], 0, 0, [], false, [], [], 0, 0, false, [], [], 0, 0⟩
theorem c3j {α β : Type} {f : β -> α -> β} {s : β} {l : List α} {k : Nat} {x : α} (h : l[k]? = some x) : (l.take (k + 1)).foldl f s = f ((l.take k).foldl f s) x := by
 rw [b4e h, List.foldl_append]; rfl
def Raw3.le (t : Raw3) (n : Nat) : Prop := t.a.length <= n /\ t.b.length <= n
def Prf.mid (p : Prf) : Prop := p.fit /\ (p.aa.length <= 100 /\ p.ab.length <= 100) /\ p.ra.length <= 100 /\ p.rb.length <= 100
def Ent.mid (x : Ent) : Prop := x.fit /\ x.fl.le 10000 /\ x.ad.le 10000 /\ x.ce.le 10000
def Evt.mid (e : Evt) : Prop := e.am.le 10000 /\ e.p.mid
def Quo.low (q : Quo) : Prop := q.num.length <= 100 /\ q.den.length <= 100
theorem b9w {q : Rat} {n : Nat} (h : Sized n q) : (enc3 q).le n := ⟨h.num, h.denom⟩
theorem Raw3.sized {t : Raw3} {n : Nat} (h : t.le n) (hn : 1 <= n) : Sized n t.val := a1e h.1 h.2 hn
theorem Raw3.le.fit {t : Raw3} {n : Nat} (h : t.le n) (hn : n <= 9223372036854775807) : t.fit := ⟨Nat.le_trans h.1 hn, Nat.le_trans h.2 hn⟩
theorem zero3_le {n : Nat} : zero3.le n := ⟨Nat.zero_le _, Nat.zero_le _⟩
theorem wf_of {a : Int} (h : -9223372036854775808 <= a /\ a <= 9223372036854775807) : (Lit.int .i64 a).wf = true := WalkArith.wf_i64 h
theorem wf_day {d : Int} (h : dayB d = true) : (Lit.int .i64 d).wf = true := by
 have := a5c h
 exact wf_of (by omega)
theorem newE_mid {p : Prf} {day bar : Int} {v : Rat} (hp : p.mid) (hv : Sized 10000 v) (hd : dayB day = true) : (newE p day bar v).mid := by
 have h1 := b9w hv
 exact ⟨⟨hp.1, ⟨h1.fit (by decide), zero3_le.fit (n := 1) (by decide), zero3_le.fit (n := 1) (by decide), h1.fit (by decide)⟩, (show (Lit.int .i64 1).wf = true from by decide), hp.1.2.2.2.1, wf_day hd⟩, zero3_le, zero3_le, h1⟩
theorem c6q {x : Ent} {e : Evt} (hx : x.mid) (he : e.mid) (hd : dayB e.day = true) (h : (a0f x e).2 = 0) : Ent.mid { (a0f x e).1 with chg := e.day } := by
 obtain ⟨⟨f1, ⟨c1, c2, c3, c4⟩, w1, w2, w3⟩, s1, s2, s3⟩ := hx
 have a1 := b9w (Raw3.sized he.1 (by decide))
 have a2 := b9w (Raw3.sized s2 (by decide))
 have a3 := b9w (Raw3.sized s3 (by decide))
 have b1 := a1.fit (by decide)
 have b2 := a2.fit (by decide)
 have b3 := a3.fit (by decide)
 have z := zero3_le.fit (n := 1) (by decide)
 have wd := wf_day hd
 have k2 : (Lit.int .i64 2).wf = true := by decide
 have k3 : (Lit.int .i64 3).wf = true := by decide
 have k4 : (Lit.int .i64 4).wf = true := by decide
 have k5 : (Lit.int .i64 5).wf = true := by decide
 have k6 : (Lit.int .i64 6).wf = true := by decide
 have k7 : (Lit.int .i64 7).wf = true := by decide
 obtain ⟨hal, hw⟩ := b9y h
 rcases hw with ⟨hk, hq⟩ | ⟨hk, hi, hq⟩ | ⟨hk, hi, hq⟩ | ⟨hk, hq⟩ | ⟨hk, hi, hq⟩ | ⟨hk, hq⟩ | ⟨hk, hq⟩ | ⟨hk, hq⟩
 all_goals rw [hq]
 ·exact ⟨⟨f1, ⟨c1, b3, b3, c4⟩, k2, w2, wd⟩, a3, a3, s3⟩
 ·exact ⟨⟨f1, ⟨c1, b1, b1, c4⟩, k3, w2, wd⟩, a1, a1, s3⟩
 ·exact ⟨⟨f1, ⟨c1, c2, b1, c4⟩, k4, w2, wd⟩, s1, a1, s3⟩
 ·exact ⟨⟨f1, ⟨c1, c2, c3, c4⟩, k5, w2, wd⟩, s1, s2, s3⟩
 ·exact ⟨⟨f1, ⟨c1, b1, b1, b1⟩, k6, w2, wd⟩, a1, a1, a1⟩
 ·exact ⟨⟨f1, ⟨c1, b2, c3, b2⟩, k6, w2, wd⟩, a2, s2, a2⟩
 ·exact ⟨⟨f1, ⟨c1, z, z, z⟩, k7, w2, wd⟩, zero3_le, zero3_le, zero3_le⟩
 have hc : -9223372036854775808 <= e.cre /\ e.cre <= 9223372036854775807 := by omega
 exact ⟨⟨⟨f1.1, f1.2.1, wf_of hc, f1.2.2.2⟩, ⟨c1, c2, c3, c4⟩, w1, wd, wd⟩, s1, s2, s3⟩
theorem c9k {r : Rgs} {e : Evt} {qs : List Quo} (hr : ∀ x ∈ r.es, x.mid) (he : e.mid) (hq : ∀ q ∈ qs, q.low) : ∀ x ∈ (a0y r e qs).1.es, x.mid := by
 by_cases h : (a0y r e qs).2 = 0
 ·obtain ⟨⟨_, hd, _⟩, hw⟩ := c2c h
  rcases hw with ⟨_, _, hf, _, hq'⟩ | ⟨i, x, _, hf, hx, hc, hq'⟩
  ·rw [hq']
   intro y hy
   rcases List.mem_append.1 hy with hy | hy
   ·exact hr y hy
   obtain rfl : y = _ := by simpa using hy
   exact newE_mid he.2 (b6h he.2.2 hq) hd
  rw [hq']
  intro y hy
  rcases List.mem_or_eq_of_mem_set hy with hy | rfl
  ·exact hr y hy
  exact c6q (hr x (List.mem_of_getElem? hx)) he hd hc
 rw [c6t h]
 intro x hx
 exact absurd hx (by simp [rgs0])
end Go.Proofs.YtlkhoommpkndpaaGreatDoor
