/-
Part 35 of the base.
-/
import Derived.Test.YtgdhpghfojccaaaDoorRe34
namespace Go.Proofs.YtgdhpghfojccaaaDoor
open Go.RowKit
structure Fit (cl : List Nmd) (l : List Cls) : Prop where
 ncl : cl.length <= 1000
 nl : l.length <= 1000
 nmd : ∀ x ∈ cl, x.id.length <= 9223372036854775807 /\ x.am.a.length <= 17179869184 /\ x.am.b.length <= 17179869184
 cls : ∀ x ∈ l, x.name.length <= 9223372036854775807 /\ x.other.length <= 9223372036854775807 /\ x.list.length <= 1000 /\ (∀ s ∈ x.list, s.length <= 9223372036854775807) /\ x.am.a.length <= 17179869184 /\ x.am.b.length <= 17179869184
def zE (r : Int) : List Value := [.int .i64 r]
theorem zE_len (r : Int) : (zE r).length = 1 := rfl
theorem b9t : ∀ R : List Int, flat zE R = R.map (.int .i64)
 | [] => rfl
 | r :: R => by rw [flat, b9t R]; rfl
abbrev IntsL (w : World) (v : Value) (R : List Int) : Prop := Slc zE 1 w v R
theorem b8e {P : Program} (ats : Array TypeId) (ty : TypeId) (a b : Int) (W : World) : (Builtin.max_ ats ty #[.int .i64 a, .int .i64 b]).run P W = .ok (.int .i64 (max a b)) W := by
 have h : (if b > a then b else a) = max a b := by split <;> omega
 unfold Builtin.max_
 simp [Builtin.max2, h]
theorem prg_info : (Tryd.prog.info? 35).map (·.size) = some 2 := by kernel_rfl
theorem prg_load {w : World} {g : Nat} {a b : Value} (h : Blk w g #[a, b] 35) : (loadVar 35 ⟨g, 0, none⟩).run Tryd.prog w = .ok (.agg #[a, b]) w :=
 run_loadVar_row w g _ _ _ _ _ h Tryd.underlying35 rfl prg_info
theorem a4a {fn : Func} {p u v : Tmp} (h : fn.results = #[.cell p 35, .tmp u, .tmp v]) (tmps : Array Value) (w : World) (g : Nat) {a b : Value}
  (hp : tmps.getD p undef = .pointer (some ⟨g, 0, none⟩)) (hg : Blk w g #[a, b] 35) : (results fn tmps).run Tryd.prog w = .ok (.tuple #[.agg #[a, b], tmps.getD u undef, tmps.getD v undef]) w := by
 have hp' : tmps[p]?.getD undef = .pointer (some ⟨g, 0, none⟩) := by simpa using hp
 simp [results, h, hp', asAddr, prg_load hg]
def CmpR (cl : List Nmd) (l : List Cls) (w : World) (e : Ending) (w' : World) : Prop := ∃ (vr va : Value) (R : List Int) (A : List (List (List Prt))) (i : Nat) (er : Int), e = .returned (.tuple #[.agg #[vr, va], .int .i64 (i : Nat), .int .i64 er]) /\ IntsL w' vr R /\ AgrL w' va A /\ Comp cl l R A i er /\ Below w.heap.size w w'
theorem b1w (w : World) : IntsL w (.slice none 0 0) [] := Slc.nil_ _ _ _ _ _ (by decide)
theorem b2j (w : World) : AgrL w (.slice none 0 0) [] := NstL.nil_ _ _ _ (by decide)
theorem Fit.uses {cl : List Nmd} {l : List Cls} (h : Fit cl l) {x : Cls} (hx : x ∈ l) : (a2v x).length <= 1000 /\ ∀ s ∈ a2v x, s.length <= 9223372036854775807 := by
 obtain ⟨a, b, c, d, _⟩ := h.cls x hx
 unfold a2v
 split
 ·exact ⟨c, d⟩
 split
 ·exact ⟨(by show 2 <= 1000; decide), fun s hs => by rcases List.mem_cons.1 hs with rfl | hs; exact a; rw [List.mem_singleton.1 hs]; exact b⟩
 exact ⟨(by show 1 <= 1000; decide), fun s hs => by rw [List.mem_singleton.1 hs]; exact a⟩
theorem pass_ok1 {cl : List Nmd} {l : List Cls} (h : Pass cl l 1) : Ok1 cl l := pass1_iff.1 fun i c hc => ((h i (List.getElem?_eq_some_iff.1 hc).1 c hc).1 rfl).symm
end Go.Proofs.YtgdhpghfojccaaaDoor
