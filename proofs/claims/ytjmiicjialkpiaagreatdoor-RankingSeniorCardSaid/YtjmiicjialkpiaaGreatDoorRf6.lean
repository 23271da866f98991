/-
Part 6 of the base.
-/
import Derived.Test.YtjmiicjialkpiaaGreatDoorRf5
import Derived.Test.YtjmiicjialkpiaaGreatDoorRf3
namespace Go.Proofs.YtjmiicjialkpiaaGreatDoor
open Go.RowKit
section
variable {P : Program} {ops : Array Oper} {Q : Exit -> Act -> World -> Prop} {l : List Oper} {a0 : Act} {w0 : World} {n : Nat}
theorem inv_J(hl:l.toArray=ops)(hB:invB ops n=true)(hD:a6u (l.take n)=true)(J:Array Bool->(Nat->Value)->World->Prop)
  (hstep:∀listed x w1 i o,l[i]? =some o->i<n->listed.size=ops.size->listed.getD i true=false->(∀e∈o.after,Region.binds .any e=true->listed.getD e.on true=true)->J listed x w1 ->
   if Region.wanted o (yielded ops (a0h (l.take n) 0 x a0).tmps)then o.wp P (a0h (l.take n) 0 x a0) w1 (fun a' w2=>∃v,a'=(a0h (l.take n) 0 x a0).put o.dst v/\J (listed.setIfInBounds i true) (upd x i v) w2) (fun _ _ _=>False)else ∃v,(a0h (l.take n) 0 x a0).put o.dst undef=(a0h (l.take n) 0 x a0).put o.dst v/\J (listed.setIfInBounds i true) (upd x i v) w1)
  (hend:∀x w1,J (b7m ops.size n) x w1->wpList P ops Q (l.drop n) (a0h (l.take n) 0 x a0) w1) :
  ∀ (m:Nat) (listed:Array Bool) (x:Nat->Value) (w1:World),HeadInv .any ops n listed->(unl listed n).length=m->J listed x w1 ->
   wpAny P .any ops Q (m+(ops.size-n)) listed (a0h (l.take n) 0 x a0) w1:=by
 simp only[invB,Bool.and_eq_true,decide_eq_true_eq]at hB
 obtain⟨⟨⟨⟨hn,hs⟩,hc⟩,hseq⟩,hedge⟩:=hB
 have hsz:ops.size=l.length:=by rw[<- hl];simp
 intro m
 induction m with
 | zero =>
  intro listed x w1 inv hm hJ
  have hall:∀j,j<n->listed.getD j true=true:=by
   intro j hj
   cases hh:listed.getD j true with
   | true=>rfl
   | false =>
    have:j∈unl listed n:=mem_unl.2 ⟨hj,hh⟩
    rw[List.length_eq_zero_iff.1 hm]at this
    cases this
  have hcan:listed=b7m ops.size n:=by
   apply Array.ext_getElem?
   intro j
   rcases Nat.lt_or_ge j ops.size with hj | hj
   ·have hj':j<listed.size:=by rw[inv.size];exact hj
    unfold b7m
    rw[Array.getElem?_map,Array.getElem?_range,if_pos hj,Array.getElem?_eq_getElem hj']
    simp only[Option.map_some,Option.some.injEq]
    rcases Nat.lt_or_ge j n with h1 | h1
    ·have:=hall j h1
     rw[Array.getD_eq_getD_getElem?,Array.getElem?_eq_getElem hj']at this
     simpa [h1]using this
    have:=inv.tail j h1 hj
    rw[Array.getD_eq_getD_getElem?,Array.getElem?_eq_getElem hj']at this
    have h2:decide (j<n)=false:=decide_eq_false (by omega)
    rw[h2];simpa using this
   rw[Array.getElem?_eq_none (by rw[inv.size];exact hj),Array.getElem?_eq_none (by simp[b7m];exact hj)]
  rw[Nat.zero_add]
  have hdl:(l.drop n).length=ops.size-n:=by rw[List.length_drop,hsz]
  have:=wpAny_of_seq (P:=P) (ops:=ops) (md:=.any) (Q':=Q) (l.drop n) n listed (a0h (l.take n) 0 x a0) w1 (fun j=>by rw[List.getElem?_drop,<-hl];simp) (by rw[hdl,hcan];exact hseq) (hend x w1 (hcan▸hJ))
  rwa[hdl]at this
 | succ m ih =>
  intro listed x w1 inv hm hJ
  have hex:∃j,j∈unl listed n:=by
   cases hu:unl listed n with
   | nil=>rw[hu]at hm;simp at hm
   | cons j _=>exact⟨j,by simp⟩
  obtain⟨j,hj⟩:=hex
  have hj':=mem_unl.1 hj
  have hready:Region.ready .any ops listed≠[]:=by
   obtain⟨k,hk,hmin⟩:∃k,k∈unl listed n/\∀k',k'<k->k'∉unl listed n:=by
    have:∀ (b:Nat) (k:Nat),k<=b->k∈unl listed n->∃k,k∈unl listed n/\∀k',k'<k->k'∉unl listed n:=by
     intro b
     induction b with
     | zero=>intro k hk hmem;exact⟨k,hmem,fun k' h=>by omega⟩
     | succ b ihb =>
      intro k hk hmem
      by_cases hh:∃k',k'<k/\k'∈unl listed n
      ·obtain⟨k',h1,h2⟩:=hh;exact ihb k' (by omega) h2
      exact⟨k,hmem,fun k' h1 h2=>hh ⟨k',h1,h2⟩⟩
    exact this j j (Nat.le_refl _) hj
   have hk':=mem_unl.1 hk
   have hkl:k<ops.size:=by omega
   have hko:ops[k]? =some ops[k]:=Array.getElem?_eq_getElem hkl
   have hmem:k∈Region.ready .any ops listed:=by
    refine mem_ready.2 ⟨hk'.2,ops[k],hko,fun e he hbe=>?_⟩
    have h1:=List.all_eq_true.1 hedge k (List.mem_range.2 hk'.1)
    rw[hko]at h1
    have h2:=Array.all_eq_true'.1 h1 e he
    rw[hbe]at h2
    have h3:e.on<k:=by simpa using h2
    cases hh:listed.getD e.on false with
    | true=>rfl
    | false =>
     have:e.on∈unl listed n:=mem_unl.2 ⟨by omega,getD_in (by rw[inv.size];omega) hh⟩
     exact absurd this (hmin _ h3)
   intro h0
   rw[h0]at hmem;cases hmem
  rw[show m+1+(ops.size-n)=(m+(ops.size-n))+1 by omega]
  refine⟨fun h0=>absurd h0 hready,fun i hi=>?_⟩
  have hin:i<n:=Nat.lt_of_not_le fun h=>tail_waits hs hc hn inv _ j rfl hj'.1 hj'.2 i h hi
  obtain⟨hiun,o,ho,hdeps⟩:=mem_ready.1 hi
  have hol:l[i]? =some o:=by rw[<- hl]at ho;simpa using ho
  have hot:(l.take n)[i]? =some o:=by rw[List.getElem?_take,if_pos hin];exact hol
  have hstep':=hstep listed x w1 i o hol hin inv.size hiun (fun e he hbe=>by
   have h1:=hdeps e he hbe
   cases hh:listed.getD e.on true with
   | true=>rfl
   | false=>rw[getD_both hh]at h1;cases h1) hJ
  have hnext:∀v w2,J (listed.setIfInBounds i true) (upd x i v) w2->wpAny P .any ops Q (m+(ops.size-n)) (listed.setIfInBounds i true) ((a0h (l.take n) 0 x a0).put o.dst v) w2:=by
   intro v w2 hv
   rw[b6c (l.take n) 0 i o x a0 v hD hot]
   refine ih _ _ w2 (inv.set hi hin) (by have:=c9d (mem_unl.2 ⟨hin,(mem_unl.1 (by first | exact mem_unl.2 ⟨hin,hiun⟩)).2⟩);omega) ?_
   rw[Nat.zero_add];exact hv
  unfold wpOp
  rw[ho]
  simp only[]
  split
  ·rename_i hw
   rw[if_pos hw]at hstep'
   exact .inl (Oper.wp_none (Oper.wp_mono (fun a' w2 ⟨v,e,hv⟩=>by subst e;exact hnext v w2 hv) hstep'))
  rename_i hw
  rw[if_neg hw]at hstep'
  obtain⟨v,e,hv⟩:=hstep'
  rw[e]
  exact hnext v w1 hv
end
theorem c6s{P:Program}{ops:Array Oper}{o:Oper}{a1:Act}{w1:World}{Y Y':Value->World->Prop}(hY:∀v w2,Y v w2->Y' v w2)
  (h:wpList P ops (fun e a' w2=>e=.normal/\∃v,a'=a1.put o.dst v/\Y v w2) [o] a1 w1) :
  if Region.wanted o (yielded ops a1.tmps)then o.wp P a1 w1 (fun a' w2=>∃v,a'=a1.put o.dst v/\Y' v w2) (fun _ _ _=>False)else ∃v,a1.put o.dst undef=a1.put o.dst v/\Y' v w1:=by
 unfold wpList at h
 split
 ·rename_i hw
  rw[if_pos hw]at h
  rcases h with h | ⟨_,a2,w2,h⟩
  ·exact Oper.wp_mono (fun a' w2 hh=>by obtain⟨_,v,e,hv⟩:=hh;exact⟨v,e,hY v w2 hv⟩) (Oper.wp_only (fun e a w he hh=>he hh.1) h)
  cases h.1
 rename_i hw
 rw[if_neg hw]at h
 obtain⟨_,v,e,hv⟩:=h
 exact⟨v,e,hY v w1 hv⟩
def StepQB(a1:Act)(d:Option Tmp)(B:Nat)(w1:World)(p:World->Prop)(e:Exit)(a':Act)(w2:World):Prop:=e=.normal/\∃v,a'=a1.put d v/\Below B w1 w2/\p w2
theorem StepQB.mk{a1:Act}{B:Nat}{w1:World}{p:World->Prop}{w2:World}(hb:Below B w1 w2)(hv:p w2):StepQB a1 none B w1 p .normal a1 w2:=⟨rfl,undef,rfl,hb,hv⟩
def depB(l:List Oper)(B A:Nat):Bool:=match l[B]? with | some o=>o.after.any fun e=>Region.binds .any e&&decide (e.on=A) | none=>false
theorem b5c{L:Array Bool}{i j:Nat}(h:i≠j):(L.setIfInBounds i true).getD j true=L.getD j true:=by
 simp[Array.getD_eq_getD_getElem?,h]
theorem c6g{L:Array Bool}{i:Nat}:(L.setIfInBounds i true).getD i true=true:=by
 rcases Nat.lt_or_ge i L.size with h | h
 ·simp[Array.getD_eq_getD_getElem?,h]
 rw[Array.getD_eq_getD_getElem?,Array.getElem?_eq_none (by simpa using h)];rfl
end Go.Proofs.YtjmiicjialkpiaaGreatDoor
