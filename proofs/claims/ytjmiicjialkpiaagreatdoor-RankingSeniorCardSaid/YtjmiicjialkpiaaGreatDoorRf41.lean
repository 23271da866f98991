/-
Part 41 of the base.
-/
import Derived.Test.YtjmiicjialkpiaaGreatDoorRf6
import Derived.Test.YtjmiicjialkpiaaGreatDoorRf4
import Derived.Deep.MidRow
namespace Go.Proofs.YtjmiicjialkpiaaGreatDoor
open Go.RowKit
def StepW(a1:Act)(d:Option Tmp)(w1:World)(v0:Value)(e:Exit)(a':Act)(w2:World):Prop:=e=.normal/\∃v,a'=a1.put d v/\v=v0/\w2=w1
theorem StepW.mk{a1:Act}{d:Option Tmp}{w1:World}(v:Value):StepW a1 d w1 v .normal (a1.put d v) w1:=⟨rfl,v,rfl,rfl,rfl⟩
def StepI(a1:Act)(d:Option Tmp)(p:World->Value->Prop)(e:Exit)(a':Act)(w2:World):Prop:=e=.normal/\∃v,a'=a1.put d v/\p w2 v
theorem StepI.mk{a1:Act}{p:World->Value->Prop}{w2:World}(hv:p w2 undef):StepI a1 none p .normal a1 w2:=⟨rfl,undef,rfl,hv⟩
def chainB(l:List Oper):List Nat->Bool
 | c::c'::t=>depB l c' c&&chainB l (c'::t)
 | _=>true
theorem set_same{α:Type}{R:List α}{k:Nat}{x:α}(h:R[k]? =some x):R.set k x=R:=by
 apply List.ext_getElem?
 intro j
 rw[List.getElem?_set]
 split
 ·rename_i e
  subst e
  rw[if_pos (List.getElem?_eq_some_iff.1 h).1,h]
 rfl
theorem St.cells{w0:World}{g:Nat}{t:TypeId}{k:Nat}:∀ (cs:List Value) (o:Nat) (z:Array Value) (R:List Own) (w:World),St w0 R w->R[k]? =some ⟨g,z,t⟩->o+cs.length<=z.size ->
  ∃z':Array Value,St w0 (R.set k ⟨g,z',t⟩) (w.setCells g o cs)/\z'.toList=z.toList.take o++cs++z.toList.drop (o+cs.length)
 | [],o,z,R,w,h,hk,_=>⟨z,by rw[World.setCells,set_same hk];exact h,by simp⟩
 | v::cs,o,z,R,w,h,hk,hl=>by
  rw[List.length_cons]at hl
  have hkl:=(List.getElem?_eq_some_iff.1 hk).1
  obtain⟨z',h1,h2⟩:=St.cells (g:=g) (t:=t) (k:=k) cs (o+1) (z.setIfInBounds o v) (R.set k ⟨g,z.setIfInBounds o v,t⟩) (w.setCell ⟨g,o,none⟩ v) (h.set k hk o v) (by rw[List.getElem?_set,if_pos rfl,if_pos hkl]) (by rw[Array.size_setIfInBounds];omega)
  refine⟨z',by rw[World.setCells];simpa using h1,h2.trans ?_⟩
  have ho:o<z.toList.length:=by simp;omega
  rw[Array.toList_setIfInBounds,List.take_add_one,List.take_set_of_le (Nat.le_refl _),List.getElem?_set_self ho,List.drop_set_of_lt (by omega),List.length_cons]
  simp[Nat.add_comm 1,Nat.add_assoc]
theorem a1r{P:Program}{ops:Array Oper}{rest:List Oper}{op:Oper}{a:Act}{w:World}{Q:Exit->Act->World->Prop}(hgd:op.guard=none)(ty:TypeId)(x y:Operand)(ho:op.op=.store ty x y)
  {w0:World} {R:List Own} (hS:St w0 R w) (k:Nat) {g:Nat} {z:Array Value} {T:TypeId} (hk:R[k]? =some ⟨g,z,T⟩) (cs:List Value) (hz:z.size=cs.length)
  (hx:a.eval x=.pointer (some ⟨g,0,none⟩)) (hy:a.eval y=.agg cs.toArray) (hi:(P.info? ty).map (·.size)=some cs.length) (h1:cs.all (·.oneCell')=true)
  (h:∀w',St w0 (R.set k ⟨g,cs.toArray,T⟩) w'->wpList P ops Q rest (a.put op.dst undef) w'):wpList P ops Q (op::rest) a w:=by
 refine wpList_store_mid hgd ty x y ho g 0 cs.toArray hx hy (fun j hj=>?_) (by simpa using hi) (by simpa using h1) (h _ ?_)
 ·rw[Nat.zero_add]
  have hj':j<z.size:=by simpa [hz]using hj
  exact⟨by rw[hS.cell k hk j (Array.getElem?_eq_getElem hj')];rfl,hS.frozen k hk j⟩
 obtain⟨z',h2,h3⟩:=St.cells cs 0 z R w hS hk (by omega)
 have:z'=cs.toArray:=by
  apply Array.ext'
  rw[h3,Nat.zero_add,<-hz]
  simp
 rw[this]at h2
 exact h2
theorem St.whole{w0 w:World}{R:List Own}(h:St w0 R w)(k:Nat){g:Nat}{cs:List Value}{t:TypeId}(hk:R[k]? =some ⟨g,cs.toArray,t⟩):w.rangeAt g 0 cs :=
 fun j v hv=>h.cell k hk (0+j) (by rw[Nat.zero_add,List.getElem?_toArray];exact hv)
def a8u(Φ:List (World->Value->Prop))(i:Nat):World->Value->Prop:=Φ.getD i (fun _ _=>True)
def StepM(a1:Act)(d:Option Tmp)(I1:World->Prop)(K:List Nat)(Φ:List (World->Value->Prop))(w1:World)(e:Exit)(a':Act)(w2:World):Prop :=
 e=.normal/\∃v,a'=a1.put d v/\I1 w2/\∀j∈K,∀u,a8u Φ j w1 u->a8u Φ j w2 u
theorem StepM.mk{a1:Act}{I1:World->Prop}{K:List Nat}{Φ:List (World->Value->Prop)}{w1 w2:World}(h:I1 w2)(hk:∀j∈K,∀u,a8u Φ j w1 u->a8u Φ j w2 u):StepM a1 none I1 K Φ w1 .normal a1 w2:=⟨rfl,undef,rfl,h,hk⟩
theorem a9s:∀ {Φ:List (World->Value->Prop)},(∀φ∈Φ,∀w1 w2 v,φ w1 v->Below w1.heap.size w1 w2->φ w2 v)->∀i w1 w2 v,a8u Φ i w1 v->Below w1.heap.size w1 w2->a8u Φ i w2 v:=by
 intro Φ h i w1 w2 v hp hb
 unfold a8u at *
 rw[List.getD_eq_getElem?_getD]at *
 cases hi:Φ[i]? with
 | none=>simp
 | some φ =>
  rw[hi]at hp
  exact h φ (List.mem_of_getElem? hi) w1 w2 v hp hb
def StepMA(a1:Act)(d:Option Tmp)(Z:World->Prop)(I1:Value->World->Prop)(K:List Nat)(Φ:List (World->Value->Prop))(w1:World)(e:Exit)(a':Act)(w2:World):Prop :=
 e=.normal/\∃v,a'=a1.put d v/\Z w2/\I1 v w2/\∀j∈K,∀u,a8u Φ j w1 u->a8u Φ j w2 u
theorem StepMA.mk{a1:Act}{d:Option Tmp}{Z:World->Prop}{I1:Value->World->Prop}{K:List Nat}{Φ:List (World->Value->Prop)}{w1 w2:World}(v:Value)(hz:Z w2)(h:I1 v w2)(hk:∀j∈K,∀u,a8u Φ j w1 u->a8u Φ j w2 u):StepMA a1 d Z I1 K Φ w1 .normal (a1.put d v) w2:=⟨rfl,v,rfl,hz,h,hk⟩
def StepXA(P:Program)(l:List Oper)(n B:Nat)(K:List Nat)(Φ:List (World->Value->Prop))(Z I0:World->Prop)(I1:Value->World->Prop)(a:Act)(i:Nat)(o:Oper):Prop :=
 ∀ (x:Nat->Value) (a1:Act) (w1:World),Z w1->(depB l B i=true->I0 w1)->(∀j o' t,(l.take n)[j]? =some o'->o'.dst=some t->a1.tmps[t]?.getD undef=x j)->(∀t,(l.take n).all (fun o=>o.dst != some t)=true->a1.tmps[t]?.getD undef=a.tmps[t]?.getD undef) ->
  (∀e∈o.after,Region.binds .any e=true->e.on≠B->(i=B\/depB l B i=true\/e.on∈K)->a8u Φ e.on w1 (x e.on)) ->
  if i=B then I0 w1->wpList P l.toArray (StepMA a1 o.dst Z I1 K Φ w1) [o] a1 w1
  else wpList P l.toArray (StepQ a1 o.dst w1 (a8u Φ i)) [o] a1 w1
theorem a5k{P:Program}{id:Nat}{Q:Exit->Act->World->Prop}{a:Act}{w:World}{l:List Oper}(n B:Nat)(K:List Nat)(Φ:List (World->Value->Prop))(Z I0:World->Prop)(I1:Value->World->Prop)(hm:P.follows .mixedOrders=true)(hB:invB l.toArray n=true)(hD:a6u (l.take n)=true)
  (hS:(l.take n).all (fun o=>match o.dst with | some d=>decide (d<a.tmps.size) | none=>true)=true) (hBn:B<n) (hK:∀j∈K,j<n/\j≠B)
  (hst:∀i w1 w2 v,a8u Φ i w1 v->Below w1.heap.size w1 w2->a8u Φ i w2 v) (h00:∀w1 w2,I0 w1->Below w1.heap.size w1 w2->I0 w2) (h11:∀v w1 w2,I1 v w1->Below w1.heap.size w1 w2->I1 v w2) (hzz:∀w1 w2,Z w1->Below w1.heap.size w1 w2->Z w2)
  (hz:Z w.drew) (h0:I0 w.drew)
  (hstep:b2f (StepXA P l n B K Φ Z I0 I1 a) (l.take n) 0)
  (hend:∀x w1,Z w1->I1 (x B) w1->(∀j∈K,a8u Φ j w1 (x j))->wpList P l.toArray Q (l.drop n) (a0h (l.take n) 0 x a) w1):(Code.region id l.toArray true).wp P Q a w:=by
 refine wp_region_any hm ?_
 obtain⟨x0,hx0⟩:=b2y a (l.take n) 0
 have inv0:HeadInv .any l.toArray n (Array.replicate l.toArray.size false) :=
  ⟨by simp,fun j oj _ hl=>(by rw[getD_replicate_false]at hl;cases hl),fun t _ ht=>getD_in (by simpa using ht) (getD_replicate_false _ _)⟩
 have hBs:=hB
 simp only[invB,Bool.and_eq_true,decide_eq_true_eq]at hBs
 have hlen:n<l.toArray.size:=hBs.1.1.1.1
 have hedge:=hBs.2
 have hunl:(unl (Array.replicate l.toArray.size false) n).length=n:=by
  unfold unl
  rw[List.filter_eq_self.2]
  ·simp
  intro j hj
  have hjn:=List.mem_range.1 hj
  have:(Array.replicate l.toArray.size false).getD j true=false:=getD_in (by simpa using Nat.lt_trans hjn (by simpa using hlen)) (getD_replicate_false _ _)
  rw[this];rfl
 have hfalse:∀i,i<n->(Array.replicate l.toArray.size false).getD i true=true->False:=fun i hi h=>by
  rw[getD_in (by simpa using Nat.lt_trans hi (by simpa using hlen)) (getD_replicate_false _ _)]at h;cases h
 have hdepE:∀ (o:Oper) i,l[B]? =some o->depB l B i=true->∃e∈o.after,Region.binds .any e=true/\e.on=i:=by
  intro o i ho h
  unfold depB at h
  rw[ho]at h
  obtain⟨e,he,hbe⟩:=Array.any_eq_true'.1 h
  rw[Bool.and_eq_true,decide_eq_true_eq]at hbe
  exact⟨e,he,hbe.1,hbe.2⟩
 have:=inv_J (P:=P) (Q:=Q) (a0:=a) rfl hB hD
  (fun listed x w1=>Z w1/\(if listed.getD B true=true then I1 (x B) w1 else I0 w1)/\(∀i,i<n->i≠B->listed.getD i true=true->(listed.getD B true=true->i∈K)->a8u Φ i w1 (x i))/\(listed.getD B true=true->∀i,depB l B i=true->i<n->listed.getD i true=true))
  (fun listed x w1 i o ho hi hsz hun hdeps ⟨hZ,hI,hv,hBd⟩=>by
   have hot:(l.take n)[i]? =some o:=by rw[List.getElem?_take,if_pos hi];exact ho
   have hq0:=a8g _ _ hstep i o hot
   rw[Nat.zero_add]at hq0
   have hnB:depB l B i=true->listed.getD B true=false:=fun hd=>by
    cases hh:listed.getD B true with
    | false=>rfl
    | true=>rw[hBd hh i hd hi]at hun;cases hun
   have h:=hq0 x (a0h (l.take n) 0 x a) w1 hZ (fun hd=>by rw[hnB hd]at hI;simpa using hI) (fun j o' t hj hd'=>by
    have hs:=List.all_eq_true.1 hS o' (List.mem_of_getElem? hj)
    rw[hd']at hs
    have:=c0r (l.take n) 0 x a j o' t hD hj hd' (by simpa using hs)
    rwa[Nat.zero_add,a3j]at this) (fun t ht=>by
    have:=a7v (l.take n) 0 x a t ht
    rwa[a3j,a3j]at this) (fun e he hbe hnB' hor=>by
    have h2:=List.all_eq_true.1 hedge i (List.mem_range.2 hi)
    rw[show l.toArray[i]? =some o by simpa using ho]at h2
    have h3:=Array.all_eq_true'.1 h2 e he
    rw[hbe]at h3
    have h4:e.on<i:=by simpa using h3
    refine hv e.on (by omega) hnB' (hdeps e he hbe) (fun hlB=>?_)
    rcases hor with rfl | hd | hk
    ·rw[hun]at hlB;cases hlB
    ·rw[hnB hd]at hlB;cases hlB
    exact hk)
   clear hq0
   by_cases hiB:i=B
   ·rw[if_pos hiB]at h
    subst hiB
    rw[hun]at hI
    have h:=h (by simpa using hI)
    unfold StepMA at h
    refine c6s (fun v w2 hY=>?_) h
    obtain⟨hZ2,hI1,hkeep⟩:=hY
    refine⟨hZ2,by rw[c6g,if_pos rfl,upd,if_pos rfl];exact hI1,fun j hj hji hlj hk=>?_,fun _ j hd hj=>?_⟩
    ·have hjK:=hk c6g
     rw[b5c (fun e=>hji e.symm)]at hlj
     rw[upd,if_neg hji]
     exact hkeep j hjK _ (hv j hj hji hlj (fun hl=>by rw[hun]at hl;cases hl))
    obtain⟨e,he,hb1,hb2⟩:=hdepE o j (by simpa using ho) hd
    have:=hdeps e he hb1
    rw[hb2]at this
    by_cases hji:j=i
    ·subst hji;exact c6g
    rw[b5c (fun e=>hji e.symm)];exact this
   rw[if_neg hiB]at h
   unfold StepQ at h
   refine c6s (fun v w2 hY=>?_) h
   obtain⟨hb2,hvv⟩:=hY
   refine⟨hzz _ _ hZ hb2,?_,fun j hj hjB hlj hk=>?_,fun hl j hd hj=>?_⟩
   ·have hxB:upd x i v B=x B:=by rw[upd,if_neg (fun e=>hiB e.symm)]
    rw[b5c hiB,hxB]
    split at hI
    ·rename_i hl;rw[if_pos hl];exact h11 _ _ _ hI hb2
    rename_i hl;rw[if_neg hl];exact h00 _ _ hI hb2
   ·rw[b5c hiB]at hk
    by_cases hji:j=i
    ·subst hji;rw[upd,if_pos rfl];exact hvv
    rw[b5c (fun e=>hji e.symm)]at hlj
    rw[upd,if_neg hji]
    exact hst j _ _ _ (hv j hj hjB hlj hk) hb2
   rw[b5c hiB]at hl
   by_cases hji:j=i
   ·subst hji;exact c6g
   rw[b5c (fun e=>hji e.symm)];exact hBd hl j hd hj)
  (fun x w1 ⟨hZ,hI,hv,hBd⟩=>by
   have hc:∀i,i<n->(b7m l.toArray.size n).getD i true=true:=by
    intro i hi
    unfold b7m
    rw[Array.getD_eq_getD_getElem?,Array.getElem?_map,Array.getElem?_range,if_pos (by omega)]
    simp[hi]
   rw[if_pos (hc B hBn)]at hI
   exact hend x w1 hZ hI (fun j hj=>hv j (hK j hj).1 (hK j hj).2 (hc j (hK j hj).1) (fun _=>hj)))
  n (Array.replicate l.toArray.size false) x0 {w with drawn:=w.drawn+1} inv0 hunl ⟨hz,by
   rw[if_neg (fun h=>hfalse B hBn h)];exact h0,fun i hi _ h _=>(hfalse i hi h).elim,fun h=>(hfalse B hBn h).elim⟩
 rw[hx0 x0 (fun _ _=>rfl)]at this
 rw[show n+(l.toArray.size-n)=l.toArray.size by omega]at this
 exact this
end Go.Proofs.YtjmiicjialkpiaaGreatDoor
