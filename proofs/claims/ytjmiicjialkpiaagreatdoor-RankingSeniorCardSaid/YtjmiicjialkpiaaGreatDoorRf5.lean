/-
Part 5 of the base.
-/
import Derived.Test.YtjmiicjialkpiaaGreatDoorRfg
import Derived.Deep.Quiet
import Derived.StillTail
import Derived.Below
namespace Go.Proofs.YtjmiicjialkpiaaGreatDoor
open Go.RowKit
def upd(x:Nat->Value)(i:Nat)(v:Value):Nat->Value:=fun j=>if j=i then v else x j
def a0h:List Oper->Nat->(Nat->Value)->Act->Act
 | [],_,_,a=>a
 | o::l,k,x,a=>a0h l (k+1) x (a.put o.dst (x k))
def a6u:List Oper->Bool
 | []=>true
 | o::l=>(match o.dst with | some d=>l.all fun o'=>o'.dst != some d | none=>true)&&a6u l
theorem b6d:∀ (l:List Oper) (k:Nat) (x y:Nat->Value) (a:Act),(∀j,k<=j->x j=y j)->a0h l k x a=a0h l k y a
 | [],_,_,_,_,_=>rfl
 | o::l,k,x,y,a,h=>by
  rw[a0h,a0h,h k (Nat.le_refl _)]
  exact b6d l (k+1) x y _ (fun j hj=>h j (by omega))
theorem put_put(a:Act)(d:Option Tmp)(u v:Value):(a.put d u).put d v=a.put d v:=by
 cases d with
 | none=>rfl
 | some d=>simp[Act.put]
theorem c3k:∀ (l:List Oper) (k:Nat) (x:Nat->Value) (a:Act) (d:Option Tmp) (v:Value),(∀t,d=some t->l.all (fun o'=>o'.dst != some t)=true)->(a0h l k x a).put d v=a0h l k x (a.put d v)
 | [],_,_,_,_,_,_=>rfl
 | o::l,k,x,a,d,v,h=>by
  have h':∀t,d=some t->o.dst≠some t/\l.all (fun o'=>o'.dst != some t)=true:=by
   intro t ht
   have:=h t ht
   simp only[List.all_cons,Bool.and_eq_true,bne_iff_ne]at this
   exact this
  rw[a0h,c3k l (k+1) x _ d v (fun t ht=>(h' t ht).2),a0h]
  rw[Act.put_comm a (x k) v (x:=o.dst) (y:=d) (fun t ht hd=>(h' t hd).1 ht)]
theorem b6c:∀ (l:List Oper) (k i:Nat) (o:Oper) (x:Nat->Value) (a:Act) (v:Value),a6u l=true->l[i]? =some o->(a0h l k x a).put o.dst v=a0h l k (upd x (k+i) v) a
 | [],_,_,_,_,_,_,_,h=>by simp at h
 | p::l,k,0,o,x,a,v,hd,h=>by
  have e:p=o:=by simpa using h
  subst e
  simp only[a6u,Bool.and_eq_true]at hd
  rw[a0h,a0h,c3k l (k+1) x _ p.dst v (fun t ht=>by have:=hd.1;rw[ht]at this;exact this),put_put]
  have:upd x (k+0) v k=v:=by simp[upd]
  rw[this]
  exact b6d l (k+1) _ _ _ (fun j hj=>by unfold upd;rw[if_neg (by omega)])
 | p::l,k,i+1,o,x,a,v,hd,h=>by
  have h':l[i]? =some o:=by simpa using h
  simp only[a6u,Bool.and_eq_true]at hd
  rw[a0h,a0h,b6c l (k+1) i o x _ v hd.2 h']
  have:upd x (k+(i+1)) v k=x k:=by unfold upd;rw[if_neg (by omega)]
  rw[this,show k+1+i=k+(i+1) by omega]
theorem put_self(a:Act)(d:Tmp):a.put (some d) (a.tmps.getD d undef)=a:=by
 cases a with
 | mk tmps defers =>
 show Act.mk (tmps.setIfInBounds d (tmps.getD d undef)) defers=Act.mk tmps defers
 congr 1
 apply Array.ext_getElem?
 intro i
 rw[Array.getElem?_setIfInBounds]
 split
 ·rename_i h
  subst h
  split
  ·rename_i h2;simp[h2]
  rename_i h2;rw[Array.getElem?_eq_none (by omega)]
 rfl
theorem b2y(a:Act):∀ (l:List Oper) (k:Nat),∃x:Nat->Value,∀y:Nat->Value,(∀j,k<=j->y j=x j)->a0h l k y a=a
 | [],_=>⟨fun _=>undef,fun _ _=>rfl⟩
 | o::l,k=>by
  obtain⟨x,hx⟩:=b2y a l (k+1)
  cases hd:o.dst with
  | none =>
   refine⟨x,fun y hy=>?_⟩
   rw[a0h,hd]
   exact hx y (fun j hj=>hy j (by omega))
  | some d =>
   refine⟨fun j=>if j=k then a.tmps.getD d undef else x j,fun y hy=>?_⟩
   rw[a0h,hd,hy k (Nat.le_refl _)]
   show a0h l (k+1) y (a.put (some d) (if k=k then a.tmps.getD d undef else x k))=a
   rw[if_pos rfl,put_self]
   refine hx y (fun j hj=>?_)
   rw[hy j (by omega)]
   show(if j=k then a.tmps.getD d undef else x j)=x j
   rw[if_neg (by omega)]
theorem Oper.wp_none{P:Program}{o:Oper}{a:Act}{w:World}{K:Act->World->Prop}{Q:Exit->Act->World->Prop}(h:o.wp P a w K (fun _ _ _=>False)):o.wp P a w K Q:=by
 unfold Oper.wp at *
 generalize (execOp a.eval o).run P w=r at *
 cases r with
 | ok n w' =>
  cases n<;>simp only[Oper.upon]at h ⊢ <;>try exact h
  exact h.mono fun e w'' he=>by
   cases e with
   | returned v=>exact he
   | panicked c=>exact he.elim
   | outgrown=>obtain⟨_,_,h⟩:=he;exact h.elim
 | halt x w'=>cases x<;>simp only[Oper.upon]at h ⊢
def b7m(m n:Nat):Array Bool:=(Array.range m).map fun j=>decide (j<n)
def invB(ops:Array Oper)(n:Nat):Bool :=
 decide (n<ops.size)&&Region.sinkB .any ops n&&Region.chainB .any ops n&&Region.seqB .any ops (ops.size-n) n (b7m ops.size n) &&
 (List.range n).all fun i=>match ops[i]? with | some o=>o.after.all fun e=>!Region.binds .any e||decide (e.on<i) | none=>false
section
variable {P : Program} {ops : Array Oper} {Q : Exit -> Act -> World -> Prop} {l : List Oper} {a0 : Act} {w0 : World} {n : Nat} {Φ : Nat -> World -> Value -> Prop}
def unl(listed:Array Bool)(n:Nat):List Nat:=(List.range n).filter fun j=>listed.getD j true==false
theorem mem_unl{listed:Array Bool}{n j:Nat}:j∈unl listed n↔j<n/\listed.getD j true=false:=by
 unfold unl;rw[List.mem_filter,List.mem_range];simp
theorem c9d{listed:Array Bool}{n i:Nat}(h:i∈unl listed n):(unl (listed.setIfInBounds i true) n).length+1=(unl listed n).length:=by
 have hi:=mem_unl.1 h
 have hsz:i<listed.size:=by
  rcases Nat.lt_or_ge i listed.size with h1 | h1
  ·exact h1
  rw[Array.getD_eq_getD_getElem?,Array.getElem?_eq_none h1]at hi;simp at hi
 have e:unl (listed.setIfInBounds i true) n=(unl listed n).erase i:=by
  have hnd:(unl listed n).Nodup:=List.nodup_range.filter _
  rw[hnd.erase_eq_filter]
  unfold unl
  rw[List.filter_filter]
  apply List.filter_congr
  intro j _
  by_cases hj:j=i
  ·subst hj
   have:(listed.setIfInBounds j true).getD j true=true:=by simp[Array.getD_eq_getD_getElem?,hsz]
   rw[this];simp
  rw[getD_set_ne true (fun e=>hj e.symm)]
  simp[hj]
 rw[e,List.length_erase_of_mem h]
 have:=List.length_pos_of_mem h
 omega
theorem inv_any(hl:l.toArray=ops)(hB:invB ops n=true)(hD:a6u (l.take n)=true)
  (hΦ:∀i w1 w2 v,Φ i w1 v->Below w1.heap.size w1 w2->Φ i w2 v)
  (hstep:∀i o,l[i]? =some o->i<n->∀ (x:Nat->Value) w1,Below w0.heap.size w0 w1->(∀e∈o.after,Region.binds .any e=true->Φ e.on w1 (x e.on)) ->
   if Region.wanted o (yielded ops (a0h (l.take n) 0 x a0).tmps)then o.wp P (a0h (l.take n) 0 x a0) w1 (fun a' w2=>∃v,a'=(a0h (l.take n) 0 x a0).put o.dst v/\Below w1.heap.size w1 w2/\Φ i w2 v) (fun _ _ _=>False)else ∃v,(a0h (l.take n) 0 x a0).put o.dst undef=(a0h (l.take n) 0 x a0).put o.dst v/\Φ i w1 v)
  (hend:∀x w1,Below w0.heap.size w0 w1->(∀i,i<n->Φ i w1 (x i))->wpList P ops Q (l.drop n) (a0h (l.take n) 0 x a0) w1) :
  ∀ (m:Nat) (listed:Array Bool) (x:Nat->Value) (w1:World),HeadInv .any ops n listed->(unl listed n).length=m->Below w0.heap.size w0 w1->(∀i,i<n->listed.getD i true=true->Φ i w1 (x i)) ->
   wpAny P .any ops Q (m+(ops.size-n)) listed (a0h (l.take n) 0 x a0) w1:=by
 simp only[invB,Bool.and_eq_true,decide_eq_true_eq]at hB
 obtain⟨⟨⟨⟨hn,hs⟩,hc⟩,hseq⟩,hedge⟩:=hB
 have hsz:ops.size=l.length:=by rw[<- hl];simp
 intro m
 induction m with
 | zero =>
  intro listed x w1 inv hm hb hf
  have hall:∀j,j<n->listed.getD j true=true:=by
   intro j hj
   cases hh:listed.getD j true with
   | true=>rfl
   | false =>
    have:j∈unl listed n:=mem_unl.2 ⟨hj,hh⟩
    rw[List.length_eq_zero_iff.1 hm]at this
    cases this
  have hcan:listed=b7m ops.size n:=by
   apply Array.ext_getElem?
   intro j
   rcases Nat.lt_or_ge j ops.size with hj | hj
   ·have hj':j<listed.size:=by rw[inv.size];exact hj
    unfold b7m
    rw[Array.getElem?_map,Array.getElem?_range,if_pos hj,Array.getElem?_eq_getElem hj']
    simp only[Option.map_some,Option.some.injEq]
    rcases Nat.lt_or_ge j n with h1 | h1
    ·have:=hall j h1
     rw[Array.getD_eq_getD_getElem?,Array.getElem?_eq_getElem hj']at this
     simpa [h1]using this
    have:=inv.tail j h1 hj
    rw[Array.getD_eq_getD_getElem?,Array.getElem?_eq_getElem hj']at this
    have h2:decide (j<n)=false:=decide_eq_false (by omega)
    rw[h2];simpa using this
   rw[Array.getElem?_eq_none (by rw[inv.size];exact hj),Array.getElem?_eq_none (by simp[b7m];exact hj)]
  rw[Nat.zero_add]
  have hdl:(l.drop n).length=ops.size-n:=by rw[List.length_drop,hsz]
  have:=wpAny_of_seq (P:=P) (ops:=ops) (md:=.any) (Q':=Q) (l.drop n) n listed (a0h (l.take n) 0 x a0) w1 (fun j=>by rw[List.getElem?_drop,<-hl];simp) (by rw[hdl,hcan];exact hseq) (hend x w1 hb (fun i hi=>hf i hi (hall i hi)))
  rwa[hdl]at this
 | succ m ih =>
  intro listed x w1 inv hm hb hf
  have hex:∃j,j∈unl listed n:=by
   cases hu:unl listed n with
   | nil=>rw[hu]at hm;simp at hm
   | cons j _=>exact⟨j,by simp⟩
  obtain⟨j,hj⟩:=hex
  have hj':=mem_unl.1 hj
  have hready:Region.ready .any ops listed≠[]:=by
   obtain⟨k,hk,hmin⟩:∃k,k∈unl listed n/\∀k',k'<k->k'∉unl listed n:=by
    have:∀ (b:Nat) (k:Nat),k<=b->k∈unl listed n->∃k,k∈unl listed n/\∀k',k'<k->k'∉unl listed n:=by
     intro b
     induction b with
     | zero=>intro k hk hmem;exact⟨k,hmem,fun k' h=>by omega⟩
     | succ b ihb =>
      intro k hk hmem
      by_cases hh:∃k',k'<k/\k'∈unl listed n
      ·obtain⟨k',h1,h2⟩:=hh;exact ihb k' (by omega) h2
      exact⟨k,hmem,fun k' h1 h2=>hh ⟨k',h1,h2⟩⟩
    exact this j j (Nat.le_refl _) hj
   have hk':=mem_unl.1 hk
   have hkl:k<ops.size:=by omega
   have hko:ops[k]? =some ops[k]:=Array.getElem?_eq_getElem hkl
   have hmem:k∈Region.ready .any ops listed:=by
    refine mem_ready.2 ⟨hk'.2,ops[k],hko,fun e he hbe=>?_⟩
    have h1:=List.all_eq_true.1 hedge k (List.mem_range.2 hk'.1)
    rw[hko]at h1
    have h2:=Array.all_eq_true'.1 h1 e he
    rw[hbe]at h2
    have h3:e.on<k:=by simpa using h2
    cases hh:listed.getD e.on false with
    | true=>rfl
    | false =>
     have:e.on∈unl listed n:=mem_unl.2 ⟨by omega,getD_in (by rw[inv.size];omega) hh⟩
     exact absurd this (hmin _ h3)
   intro h0
   rw[h0]at hmem;cases hmem
  rw[show m+1+(ops.size-n)=(m+(ops.size-n))+1 by omega]
  refine⟨fun h0=>absurd h0 hready,fun i hi=>?_⟩
  have hin:i<n:=Nat.lt_of_not_le fun h=>tail_waits hs hc hn inv _ j rfl hj'.1 hj'.2 i h hi
  obtain⟨hiun,o,ho,hdeps⟩:=mem_ready.1 hi
  have hol:l[i]? =some o:=by rw[<- hl]at ho;simpa using ho
  have hot:(l.take n)[i]? =some o:=by rw[List.getElem?_take,if_pos hin];exact hol
  have hstep':=hstep i o hol hin x w1 hb (fun e he hbe=>by
   have h1:=hdeps e he hbe
   have h2:=List.all_eq_true.1 hedge i (List.mem_range.2 hin)
   rw[ho]at h2
   have h3:=Array.all_eq_true'.1 h2 e he
   rw[hbe]at h3
   have h4:e.on<i:=by simpa using h3
   refine hf e.on (by omega) ?_
   cases hh:listed.getD e.on true with
   | true=>rfl
   | false=>rw[getD_both hh]at h1;cases h1)
  have hnext:∀v w2,Below w1.heap.size w1 w2->Φ i w2 v->wpAny P .any ops Q (m+(ops.size-n)) (listed.setIfInBounds i true) ((a0h (l.take n) 0 x a0).put o.dst v) w2:=by
   intro v w2 hb2 hv
   rw[b6c (l.take n) 0 i o x a0 v hD hot]
   refine ih _ _ w2 (inv.set hi hin) (by have:=c9d (mem_unl.2 ⟨hin,hiun⟩);omega) (hb.trans (hb2.mono hb.size)) (fun k hk hlk=>?_)
   rw[Nat.zero_add]
   by_cases hki:k=i
   ·subst hki;simp only[upd,if_true];exact hv
   simp only[upd,if_neg hki]
   rw[getD_set_ne true (fun e=>hki e.symm)]at hlk
   exact hΦ k w1 w2 _ (hf k hk hlk) hb2
  unfold wpOp
  rw[ho]
  simp only[]
  split
  ·rename_i hw
   rw[if_pos hw]at hstep'
   exact .inl (Oper.wp_none (Oper.wp_mono (fun a' w2 ⟨v,e,hb2,hv⟩=>by subst e;exact hnext v w2 hb2 hv) hstep'))
  rename_i hw
  rw[if_neg hw]at hstep'
  obtain⟨v,e,hv⟩:=hstep'
  rw[e]
  exact hnext v w1 (Below.refl _ _) hv
end
theorem b9c{P:Program}{id:Nat}{Q:Exit->Act->World->Prop}{a:Act}{w:World}{l:List Oper}(n:Nat)(Φ:Nat->World->Value->Prop)(hm:P.follows .mixedOrders=true)(hB:invB l.toArray n=true)(hD:a6u (l.take n)=true)
  (hΦ:∀i w1 w2 v,Φ i w1 v->Below w1.heap.size w1 w2->Φ i w2 v)
  (hstep:∀i o,l[i]? =some o->i<n->∀ (x:Nat->Value) w1,Below w.heap.size w w1->(∀e∈o.after,Region.binds .any e=true->Φ e.on w1 (x e.on)) ->
   if Region.wanted o (yielded l.toArray (a0h (l.take n) 0 x a).tmps)then o.wp P (a0h (l.take n) 0 x a) w1 (fun a' w2=>∃v,a'=(a0h (l.take n) 0 x a).put o.dst v/\Below w1.heap.size w1 w2/\Φ i w2 v) (fun _ _ _=>False)else ∃v,(a0h (l.take n) 0 x a).put o.dst undef=(a0h (l.take n) 0 x a).put o.dst v/\Φ i w1 v)
  (hend:∀x w1,Below w.heap.size w w1->(∀i,i<n->Φ i w1 (x i))->wpList P l.toArray Q (l.drop n) (a0h (l.take n) 0 x a) w1):(Code.region id l.toArray true).wp P Q a w:=by
 refine wp_region_any hm ?_
 obtain⟨x0,hx0⟩:=b2y a (l.take n) 0
 have inv0:HeadInv .any l.toArray n (Array.replicate l.toArray.size false) :=
  ⟨by simp,fun j oj _ hl=>(by rw[getD_replicate_false]at hl;cases hl),fun t _ ht=>getD_in (by simpa using ht) (getD_replicate_false _ _)⟩
 have hlen:n<l.toArray.size:=by
  simp only[invB,Bool.and_eq_true,decide_eq_true_eq]at hB
  exact hB.1.1.1.1
 have hunl:(unl (Array.replicate l.toArray.size false) n).length=n:=by
  unfold unl
  rw[List.filter_eq_self.2]
  ·simp
  intro j hj
  have hjn:=List.mem_range.1 hj
  have:(Array.replicate l.toArray.size false).getD j true=false:=getD_in (by simpa using Nat.lt_trans hjn (by simpa using hlen)) (getD_replicate_false _ _)
  rw[this];rfl
 have hw:Below w.heap.size w {w with drawn:=w.drawn+1}:=⟨rfl,rfl,rfl,Nat.le_refl _,fun _ _=>rfl⟩
 have:=inv_any (P:=P) (Q:=Q) (a0:=a) (w0:=w) rfl hB hD hΦ hstep hend n (Array.replicate l.toArray.size false) x0 {w with drawn:=w.drawn+1} inv0 hunl hw (fun i hi h=>by
  rw[getD_in (by simpa using Nat.lt_trans hi (by simpa using hlen)) (getD_replicate_false _ _)]at h;cases h)
 rw[hx0 x0 (fun _ _=>rfl)]at this
 rw[show n+(l.toArray.size-n)=l.toArray.size by omega]at this
 exact this
theorem Oper.wp_only{P:Program}{o:Oper}{a:Act}{w:World}{K:Act->World->Prop}{Q:Exit->Act->World->Prop}(hQ:∀e a w,e≠.normal->¬Q e a w)(h:o.wp P a w K Q):o.wp P a w K (fun _ _ _=>False):=by
 unfold Oper.wp at *
 generalize (execOp a.eval o).run P w=r at *
 cases r with
 | ok n w' =>
  cases n<;>simp only[Oper.upon]at h ⊢ <;>try exact h
  exact h.mono fun e w'' he=>by
   cases e with
   | returned v=>exact he
   | panicked c=>exact absurd he (hQ _ _ _ (by simp))
   | outgrown=>obtain⟨a1,w1,h⟩:=he;exact absurd h (hQ _ _ _ (by simp))
 | halt x w'=>cases x<;>simp only[Oper.upon]at h ⊢;exact absurd h (hQ _ _ _ (by simp))
def b2f(R:Nat->Oper->Prop):List Oper->Nat->Prop
 | [],_=>True
 | o::l,i=>R i o/\b2f R l (i+1)
theorem a8g{R:Nat->Oper->Prop}:∀ (l:List Oper) (k:Nat),b2f R l k->∀i o,l[i]? =some o->R (k+i) o
 | [],_,_,_,_,h=>by simp at h
 | p::l,k,⟨h1,_⟩,0,o,h=>by
  have e:p=o:=by simpa using h
  subst e;exact h1
 | p::l,k,⟨_,h2⟩,i+1,o,h=>by
  have:=a8g l (k+1) h2 i o (by simpa using h)
  rwa[show k+1+i=k+(i+1) by omega]at this
theorem a7v:∀ (l:List Oper) (k:Nat) (x:Nat->Value) (a:Act) (t:Tmp),l.all (fun o=>o.dst != some t)=true->(a0h l k x a).eval (.tmp t)=a.eval (.tmp t)
 | [],_,_,_,_,_=>rfl
 | o::l,k,x,a,t,h=>by
  simp only[List.all_cons,Bool.and_eq_true,bne_iff_ne]at h
  rw[a0h,a7v l (k+1) x _ t h.2]
  exact Act.eval_put (fun d hd he=>by injection he with he;subst he;exact h.1 hd)
theorem c0t(a:Act)(t:Tmp)(v:Value)(h:t<a.tmps.size):(a.put (some t) v).eval (.tmp t)=v:=by
 simp[Act.put,Act.eval,Array.getD_eq_getD_getElem?,h]
theorem put_size(a:Act)(d:Option Tmp)(v:Value):(a.put d v).tmps.size=a.tmps.size:=by
 cases d with
 | none=>rfl
 | some d=>simp[Act.put]
theorem c0r:∀ (l:List Oper) (k:Nat) (x:Nat->Value) (a:Act) (j:Nat) (o:Oper) (t:Tmp),a6u l=true->l[j]? =some o->o.dst=some t->t<a.tmps.size->(a0h l k x a).eval (.tmp t)=x (k+j)
 | [],_,_,_,_,_,_,_,h,_,_=>by simp at h
 | p::l,k,x,a,0,o,t,hd,h,ho,ht=>by
  have e:p=o:=by simpa using h
  subst e
  simp only[a6u,Bool.and_eq_true]at hd
  have hd1:=hd.1
  rw[ho]at hd1
  rw[a0h,a7v l (k+1) x _ t hd1,ho,c0t _ _ _ ht];rfl
 | p::l,k,x,a,j+1,o,t,hd,h,ho,ht=>by
  simp only[a6u,Bool.and_eq_true]at hd
  rw[a0h,c0r l (k+1) x _ j o t hd.2 (by simpa using h) ho (by rw[put_size];exact ht),show k+1+j=k+(j+1) by omega]
def StepQ(a1:Act)(d:Option Tmp)(w1:World)(p:World->Value->Prop)(e:Exit)(a':Act)(w2:World):Prop:=e=.normal/\∃v,a'=a1.put d v/\Below w1.heap.size w1 w2/\p w2 v
theorem StepQ.mk{a1:Act}{d:Option Tmp}{w1:World}{p:World->Value->Prop}{w2:World}(v:Value)(hb:Below w1.heap.size w1 w2)(hv:p w2 v):StepQ a1 d w1 p .normal (a1.put d v) w2:=⟨rfl,v,rfl,hb,hv⟩
theorem a3j(a:Act)(t:Tmp):a.eval (.tmp t)=a.tmps[t]?.getD undef:=by
 simp[Act.eval,Array.getD_eq_getD_getElem?]
def StepR(P:Program)(l:List Oper)(n:Nat)(Φ:Nat->World->Value->Prop)(a:Act)(w:World)(i:Nat)(o:Oper):Prop :=
 ∀ (x:Nat->Value) (a1:Act) (w1:World),Below w.heap.size w w1->(∀j o' t,(l.take n)[j]? =some o'->o'.dst=some t->a1.tmps[t]?.getD undef=x j)->(∀t,(l.take n).all (fun o=>o.dst != some t)=true->a1.tmps[t]?.getD undef=a.tmps[t]?.getD undef) ->
  (∀e∈o.after,Region.binds .any e=true->Φ e.on w1 (x e.on))->wpList P l.toArray (StepQ a1 o.dst w1 (Φ i)) [o] a1 w1
theorem b4u{P:Program}{id:Nat}{Q:Exit->Act->World->Prop}{a:Act}{w:World}{l:List Oper}(n:Nat)(Φ:Nat->World->Value->Prop)(hm:P.follows .mixedOrders=true)(hB:invB l.toArray n=true)(hD:a6u (l.take n)=true)
  (hS:(l.take n).all (fun o=>match o.dst with | some d=>decide (d<a.tmps.size) | none=>true)=true)
  (hΦ:∀i w1 w2 v,Φ i w1 v->Below w1.heap.size w1 w2->Φ i w2 v)
  (hstep:b2f (StepR P l n Φ a w) (l.take n) 0)
  (hend:∀x w1,Below w.heap.size w w1->(∀i,i<n->Φ i w1 (x i))->wpList P l.toArray Q (l.drop n) (a0h (l.take n) 0 x a) w1):(Code.region id l.toArray true).wp P Q a w:=by
 refine b9c n Φ hm hB hD hΦ (fun i o ho hi x w1 hb hd=>?_) hend
 have hot:(l.take n)[i]? =some o:=by rw[List.getElem?_take,if_pos hi];exact ho
 have h:=a8g _ _ hstep i o hot
 rw[Nat.zero_add]at h
 have h:=h x (a0h (l.take n) 0 x a) w1 hb (fun j o' t hj hd'=>by
  have hs:=List.all_eq_true.1 hS o' (List.mem_of_getElem? hj)
  rw[hd']at hs
  have:=c0r (l.take n) 0 x a j o' t hD hj hd' (by simpa using hs)
  rwa[Nat.zero_add,a3j]at this) (fun t ht=>by
  have:=a7v (l.take n) 0 x a t ht
  rwa[a3j,a3j]at this) hd
 unfold StepQ at h
 unfold wpList at h
 split
 ·rename_i hw
  rw[if_pos hw]at h
  rcases h with h | ⟨_,a2,w2,h⟩
  ·exact Oper.wp_mono (fun a' w2 hh=>hh.2) (Oper.wp_only (fun e a w he hh=>he hh.1) h)
  cases h.1
 rename_i hw
 rw[if_neg hw]at h
 obtain⟨_,v,e,_,hv⟩:=h
 exact⟨v,e,hv⟩
def stb:List (World->Value->Prop)->Prop
 | []=>True
 | p::l=>(∀w1 w2 v,p w1 v->Below w1.heap.size w1 w2->p w2 v)/\stb l
theorem c6b:∀ (F:List (World->Value->Prop)),stb F->∀i w1 w2 v,(F.getD i (fun _ _=>True)) w1 v->Below w1.heap.size w1 w2->(F.getD i (fun _ _=>True)) w2 v
 | [],_,_,_,_,_,_,_=>trivial
 | _::_,h,0,w1,w2,v,hp,hb=>h.1 w1 w2 v hp hb
 | _::l,h,i+1,w1,w2,v,hp,hb=>c6b l h.2 i w1 w2 v hp hb
theorem a0d{P:Program}{id:Nat}{Q:Exit->Act->World->Prop}{a:Act}{w:World}{l:List Oper}(n:Nat)(F:List (World->Value->Prop))(hm:P.follows .mixedOrders=true)(hB:invB l.toArray n=true)(hD:a6u (l.take n)=true)
  (hS:(l.take n).all (fun o=>match o.dst with | some d=>decide (d<a.tmps.size) | none=>true)=true) (hF:stb F)
  (hstep:b2f (StepR P l n (fun i=>F.getD i (fun _ _=>True)) a w) (l.take n) 0)
  (hend:∀x w1,Below w.heap.size w w1->(∀i,i<n->(F.getD i (fun _ _=>True)) w1 (x i))->wpList P l.toArray Q (l.drop n) (a0h (l.take n) 0 x a) w1):(Code.region id l.toArray true).wp P Q a w :=
 b4u n (fun i=>F.getD i (fun _ _=>True)) hm hB hD hS (c6b F hF) hstep hend

structure SH(A B C:Prop):Prop where
  ev:A
  ev0:B
  hd:C
theorem SH.r{l:List Oper}{n:Nat}{a1:Act}{x:Nat->Value}{B:Prop}{es:Array Edge}{Ψ:Edge->Prop}
    (H:SH (∀j o' t,(l.take n)[j]? =some o'->o'.dst=some t->a1.tmps[t]?.getD undef=x j) B (∀e∈es,Region.binds .any e=true->Ψ e)) (j t:Nat) {c:Value}
    (h1:((l.take n)[j]?).bind (fun o=>o.dst)=some t:=by exact rfl) (h2:⟨j,.data⟩∈es:=by first | (simp;done) | fail) (h3:Ψ ⟨j,.data⟩=(x j=c):=by exact rfl):a1.tmps[t]?.getD undef=c:=by
  obtain⟨o,ho,hd⟩:=Option.bind_eq_some_iff.1 h1
  have h:=H.hd ⟨j,.data⟩ h2 rfl
  rw[h3]at h
  exact(H.ev j o t ho hd).trans h
theorem SH.g{l:List Oper}{n:Nat}{a1:Act}{x:Nat->Value}{B:Prop}{es:Array Edge}{Ψ:Edge->Prop}
    (H:SH (∀j o' t,(l.take n)[j]? =some o'->o'.dst=some t->a1.tmps[t]?.getD undef=x j) B (∀e∈es,Region.binds .any e=true->Ψ e)) (j t:Nat) {c:Value}
    (h1:((l.take n)[j]?).bind (fun o=>o.dst)=some t:=by exact rfl) (h2:⟨j,.guard⟩∈es:=by first | (simp;done) | fail) (h3:Ψ ⟨j,.guard⟩=(x j=c):=by exact rfl):a1.tmps[t]?.getD undef=c:=by
  obtain⟨o,ho,hd⟩:=Option.bind_eq_some_iff.1 h1
  have h:=H.hd ⟨j,.guard⟩ h2 rfl
  rw[h3]at h
  exact(H.ev j o t ho hd).trans h
theorem SH.n{l:List Oper}{n:Nat}{a1:Act}{x:Nat->Value}{B:Prop}{es:Array Edge}{Ψ:Edge->Prop}
    (H:SH (∀j o' t,(l.take n)[j]? =some o'->o'.dst=some t->a1.tmps[t]?.getD undef=x j) B (∀e∈es,Region.binds .any e=true->Ψ e)) (j t:Nat) {A:Prop} {c:Value}
    (h1:((l.take n)[j]?).bind (fun o=>o.dst)=some t:=by exact rfl) (h2:⟨j,.data⟩∈es:=by first | (simp;done) | fail) (h3:Ψ ⟨j,.data⟩=(A->x j=c):=by exact rfl) (hA:A:=by decide):a1.tmps[t]?.getD undef=c:=by
  obtain⟨o,ho,hd⟩:=Option.bind_eq_some_iff.1 h1
  have h:=H.hd ⟨j,.data⟩ h2 rfl
  rw[h3]at h
  exact(H.ev j o t ho hd).trans (h hA)
theorem SH.i{A C:Prop}{p:Nat->Bool}{a a1:Act}(H:SH A (∀t,p t=true->a1.tmps[t]?.getD undef=a.tmps[t]?.getD undef) C)(t:Nat){c:Value}(h1:p t=true:=by exact rfl)(h2:a.tmps[t]? =some c:=by exact rfl):a1.tmps[t]?.getD undef=c:=by
  rw[H.ev0 t h1,h2];rfl
theorem vQ{F:List (World->Value->Prop)}{n:Nat}{x:Nat->Value}{w1:World}(hv:∀i,i<n->(F.getD i (fun _ _=>True)) w1 (x i))(i:Nat){c:Value}(h:i<n:=by decide)(e:(F.getD i (fun _ _=>True)) w1 (x i)=(x i=c):=by exact rfl):x i=c:=e.mp (hv i h)
theorem pP{c:Value}{R:World->World->Prop}:∀ (w1 w2:World) (v:Value),v=c->R w1 w2->v=c:=fun _ _ _ h _=>h
theorem sR{a1:Act}{d:Option Tmp}{w1:World}{p:World->Value->Prop}{v:Value}(h:p w1 v):StepQ a1 d w1 p .normal (a1.put d v) w1:=StepQ.mk v (Below.refl _ _) h
end Go.Proofs.YtjmiicjialkpiaaGreatDoor
