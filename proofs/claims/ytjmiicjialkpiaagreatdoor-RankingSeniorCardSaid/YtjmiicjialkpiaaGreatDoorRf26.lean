/-
Part 26 of the base.
-/
import Derived.Test.YtjmiicjialkpiaaGreatDoorRf25
namespace Go.Proofs.YtjmiicjialkpiaaGreatDoor
open Go.RowKit
def cntP(p:Nat->Bool)(k:Nat):Nat:=((List.range k).filter p).length
theorem c3n(p:Nat->Bool)(k:Nat):cntP p (k+1)=cntP p k+if p k=true then 1 else 0:=by
 unfold cntP
 rw[a0v,List.length_append]
 congr 1
 split<;>rfl
theorem d2q{p:Nat->Bool}{a b:Nat}(h:a<=b):cntP p a<=cntP p b:=by
 obtain⟨d,rfl⟩:=Nat.exists_eq_add_of_le h
 induction d with
 | zero=>exact Nat.le_refl _
 | succ d ih =>
  have:=ih (by omega)
  rw[<- Nat.add_assoc,c3n];omega
theorem c5h{p:Nat->Bool}{a b:Nat}(h:a<b)(hp:p a=true):cntP p a<cntP p b:=by
 have h1:=d2q (p:=p) (show a+1<=b from h)
 rw[c3n,if_pos hp]at h1;omega
theorem b0r(p:Nat->Bool):∀ (n t a:Nat),((List.range n).filter p)[t]? =some a↔a<n/\p a=true/\t=cntP p a
 | 0,t,a=>by simp
 | n+1,t,a=>by
  have ih:=b0r p n t a
  have hc:((List.range n).filter p).length=cntP p n:=rfl
  rw[a0v,List.getElem?_append,hc]
  by_cases ht:t<cntP p n
  ·rw[if_pos ht,ih]
   constructor
   ·rintro⟨h1,h2,h3⟩;exact⟨by omega,h2,h3⟩
   rintro⟨h1,h2,h3⟩
   refine⟨?_,h2,h3⟩
   rcases Nat.lt_or_ge a n with h | h
   ·exact h
   obtain rfl:a=n:=by omega
   omega
  rw[if_neg ht]
  by_cases hp:p n=true
  ·rw[if_pos hp]
   constructor
   ·intro h
    have h0:t-cntP p n=0:=by
     rcases Nat.eq_zero_or_pos (t-cntP p n)with h0 | h0
     ·exact h0
     rw[List.getElem?_eq_none (by rw[List.length_singleton];omega)]at h;cases h
    rw[h0]at h
    obtain rfl:n=a:=by simpa using h
    exact⟨by omega,hp,by omega⟩
   rintro⟨h1,h2,h3⟩
   have:a=n:=by
    rcases Nat.lt_or_ge a n with h | h
    ·have:=c5h h h2;omega
    omega
   subst this
   rw[h3,Nat.sub_self];rfl
  rw[if_neg hp]
  constructor
  ·intro h;simp at h
  rintro⟨h1,h2,h3⟩
  rcases Nat.lt_or_ge a n with h | h
  ·have:=c5h h h2;omega
  obtain rfl:a=n:=by omega
  exact absurd h2 hp
section
variable {n : Nat} {r cn : Nat -> Nat -> Bool} {lev : Nat -> Nat} {part : Nat -> Prt}
def c0p(n:Nat)(lev:Nat->Nat)(cn:Nat->Nat->Bool)(part:Nat->Prt)(d:Nat)(v:Nat):Bool:=!(a4r n lev cn part d v).isEmpty
theorem tierK_at{d v q:Nat}{x:Prt}:(a4r n lev cn part d v)[q]? =some x↔∃i,i<n/\cn d i=true/\lev i=v/\q=cntP (fun j=>cn d j&&decide (lev j=v)) i/\x=part i:=by
 unfold a4r
 rw[List.getElem?_map,Option.map_eq_some_iff]
 constructor
 ·rintro⟨i,h1,rfl⟩
  obtain⟨h2,h3,h4⟩:=(b0r _ _ _ _).1 h1
  rw[Bool.and_eq_true,decide_eq_true_eq]at h3
  exact⟨i,h2,h3.1,h3.2,h4,rfl⟩
 rintro⟨i,h1,h2,h3,h4,rfl⟩
 exact⟨i,(b0r _ _ _ _).2 ⟨h1,by rw[Bool.and_eq_true,decide_eq_true_eq];exact⟨h2,h3⟩,h4⟩,rfl⟩
theorem tiersK_at{d t:Nat}{P:List Prt}:(b0c n lev cn part d)[t]? =some P↔∃v,v<n/\c0p n lev cn part d v=true/\t=cntP (c0p n lev cn part d) v/\P=a4r n lev cn part d v:=by
 unfold b0c
 rw[List.filter_map,List.getElem?_map,Option.map_eq_some_iff]
 have hp:((fun t:List Prt=>!t.isEmpty)∘a4r n lev cn part d)=c0p n lev cn part d:=rfl
 rw[hp]
 constructor
 ·rintro⟨v,h1,rfl⟩
  obtain⟨h2,h3,h4⟩:=(b0r _ _ _ _).1 h1
  exact⟨v,h2,h3,h4,rfl⟩
 rintro⟨v,h1,h2,h3,rfl⟩
 exact⟨v,(b0r _ _ _ _).2 ⟨h1,h2,h3⟩,rfl⟩
theorem agrOf_at{k:Nat}{T:List (List Prt)}:(a8b n r lev cn part)[k]? =some T↔∃d,d<n/\a7d n r cn d=true/\k=cntP (a7d n r cn) d/\T=b0c n lev cn part d:=by
 unfold a8b
 rw[List.getElem?_map,Option.map_eq_some_iff]
 constructor
 ·rintro⟨v,h1,rfl⟩
  obtain⟨h2,h3,h4⟩:=(b0r _ _ _ _).1 h1
  exact⟨v,h2,h3,h4,rfl⟩
 rintro⟨v,h1,h2,h3,rfl⟩
 exact⟨v,(b0r _ _ _ _).2 ⟨h1,h2,h3⟩,rfl⟩
def Plc(A:List (List (List Prt)))(k t q:Nat)(x:Prt):Prop:=∃T P,A[k]? =some T/\T[t]? =some P/\P[q]? =some x
theorem plc_iff{k t q:Nat}{x:Prt}:Plc (a8b n r lev cn part) k t q x↔∃d i,d<n/\a7d n r cn d=true/\k=cntP (a7d n r cn) d/\i<n/\cn d i=true/\lev i<n/\t=cntP (c0p n lev cn part d) (lev i)/\q=cntP (fun j=>cn d j&&decide (lev j=lev i)) i/\x=part i:=by
 constructor
 ·rintro⟨T,P,h1,h2,h3⟩
  obtain⟨d,a1,a2,a3,rfl⟩:=agrOf_at.1 h1
  obtain⟨v,b1,b2,b3,rfl⟩:=tiersK_at.1 h2
  obtain⟨i,c1,c2,rfl,c4,c5⟩:=tierK_at.1 h3
  exact⟨d,i,a1,a2,a3,c1,c2,b1,b3,c4,c5⟩
 rintro⟨d,i,a1,a2,a3,c1,c2,b1,b3,c4,c5⟩
 have h3:(a4r n lev cn part d (lev i))[q]? =some x:=tierK_at.2 ⟨i,c1,c2,rfl,c4,c5⟩
 have hf:c0p n lev cn part d (lev i)=true:=by
  unfold c0p
  cases hT:a4r n lev cn part d (lev i)with
  | nil=>rw[hT]at h3;simp at h3
  | cons _ _=>rfl
 exact⟨_,_,agrOf_at.2 ⟨d,a1,a2,a3,rfl⟩,tiersK_at.2 ⟨_,b1,hf,b3,rfl⟩,h3⟩
end
def PU(A:List (List (List Prt)))(n:Nat):Prop:=(∀k t q x,Plc A k t q x->∃i:Nat,i<n/\x.claim=(i:Nat))/\∀k t q x k' t' q' x',Plc A k t q x->Plc A k' t' q' x'->x.claim=x'.claim->k=k'/\t=t'/\q=q'
def Seen(A:List (List (List Prt)))(k t q i k' t':Nat):Prop:=∃q' x,Plc A k' t' q' x/\x.claim=(i:Nat)/\(k'<k\/(k'=k/\(t'<t\/(t'=t/\q'<q))))
def PInv(A:List (List (List Prt)))(n k t q:Nat)(F G:Nat->Int):Prop:=∀i,i<n->(∀k' t',Seen A k t q i k' t'->F i=(k':Nat)/\G i=(t':Nat))/\((∀k' t',¬Seen A k t q i k' t')->F i = -1)
section
variable {A : List (List (List Prt))} {n k t q : Nat} {F G : Nat -> Int}
theorem PInv.start(A:List (List (List Prt)))(n:Nat){F G:Nat->Int}(h:∀i,i<n->F i = -1):PInv A n 0 0 0 F G:=fun i hi=>⟨fun k' t' ⟨q',x,_,_,h⟩=>by omega,fun _=>h i hi⟩
theorem PInv.put{x:Prt}{i:Nat}(hu:PU A n)(h:PInv A n k t q F G)(hp:Plc A k t q x)(hx:x.claim=(i:Nat))(hi:i<n):F i = -1/\PInv A n k t (q+1) (putA F i (k:Nat)) (putA G i (t:Nat)):=by
 have hno:∀k' t',¬Seen A k t q i k' t':=by
  rintro k' t' ⟨q',x',h1,h2,h3⟩
  obtain⟨e1,e2,e3⟩:=hu.2 _ _ _ _ _ _ _ _ h1 hp (h2.trans hx.symm)
  omega
 refine⟨(h i hi).2 hno,fun j hj=>?_⟩
 by_cases hji:j=i
 ·subst hji
  refine⟨fun k' t' hs=>?_,fun hn=>absurd ⟨q,x,hp,hx,.inr ⟨rfl,.inr ⟨rfl,by omega⟩⟩⟩ (hn k t)⟩
  obtain⟨q',x',h1,h2,h3⟩:=hs
  obtain⟨rfl,rfl,rfl⟩:=hu.2 _ _ _ _ _ _ _ _ h1 hp (h2.trans hx.symm)
  unfold putA
  rw[if_pos rfl,if_pos rfl]
  exact⟨rfl,rfl⟩
 have e:∀k' t',Seen A k t (q+1) j k' t'↔Seen A k t q j k' t':=by
  intro k' t'
  constructor
  ·rintro⟨q',x',h1,h2,h3⟩
   refine⟨q',x',h1,h2,?_⟩
   rcases h3 with h3 | ⟨rfl,h3 | ⟨rfl,h3⟩⟩
   ·exact .inl h3
   ·exact .inr ⟨rfl,.inl h3⟩
   refine .inr ⟨rfl,.inr ⟨rfl,?_⟩⟩
   rcases Nat.lt_or_ge q' q with hq | hq
   ·exact hq
   obtain rfl:q'=q:=by omega
   obtain⟨T,P,a1,a2,a3⟩:=h1
   obtain⟨T',P',b1,b2,b3⟩:=hp
   rw[a1]at b1
   obtain rfl:=Option.some.inj b1
   rw[a2]at b2
   obtain rfl:=Option.some.inj b2
   rw[a3]at b3
   obtain rfl:=Option.some.inj b3
   rw[h2]at hx
   exact absurd (Int.ofNat.inj hx) hji
  rintro⟨q',x',h1,h2,h3⟩
  exact⟨q',x',h1,h2,by omega⟩
 obtain⟨g1,g2⟩:=h j hj
 unfold putA
 rw[if_neg hji,if_neg hji]
 exact⟨fun k' t' hs=>g1 k' t' ((e k' t').1 hs),fun hn=>g2 fun k' t' hs=>hn k' t' ((e k' t').2 hs)⟩
theorem PInv.tier{T:List (List Prt)}{P:List Prt}(hT:A[k]? =some T)(hP:T[t]? =some P)(h:PInv A n k t P.length F G):PInv A n k (t+1) 0 F G:=by
 have e:∀i k' t',Seen A k (t+1) 0 i k' t'↔Seen A k t P.length i k' t':=by
  intro i k' t'
  constructor
  ·rintro⟨q',x',h1,h2,h3⟩
   refine⟨q',x',h1,h2,?_⟩
   by_cases hh:k'=k/\t'=t
   ·obtain⟨rfl,rfl⟩:=hh
    obtain⟨T',P',a1,a2,a3⟩:=h1
    rw[hT]at a1
    obtain rfl:=Option.some.inj a1
    rw[hP]at a2
    obtain rfl:=Option.some.inj a2
    have:=(List.getElem?_eq_some_iff.1 a3).1
    omega
   omega
  rintro⟨q',x',h1,h2,h3⟩
  exact⟨q',x',h1,h2,by omega⟩
 intro i hi
 obtain⟨g1,g2⟩:=h i hi
 exact⟨fun k' t' hs=>g1 k' t' ((e i k' t').1 hs),fun hn=>g2 fun k' t' hs=>hn k' t' ((e i k' t').2 hs)⟩
theorem PInv.done{i:Nat}(h:PInv A n A.length 0 0 F G)(hi:i<n):(∀k t q x,Plc A k t q x->x.claim=(i:Nat)->F i=(k:Nat)/\G i=(t:Nat))/\((∀k t q x,Plc A k t q x->x.claim≠(i:Nat))->F i = -1):=by
 obtain⟨g1,g2⟩:=h i hi
 refine⟨fun k t q x hp hx=>?_,fun hn=>g2 fun k' t' ⟨q',x',h1,h2,_⟩=>hn _ _ _ _ h1 h2⟩
 refine g1 k t ⟨q,x,hp,hx,.inl ?_⟩
 obtain⟨T,P,a1,_⟩:=hp
 exact(List.getElem?_eq_some_iff.1 a1).1
end
theorem a3r(cl:List Nmd)(l:List Cls)(i:Nat):(a2e cl l i).claim=(i:Nat):=by
 unfold a2e
 split
 ·rfl
 split<;>rfl
theorem c6p{cl:List Nmd}{l:List Cls}(hO:Okay cl l)(i:Nat):(a2e cl l i).capped=true->0<=(a2e cl l i).cap.val:=by
 unfold a2e
 split
 ·intro h;cases h
 rename_i c hc
 split
 ·intro h;cases h
 rename_i x hx
 intro _
 dsimp only
 rw[b1w]
 unfold limC at hx
 have h1:=List.find?_some hx
 have h2:=List.mem_of_find?_eq_some hx
 rw[Bool.and_eq_true,decide_eq_true_eq]at h1
 have h3:=hO.pos x h2 h1.1
 exact c9t (by omega)
theorem d0s{cl:List Nmd}{l:List Cls}(hO:Okay cl l)(i:Nat):¬Way (Rel cl l l.length) i i:=fun h=>hO.free ⟨i,h⟩
theorem d1q{r:Nat->Nat->Prop}{n:Nat}{lev:Nat->Nat}(hb:∀i j,r i j->i<n/\j<n)(h:Lv r n lev):∀ (m j:Nat),j<n->lev j=m->Chain r m j:=by
 intro m
 induction m with
 | zero=>intro j _ _;exact .zero j
 | succ m ih =>
  intro j hj hm
  rcases h.2 j hj with h0 | ⟨i,h1,h2⟩
  ·omega
  exact .succ (ih i (hb _ _ h1).1 (by omega)) h1
theorem lev_lt{r:Nat->Nat->Prop}{n:Nat}{lev:Nat->Nat}(hb:∀i j,r i j->i<n/\j<n)(hf:∀i,¬Way r i i)(h:Lv r n lev){j:Nat}(hj:j<n):lev j<n:=(d1q hb h _ j hj rfl).short hf hb hj
section
variable {n : Nat} {r : Nat -> Nat -> Prop} {rb cn : Nat -> Nat -> Bool} {lev : Nat -> Nat} {part : Nat -> Prt}
theorem c0k{d:Nat}(hrb:∀a b,rb a b=true↔r a b)(hb:∀i j,r i j->i<n/\j<n):a7d n rb cn d=true↔(∃j,r d j\/r j d)/\∀x,x<d->cn d x=false:=by
 unfold a7d
 rw[Bool.and_eq_true,List.any_eq_true,List.all_eq_true]
 constructor
 ·rintro⟨⟨b,_,h1⟩,h2⟩
  rw[Bool.or_eq_true,hrb,hrb]at h1
  exact⟨⟨b,h1⟩,fun x hx=>by have:=h2 x (List.mem_range.2 hx);rwa[Bool.not_eq_true']at this⟩
 rintro⟨⟨b,h1⟩,h2⟩
 refine⟨⟨b,List.mem_range.2 ?_,by rw[Bool.or_eq_true,hrb,hrb];exact h1⟩,fun x hx=>by rw[Bool.not_eq_true'];exact h2 x (List.mem_range.1 hx)⟩
 rcases h1 with h1 | h1
 ·exact(hb _ _ h1).2
 exact(hb _ _ h1).1
theorem c3d{p:Nat->Prop}:∀ (m:Nat),p m->∃d,d<=m/\p d/\∀x,x<d->¬p x:=by
 intro m
 induction m using Nat.strongRecOn with
 | ind m ih =>
  intro hm
  by_cases h:∃x,x<m/\p x
  ·obtain⟨x,h1,h2⟩:=h
   obtain⟨d,g1,g2,g3⟩:=ih x h1 h2
   exact⟨d,by omega,g2,g3⟩
  exact⟨m,Nat.le_refl _,hm,fun x hx hp=>h ⟨x,hx,hp⟩⟩
theorem has_lead(hrb:∀a b,rb a b=true↔r a b)(hcn:∀a b,cn a b=true↔Conn r a b)(hb:∀i j,r i j->i<n/\j<n){i:Nat}(hi:i<n)(he:∃j,r i j\/r j i):∃d,d<n/\a7d n rb cn d=true/\cn d i=true:=by
 obtain⟨d,h1,h2,h3⟩:=c3d (p:=fun x=>Conn r i x) i (.refl i)
 refine⟨d,by omega,(c0k hrb hb).2 ⟨?_,fun x hx=>?_⟩,(hcn d i).2 h2.symm⟩
 ·by_cases hdi:d=i
  ·rw[hdi];exact he
  exact h2.symm.other hdi
 cases hc:cn d x with
 | false=>rfl
 | true=>exact absurd (h2.trans ((hcn d x).1 hc)) (h3 x hx)
theorem lead_one(hrb:∀a b,rb a b=true↔r a b)(hcn:∀a b,cn a b=true↔Conn r a b)(hb:∀i j,r i j->i<n/\j<n){d d':Nat}(h:a7d n rb cn d=true)(h':a7d n rb cn d'=true)(hc:Conn r d d'):d=d':=by
 have h1:=((c0k hrb hb).1 h).2
 have h2:=((c0k hrb hb).1 h').2
 rcases Nat.lt_trichotomy d d' with hlt | he | hlt
 ·have:=h2 d hlt
  rw[(hcn d' d).2 hc.symm]at this;cases this
 ·exact he
 have:=h1 d' hlt
 rw[(hcn d d').2 hc]at this;cases this
theorem b9a(hrb:∀a b,rb a b=true↔r a b)(hcn:∀a b,cn a b=true↔Conn r a b)(hb:∀i j,r i j->i<n/\j<n)(hpc:∀i,(part i).claim=(i:Nat)):PU (a8b n rb lev cn part) n:=by
 refine⟨fun k t q x hp=>?_,fun k t q x k' t' q' x' hp hp' hx=>?_⟩
 ·obtain⟨d,i,_,_,_,hi,_,_,_,_,rfl⟩:=plc_iff.1 hp
  exact⟨i,hi,hpc i⟩
 obtain⟨d,i,a1,a2,rfl,a4,a5,a6,rfl,rfl,rfl⟩:=plc_iff.1 hp
 obtain⟨d',i',b1,b2,rfl,b4,b5,b6,rfl,rfl,rfl⟩:=plc_iff.1 hp'
 rw[hpc,hpc]at hx
 obtain rfl:i=i':=Int.ofNat.inj hx
 obtain rfl:=lead_one hrb hcn hb a2 b2 (((hcn _ _).1 a5).trans ((hcn _ _).1 b5).symm)
 exact⟨rfl,rfl,rfl⟩
theorem full_at{d i:Nat}(hi:i<n)(hc:cn d i=true):c0p n lev cn part d (lev i)=true:=by
 have h3:(a4r n lev cn part d (lev i))[cntP (fun j=>cn d j&&decide (lev j=lev i)) i]? =some (part i):=tierK_at.2 ⟨i,hi,hc,rfl,rfl,rfl⟩
 unfold c0p
 cases hT:a4r n lev cn part d (lev i)with
 | nil=>rw[hT]at h3;simp at h3
 | cons _ _=>rfl
end
set_option maxRecDepth 100000
set_option maxHeartbeats 2000000
structure Clm where
 rank:Int
 am:Raw3
def Clm.enc(c:Clm):List Value:=[.int .i64 (-1),.int .i64 c.rank,.bool c.am.n,.string (bs c.am.a),.string (bs c.am.b)]
theorem c5j(c:Clm):c.enc.length=5:=rfl
abbrev ClmL(w:World)(v:Value)(l:List Clm):Prop:=Slc Clm.enc 5 w v l
def hasC(c:Int)(x:Prt):Bool:=x.claim==c
def memB(T:List (List Prt))(c:Int):Bool:=T.any fun P=>P.any (hasC c)
theorem c7p{α:Type}{f:α->Bool}{l:List α}{k:Nat}{x:α}(hq:l[k]? =some x)(h:(l.take k).any f=false)(hx:f x=false):(l.take (k+1)).any f=false:=by rw[a3g hq,List.any_append,h,List.any_cons,hx];rfl
theorem d2z{α:Type}{f:α->Bool}{l:List α}(h:(l.take l.length).any f=false):l.any f=false:=by rwa[List.take_length]at h
theorem memB_iff{T:List (List Prt)}{c:Int}:memB T c=true↔∃P∈T,∃x∈P,x.claim=c:=by
 unfold memB hasC
 simp only[List.any_eq_true,beq_iff_eq]
theorem a8r(v:Value)(T:List (List Prt))(c:Int)(w:World)(h:TierL w v T) :
  Calls Tryz.prog 53 #[.agg #[v],.int .i64 c] w fun e w'=>e=.returned (.bool (memB T c))/\Below w.heap.size w w':=by
 have H:=zh h
 obtain⟨A1,c1,rfl,l1,l2⟩:=NstL.slice h
 have LN:=zh (Nat.le_trans l1 l2)
 obtain⟨q,hq⟩:∃q,q=memB T c:=⟨_,rfl⟩
 have HYES:Hid (∀P∈T,∀x∈P,(x.claim==c)=true->q=true):=zh fun P hP x hx he=>by rw[hq];exact memB_iff.2 ⟨P,hP,x,hx,by simpa using he⟩
 have HNO:Hid ((T.take T.length).any (fun P=>P.any (hasC c))=false->q=false):=zh fun hh=>by rw[hq];exact d2z hh
 rw[<- hq]
 clear h l1 l2 hq
 go_enter Tryz.func53,Tryz.ntmps53
 have HS:=zh (St.start w)
 go_wp2
 go_loopw [5] (fun i_ wr=>∃i:Nat,i<=T.length/\i_=.int .i64 i/\Hid ((T.take i).any (fun P=>P.any (hasC c))=false)/\Hid (St w [⟨w.heap.size,#[.slice A1 T.length c1],78⟩] wr)) (fun i_ _=>T.length-(intOf i_).toNat)
 case atStart=>exact⟨0,Nat.zero_le _,rfl,rfl,(St.alloc (HS.out) #[.slice A1 T.length c1] 78 (w.heap.size) (by simp))⟩
 case round =>
  obtain⟨i,hi,rfl,HI,HS⟩:=hrel
  by_cases hin:i<T.length
  ·obtain⟨b1,o1,u,P,rfl,hb1,hq,hP,hx1⟩:=NstL.at_ H.out hin
   obtain⟨A3,c3,rfl,l3,l4⟩:=Slc.slice hP
   have HP:=zh hP
   have HX1:=zh hx1
   have HTP:=zh hq
   have L3:=zh (Nat.le_trans l3 l4)
   have e0:(0:Int)<=((i:Nat):Int):=by omega
   have e1:((i:Nat):Int)<(T.length:Int):=by omega
   have e2:decide (((i:Nat):Int)<(T.length:Int))=true:=decide_eq_true e1
   have e5:IntKind.i64.wrap ((i:Int)+1)=((i+1:Nat):Int):=by have:=LN.out;rw[IntWalk.i64_in _ (by omega)];rfl
   clear hP hx1 hq l3 l4
   have x1:=cC HS 0 0
   go_wp2
   go_loopw [6] (fun k_ wr=>∃k:Nat,k<=P.length/\k_=.int .i64 k/\Hid ((P.take k).any (hasC c)=false)/\Hid (St w [⟨w.heap.size,#[.slice (some ⟨b1,o1,none⟩) T.length c1],78⟩] wr)) (fun k_ _=>P.length-(intOf k_).toNat)
   case atStart=>exact⟨0,Nat.zero_le _,rfl,rfl,HS.out⟩
   case round =>
    clear HS
    obtain⟨k,hk,rfl,HK,HV⟩:=hrel
    by_cases hkn:k<P.length
    ·obtain⟨b3,o3,x,rfl,hb3,hq,hx⟩:=Slc.at_ HP.out hkn
     unfold Prt.enc at hx
     have HX:=zh hx
     have HQ:=zh hq
     obtain⟨y,hy⟩:∃y,y=(x.claim==c):=⟨_,rfl⟩
     have hy1:(x.claim==c)=y:=hy.symm
     have HY1:=zh hy1
     have f0:(0:Int)<=((k:Nat):Int):=by omega
     have f1:((k:Nat):Int)<(P.length:Int):=by omega
     have f2:decide (((k:Nat):Int)<(P.length:Int))=true:=decide_eq_true f1
     have f5:IntKind.i64.wrap ((k:Int)+1)=((k+1:Nat):Int):=by have:=L3.out;rw[IntWalk.i64_in _ (by omega)];rfl
     clear hx hq hy
     cases y
     ·have x2:=cC HV 0 0
      have x3:=HX1.out _ HV.out.below 0 _ rfl
      rw[Nat.add_zero]at x3
      have x4:=HX.out _ HV.out.below 0 _ rfl
      rw[Nat.add_zero]at x4
      go_wp2
      go_roundw
      case rel=>exact⟨k+1,by omega,by go_num,c7p HQ.out HK.out HY1.out,HV.out⟩
      case measure=>simp[intOf];omega
     have x2:=cC HV 0 0
     have x3:=HX1.out _ HV.out.below 0 _ rfl
     rw[Nat.add_zero]at x3
     have x4:=HX.out _ HV.out.below 0 _ rfl
     rw[Nat.add_zero]at x4
     go_wp2
     go_ret
     rw[HYES.out P (List.mem_of_getElem? HTP.out) x (List.mem_of_getElem? HQ.out) HY1.out]
     exact⟨rfl,HV.out.below⟩
    have hke:k=P.length:=by omega
    rw[hke]at HK ⊢
    have f2:decide (((P.length:Nat):Int)<(P.length:Int))=false:=decide_eq_false (by omega)
    clear hke hk hkn
    have x2:=cC HV 0 0
    have x3:=HX1.out _ HV.out.below 0 _ rfl
    rw[Nat.add_zero]at x3
    go_wp2
    go_roundw
    case rel=>exact⟨i+1,by omega,by go_num,c7p HTP.out HI.out (d2z HK.out),HV.out⟩
    case measure=>simp[intOf];omega
  have hie:i=T.length:=by omega
  rw[hie]at HI ⊢
  have e2:decide (((T.length:Nat):Int)<(T.length:Int))=false:=decide_eq_false (by omega)
  clear hie hi hin
  have x1:=cC HS 0 0
  go_wp2
  go_ret
  rw[HNO.out HI.out]
  exact⟨rfl,HS.out.below⟩
structure EstOk(E:List Clm)(A:List (List (List Prt))):Prop where
 nE:E.length<=24
 nA:A.length<=12
 rank:∀c∈E,0<=c.rank/\c.rank<=7
 am:∀c∈E,0<=sgn c.am.val.num/\c.am.a.length<=17179869184/\c.am.b.length<=17179869184
 tiers:∀T∈A,T.length<=24/\∀P∈T,P.length<=24
 part:∀T∈A,∀P∈T,∀x∈P,(0<=x.claim/\x.claim<E.length)/\(x.capped=true->0<=sgn x.cap.val.num)/\x.cap.a.length<=17179869184/\x.cap.b.length<=17179869184
 once:∀ (j k:Nat) (T T':List (List Prt)),j<k->A[k]? =some T->A[j]? =some T'->∀P∈T,∀x∈P,memB T' x.claim=false
theorem b9v(cn:Bool)(ca cb:List UInt8)(vc va:Value)(E:List Clm)(A:List (List (List Prt)))(k:Nat)(q:Int)(w:World)(hE:ClmL w vc E)(hA:AgrL w va A)(hk:k<=A.length)(hno:∀ (j:Nat) T,j<k->A[j]? =some T->memB T q=false) :
  Calls Tryz.prog 77 #[.agg #[.bool cn,.string (bs ca),.string (bs cb),vc,va],.int .i64 (k:Nat),.int .i64 q] w fun e w'=>e=.returned (.bool false)/\Below w.heap.size w w':=by
 obtain⟨Ac,cc,rfl,_,_⟩:=Slc.slice hE
 obtain⟨Aa,cx,rfl,la1,la2⟩:=NstL.slice hA
 have HE:=zh hE
 have HA:=zh hA
 have LA:=zh (Nat.le_trans la1 la2)
 have HNO:=zh hno
 clear hE hA la1 la2 hno
 go_enter Tryz.func77,Tryz.ntmps77
 have HS:=zh (St.start w)
 go_wp2
 go_loopw [7] (fun i_ wr=>∃i:Nat,i<=k/\i_=.int .i64 i/\Hid (St w [⟨w.heap.size,#[.bool cn,.string (bs ca),.string (bs cb),.slice Ac E.length cc,.slice Aa A.length cx],44⟩] wr)) (fun i_ _=>k-(intOf i_).toNat)
 case atStart=>exact⟨0,Nat.zero_le _,rfl,(St.alloc (HS.out) #[.bool cn,.string (bs ca),.string (bs cb),.slice Ac E.length cc,.slice Aa A.length cx] 44 (w.heap.size) (by simp))⟩
 case round =>
  obtain⟨i,hi,rfl,HS⟩:=hrel
  by_cases hin:i<k
  ·obtain⟨b1,o1,u,T,rfl,hb1,hq,hT,hx1⟩:=NstL.at_ HA.out (show i<A.length by omega)
   obtain⟨A3,c3,rfl,_,_⟩:=NstL.slice hT
   have HT:=zh hT
   have HX1:=zh hx1
   have HN1:=zh (HNO.out i T hin hq)
   have hia:((i:Nat):Int)<(A.length:Int):=by omega
   have e0:(0:Int)<=((i:Nat):Int):=by omega
   have e1:((i:Nat):Int)<(k:Int):=by omega
   have e2:decide (((i:Nat):Int)<((k:Nat):Int))=true:=decide_eq_true e1
   have e5:IntKind.i64.wrap ((i:Int)+1)=((i+1:Nat):Int):=by have:=LA.out;rw[IntWalk.i64_in _ (by omega)];rfl
   clear hT hx1 hq
   have x1:=cC HS 0 4
   have x2:=HX1.out _ HS.out.below 0 _ rfl
   rw[Nat.add_zero]at x2
   go_wp2_with fail
   refine(a8r _ T q _ (HT.out.below HS.out.below)).mono ?_
   rintro e w2 ⟨hm2,hb2⟩
   rw[HN1.out]at hm2
   subst hm2
   have HS2:=zh (HS.out.call hb2)
   clear hb2 HS x1 x2
   go_wp2
   go_roundw
   case rel=>exact⟨i+1,by omega,by go_num,HS2.out⟩
   case measure=>simp[intOf];omega
  have hie:i=k:=by omega
  rw[hie]
  have e2:decide (((k:Nat):Int)<((k:Nat):Int))=false:=decide_eq_false (by omega)
  clear hie hi hin
  go_wp2
  go_ret
  exact⟨rfl,HS.out.below⟩
set_option maxHeartbeats 4000000
theorem b5k(cn:Bool)(ca cb:List UInt8)(vc va:Value)(E:List Clm)(A:List (List (List Prt)))(k:Nat)(w:World)(hE:ClmL w vc E)(hA:AgrL w va A)(hok:EstOk E A)(hk:k<A.length) :
  Calls Tryz.prog 49 #[.agg #[.bool cn,.string (bs ca),.string (bs cb),vc,va],.int .i64 (k:Nat)] w fun e w'=>e=.returned (.int .i64 0)/\Below w.heap.size w w':=by
 have dE:=fun(T:List (List Prt)) P x (hT:A[k]? =some T) (hP:P∈T) (hx:x∈P) W (hb:Below w.heap.size w W)=>b9v cn ca cb vc va E A k x.claim W (hE.below hb) (hA.below hb) (by omega) (fun j T' hj hT'=>hok.once j k T T' hj hT hT' P hP x hx)
 obtain⟨Ac,cc,rfl,lc1,lc2⟩:=Slc.slice hE
 obtain⟨Aa,cx,rfl,la1,la2⟩:=NstL.slice hA
 have LC:=zh (Nat.le_trans lc1 lc2)
 obtain⟨b1,o1,u,T,rfl,hb1,hq,hT,hx1⟩:=NstL.at_ hA hk
 obtain⟨A3,c3,rfl,lt1,lt2⟩:=NstL.slice hT
 have hTm:=List.mem_of_getElem? hq
 have HT:=zh hT
 have HX1:=zh hx1
 have LT:=zh (Nat.le_trans lt1 lt2)
 have DE:=zh (fun P x hP hx W hb=>dE T P x hq hP hx W hb)
 have HPT:=zh (hok.part T hTm)
 have HTR:=zh (hok.tiers T hTm)
 have t24:=(hok.tiers T hTm).1
 have d24:decide ((24:Int)<(T.length:Int))=false:=decide_eq_false (by omega)
 have d24':decide (24<T.length)=false:=decide_eq_false (by omega)
 have k0:(0:Int)<=((k:Nat):Int):=by omega
 have k1:((k:Nat):Int)<(A.length:Int):=by omega
 clear hE hA la1 la2 lc1 lc2 hok dE hT hx1 hTm lt1 lt2 hq t24
 go_enter Tryz.func49,Tryz.ntmps49
 have HS:=zh (St.start w)
 have x1:b1<w.heap.size:=Nat.lt_of_lt_of_le hb1 HS.out.below.size
 have x2:¬b1=w.heap.size:=by omega
 have x3:¬b1=w.heap.size+1:=by omega
 have x4:=HX1.out _ HS.out.below 0 _ rfl
 rw[Nat.add_zero]at x4
 go_wp2
 go_loopw [6] (fun i_ wr=>∃i:Nat,i<=T.length/\i_=.int .i64 i/\Hid (St w [⟨w.heap.size+1,#[.slice A3 T.length c3],78⟩,⟨w.heap.size,#[.bool cn,.string (bs ca),.string (bs cb),.slice Ac E.length cc,.slice (some ⟨b1,o1,none⟩) A.length cx],44⟩] wr)) (fun i_ _=>T.length-(intOf i_).toNat)
 case atStart=>exact⟨0,Nat.zero_le _,rfl,(St.alloc ((St.alloc (HS.out) #[.bool cn,.string (bs ca),.string (bs cb),.slice Ac E.length cc,.slice (some ⟨b1,o1,none⟩) A.length cx] 44 (w.heap.size) (by simp))) #[.slice A3 T.length c3] 78 (w.heap.size+1) (by simp))⟩
 case round =>
  obtain⟨i,hi,rfl,HS⟩:=hrel
  by_cases hin:i<T.length
  ·obtain⟨b2,o2,u,P,rfl,hb2,hq,hP,hx2⟩:=NstL.at_ HT.out hin
   obtain⟨A4,c4,rfl,lp1,lp2⟩:=Slc.slice hP
   have HP:=zh hP
   have HX2:=zh hx2
   have HPM:=zh (List.mem_of_getElem? hq)
   have L4:=zh (Nat.le_trans lp1 lp2)
   have p24:=HTR.out.2 P HPM.out
   have f24:decide ((24:Int)<(P.length:Int))=false:=decide_eq_false (by omega)
   have f24':decide (24<P.length)=false:=decide_eq_false (by omega)
   have e0:(0:Int)<=((i:Nat):Int):=by omega
   have e1:((i:Nat):Int)<(T.length:Int):=by omega
   have e2:decide (((i:Nat):Int)<(T.length:Int))=true:=decide_eq_true e1
   have e5:IntKind.i64.wrap ((i:Int)+1)=((i+1:Nat):Int):=by have:=LT.out;rw[IntWalk.i64_in _ (by omega)];rfl
   clear hP hx2 hq lp1 lp2 p24
   have x5:=cC HS 0 0
   have x6:=HX2.out _ HS.out.below 0 _ rfl
   rw[Nat.add_zero]at x6
   go_wp2
   go_roundw
   case rel=>exact⟨i+1,by omega,by go_num,HS.out⟩
   case measure=>simp[intOf];omega
  have hie:i=T.length:=by omega
  rw[hie]
  have e2:decide (((T.length:Nat):Int)<(T.length:Int))=false:=decide_eq_false (by omega)
  clear hie hi hin
  have x5:=cC HS 0 0
  go_wp2
  go_loopw [7] (fun t_ wr=>∃t:Nat,t<=T.length/\t_=.int .i64 t/\Hid (St w [⟨w.heap.size+1,#[.slice A3 T.length c3],78⟩,⟨w.heap.size,#[.bool cn,.string (bs ca),.string (bs cb),.slice Ac E.length cc,.slice (some ⟨b1,o1,none⟩) A.length cx],44⟩] wr)) (fun t_ _=>T.length-(intOf t_).toNat)
  case atStart=>exact⟨0,Nat.zero_le _,rfl,HS.out⟩
  case round =>
   clear HS e2
   obtain⟨t,ht,rfl,HU⟩:=hrel
   by_cases htn:t<T.length
   ·obtain⟨b2,o2,u,P,rfl,hb2,hq,hP,hx2⟩:=NstL.at_ HT.out htn
    obtain⟨A4,c4,rfl,lp1,lp2⟩:=Slc.slice hP
    have HP:=zh hP
    have HX2:=zh hx2
    have HPM:=zh (List.mem_of_getElem? hq)
    have L4:=zh (Nat.le_trans lp1 lp2)
    have p24:=HTR.out.2 P HPM.out
    have f24:decide ((24:Int)<(P.length:Int))=false:=decide_eq_false (by omega)
    have f24':decide (24<P.length)=false:=decide_eq_false (by omega)
    have e0:(0:Int)<=((t:Nat):Int):=by omega
    have e1:((t:Nat):Int)<(T.length:Int):=by omega
    have e2:decide (((t:Nat):Int)<(T.length:Int))=true:=decide_eq_true e1
    have e5:IntKind.i64.wrap ((t:Int)+1)=((t+1:Nat):Int):=by have:=LT.out;rw[IntWalk.i64_in _ (by omega)];rfl
    clear hP hx2 hq lp1 lp2 p24
    have x6:=cC HU 0 0
    go_wp2
    go_loopw [8] (fun i_ wr=>∃i:Nat,i<=P.length/\i_=.int .i64 i/\Hid (St w [⟨w.heap.size+1,#[.slice (some ⟨b2,o2,none⟩) T.length c3],78⟩,⟨w.heap.size,#[.bool cn,.string (bs ca),.string (bs cb),.slice Ac E.length cc,.slice (some ⟨b1,o1,none⟩) A.length cx],44⟩] wr)) (fun i_ _=>P.length-(intOf i_).toNat)
    case atStart=>exact⟨0,Nat.zero_le _,rfl,HU.out⟩
    case round =>
     clear HU
     obtain⟨i,hi,rfl,HV⟩:=hrel
     by_cases hin:i<P.length
     ·obtain⟨b3,o3,x,rfl,hb3,hq,hx⟩:=Slc.at_ HP.out hin
      obtain⟨⟨x0,x1⟩,x2,x3,x4⟩:=HPT.out P HPM.out x (List.mem_of_getElem? hq)
      have DEx:=zh (DE.out P x HPM.out (List.mem_of_getElem? hq))
      have DSx:=fun W=>b4j x.cap.n x.cap.a x.cap.b W (by omega) (by omega)
      obtain⟨s,hs⟩:∃s,s=sgn x.cap.val.num:=⟨_,rfl⟩
      change ∀W,Calls Tryz.prog _ _ W (fun e w'=>e=.returned (.int .i64 (sgn x.cap.val.num))/\_)at DSx
      rw[<- hs]at DSx x2
      unfold raw at DSx
      have DS:=zh DSx
      unfold Prt.enc at hx
      have HX:=zh hx
      obtain⟨cm,hcm⟩:∃cm,cm=x.claim:=⟨_,rfl⟩
      rw[<- hcm]at HX DEx x0 x1
      obtain⟨cp,hcp⟩:∃cp,cp=x.capped:=⟨_,rfl⟩
      rw[<- hcp]at HX x2
      have g1:decide (cm < -1)=false:=decide_eq_false (by omega)
      have g2:decide ((E.length:Int)<=cm)=false:=decide_eq_false (by omega)
      have g3:(cm == -1)=false:=beq_eq_false_iff_ne.2 (by omega)
      have g4:(cm != -1)=true:=bne_iff_ne.2 (by omega)
      have f0:(0:Int)<=((i:Nat):Int):=by omega
      have f1:((i:Nat):Int)<(P.length:Int):=by omega
      have f2:decide (((i:Nat):Int)<(P.length:Int))=true:=decide_eq_true f1
      have f5:IntKind.i64.wrap ((i:Int)+1)=((i+1:Nat):Int):=by have:=L4.out;rw[IntWalk.i64_in _ (by omega)];rfl
      clear hx hq hs DSx hcm hcp x3 x4 x0 x1
      cases cp
      ·clear x2
       have x7:=cC HV 0 0
       have x8:=cC HV 1 3
       obtain⟨x9,x10,x11⟩:=HV.out.k0 1 rfl rfl rfl rfl
       have x12:=cC HV 1 4
       have x13:=HV.out.lt 0 rfl
       have x14:¬w.heap.size+1=wr.heap.size:=by omega
       have x15:¬wr.heap.size=w.heap.size+1:=by omega
       have x16:=HV.out.lt 1 rfl
       have x17:¬w.heap.size=wr.heap.size:=by omega
       have x18:¬wr.heap.size=w.heap.size:=by omega
       have x19:b2<wr.heap.size:=Nat.lt_of_lt_of_le hb2 HV.out.below.size
       have x20:¬b2=wr.heap.size:=by omega
       have x21:b3<wr.heap.size:=Nat.lt_of_lt_of_le hb3 HV.out.below.size
       have x22:¬b3=wr.heap.size:=by omega
       have x23:=HX2.out _ HV.out.below 0 _ rfl
       rw[Nat.add_zero]at x23
       obtain⟨x24,x25,x26⟩:=kE0 (HX.out _ HV.out.below) rfl rfl rfl
       have x27:=HX.out _ HV.out.below 3 _ rfl
       have x28:=HX.out _ HV.out.below 4 _ rfl
       go_wp2_with fail
       have HV2:=aL HV #[.int .i64 cm,.bool false,.bool x.cap.n,.string (bs x.cap.a),.string (bs x.cap.b)] 81 wr.heap.size
       refine(DEx.out _ HV2.out.below).mono ?_
       rintro e w3 ⟨rfl,hb3⟩
       have HV3:=zh (HV2.out.call hb3)
       clear hb3 HV HV2 x7 x8 x9 x10 x11 x12 x13 x14 x15 x16 x17 x18 x19 x20 x21 x22 x23 x24 x25 x26 x27 x28
       go_wp2
       go_roundw
       case rel=>exact⟨i+1,by omega,by go_num,HV3.out.sub (List.sublist_cons_self ..)⟩
       case measure=>simp[intOf];omega
      have x2:=x2 rfl
      have g5:decide (s<0)=false:=decide_eq_false (by omega)
      clear x2
      have x7:=cC HV 0 0
      have x8:=cC HV 1 3
      have x9:=HV.out.lt 0 rfl
      have x10:¬w.heap.size+1=wr.heap.size:=by omega
      have x11:¬wr.heap.size=w.heap.size+1:=by omega
      have x12:=HV.out.lt 1 rfl
      have x13:¬w.heap.size=wr.heap.size:=by omega
      have x14:¬wr.heap.size=w.heap.size:=by omega
      have x15:b2<wr.heap.size:=Nat.lt_of_lt_of_le hb2 HV.out.below.size
      have x16:¬b2=wr.heap.size:=by omega
      have x17:b3<wr.heap.size:=Nat.lt_of_lt_of_le hb3 HV.out.below.size
      have x18:¬b3=wr.heap.size:=by omega
      have x19:=HX2.out _ HV.out.below 0 _ rfl
      rw[Nat.add_zero]at x19
      obtain⟨x20,x21,x22⟩:=kE0 (HX.out _ HV.out.below) rfl rfl rfl
      have x23:=HX.out _ HV.out.below 3 _ rfl
      have x24:=HX.out _ HV.out.below 4 _ rfl
      go_wp2_with fail
      have HV2:=aL HV #[.int .i64 cm,.bool true,.bool x.cap.n,.string (bs x.cap.a),.string (bs x.cap.b)] 81 wr.heap.size
      refine(DS.out _).mono ?_
      rintro e w3 ⟨rfl,hb3⟩
      have HV3:=zh (HV2.out.call hb3)
      clear hb3 HV HV2 x7 x8 x9 x10 x11 x12 x13 x14 x15 x16 x17 x18 x19 x20 x21 x22 x23 x24
      have x25:=cC HV3 0 0
      obtain⟨x26,x27,x28⟩:=HV3.out.k0 2 rfl rfl rfl rfl
      have x29:=cC HV3 2 3
      have x30:=cC HV3 2 4
      go_wp2_with fail
      refine(DEx.out _ HV3.out.below).mono ?_
      rintro e w4 ⟨rfl,hb4⟩
      have HV4:=zh (HV3.out.call hb4)
      clear hb4 HV3 x25 x26 x27 x28 x29 x30
      go_wp2
      go_roundw
      case rel=>exact⟨i+1,by omega,by go_num,HV4.out.sub (List.sublist_cons_self ..)⟩
      case measure=>simp[intOf];omega
     have hie:i=P.length:=by omega
     rw[hie]
     have f2:decide (((P.length:Nat):Int)<(P.length:Int))=false:=decide_eq_false (by omega)
     clear hie hi hin
     have x7:=cC HV 0 0
     have x8:=HX2.out _ HV.out.below 0 _ rfl
     rw[Nat.add_zero]at x8
     go_wp2
     go_roundw
     case rel=>exact⟨t+1,by omega,by go_num,HV.out⟩
     case measure=>simp[intOf];omega
   have hte:t=T.length:=by omega
   rw[hte]
   have e2:decide (((T.length:Nat):Int)<(T.length:Int))=false:=decide_eq_false (by omega)
   clear hte ht htn
   have x6:=cC HU 0 0
   go_wp2
   go_ret
   exact⟨rfl,HU.out.below⟩
theorem b2k(cn:Bool)(ca cb:List UInt8)(vc va:Value)(E:List Clm)(A:List (List (List Prt)))(w:World)(hE:ClmL w vc E)(hA:AgrL w va A)(hok:EstOk E A)(hcs:0<=sgn (decR cn ca cb).num)(hca:ca.length<=17179869184)(hcb:cb.length<=17179869184) :
  Calls Tryz.prog 25 #[.agg #[.bool cn,.string (bs ca),.string (bs cb),vc,va]] w fun e w'=>e=.returned (.int .i64 0)/\Below w.heap.size w w':=by
 have DG:=zh (fun k (hk:k<A.length) W (hb:Below w.heap.size w W)=>b5k cn ca cb vc va E A k W (hE.below hb) (hA.below hb) hok hk)
 have dC:=fun W=>b4j cn ca cb W (by omega) (by omega)
 obtain⟨Ac,cc,rfl,lc1,lc2⟩:=Slc.slice hE
 obtain⟨Aa,cx,rfl,la1,la2⟩:=NstL.slice hA
 have LC:=zh (Nat.le_trans lc1 lc2)
 have LA:=zh (Nat.le_trans la1 la2)
 have HE:=zh hE
 have nE:=hok.nE
 have nA:=hok.nA
 have HRK:=zh hok.rank
 have HAM:=zh hok.am
 have d1:decide ((24:Int)<(E.length:Int))=false:=decide_eq_false (by omega)
 have d1':decide (24<E.length)=false:=decide_eq_false (by omega)
 have d2:decide ((12:Int)<(A.length:Int))=false:=decide_eq_false (by omega)
 have d2':decide (12<A.length)=false:=decide_eq_false (by omega)
 obtain⟨s,hs⟩:∃s,s=sgn (decR cn ca cb).num:=⟨_,rfl⟩
 rw[<- hs]at dC hcs
 have d3:decide (s<0)=false:=decide_eq_false (by omega)
 unfold raw at dC
 have DC:=zh dC
 clear hE hA la1 la2 lc1 lc2 hok nE nA dC hs hcs hca hcb
 go_enter Tryz.func25,Tryz.ntmps25
 have HS:=zh (St.start w)
 go_wp2_with fail
 have HS2:=aL HS #[.bool cn,.string (bs ca),.string (bs cb),.slice Ac E.length cc,.slice Aa A.length cx] 44 w.heap.size
 refine cL (DC.out _) HS2 fun w3 HS3=>?_
 clear HS HS2
 go_wp2
 go_loopw [3] (fun i_ wr=>∃i:Nat,i<=E.length/\i_=.int .i64 i/\Hid (St w [⟨w.heap.size,#[.bool cn,.string (bs ca),.string (bs cb),.slice Ac E.length cc,.slice Aa A.length cx],44⟩] wr)) (fun i_ _=>E.length-(intOf i_).toNat)
 case atStart=>exact⟨0,Nat.zero_le _,rfl,HS3.out⟩
 case round =>
  obtain⟨i,hi,rfl,HS⟩:=hrel
  by_cases hin:i<E.length
  ·obtain⟨bc,oc,x,rfl,hbc,hq,hx⟩:=Slc.at_ HE.out hin
   obtain⟨r0,r1⟩:=HRK.out x (List.mem_of_getElem? hq)
   obtain⟨a0,a1,a2⟩:=HAM.out x (List.mem_of_getElem? hq)
   have dX:=fun W=>b4j x.am.n x.am.a x.am.b W (by omega) (by omega)
   obtain⟨z,hz⟩:∃z,z=sgn x.am.val.num:=⟨_,rfl⟩
   change ∀W,Calls Tryz.prog _ _ W (fun e w'=>e=.returned (.int .i64 (sgn x.am.val.num))/\_)at dX
   rw[<- hz]at dX a0
   unfold raw at dX
   have DX:=zh dX
   unfold Clm.enc at hx
   have HX:=zh hx
   obtain⟨rk,hrk⟩:∃rk,rk=x.rank:=⟨_,rfl⟩
   rw[<- hrk]at HX r0 r1
   have g1:decide (rk<0)=false:=decide_eq_false (by omega)
   have g2:decide (7<rk)=false:=decide_eq_false (by omega)
   have g3:decide (z<0)=false:=decide_eq_false (by omega)
   have e0:(0:Int)<=((i:Nat):Int):=by omega
   have e1:((i:Nat):Int)<(E.length:Int):=by omega
   have e2:decide (((i:Nat):Int)<(E.length:Int))=true:=decide_eq_true e1
   have e5:IntKind.i64.wrap ((i:Int)+1)=((i+1:Nat):Int):=by have:=LC.out;rw[IntWalk.i64_in _ (by omega)];rfl
   clear hx hq dX hz hrk r0 r1 a0 a1 a2
   have x1:=cC HS 0 3
   have x2:=HS.out.lt 0 rfl
   have x3:¬w.heap.size=wr.heap.size:=by omega
   have x4:¬wr.heap.size=w.heap.size:=by omega
   have x5:bc<wr.heap.size:=Nat.lt_of_lt_of_le hbc HS.out.below.size
   have x6:¬bc=wr.heap.size:=by omega
   obtain⟨x7,x8,x9⟩:=kE0 (HX.out _ HS.out.below) rfl rfl rfl
   have x10:=HX.out _ HS.out.below 3 _ rfl
   have x11:=HX.out _ HS.out.below 4 _ rfl
   go_wp2_with fail
   have HS4:=aL HS #[.int .i64 (-1),.int .i64 rk,.bool x.am.n,.string (bs x.am.a),.string (bs x.am.b)] 89 wr.heap.size
   refine cL (DX.out _) HS4 fun w5 HS5=>?_
   clear HS HS4 x1 x2 x3 x4 x5 x6 x7 x8 x9 x10 x11
   go_wp2
   go_roundw
   case rel=>exact⟨i+1,by omega,by go_num,HS5.out.sub (List.sublist_cons_self ..)⟩
   case measure=>simp[intOf];omega
  have hie:i=E.length:=by omega
  rw[hie]
  have e2:decide (((E.length:Nat):Int)<(E.length:Int))=false:=decide_eq_false (by omega)
  clear hie hi hin
  have x1:=cC HS 0 3
  go_wp2
  go_loopw [5] (fun k_ wr=>∃k:Nat,k<=A.length/\k_=.int .i64 k/\Hid (St w [⟨w.heap.size,#[.bool cn,.string (bs ca),.string (bs cb),.slice Ac E.length cc,.slice Aa A.length cx],44⟩] wr)) (fun k_ _=>A.length-(intOf k_).toNat)
  case atStart=>exact⟨0,Nat.zero_le _,rfl,HS.out⟩
  case round =>
   clear HS e2
   obtain⟨k,hk,rfl,HU⟩:=hrel
   by_cases hkn:k<A.length
   ·have DGk:=zh (DG.out k hkn)
    have e0:(0:Int)<=((k:Nat):Int):=by omega
    have e1:((k:Nat):Int)<(A.length:Int):=by omega
    have e2:decide (((k:Nat):Int)<(A.length:Int))=true:=decide_eq_true e1
    have e5:IntKind.i64.wrap ((k:Int)+1)=((k+1:Nat):Int):=by have:=LA.out;rw[IntWalk.i64_in _ (by omega)];rfl
    have x2:=cC HU 0 4
    obtain⟨x3,x4,x5⟩:=HU.out.k0 0 rfl rfl rfl rfl
    have x6:=cC HU 0 3
    go_wp2_with fail
    refine(DGk.out _ HU.out.below).mono ?_
    rintro e w4 ⟨rfl,hb4⟩
    have HU4:=zh (HU.out.call hb4)
    clear hb4 HU x2 x3 x4 x5 x6
    go_wp2
    go_roundw
    case rel=>exact⟨k+1,by omega,by go_num,HU4.out⟩
    case measure=>simp[intOf];omega
   have hke:k=A.length:=by omega
   rw[hke]
   have e2:decide (((A.length:Nat):Int)<(A.length:Int))=false:=decide_eq_false (by omega)
   clear hke hk hkn
   have x2:=cC HU 0 4
   go_wp2
   go_ret
   exact⟨rfl,HU.out.below⟩
end Go.Proofs.YtjmiicjialkpiaaGreatDoor
