/-
Part 19 of the base.
-/
import Derived.Test.YtjmiicjialkpiaaGreatDoorRf12
import Derived.Test.YtjmiicjialkpiaaGreatDoorRf16
namespace Go.Proofs.YtjmiicjialkpiaaGreatDoor
open Go.RowKit
theorem ner_name{pre:List Nmd}{x:Nmd}(h:a7b x.id=false):a2g pre x=11:=by unfold a2g;rw[if_pos h]
theorem d0v{pre:List Nmd}{x:Nmd}(h:a7b x.id=true)(h2:(a0g pre x.id).isSome=true):a2g pre x=12:=by unfold a2g;rw[h,if_neg (by decide),if_pos h2]
theorem d0w{pre:List Nmd}{x:Nmd}(h:a7b x.id=true)(h2:(a0g pre x.id).isSome=false)(h3:x.rank<0\/7<x.rank):a2g pre x=1:=by
 unfold a2g;rw[h,if_neg (by decide),h2,if_neg (by decide),if_pos h3]
theorem c6v{pre:List Nmd}{x:Nmd}(h:a7b x.id=true)(h2:(a0g pre x.id).isSome=false)(h3:¬ (x.rank<0\/7<x.rank)):a2g pre x=if sgn x.am.val.num<0 then 7 else 0:=by
 unfold a2g;rw[h,if_neg (by decide),h2,if_neg (by decide),if_neg h3]
theorem chk_long{l:List Nmd}(h:24<l.length):a3a l=2:=by unfold a3a;rw[if_pos h]
theorem c1a{l:List Nmd}{k:Nat}{x:Nmd}{e:Int}(h:¬24<l.length)(hi:a1n [] l=a1n (l.take k) (l.drop k))(hq:l[k]? =some x)(he:a2g (l.take k) x=e)(hne:e≠0):a3a l=e:=by
 unfold a3a;rw[if_neg h,hi,b8k hq,if_neg (by rw[he];exact hne),he]
theorem chk_next{l:List Nmd}{k:Nat}{x:Nmd}(hi:a1n [] l=a1n (l.take k) (l.drop k))(hq:l[k]? =some x)(he:a2g (l.take k) x=0):a1n [] l=a1n (l.take (k+1)) (l.drop (k+1)):=by
 rw[hi,b8k hq,if_pos he]
theorem chk_done{l:List Nmd}(h:¬24<l.length)(hi:a1n [] l=a1n (l.take l.length) (l.drop l.length)):a3a l=0:=by
 unfold a3a;rw[if_neg h,hi,d1d (Nat.le_refl _)]
def c1u(l:List Nmd)(k:Nat)(s:List UInt8):Bool:=(a0g (l.take k) s).isSome
theorem seen_put{l:List Nmd}{k:Nat}{x:Nmd}(hq:l[k]? =some x)(s:List UInt8):putK (c1u l k) x.id s=c1u l (k+1) s:=by
 unfold putK c1u
 rw[a3g hq,a9f]
 cases a0g (l.take k) s with
 | some _=>rfl
 | none =>
  by_cases h:x.id=s
  ·rw[if_pos h,decide_eq_true h.symm];rfl
  rw[if_neg h,decide_eq_false (fun e=>h e.symm)];rfl
theorem er1_kind{cl:List Nmd}{pre:List Cls}{c:Cls}(h:c.kind<1\/4<c.kind):err1 cl pre c=10:=by unfold err1;rw[if_pos h]
theorem er1_no{cl:List Nmd}{pre:List Cls}{c:Cls}(h:¬ (c.kind<1\/4<c.kind))(h2:c.kind≠1):err1 cl pre c=0:=by unfold err1;rw[if_neg h,if_pos h2]
theorem d2k{cl:List Nmd}{pre:List Cls}{c:Cls}(h:c.kind=1)(h2:(a0g cl c.name).isSome=true\/(a0q pre c.name).isSome=true):err1 cl pre c=12:=by
 unfold err1;rw[if_neg (by omega),if_neg (by omega),if_pos h2]
theorem er1_new{cl:List Nmd}{pre:List Cls}{c:Cls}(h:c.kind=1)(h2:(a0g cl c.name).isSome=false)(h3:(a0q pre c.name).isSome=false) :
  err1 cl pre c=if a7b c.name=false then 11 else if c.list.length=0 then 21 else if 32<c.list.length then 2 else 0:=by
 unfold err1;rw[if_neg (by omega),if_neg (by omega),if_neg (by rw[h2,h3];rintro(h | h)<;>cases h)]
def badB(cl:List Nmd)(l:List Cls)(c:Cls)(s:List UInt8):Bool:=!(a0g cl s).isSome&&(decide (c.kind=3) || !(a0q l s).isSome)
theorem d2j{cl:List Nmd}{l:List Cls}{c:Cls}:err2 cl l c=if(a5c c).any (badB cl l c)=true then 11 else 0:=by
 unfold err2
 by_cases h3:c.kind=3
 ·have hu:a5c c=[c.name]:=by unfold a5c;rw[if_neg (by omega),if_neg (by omega)]
  rw[hu,List.any_cons,List.any_nil,Bool.or_false,List.all_cons,List.all_nil,Bool.and_true]
  unfold badB a6c
  rw[decide_eq_true h3,Bool.true_or,Bool.and_true]
  cases a0g cl c.name with
  | none=>rw[if_pos ⟨h3,rfl⟩];rfl
  | some i=>rw[if_neg (by rintro⟨_,h⟩;cases h)];rfl
 rw[if_neg (fun h=>h3 h.1)]
 have hb:∀s,badB cl l c s=!a6c cl l s:=fun s=>by
  unfold badB a6c
  rw[decide_eq_false h3,Bool.false_or,Bool.not_or]
 have:(a5c c).any (badB cl l c)=!(a5c c).all (a6c cl l):=by
  rw[funext hb]
  induction a5c c with
  | nil=>rfl
  | cons a t ih=>rw[List.any_cons,List.all_cons,ih,Bool.not_and]
 rw[this]
 cases (a5c c).all (a6c cl l)<;>rfl
theorem er2_bad{cl:List Nmd}{l:List Cls}{c:Cls}{k:Nat}{s:List UInt8}(hk:(a5c c)[k]? =some s)(hb:badB cl l c s=true):err2 cl l c=11:=by
 rw[d2j,if_pos (List.any_eq_true.2 ⟨s,List.mem_of_getElem? hk,hb⟩)]
theorem er2_good{cl:List Nmd}{l:List Cls}{c:Cls}(h:∀ (j:Nat) s,j<(a5c c).length->(a5c c)[j]? =some s->badB cl l c s=false):err2 cl l c=0:=by
 rw[d2j,if_neg]
 rw[List.any_eq_true]
 rintro⟨s,hs,hb⟩
 obtain⟨j,hj⟩:=List.mem_iff_getElem?.1 hs
 rw[h j s (List.getElem?_eq_some_iff.1 hj).1 hj]at hb
 cases hb
theorem uses1{c:Cls}(h:c.kind=1):a5c c=c.list:=by unfold a5c;rw[if_pos h]
theorem uses2{c:Cls}(h:c.kind=2):a5c c=[c.name,c.other]:=by unfold a5c;rw[if_neg (by omega),if_pos h]
theorem uses0{c:Cls}(h:c.kind≠1)(h2:c.kind≠2):a5c c=[c.name]:=by unfold a5c;rw[if_neg h,if_neg h2]
structure Lg(r:Nat->Nat->Prop)(n t a b:Nat)(f0 f:Nat->Nat)(more:Bool):Prop where
 rnd:Rnd r n t a b f
 no:more=false->f=f0/\∀i j,(i<a\/(i=a/\j<b))->r i j->f0 i<f0 j
 yes:more=true->∃i j,r i j/\¬f0 i<f0 j
 le:∀x,f x<=t*(n*n)+a*n+b
theorem Lg.start{r:Nat->Nat->Prop}{n t:Nat}{f:Nat->Nat}(h:Rnd r n t 0 0 f)(hl:∀x,f x<=t*(n*n)):Lg r n t 0 0 f f false :=
 ⟨h,fun _=>⟨rfl,fun i j hij=>by omega⟩,fun h=>by(cases h),fun x=>by have:=hl x;omega⟩
theorem Lg.new{r:Nat->Nat->Prop}{n t a b:Nat}{f0 f:Nat->Nat}{more:Bool}(hb:∀i j,r i j->i<n/\j<n)(h:Lg r n t a b f0 f more)(hr:r a b)(hle:¬f a<f b):Lg r n t a (b+1) f0 (lift f a b) true:=by
 refine⟨h.rnd.lift hb hr,fun e=>by(cases e),fun _=>?_,fun x=>?_⟩
 ·cases hm:more with
  | true=>exact h.yes hm
  | false=>rw[(h.no hm).1]at hle;exact⟨a,b,hr,hle⟩
 unfold lift
 have h1:=h.le x
 have h2:=h.le a
 have h3:=h.le b
 split<;>omega
theorem Lg.old{r:Nat->Nat->Prop}{n t a b:Nat}{f0 f:Nat->Nat}{more:Bool}(hb:∀i j,r i j->i<n/\j<n)(h:Lg r n t a b f0 f more)(ho:r a b->f a<f b):Lg r n t a (b+1) f0 f more:=by
 refine⟨?_,fun hm=>⟨(h.no hm).1,fun i j hij hr=>?_⟩,h.yes,fun x=>by have:=h.le x;omega⟩
 ·by_cases hr:r a b
  ·have:=h.rnd.lift hb hr
   rwa[c3c (ho hr)]at this
  exact h.rnd.skip hr
 by_cases he:i=a/\j=b
 ·obtain⟨rfl,rfl⟩:=he
  rw[<- (h.no hm).1]
  exact ho hr
 exact(h.no hm).2 i j (by omega) hr
theorem Lg.row{r:Nat->Nat->Prop}{n t a:Nat}{f0 f:Nat->Nat}{more:Bool}(hb:∀i j,r i j->i<n/\j<n)(h:Lg r n t a n f0 f more):Lg r n t (a+1) 0 f0 f more:=by
 refine⟨h.rnd.row hb,fun hm=>⟨(h.no hm).1,fun i j hij hr=>?_⟩,h.yes,fun x=>?_⟩
 ·have:=(hb _ _ hr).2
  exact(h.no hm).2 i j (by omega) hr
 have:=h.le x
 rw[Nat.add_mul]
 omega
def putM(M:Nat->Nat->Bool)(i k:Nat)(v:Bool)(x y:Nat):Bool:=if x=i/\y=k then v else M x y
theorem d0h{M:Nat->Nat->Bool}{i k:Nat}{v:Bool}:putM M i k v i k=v:=if_pos ⟨rfl,rfl⟩
theorem c8d{M:Nat->Nat->Bool}{i k x y:Nat}{v:Bool}(h:¬ (x=i/\y=k)):putM M i k v x y=M x y:=if_neg h
def addR(r:Nat->Nat->Prop)(a b x y:Nat):Prop:=r x y\/(x=a/\y=b)
def Cnx(r:Nat->Nat->Prop)(n a b i k:Nat)(B:Nat->Nat->Bool):Prop:=∀x y,x<n->y<n ->
 (Way r x y->B x y=true)/\(B x y=true->Way (addR r a b) x y)/\((x<i\/(x=i/\y<k))->Way (addR r a b) x y->B x y=true)
theorem way_addR{r:Nat->Nat->Prop}{a b i k:Nat}:Way (addR r a b) i k↔Way r i k\/((i=a\/Way r i a)/\(k=b\/Way r b k)):=way_add
theorem Cnx.start{r:Nat->Nat->Prop}{n a b:Nat}{B:Nat->Nat->Bool}(h:∀x y,x<n->y<n->(B x y=true↔Way r x y)):Cnx r n a b 0 0 B :=
 fun x y hx hy=>⟨(h x y hx hy).2,fun hb=>way_addR.2 (.inl ((h x y hx hy).1 hb)),fun hd=>by omega⟩
theorem Cnx.new{r:Nat->Nat->Prop}{n a b i k:Nat}{B:Nat->Nat->Bool}(h:Cnx r n a b i k B)(hi:i<n)(hk:k<n)(ha:a<n)(hb:b<n)(h1:i=a\/B i a=true)(h2:k=b\/B b k=true):Cnx r n a b i (k+1) (putM B i k true):=by
 have hw:Way (addR r a b) i k:=by
  refine way_addR.2 (.inr ⟨?_,?_⟩)
  ·rcases h1 with h1 | h1
   ·exact .inl h1
   rcases way_addR.1 ((h i a hi ha).2.1 h1)with h3 | ⟨h3,_⟩
   ·exact .inr h3
   exact h3
  rcases h2 with h2 | h2
  ·exact .inl h2
  rcases way_addR.1 ((h b k hb hk).2.1 h2)with h3 | ⟨_,h3⟩
  ·exact .inr h3
  exact h3
 intro x y hx hy
 by_cases hxy:x=i/\y=k
 ·obtain⟨rfl,rfl⟩:=hxy
  rw[d0h]
  exact⟨fun _=>rfl,fun _=>hw,fun _ _=>rfl⟩
 rw[c8d hxy]
 obtain⟨g1,g2,g3⟩:=h x y hx hy
 exact⟨g1,g2,fun hd=>g3 (by omega)⟩
theorem Cnx.old{r:Nat->Nat->Prop}{n a b i k:Nat}{B:Nat->Nat->Bool}(h:Cnx r n a b i k B)(hi:i<n)(hk:k<n)(ha:a<n)(hb:b<n)(hn:¬ ((i=a\/B i a=true)/\(k=b\/B b k=true))):Cnx r n a b i (k+1) B:=by
 intro x y hx hy
 obtain⟨g1,g2,g3⟩:=h x y hx hy
 refine⟨g1,g2,fun hd hw=>?_⟩
 by_cases hxy:x=i/\y=k
 ·obtain⟨rfl,rfl⟩:=hxy
  rcases way_addR.1 hw with h1 | ⟨h1,h2⟩
  ·exact g1 h1
  exact absurd ⟨h1.imp id (h x a hx ha).1,h2.imp id (h b y hb hy).1⟩ hn
 exact g3 (by omega) hw
theorem Cnx.row{r:Nat->Nat->Prop}{n a b i:Nat}{B:Nat->Nat->Bool}(h:Cnx r n a b i n B):Cnx r n a b (i+1) 0 B:=by
 intro x y hx hy
 obtain⟨g1,g2,g3⟩:=h x y hx hy
 exact⟨g1,g2,fun hd=>g3 (by omega)⟩
theorem Cnx.done{r:Nat->Nat->Prop}{n a b:Nat}{B:Nat->Nat->Bool}(h:Cnx r n a b n 0 B):∀x y,x<n->y<n->(B x y=true↔Way (addR r a b) x y) :=
 fun x y hx hy=>⟨(h x y hx hy).2.1,(h x y hx hy).2.2 (.inl hx)⟩
theorem c5q{r:Nat->Nat->Prop}{a b:Nat}:(∃x,Way (addR r a b) x x)↔(∃x,Way r x x)\/Way (addR r a b) a a\/a=b:=by
 constructor
 ·rintro⟨x,hx⟩
  rcases c8y hx with h | h | h
  ·exact .inl ⟨x,h⟩
  ·exact .inr (.inr h)
  exact .inr (.inl (.head (.inr ⟨rfl,rfl⟩) (h.mono fun _ _=>.inl)))
 rintro(⟨x,hx⟩ | h | rfl)
 ·exact⟨x,hx.mono fun _ _=>.inl⟩
 ·exact⟨a,h⟩
 exact⟨a,.one (.inr ⟨rfl,rfl⟩)⟩
def prsR(r:Nat->Nat->Prop)(D E:List Nat)(p q x y:Nat):Prop:=r x y\/∃i j,D[i]? =some x/\E[j]? =some y/\(i<p\/(i=p/\j<q))
theorem c6n{r:Nat->Nat->Prop}{D E:List Nat}{p q a b:Nat}(ha:D[p]? =some a)(hb:E[q]? =some b):addR (prsR r D E p q) a b=prsR r D E p (q+1):=by
 funext x y
 refine propext ⟨fun h=>?_,fun h=>?_⟩
 ·rcases h with (h | ⟨i,j,h1,h2,h3⟩) | ⟨rfl,rfl⟩
  ·exact .inl h
  ·exact .inr ⟨i,j,h1,h2,by omega⟩
  exact .inr ⟨p,q,ha,hb,by omega⟩
 rcases h with h | ⟨i,j,h1,h2,h3⟩
 ·exact .inl (.inl h)
 by_cases hij:i=p/\j=q
 ·obtain⟨rfl,rfl⟩:=hij
  rw[ha]at h1
  rw[hb]at h2
  exact .inr ⟨(Option.some.inj h1).symm,(Option.some.inj h2).symm⟩
 exact .inl (.inr ⟨i,j,h1,h2,by omega⟩)
theorem prs_row{r:Nat->Nat->Prop}{D E:List Nat}{p:Nat}:prsR r D E p E.length=prsR r D E (p+1) 0:=by
 funext x y
 refine propext ⟨fun h=>?_,fun h=>?_⟩
 ·rcases h with h | ⟨i,j,h1,h2,h3⟩
  ·exact .inl h
  exact .inr ⟨i,j,h1,h2,by omega⟩
 rcases h with h | ⟨i,j,h1,h2,h3⟩
 ·exact .inl h
 have:=(List.getElem?_eq_some_iff.1 h2).1
 exact .inr ⟨i,j,h1,h2,by omega⟩
theorem prs_all{cl:List Nmd}{l:List Cls}{k:Nat}{c:Cls}{D E:List Nat}(hc:l[k]? =some c)(hk:c.kind=2)(hD:∀i,i∈D↔Den cl l c.name i)(hE:∀i,i∈E↔Den cl l c.other i):prsR (Rel cl l k) D E D.length 0=Rel cl l (k+1):=by
 funext x y
 refine propext ⟨fun h=>?_,fun h=>?_⟩
 ·rcases h with h | ⟨i,j,h1,h2,_⟩
  ·exact h.mono (Nat.le_succ _)
  exact⟨k,c,Nat.lt_succ_self _,hc,hk,(hD x).1 (List.mem_of_getElem? h1),(hE y).1 (List.mem_of_getElem? h2)⟩
 obtain⟨j,d,h1,h2,h3,h4,h5⟩:=h
 by_cases hj:j<k
 ·exact .inl ⟨j,d,hj,h2,h3,h4,h5⟩
 obtain rfl:j=k:=by omega
 rw[hc]at h2
 obtain rfl:c=d:=Option.some.inj h2
 obtain⟨p,hp⟩:=List.mem_iff_getElem?.1 ((hD x).2 h4)
 obtain⟨q,hq⟩:=List.mem_iff_getElem?.1 ((hE y).2 h5)
 exact .inr ⟨p,q,hp,hq,.inl (List.getElem?_eq_some_iff.1 hp).1⟩
theorem a7m{cl:List Nmd}{l:List Cls}{k:Nat}{c:Cls}(hc:l[k]? =some c)(hk:c.kind≠2):Rel cl l (k+1)=Rel cl l k:=by
 funext x y
 refine propext ⟨fun h=>?_,fun h=>h.mono (Nat.le_succ _)⟩
 obtain⟨j,d,h1,h2,h3,h4⟩:=h
 by_cases hj:j<k
 ·exact⟨j,d,hj,h2,h3,h4⟩
 obtain rfl:j=k:=by omega
 rw[hc]at h2
 obtain rfl:c=d:=Option.some.inj h2
 exact absurd h3 hk
def Lim(cl:List Nmd)(l:List Cls)(k:Nat)(S:Int->Bool)(f:Int->Value):Prop :=
 (∀p:Int,S p=true↔∃ (i j:Nat) (x:Cls),p=(i:Int)/\j<k/\l[j]? =some x/\x.kind=3/\a0g cl x.name=some i) /\
 ∀ (i j:Nat) (x:Cls),j<k->l[j]? =some x->x.kind=3->a0g cl x.name=some i->f (i:Int)=.agg #[.bool (enc3 x.am.val).n,.string (bs (enc3 x.am.val).a),.string (bs (enc3 x.am.val).b)]
theorem Lim.start{cl:List Nmd}{l:List Cls}(f:Int->Value):Lim cl l 0 (fun _=>false) f :=
 ⟨fun p=>⟨fun h=>(by cases h),fun⟨_,_,_,_,h,_⟩=>absurd h (Nat.not_lt_zero _)⟩,fun _ _ _ h=>absurd h (Nat.not_lt_zero _)⟩
theorem Lim.skip{cl:List Nmd}{l:List Cls}{k:Nat}{c:Cls}{S:Int->Bool}{f:Int->Value}(h:Lim cl l k S f)(hc:l[k]? =some c)(hk:c.kind≠3):Lim cl l (k+1) S f:=by
 have key:∀ {j:Nat} {x:Cls},j<k+1->l[j]? =some x->x.kind=3->j<k:=by
  intro j x hj hx h3
  rcases Nat.lt_or_ge j k with hlt | hge
  ·exact hlt
  obtain rfl:j=k:=by omega
  rw[hc]at hx
  obtain rfl:c=x:=Option.some.inj hx
  exact absurd h3 hk
 refine⟨fun p=>⟨fun hp=>?_,fun hp=>?_⟩,fun i j x hj hx h3 hi=>h.2 i j x (key hj hx h3) hx h3 hi⟩
 ·obtain⟨i,j,x,h1,h2,h3⟩:=(h.1 p).1 hp
  exact⟨i,j,x,h1,by omega,h3⟩
 obtain⟨i,j,x,h1,h2,h3,h4,h5⟩:=hp
 exact(h.1 p).2 ⟨i,j,x,h1,key h2 h3 h4,h3,h4,h5⟩
theorem Lim.seen{cl:List Nmd}{l:List Cls}{k i:Nat}{s:List UInt8}{S:Int->Bool}{f:Int->Value}(h:Lim cl l k S f)(hi:a0g cl s=some i):S (i:Int)=limB l k s:=by
 rw[Bool.eq_iff_iff,h.1]
 unfold limB
 rw[List.any_eq_true]
 constructor
 ·rintro⟨i',j,x,e,hj,hx,h3,hc⟩
  have e':i=i':=by omega
  subst e'
  obtain⟨c,c1,c2⟩:=a4h hi
  obtain⟨d,d1,d2⟩:=a4h hc
  rw[c1]at d1
  obtain rfl:c=d:=Option.some.inj d1
  refine⟨x,List.mem_of_getElem? (i:=j) (by rw[List.getElem?_take,if_pos hj];exact hx),?_⟩
  rw[decide_eq_true h3,<-c2,<-d2]
  simp
 rintro⟨x,hx,hp⟩
 rw[Bool.and_eq_true,decide_eq_true_eq,beq_iff_eq]at hp
 obtain⟨j,hj⟩:=List.mem_iff_getElem?.1 hx
 rw[List.getElem?_take]at hj
 split at hj
 ·exact⟨i,j,x,rfl,by assumption,hj,hp.1,by rw[hp.2];exact hi⟩
 cases hj
theorem Lim.put{cl:List Nmd}{l:List Cls}{k i:Nat}{c:Cls}{S:Int->Bool}{f:Int->Value}(h:Lim cl l k S f)(hc:l[k]? =some c)(hk:c.kind=3)(hi:a0g cl c.name=some i)(hs:S (i:Int)=false) :
  Lim cl l (k+1) (putK S (i:Int)) (putV f (i:Int) (.agg #[.bool (enc3 c.am.val).n,.string (bs (enc3 c.am.val).a),.string (bs (enc3 c.am.val).b)])):=by
 refine⟨fun p=>?_,fun i' j x hj hx h3 hi'=>?_⟩
 ·unfold putK
  rw[Bool.or_eq_true,decide_eq_true_eq,h.1]
  constructor
  ·rintro(⟨i',j,x,h1,h2,h3⟩ | rfl)
   ·exact⟨i',j,x,h1,by omega,h3⟩
   exact⟨i,k,c,rfl,Nat.lt_succ_self _,hc,hk,hi⟩
  rintro⟨i',j,x,h1,h2,h3,h4,h5⟩
  by_cases hj:j<k
  ·exact .inl ⟨i',j,x,h1,hj,h3,h4,h5⟩
  obtain rfl:j=k:=by omega
  rw[hc]at h3
  obtain rfl:c=x:=Option.some.inj h3
  rw[hi]at h5
  obtain rfl:i=i':=Option.some.inj h5
  exact .inr h1
 unfold putV
 by_cases hj:j<k
 ·have hne:¬ ((i':Int)=(i:Int)):=fun e=>by
   have:S (i':Int)=true:=(h.1 _).2 ⟨i',j,x,rfl,hj,hx,h3,hi'⟩
   rw[e,hs]at this
   cases this
  rw[if_neg hne]
  exact h.2 i' j x hj hx h3 hi'
 obtain rfl:j=k:=by omega
 rw[hc]at hx
 obtain rfl:c=x:=Option.some.inj hx
 rw[hi]at hi'
 obtain rfl:i=i':=Option.some.inj hi'
 rw[if_pos rfl]
theorem Lim.part{cl:List Nmd}{l:List Cls}{i:Nat}{S:Int->Bool}{f:Int->Value}(h:Lim cl l l.length S f)(hn:a3a cl=0)(hi:i<cl.length) :
  (S (i:Int)=(a2e cl l i).capped)/\(a2e cl l i).claim=i/\(S (i:Int)=true->f (i:Int)=.agg #[.bool (a2e cl l i).cap.n,.string (bs (a2e cl l i).cap.a),.string (bs (a2e cl l i).cap.b)])/\(S (i:Int)=false->(a2e cl l i).cap=zero3):=by
 have hc:=List.getElem?_eq_getElem hi
 have hci:=c0z hn hc
 generalize cl[i]=c at hc hci
 unfold a2e
 rw[hc]
 dsimp only
 cases hl:limC l c.id with
 | none =>
  have hS:S (i:Int)=false:=by
   rw[Bool.eq_false_iff]
   intro hs
   obtain⟨i',j,x,h1,h2,h3,h4,h5⟩:=(h.1 _).1 hs
   have e:i=i':=by omega
   subst e
   obtain⟨d,d1,d2⟩:=a4h h5
   rw[hc]at d1
   obtain rfl:c=d:=Option.some.inj d1
   exact d1p hl (List.mem_of_getElem? h3) h4 d2.symm
  exact⟨hS,rfl,fun h=>(by rw[hS]at h;cases h),fun _=>rfl⟩
 | some x =>
  obtain⟨x1,x2,x3⟩:=d1n hl
  obtain⟨j,hj⟩:=List.mem_iff_getElem?.1 x1
  have hjl:=(List.getElem?_eq_some_iff.1 hj).1
  have hS:S (i:Int)=true:=(h.1 _).2 ⟨i,j,x,rfl,hjl,hj,x2,by rw[x3];exact hci⟩
  exact⟨hS,rfl,fun _=>h.2 i j x hjl hj x2 (by rw[x3];exact hci),fun h=>(by rw[hS]at h;cases h)⟩
def RnkJ(R0:List Int)(D:List Nat)(k:Nat)(R:List Int):Prop:=R.length=R0.length/\∀ (i:Nat) (a b:Int),R0[i]? =some a->R[i]? =some b->((∃j,j<k/\D[j]? =some i)->b=max a 4)/\((¬ ∃j,j<k/\D[j]? =some i)->b=a)
theorem RnkJ.start(R0:List Int)(D:List Nat):RnkJ R0 D 0 R0:=⟨rfl,fun i a b h1 h2=>⟨fun⟨_,h,_⟩=>absurd h (Nat.not_lt_zero _),fun _=>by rw[h1]at h2;exact(Option.some.inj h2).symm⟩⟩
theorem RnkJ.step{R0 R:List Int}{D:List Nat}{k i:Nat}{a:Int}(h:RnkJ R0 D k R)(hd:D[k]? =some i)(ha:R[i]? =some a):RnkJ R0 D (k+1) (R.set i (max a 4)):=by
 refine⟨by rw[List.length_set];exact h.1,fun i' a' b h1 h2=>?_⟩
 by_cases hi:i'=i
 ·subst hi
  rw[List.getElem?_set_self (List.getElem?_eq_some_iff.1 ha).1]at h2
  obtain rfl:=Option.some.inj h2
  refine⟨fun _=>?_,fun hn=>absurd ⟨k,Nat.lt_succ_self _,hd⟩ hn⟩
  have h0:=h.2 i' a' a h1 ha
  by_cases hp:∃j,j<k/\D[j]? =some i'
  ·rw[h0.1 hp];omega
  rw[h0.2 hp]
 rw[List.getElem?_set_ne (fun e=>hi e.symm)]at h2
 have h0:=h.2 i' a' b h1 h2
 have e:(∃j,j<k+1/\D[j]? =some i')↔∃j,j<k/\D[j]? =some i':=by
  constructor
  ·rintro⟨j,hj,hx⟩
   refine⟨j,?_,hx⟩
   rcases Nat.lt_or_ge j k with hlt | hge
   ·exact hlt
   obtain rfl:j=k:=by omega
   rw[hd]at hx
   exact absurd (Option.some.inj hx).symm hi
  rintro⟨j,hj,hx⟩;exact⟨j,by omega,hx⟩
 rw[e];exact h0
theorem Ranks.sub{cl:List Nmd}{l:List Cls}{k:Nat}{c:Cls}{R R':List Int}{D:List Nat}(h:Ranks cl l k R)(hc:l[k]? =some c)(hk:c.kind=4)(hD:∀i,i∈D↔Den cl l c.name i)(hR:RnkJ R D D.length R'):Ranks cl l (k+1) R':=by
 refine⟨hR.1.trans h.1,fun i n r hn hr=>?_⟩
 have hil:i<R.length:=by rw[h.1];exact(List.getElem?_eq_some_iff.1 hn).1
 have h0:=h.2 i n _ hn (List.getElem?_eq_getElem hil)
 have h1:=hR.2 i _ r (List.getElem?_eq_getElem hil) hr
 have e:(∃j,j<D.length/\D[j]? =some i)↔Den cl l c.name i:=by
  rw[<- hD,List.mem_iff_getElem?]
  exact⟨fun⟨j,_,hj⟩=>⟨j,hj⟩,fun⟨j,hj⟩=>⟨j,(List.getElem?_eq_some_iff.1 hj).1,hj⟩⟩
 rw[e]at h1
 have e2:(∃ (j:Nat) (x:Cls),j<k+1/\l[j]? =some x/\x.kind=4/\Den cl l x.name i)↔(∃ (j:Nat) (x:Cls),j<k/\l[j]? =some x/\x.kind=4/\Den cl l x.name i)\/Den cl l c.name i:=by
  constructor
  ·rintro⟨j,x,hj,hx,h4,hd⟩
   by_cases hjk:j<k
   ·exact .inl ⟨j,x,hjk,hx,h4,hd⟩
   obtain rfl:j=k:=by omega
   rw[hc]at hx
   obtain rfl:c=x:=Option.some.inj hx
   exact .inr hd
  rintro(⟨j,x,hj,hx,h4,hd⟩ | hd)
  ·exact⟨j,x,by omega,hx,h4,hd⟩
  exact⟨k,c,Nat.lt_succ_self _,hc,hk,hd⟩
 rw[e2]
 by_cases hp:∃ (j:Nat) (x:Cls),j<k/\l[j]? =some x/\x.kind=4/\Den cl l x.name i
 ·refine⟨fun _=>?_,fun hn=>absurd (.inl hp) hn⟩
  by_cases hd:Den cl l c.name i
  ·rw[h1.1 hd,h0.1 hp];omega
  rw[h1.2 hd,h0.1 hp]
 by_cases hd:Den cl l c.name i
 ·exact⟨fun _=>by rw[h1.1 hd,h0.2 hp],fun hn=>absurd (.inr hd) hn⟩
 refine⟨fun h=>(h.elim hp hd).elim,fun _=>by rw[h1.2 hd,h0.2 hp]⟩
theorem Ranks.skip{cl:List Nmd}{l:List Cls}{k:Nat}{c:Cls}{R:List Int}(h:Ranks cl l k R)(hc:l[k]? =some c)(hk:c.kind≠4):Ranks cl l (k+1) R:=by
 refine⟨h.1,fun i n r hn hr=>?_⟩
 have e2:(∃ (j:Nat) (x:Cls),j<k+1/\l[j]? =some x/\x.kind=4/\Den cl l x.name i)↔(∃ (j:Nat) (x:Cls),j<k/\l[j]? =some x/\x.kind=4/\Den cl l x.name i):=by
  constructor
  ·rintro⟨j,x,hj,hx,h4,hd⟩
   by_cases hjk:j<k
   ·exact⟨j,x,hjk,hx,h4,hd⟩
   obtain rfl:j=k:=by omega
   rw[hc]at hx
   obtain rfl:c=x:=Option.some.inj hx
   exact absurd h4 hk
  rintro⟨j,x,hj,h⟩;exact⟨j,x,by omega,h⟩
 rw[e2];exact h.2 i n r hn hr
theorem Ranks.start{cl:List Nmd}{l:List Cls}:Ranks cl l 0 (cl.map (·.rank)):=by
 refine⟨by rw[List.length_map],fun i c r hc hr=>⟨fun⟨_,_,h,_⟩=>absurd h (Nat.not_lt_zero _),fun _=>?_⟩⟩
 rw[List.getElem?_map,hc]at hr
 exact(Option.some.inj hr).symm
end Go.Proofs.YtjmiicjialkpiaaGreatDoor
