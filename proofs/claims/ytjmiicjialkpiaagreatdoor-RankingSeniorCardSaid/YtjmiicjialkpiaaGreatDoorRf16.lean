/-
Part 16 of the base.
-/
import Derived.Test.YtjmiicjialkpiaaGreatDoorRf15
namespace Go.Proofs.YtjmiicjialkpiaaGreatDoor
open Go.RowKit
theorem b1q{cl:List Nmd}{l:List Cls}(hC:b0v cl l){s m:List UInt8}:Mem l s m↔∃c,c∈l/\c.kind=1/\c.name=s/\m∈c.list:=by
 unfold Mem
 constructor
 ·intro h
  cases hc:a0q l s with
  | none=>unfold memb at h;rw[hc]at h;cases h
  | some i =>
   obtain⟨c,h1,h2,h3⟩:=a3u hc
   rw[b2t hc h1]at h
   exact⟨c,List.mem_of_getElem? h1,h2,h3,h⟩
 rintro⟨c,hm,hk,rfl,hx⟩
 obtain⟨i,hi⟩:=List.mem_iff_getElem?.1 hm
 rw[b2t (hC.own i c hi hk) hi]
 exact hx
theorem class_any{l:List Cls}{s:List UInt8}:(a0q l s).isSome=true↔∃c,c∈l/\c.kind=1/\c.name=s:=by
 constructor
 ·intro h
  cases hc:a0q l s with
  | none=>rw[hc]at h;cases h
  | some i =>
   obtain⟨c,h1,h2,h3⟩:=a3u hc
   exact⟨c,List.mem_of_getElem? h1,h2,h3⟩
 rintro⟨c,hm,hk,hn⟩
 obtain⟨i,hi⟩:=List.mem_iff_getElem?.1 hm
 cases hc:a0q l s with
 | none=>exact absurd hn (a9x hc i c hi hk)
 | some _=>rfl
def Apart1(a b:Cls):Prop:=¬ (a.kind=1/\b.kind=1/\a.name=b.name)
def Apart3(a b:Cls):Prop:=¬ (a.kind=3/\b.kind=3/\a.name=b.name)
def Ok1(cl:List Nmd)(l:List Cls):Prop:=(∀c,c∈l->(1<=c.kind/\c.kind<=4)/\(c.kind=1->a0g cl c.name=none/\a7b c.name=true/\c.list.length≠0/\c.list.length<=32))/\l.Pairwise Apart1
theorem pass1_iff{cl:List Nmd}{l:List Cls}:(∀ (i:Nat) (c:Cls),l[i]? =some c->err1 cl (l.take i) c=0)↔Ok1 cl l:=by
 constructor
 ·intro h
  have hC:=b8u h
  refine⟨fun c hm=>?_,?_⟩
  ·obtain⟨i,hi⟩:=List.mem_iff_getElem?.1 hm
   have h0:=h i c hi
   unfold err1 at h0
   by_cases hk:c.kind<1\/4<c.kind
   ·rw[if_pos hk]at h0;cases h0
   rw[if_neg hk]at h0
   refine⟨by omega,fun hk1=>?_⟩
   rw[if_neg (by omega)]at h0
   by_cases hp:(a0g cl c.name).isSome=true\/(a0q (l.take i) c.name).isSome=true
   ·rw[if_pos hp]at h0;cases h0
   rw[if_neg hp]at h0
   by_cases hn:a7b c.name=false
   ·rw[if_pos hn]at h0;cases h0
   rw[if_neg hn]at h0
   by_cases hl0:c.list.length=0
   ·rw[if_pos hl0]at h0;cases h0
   rw[if_neg hl0]at h0
   by_cases hl1:32<c.list.length
   ·rw[if_pos hl1]at h0;cases h0
   refine⟨?_,by simpa using hn,hl0,by omega⟩
   cases hx:a0g cl c.name with
   | none=>rfl
   | some _=>exact absurd (.inl (by rw[hx];rfl)) hp
  rw[List.pairwise_iff_getElem]
  rintro i j hi hj hij ⟨k1,k2,hn⟩
  have e1:=hC.own i _ (List.getElem?_eq_getElem hi) k1
  have e2:=hC.own j _ (List.getElem?_eq_getElem hj) k2
  rw[hn,e2]at e1
  have:=Option.some.inj e1
  omega
 rintro⟨h1,h2⟩ i c hi
 obtain⟨⟨a,b⟩,h3⟩:=h1 c (List.mem_of_getElem? hi)
 unfold err1
 rw[if_neg (by omega)]
 by_cases hk:c.kind≠1
 ·rw[if_pos hk]
 rw[if_neg hk]
 obtain⟨g1,g2,g3,g4⟩:=h3 (Classical.not_not.1 hk)
 rw[if_neg,g2,if_neg (by decide),if_neg g3,if_neg (by omega)]
 rintro(hp | hp)
 ·rw[g1]at hp;cases hp
 obtain⟨d,hd,hdk,hdn⟩:=class_any.1 hp
 obtain⟨j,hj⟩:=List.mem_iff_getElem?.1 hd
 rw[List.getElem?_take]at hj
 split at hj
 ·rename_i hji
  obtain⟨hjl,ej⟩:=List.getElem?_eq_some_iff.1 hj
  obtain⟨hil,ei⟩:=List.getElem?_eq_some_iff.1 hi
  have:=List.pairwise_iff_getElem.1 h2 j i hjl hil hji
  rw[ej,ei]at this
  exact this ⟨hdk,Classical.not_not.1 hk,hdn⟩
 cases hj
structure Okay(cl:List Nmd)(l:List Cls):Prop where
 one:Ok1 cl l
 two:∀c,c∈l->err2 cl l c=0
 three:∀c,c∈l->c.kind=1->¬Way (Mem l) c.name c.name
 sub:∀c,c∈l->c.kind=4->¬Stat cl l c.name
 bef:∀c,c∈l->c.kind=2->¬Stat cl l c.other
 free:¬Circ cl l l.length
 pos:∀c,c∈l->c.kind=3->¬sgn c.am.val.num<0
 lim:l.Pairwise Apart3
theorem Rel.mono{cl:List Nmd}{l:List Cls}{k k':Nat}(h:k<=k'){a b:Nat}(hr:Rel cl l k a b):Rel cl l k' a b:=by
 obtain⟨j,c,h1,h2⟩:=hr
 exact⟨j,c,by omega,h2⟩
theorem Circ.mono{cl:List Nmd}{l:List Cls}{k k':Nat}(h:k<=k')(hc:Circ cl l k):Circ cl l k':=by
 obtain⟨x,hx⟩:=hc
 exact⟨x,hx.mono fun _ _=>Rel.mono h⟩
theorem passes_iff{cl:List Nmd}{l:List Cls}:(∀t,1<=t->t<=4->Pass cl l t)↔Okay cl l:=by
 constructor
 ·intro h
  have p1:∀ (i:Nat) (c:Cls),l[i]? =some c->err1 cl (l.take i) c=0:=fun i c hi=>((h 1 (by decide) (by decide) i (List.getElem?_eq_some_iff.1 hi).1 c hi).1 rfl).symm
  have p2:∀ (i:Nat) (c:Cls),l[i]? =some c->err2 cl l c=0:=fun i c hi=>((h 2 (by decide) (by decide) i (List.getElem?_eq_some_iff.1 hi).1 c hi).2.1 rfl).symm
  have p3:∀ (i:Nat) (c:Cls),l[i]? =some c->Err3 l c 0:=fun i c hi=>(h 3 (by decide) (by decide) i (List.getElem?_eq_some_iff.1 hi).1 c hi).2.2.1 rfl
  have p4:∀ (i:Nat) (c:Cls),l[i]? =some c->Err4 cl l i c 0:=fun i c hi=>(h 4 (by decide) (by decide) i (List.getElem?_eq_some_iff.1 hi).1 c hi).2.2.2 rfl
  have at_:∀c,c∈l->∃i,l[i]? =some c:=fun c hc=>List.mem_iff_getElem?.1 hc
  refine⟨pass1_iff.1 p1,fun c hc=>?_,fun c hc hk hw=>?_,fun c hc hk hs=>?_,fun c hc hk hs=>?_,?_,fun c hc hk hs=>?_,?_⟩
  ·obtain⟨i,hi⟩:=at_ c hc;exact p2 i c hi
  ·obtain⟨i,hi⟩:=at_ c hc
   exact absurd ((p3 i c hi).1 ⟨hk,hw⟩) (by decide)
  ·obtain⟨i,hi⟩:=at_ c hc
   exact absurd (((p4 i c hi).1 hk).1 hs) (by decide)
  ·obtain⟨i,hi⟩:=at_ c hc
   exact absurd (((p4 i c hi).2.1 hk).1 hs) (by decide)
  ·have key:∀k,k<=l.length->¬Circ cl l k:=by
    intro k
    induction k with
    | zero =>
     rintro _ ⟨x,hx⟩
     cases hx with
     | one hr=>obtain⟨j,_,hj,_⟩:=hr;omega
     | more _ hr=>obtain⟨j,_,hj,_⟩:=hr;omega
    | succ k ih =>
     intro hk hc
     have hkl:k<l.length:=by omega
     have hi:=List.getElem?_eq_getElem hkl
     by_cases hk2:l[k].kind=2
     ·by_cases hs:Stat cl l l[k].other
      ·exact absurd (((p4 k _ hi).2.1 hk2).1 hs) (by decide)
      exact absurd (((p4 k _ hi).2.1 hk2).2.1 hs hc) (by decide)
     refine ih (by omega) ?_
     obtain⟨x,hx⟩:=hc
     refine⟨x,hx.mono fun a b hr=>?_⟩
     obtain⟨j,c,h1,h2,h3,h4⟩:=hr
     refine⟨j,c,?_,h2,h3,h4⟩
     rcases Nat.lt_or_ge j k with hlt | hge
     ·exact hlt
     obtain rfl:j=k:=by omega
     rw[hi]at h2
     obtain rfl:l[j]=c:=Option.some.inj h2
     exact absurd h3 hk2
   exact key l.length (Nat.le_refl _)
  ·obtain⟨i,hi⟩:=at_ c hc
   have:=(p4 i c hi).2.2.1 hk
   rw[if_pos hs]at this
   cases this
  rw[List.pairwise_iff_getElem]
  rintro i j hi hj hij ⟨k1,k2,hn⟩
  have:=(p4 j _ (List.getElem?_eq_getElem hj)).2.2.1 k2
  by_cases hs:sgn l[j].am.val.num<0
  ·rw[if_pos hs]at this;cases this
  rw[if_neg hs,if_pos]at this
  ·cases this
  unfold limB
  rw[List.any_eq_true]
  refine⟨l[i],List.mem_of_getElem? (i:=i) (by rw[List.getElem?_take,if_pos hij];exact List.getElem?_eq_getElem hi),?_⟩
  rw[decide_eq_true k1,hn]
  simp
 intro h t h1 h4 i hi c hc
 have hm:=List.mem_of_getElem? hc
 refine⟨fun _=>(pass1_iff.2 h.one i c hc).symm,fun _=>(h.two c hm).symm,fun _=>⟨fun hp=>absurd hp.2 (h.three c hm hp.1),fun _=>rfl⟩,fun _=>⟨fun hk=>⟨fun hs=>absurd hs (h.sub c hm hk),fun _=>rfl⟩,fun hk=>⟨fun hs=>absurd hs (h.bef c hm hk),fun _ hcirc=>absurd (hcirc.mono (by omega)) h.free,fun _ _=>rfl⟩,fun hk=>?_,fun _ _ _=>rfl⟩⟩
 rw[if_neg (h.pos c hm hk),if_neg]
 unfold limB
 rw[List.any_eq_true]
 rintro⟨d,hd,hp⟩
 rw[Bool.and_eq_true,decide_eq_true_eq]at hp
 obtain⟨j,hj⟩:=List.mem_iff_getElem?.1 hd
 rw[List.getElem?_take]at hj
 split at hj
 ·rename_i hji
  obtain⟨hjl,ej⟩:=List.getElem?_eq_some_iff.1 hj
  obtain⟨hil,ei⟩:=List.getElem?_eq_some_iff.1 hc
  have:=List.pairwise_iff_getElem.1 h.lim j i hjl hil hji
  rw[ej,ei]at this
  exact this ⟨hp.1,hk,by simpa using hp.2⟩
 cases hj
theorem b0k{cl:List Nmd}{l:List Cls}(h:Ok1 cl l):b0v cl l:=b8u (pass1_iff.2 h)
theorem d1n{l:List Cls}{s:List UInt8}{c:Cls}(h:limC l s=some c):c∈l/\c.kind=3/\c.name=s:=by
 unfold limC at h
 have h1:=List.find?_some h
 rw[Bool.and_eq_true,decide_eq_true_eq]at h1
 exact⟨List.mem_of_find?_eq_some h,h1.1,by simpa using h1.2⟩
theorem d1p{l:List Cls}{s:List UInt8}(h:limC l s=none){c:Cls}(hc:c∈l)(hk:c.kind=3):c.name≠s:=by
 unfold limC at h
 have:=List.find?_eq_none.1 h c hc
 intro hn
 rw[hn,decide_eq_true hk]at this
 simp at this
def nA:Nmd:=⟨[97],2,zero3⟩
def nB:Nmd:=⟨[98],2,zero3⟩
def nC:Nmd:=⟨[99],2,zero3⟩
def a2c:List Nmd:=[nA,nB,nC]
def kA:Cls:=⟨1,[115],[],[[97],[98]],zero3,0⟩
def kB:Cls:=⟨2,[115],[99],[],zero3,0⟩
def kC:Cls:=⟨2,[99],[97],[],zero3,0⟩
theorem c5v:a3a a2c=0:=by decide +kernel
theorem way_flat{l:List Cls}(h:∀s m,Mem l s m->∀x,¬Mem l m x){s m:List UInt8}:Way (Mem l) s m↔Mem l s m:=by
 constructor
 ·intro hw
  induction hw with
  | one h1=>exact h1
  | more _ h2 ih=>exact absurd h2 (h _ _ ih _)
 exact .one
theorem ex_memb(l:List Cls)(hl:l=[kA,kB]\/l=[kA,kB,kC])(s:List UInt8):memb l s=if s=[115]then[[97],[98]]else[]:=by
 by_cases hs:s=[115]
 ·subst hs;rcases hl with rfl | rfl<;>rfl
 rw[if_neg hs]
 have:a0q l s=none:=by
  unfold a0q
  rw[List.findIdx?_eq_none_iff]
  intro c hc
  have:(kA.name==s)=false:=by
   rw[beq_eq_false_iff_ne];exact fun e=>hs e.symm
  rcases hl with rfl | rfl
  ·rcases List.mem_cons.1 hc with rfl | hc
   ·rw[this,Bool.and_false]
   obtain rfl:c=kB:=by simpa using hc
   rfl
  rcases List.mem_cons.1 hc with rfl | hc
  ·rw[this,Bool.and_false]
  rcases List.mem_cons.1 hc with rfl | hc
  ·rfl
  obtain rfl:c=kC:=by simpa using hc
  rfl
 unfold memb
 rw[this]
theorem c3m(l:List Cls)(hl:l=[kA,kB]\/l=[kA,kB,kC]){s m:List UInt8}:Way (Mem l) s m↔s=[115]/\(m=[97]\/m=[98]):=by
 have hM:∀s m,Mem l s m↔s=[115]/\(m=[97]\/m=[98]):=by
  intro s m
  unfold Mem
  rw[ex_memb l hl]
  by_cases hs:s=[115]
  ·rw[if_pos hs];simp[hs]
  rw[if_neg hs];simp[hs]
 rw[way_flat,hM]
 intro s m h x hx
 obtain⟨_,h1⟩:=(hM s m).1 h
 obtain⟨h2,_⟩:=(hM m x).1 hx
 rcases h1 with rfl | rfl<;>exact absurd h2 (by decide)
theorem ex_den(l:List Cls)(hl:l=[kA,kB]\/l=[kA,kB,kC]):(∀i,Den a2c l [115] i↔i=0\/i=1)/\(∀i,Den a2c l [99] i↔i=2)/\∀i,Den a2c l [97] i↔i=0:=by
 have c1:a0g a2c [115]=none:=by decide +kernel
 have c2:a0g a2c [99]=some 2:=by decide +kernel
 have c3:a0g a2c [97]=some 0:=by decide +kernel
 have c4:a0g a2c [98]=some 1:=by decide +kernel
 refine⟨fun i=>?_,fun i=>?_,fun i=>?_⟩
 ·unfold Den
  constructor
  ·rintro(h | ⟨_,m,hw,hm⟩)
   ·rw[c1]at h;cases h
   rcases((c3m l hl).1 hw).2 with rfl | rfl
   ·rw[c3]at hm;exact .inl (Option.some.inj hm).symm
   rw[c4]at hm;exact .inr (Option.some.inj hm).symm
  rintro(rfl | rfl)
  ·exact .inr ⟨c1,[97],(c3m l hl).2 ⟨rfl,.inl rfl⟩,c3⟩
  exact .inr ⟨c1,[98],(c3m l hl).2 ⟨rfl,.inr rfl⟩,c4⟩
 ·unfold Den
  rw[c2]
  constructor
  ·rintro(h | ⟨h,_⟩)
   ·exact(Option.some.inj h).symm
   cases h
  rintro rfl;exact .inl rfl
 unfold Den
 rw[c3]
 constructor
 ·rintro(h | ⟨h,_⟩)
  ·exact(Option.some.inj h).symm
  cases h
 rintro rfl;exact .inl rfl
theorem c0s(l:List Cls)(s:List UInt8):¬Stat a2c l s:=by
 rintro⟨i,c,_,hc,hr⟩
 have:c.rank=2:=by
  have hm:=List.mem_of_getElem? hc
  unfold a2c at hm
  rcases List.mem_cons.1 hm with rfl | hm
  ·rfl
  rcases List.mem_cons.1 hm with rfl | hm
  ·rfl
  obtain rfl:c=nC:=by simpa using hm
  rfl
 omega
theorem ex_rel2{a b:Nat}:Rel a2c [kA,kB] 2 a b↔(a=0\/a=1)/\b=2:=by
 obtain⟨d1,d2,_⟩:=ex_den [kA,kB] (.inl rfl)
 constructor
 ·rintro⟨j,c,hj,hc,hk,h1,h2⟩
  have:j=0\/j=1:=by omega
  rcases this with rfl | rfl
  ·obtain rfl:kA=c:=Option.some.inj hc
   exact absurd hk (by decide)
  obtain rfl:kB=c:=Option.some.inj hc
  exact⟨(d1 a).1 h1,(d2 b).1 h2⟩
 rintro⟨h1,h2⟩
 exact⟨1,kB,by decide,rfl,rfl,(d1 a).2 h1,(d2 b).2 h2⟩
theorem ex_free:¬Circ a2c [kA,kB] 2:=by
 rintro⟨x,hx⟩
 exact c1x (f:=fun i=>if i=2 then 1 else 0) (fun i j h=>by
  obtain⟨h1,rfl⟩:=ex_rel2.1 h
  rcases h1 with rfl | rfl<;>decide) x hx
theorem ex_okay:Okay a2c [kA,kB]:=by
 refine⟨pass1_iff.1 ?_,?_,?_,fun c _ _=>c0s _ _,fun c _ _=>c0s _ _,ex_free,?_,?_⟩
 ·intro i c hc
  match i,hc with
  | 0,hc=>obtain rfl:kA=c:=Option.some.inj hc;decide +kernel
  | 1,hc=>obtain rfl:kB=c:=Option.some.inj hc;decide +kernel
  | n+2,hc=>cases hc
 ·intro c hc
  rcases List.mem_cons.1 hc with rfl | hc
  ·decide +kernel
  obtain rfl:c=kB:=by simpa using hc
  decide +kernel
 ·intro c hc _ hw
  have h:=(c3m [kA,kB] (.inl rfl)).1 hw
  rcases h.2 with h2 | h2<;>exact absurd (h.1.symm.trans h2) (by decide)
 ·intro c hc hk
  rcases List.mem_cons.1 hc with rfl | hc
  ·exact absurd hk (by decide)
  obtain rfl:c=kB:=by simpa using hc
  exact absurd hk (by decide)
 rw[List.pairwise_cons]
 refine⟨fun c _ h=>absurd h.1 (by decide),by simp⟩
def exP(i:Int):Prt:=⟨i,false,zero3⟩
theorem ex_agrs:Agrs a2c [kA,kB] [[[exP 0,exP 1],[exP 2]]]:=by
 refine⟨fun a b=>(a==0||a==1)&&b==2,fun a b=>a==b||(decide (a<3)&&decide (b<3)),fun i=>if i=2 then 1 else 0,fun a b=>?_,fun a b=>?_,⟨fun i j h=>?_,fun j hj=>?_⟩,by decide +kernel⟩
 ·rw[show([kA,kB]:List Cls).length=2 from rfl,ex_rel2]
  simp
 ·rw[show([kA,kB]:List Cls).length=2 from rfl]
  have key:∀x,x<3->Conn (Rel a2c [kA,kB] 2) x 2:=by
   intro x hx
   by_cases h2:x=2
   ·subst h2;exact .refl _
   exact .step (.refl _) (.inl (ex_rel2.2 ⟨by omega,rfl⟩))
  constructor
  ·intro h
   rw[Bool.or_eq_true,Bool.and_eq_true,decide_eq_true_eq,decide_eq_true_eq,beq_iff_eq]at h
   rcases h with rfl | ⟨h1,h2⟩
   ·exact .refl _
   exact(key a h1).trans (key b h2).symm
  intro h
  rw[Bool.or_eq_true,Bool.and_eq_true,decide_eq_true_eq,decide_eq_true_eq,beq_iff_eq]
  by_cases hab:a=b
  ·exact .inl hab
  right
  have hb:∀i j,Rel a2c [kA,kB] 2 i j->i<3/\j<3:=fun i j h=>h.lt
  have ha:a<3:=by
   obtain⟨c,hc⟩:=h.other hab
   rcases hc with hc | hc
   ·exact(hb _ _ hc).1
   exact(hb _ _ hc).2
  exact⟨ha,h.lt hb ha⟩
 ·obtain⟨h1,rfl⟩:=ex_rel2.1 (show Rel a2c [kA,kB] 2 i j from h)
  rcases h1 with rfl | rfl<;>decide
 have hj3:j<3:=hj
 by_cases h2:j=2
 ·subst h2
  exact .inr ⟨0,ex_rel2.2 ⟨.inl rfl,rfl⟩,rfl⟩
 exact .inl (if_neg h2)
theorem ex_ranks:Ranks a2c [kA,kB] 2 [2,2,2]:=by
 refine⟨rfl,fun i c r hc hr=>⟨fun h=>?_,fun _=>?_⟩⟩
 ·obtain⟨j,x,hj,hx,hk,_⟩:=h
  have:j=0\/j=1:=by omega
  rcases this with rfl | rfl
  ·obtain rfl:kA=x:=Option.some.inj hx
   exact absurd hk (by decide)
  obtain rfl:kB=x:=Option.some.inj hx
  exact absurd hk (by decide)
 match i,hc,hr with
 | 0,hc,hr=>obtain rfl:nA=c:=Option.some.inj hc;exact(Option.some.inj hr).symm
 | 1,hc,hr=>obtain rfl:nB=c:=Option.some.inj hc;exact(Option.some.inj hr).symm
 | 2,hc,hr=>obtain rfl:nC=c:=Option.some.inj hc;exact(Option.some.inj hr).symm
 | n+3,hc,_=>cases hc
theorem ex_comp:Comp a2c [kA,kB] [2,2,2] [[[exP 0,exP 1],[exP 2]]] 0 0:=.inr (.inr (.inr ⟨c5v,by decide,passes_iff.2 ex_okay,rfl,rfl,ex_ranks,ex_agrs⟩))
theorem ex_circ:Comp a2c [kA,kB,kC] [] [] 2 17:=by
 obtain⟨d1,d2,d3⟩:=ex_den [kA,kB,kC] (.inr rfl)
 have at_:∀ {i:Nat} {c:Cls},([kA,kB,kC]:List Cls)[i]? =some c->(i=0/\c=kA)\/(i=1/\c=kB)\/(i=2/\c=kC):=by
  intro i c hc
  match i,hc with
  | 0,hc=>exact .inl ⟨rfl,(Option.some.inj hc).symm⟩
  | 1,hc=>exact .inr (.inl ⟨rfl,(Option.some.inj hc).symm⟩)
  | 2,hc=>exact .inr (.inr ⟨rfl,(Option.some.inj hc).symm⟩)
  | n+3,hc=>cases hc
 have free2:¬Circ a2c [kA,kB,kC] 2:=by
  rintro⟨x,hx⟩
  refine c1x (f:=fun i=>if i=2 then 1 else 0) (fun i j h=>?_) x hx
  obtain⟨k,c,hk,hc,h2,h3,h4⟩:=h
  rcases at_ hc with ⟨rfl,rfl⟩ | ⟨rfl,rfl⟩ | ⟨rfl,rfl⟩
  ·exact absurd h2 (by decide)
  ·rcases(d1 i).1 h3 with rfl | rfl<;>(obtain rfl:=(d2 j).1 h4;decide)
  omega
 have circ3:Circ a2c [kA,kB,kC] 3:=⟨0,.more (.one ⟨1,kB,by decide,rfl,rfl,(d1 0).2 (.inl rfl),(d2 2).2 rfl⟩) ⟨2,kC,by decide,rfl,rfl,(d2 2).2 rfl,(d3 0).2 rfl⟩⟩
 have noway:¬Way (Mem [kA,kB,kC]) [115] [115]:=fun hw=>by
  rcases((c3m [kA,kB,kC] (.inr rfl)).1 hw).2 with h2 | h2<;>exact absurd h2 (by decide)
 have E4:∀i e,i<2/\e=0\/i=2/\e=17->ErrS a2c [kA,kB,kC] 4 i e:=by
  intro i e hie c hc
  refine⟨fun h=>absurd h (by decide),fun h=>absurd h (by decide),fun h=>absurd h (by decide),fun _=>?_⟩
  rcases at_ hc with ⟨rfl,rfl⟩ | ⟨rfl,rfl⟩ | ⟨rfl,rfl⟩
  ·have:e=0:=by omega
   subst this
   exact⟨fun h=>absurd h (by decide),fun h=>absurd h (by decide),fun h=>absurd h (by decide),fun _ _ _=>rfl⟩
  ·have:e=0:=by omega
   subst this
   exact⟨fun h=>absurd h (by decide),fun _=>⟨fun h=>absurd h (c0s _ _),fun _ h=>absurd h free2,fun _ _=>rfl⟩,fun h=>absurd h (by decide),fun h=>absurd rfl h⟩
  have:e=17:=by omega
  subst this
  exact⟨fun h=>absurd h (by decide),fun _=>⟨fun h=>absurd h (c0s _ _),fun _ _=>rfl,fun _ h=>absurd circ3 h⟩,fun h=>absurd h (by decide),fun h=>absurd rfl h⟩
 refine .inr (.inr (.inl ⟨c5v,by decide,rfl,rfl,4,⟨by decide,by decide⟩,fun t h1 h4 i hi c hc=>?_,by decide,by decide,E4 2 17 (.inr ⟨rfl,rfl⟩),fun j hj=>E4 j 0 (.inl ⟨hj,rfl⟩)⟩))
 refine⟨fun _=>?_,fun _=>?_,fun _=>?_,fun h=>by omega⟩
 ·rcases at_ hc with ⟨rfl,rfl⟩ | ⟨rfl,rfl⟩ | ⟨rfl,rfl⟩<;>decide +kernel
 ·rcases at_ hc with ⟨rfl,rfl⟩ | ⟨rfl,rfl⟩ | ⟨rfl,rfl⟩<;>decide +kernel
 rcases at_ hc with ⟨rfl,rfl⟩ | ⟨rfl,rfl⟩ | ⟨rfl,rfl⟩
 ·exact⟨fun h=>absurd h.2 noway,fun _=>rfl⟩
 ·exact⟨fun h=>absurd h.1 (by decide),fun _=>rfl⟩
 exact⟨fun h=>absurd h.1 (by decide),fun _=>rfl⟩
end Go.Proofs.YtjmiicjialkpiaaGreatDoor
