/-
Part 4 of the base.
-/
import Derived.Test.YtjmiicjialkpiaaGreatDoorRf3
import Derived.Deep.OwnRows
import Derived.Deep.RegionHeld3
import Derived.Deep.RegionWith
namespace Go.Proofs.YtjmiicjialkpiaaGreatDoor
open Go.RowKit
structure Own where
 g:Nat
 cs:Array Value
 t:TypeId
structure St(w0:World)(R:List Own)(w:World):Prop where
 below:Below w0.heap.size w0 w
 ok:∀r∈R,Blk w r.g r.cs r.t/\w0.heap.size<=r.g
 apart:R.Pairwise fun r s=>r.g≠s.g
section
variable {w0 w w' : World} {R : List Own}
theorem St.start(w0:World):St w0 [] w0:=⟨Below.refl _ _,by simp,List.Pairwise.nil⟩
theorem St.of(h:Below w0.heap.size w0 w):St w0 [] w:=⟨h,by simp,List.Pairwise.nil⟩
theorem St.call(h:St w0 R w)(hb:Below w.heap.size w w'):St w0 R w' :=
 ⟨Ext.trans h.below hb,fun r hr=>⟨(h.ok r hr).1.below hb (h.ok r hr).1.lt,(h.ok r hr).2⟩,h.apart⟩
theorem St.drew(h:St w0 R w):St w0 R w.drew:=⟨h.below.drew,fun r hr=>h.ok r hr,h.apart⟩
theorem St.drewN(h:St w0 R w)(n:Nat):St w0 R (w.drewN n):=⟨a0j h.below n,fun r hr=>h.ok r hr,h.apart⟩
theorem a9m(w:World)(p:Addr)(v:Value):(w.setCell p v).heap.size=w.heap.size:=by simp[World.setCell]
theorem St.alloc(h:St w0 R w)(cs:Array Value)(t:TypeId)(g:Nat)(hg:w.heap.size=g):St w0 (⟨g,cs,t⟩::R) (w.alloc (.cells cs t)):=by
 subst hg
 refine⟨Ext.alloc h.below _,fun r hr=>?_,List.pairwise_cons.2 ⟨fun r hr=>?_,h.apart⟩⟩
 ·rcases List.mem_cons.1 hr with rfl | hr
  ·exact⟨Blk.new _ _ _,h.below.size⟩
  exact⟨(h.ok r hr).1.alloc _,(h.ok r hr).2⟩
 have:=(h.ok r hr).1.lt
 show w.heap.size≠r.g
 omega
theorem St.alloc'(h:St w0 R w)(o:Obj):St w0 R (w.alloc o):=⟨Ext.alloc h.below _,fun r hr=>⟨(h.ok r hr).1.alloc _,(h.ok r hr).2⟩,h.apart⟩
theorem St.sub{R':List Own}(h:St w0 R w)(hs:List.Sublist R' R):St w0 R' w:=⟨h.below,fun r hr=>h.ok r (hs.subset hr),h.apart.sublist hs⟩
theorem St.blk(h:St w0 R w)(k:Nat){g:Nat}{cs:Array Value}{t:TypeId}(hk:R[k]? =some ⟨g,cs,t⟩):Blk w g cs t:=(h.ok _ (List.mem_of_getElem? hk)).1
theorem St.ge(h:St w0 R w)(k:Nat){g:Nat}{cs:Array Value}{t:TypeId}(hk:R[k]? =some ⟨g,cs,t⟩):w0.heap.size<=g:=(h.ok _ (List.mem_of_getElem? hk)).2
theorem St.lt(h:St w0 R w)(k:Nat){g:Nat}{cs:Array Value}{t:TypeId}(hk:R[k]? =some ⟨g,cs,t⟩):g<w.heap.size:=(h.blk k hk).lt
theorem St.cell(h:St w0 R w)(k:Nat){g:Nat}{cs:Array Value}{t:TypeId}(hk:R[k]? =some ⟨g,cs,t⟩)(i:Nat){v:Value}(hv:cs[i]? =some v):w.cell? ⟨g,i,none⟩=some v:=(h.blk k hk).cell i v hv
theorem St.frozen(h:St w0 R w)(k:Nat){g:Nat}{cs:Array Value}{t:TypeId}(hk:R[k]? =some ⟨g,cs,t⟩)(i:Nat):w.frozen? ⟨g,i,none⟩=false:=(h.blk k hk).frozen i
theorem St.ne'(h:St w0 R w)(j k:Nat){r s:Own}(hj:R[j]? =some r)(hk:R[k]? =some s)(hjk:j<k):r.g≠s.g:=by
 obtain⟨h1,e1⟩:=List.getElem?_eq_some_iff.1 hj
 obtain⟨h2,e2⟩:=List.getElem?_eq_some_iff.1 hk
 have:=List.pairwise_iff_getElem.1 h.apart j k h1 h2 hjk
 rw[e1,e2]at this;exact this
theorem St.ne(h:St w0 R w)(j k:Nat){g g':Nat}{cs cs':Array Value}{t t':TypeId}(hj:R[j]? =some ⟨g,cs,t⟩)(hk:R[k]? =some ⟨g',cs',t'⟩)(hjk:j≠k):¬g=g':=by
 rcases Nat.lt_or_ge j k with hlt | hge
 ·exact h.ne' j k hj hk hlt
 exact fun e=>h.ne' k j hk hj (by omega) e.symm
theorem St.c3(h:St w0 R w)(k:Nat){g:Nat}{a b c:Value}{t:TypeId}(hk:R[k]? =some ⟨g,#[a,b,c],t⟩):w.cell? ⟨g,0,none⟩=some a/\w.cell? ⟨g,1,none⟩=some b/\w.cell? ⟨g,2,none⟩=some c :=
 ⟨h.cell k hk 0 rfl,h.cell k hk 1 rfl,h.cell k hk 2 rfl⟩
theorem St.f3(h:St w0 R w)(k:Nat){g:Nat}{a b c:Value}{t:TypeId}(hk:R[k]? =some ⟨g,#[a,b,c],t⟩):w.frozen? ⟨g,0,none⟩=false/\w.frozen? ⟨g,1,none⟩=false/\w.frozen? ⟨g,2,none⟩=false :=
 ⟨h.frozen k hk 0,h.frozen k hk 1,h.frozen k hk 2⟩
theorem St.c4(h:St w0 R w)(k:Nat){g:Nat}{a b c d:Value}{t:TypeId}(hk:R[k]? =some ⟨g,#[a,b,c,d],t⟩):w.cell? ⟨g,0,none⟩=some a/\w.cell? ⟨g,1,none⟩=some b/\w.cell? ⟨g,2,none⟩=some c/\w.cell? ⟨g,3,none⟩=some d :=
 ⟨h.cell k hk 0 rfl,h.cell k hk 1 rfl,h.cell k hk 2 rfl,h.cell k hk 3 rfl⟩
theorem St.old(h:St w0 R w){b:Nat}(hb:b<w0.heap.size)(o:Nat):w.cell? ⟨b,o,none⟩=w0.cell? ⟨b,o,none⟩:=h.below.cell (p:=⟨b,o,none⟩) hb
theorem Blk.set'{w:World}{g:Nat}{cs:Array Value}{t:TypeId}(h:Blk w g cs t)(i:Nat)(v:Value):Blk (w.setCell ⟨g,i,none⟩ v) g (cs.setIfInBounds i v) t:=by
 unfold Blk at *
 simp[World.setCell,Array.getElem?_modify,h]
theorem Blk.far{w:World}{g:Nat}{cs:Array Value}{t:TypeId}(h:Blk w g cs t){p:Addr}(hp:g≠p.block)(u:Value):Blk (w.setCell p u) g cs t :=
 (Below.heap_setCell w p u g hp).trans h
theorem St.set(h:St w0 R w)(k:Nat){g:Nat}{cs:Array Value}{t:TypeId}(hk:R[k]? =some ⟨g,cs,t⟩)(i:Nat)(v:Value) :
  St w0 (R.set k ⟨g,cs.setIfInBounds i v,t⟩) (w.setCell ⟨g,i,none⟩ v):=by
 have hg:w0.heap.size<=g:=h.ge k hk
 refine⟨h.below.setCell hg v,fun r hr=>?_,?_⟩
 ·rcases List.mem_or_eq_of_mem_set hr with h1 | h1
  ·by_cases he:r.g=g
   ·-- the block itself, in another place of the list: there is none
    obtain⟨j,hj,e⟩:=List.mem_iff_getElem.1 hr
    by_cases hjk:k=j
    ·subst hjk
     rw[List.getElem_set_self]at e
     subst e
     exact⟨(h.blk k hk).set' i v,hg⟩
    rw[List.getElem_set_ne hjk]at e
    have hj':R[j]? =some r:=by rw[List.getElem?_eq_getElem (by simpa using hj),e]
    rcases Nat.lt_or_ge j k with hlt | hge
    ·exact absurd he (h.ne' j k hj' hk hlt)
    exact absurd he.symm (h.ne' k j hk hj' (by omega))
   exact⟨(h.ok r h1).1.far he v,(h.ok r h1).2⟩
  subst h1
  exact⟨(h.blk k hk).set' i v,hg⟩
 rw[List.pairwise_iff_getElem]
 intro a b ha hb hab
 rw[List.length_set]at ha hb
 have ea:∀c (hc:c<(R.set k ⟨g,cs.setIfInBounds i v,t⟩).length),((R.set k ⟨g,cs.setIfInBounds i v,t⟩)[c]).g=(R[c]'(by simpa using hc)).g:=by
  intro c hc
  rw[List.getElem_set]
  split
  ·rename_i hck
   subst hck
   obtain⟨h1,e1⟩:=List.getElem?_eq_some_iff.1 hk
   rw[e1]
  rfl
 rw[ea a (by simpa using ha),ea b (by simpa using hb)]
 exact List.pairwise_iff_getElem.1 h.apart a b ha hb hab
theorem St.fill{g:Nat}{cs:Array Value}{t:TypeId}(h:St w0 R w)(hb:Below w.heap.size w w')(hg:w.heap.size<=g)(hB:Blk w' g cs t):St w0 (⟨g,cs,t⟩::R) w':=by
 have h2:=h.call hb
 refine⟨h2.below,fun r hr=>?_,List.pairwise_cons.2 ⟨fun r hr=>?_,h.apart⟩⟩
 ·rcases List.mem_cons.1 hr with rfl | hr
  ·exact⟨hB,Nat.le_trans h.below.size hg⟩
  exact h2.ok r hr
 have:=(h.ok r hr).1.lt
 show g≠r.g
 omega
def Grows(w:World)(base:Nat)(e:TypeId)(size:Nat)(v:Value)(n:Nat)(xs:List Value):Prop:=w.ownsRow base e size v n xs
theorem Grows.below{base size n:Nat}{e:TypeId}{v:Value}{xs:List Value}(h:Grows w base e size v n xs)(hb:Below w.heap.size w w'):Grows w' base e size v n xs:=by
 refine⟨h.1,?_⟩
 rcases h.2 with ⟨rfl,h0⟩ | ⟨g,cap,cur,rfl,hbl,hg,hrest⟩
 ·exact .inl ⟨rfl,h0⟩
 exact .inr ⟨g,cap,cur,rfl,hbl,(hb.block g (World.ownsRow.lt h g rfl).2).trans hg,hrest⟩
theorem a0b{a:Array Value}{t:Nat}{b:Bool}(h:a[t]?.getD undef=.bool b):a[t]? =some (.bool b):=by
 cases hx:a[t]? with
 | none=>rw[hx]at h;exact Value.noConfusion h
 | some v=>rw[hx]at h;exact congrArg some h
theorem a4m{P:Program}{c:Code}{Q:Exit->Act->World->Prop}{a:Act}(h:St w0 R w)(k:∀w',St w0 R w'->c.wp P Q a w'):c.wp P Q a w:=k w h
end
theorem a2n{a:Array Value}{t:Nat}(h:a[t]?.getD undef=undef):a[t]? =none\/a[t]? =some (.tuple #[]):=by
 cases hx:a[t]? with
 | none=>exact .inl rfl
 | some v=>rw[hx]at h;exact .inr (congrArg some h)
theorem b3c(b:Bool)(x y:Nat):signed b (x*y)=signed b x*y:=by
 unfold signed
 split
 ·rw[Int.natCast_mul,Int.neg_mul]
 rw[Int.natCast_mul]
theorem b2h(b:Bool)(x y:Nat):signed b (x+y)=signed b x+signed b y:=by
 unfold signed
 split<;>omega
theorem a7j{b c:Bool}{x y:Nat}(h:b≠c)(hxy:y<=x):signed b (x-y)=signed b x+signed c y:=by
 cases b<;>cases c
 ·exact absurd rfl h
 ·unfold signed;simp;omega
 ·unfold signed;simp;omega
 exact absurd rfl h
theorem b0j{b c:Bool}{x y:Nat}(h:b≠c)(hxy:x<=y):signed c (y-x)=signed b x+signed c y:=by
 rw[a7j (Ne.symm h) hxy,Int.add_comm]
theorem c1f{p q:Rat}(h:p.den=q.den):mkRat (signed (negB p) p.num.natAbs+signed (negB q) q.num.natAbs) p.den=p+q:=by
 rw[a3q,a3q,Rat.add_def',<-h]
 rw[show p.num*(p.den:Int)+q.num*(p.den:Int)=(p.num+q.num)*(p.den:Int) by rw[Int.add_mul]]
 rw[Rat.mkRat_mul_right p.den_nz]
theorem a9y(p q:Rat):mkRat (signed (negB p) (p.num.natAbs*q.den)+signed (negB q) (q.num.natAbs*p.den)) (p.den*q.den)=p+q:=by
 rw[b3c,b3c,a3q,a3q,Rat.add_def']
theorem denom_same{p q:Rat}:a0a p=a0a q↔p.den=q.den:=by
 unfold a0a denB
 constructor
 ·intro h
  split at h<;>split at h
  ·rename_i h1 h2;rw[h1,h2]
  ·rename_i h1 h2;exact absurd (bytesOf_eq_nil.1 h.symm) q.den_nz
  ·rename_i h1 h2;exact absurd (bytesOf_eq_nil.1 h) p.den_nz
  have:=congrArg bv h
  rwa[a0c,a0c]at this
 intro h;rw[h]
theorem numB_nil'{q:Rat}:numB q=[]↔q=0:=by
 unfold numB
 rw[bytesOf_eq_nil]
 constructor
 ·intro h;exact Rat.num_eq_zero.1 (Int.natAbs_eq_zero.1 h)
 intro h;rw[h];rfl
theorem d0y{q:Rat}(h:q≠0):negB (-q)=!negB q:=by
 unfold negB
 have h1:(-q<0)↔¬ (q<0):=by
  rw[a4d,a4d,Rat.neg_num]
  have:q.num≠0:=mt Rat.num_eq_zero.1 h
  omega
 by_cases h2:q<0
 ·rw[decide_eq_true h2,decide_eq_false (fun h3=>h1.1 h3 h2)];rfl
 rw[decide_eq_false h2,decide_eq_true (h1.2 h2)];rfl
theorem d0x(q:Rat):numB (-q)=numB q:=by unfold numB;rw[Rat.neg_num,Int.natAbs_neg]
theorem c4p(q:Rat):a0a (-q)=a0a q:=by unfold a0a;rw[Rat.neg_den]
theorem b9k(p q:Rat):sgn (p-q).num=sgn ((p.num*q.den:Int)-q.num*p.den):=by
 have h:p-q=mkRat (p.num*q.den-q.num*p.den) (p.den*q.den):=Rat.sub_def' p q
 have hd:p.den*q.den≠0:=Nat.mul_ne_zero p.den_nz q.den_nz
 generalize p.num*(q.den:Int)-q.num*(p.den:Int)=n at *
 rw[h,<-Rat.normalize_eq_mkRat hd,Rat.num_normalize]
 have hg:0<Nat.gcd n.natAbs (p.den*q.den):=Nat.gcd_pos_of_pos_right _ (Nat.pos_of_ne_zero hd)
 obtain⟨k,hk⟩:((Nat.gcd n.natAbs (p.den*q.den):Nat):Int)∣n:=Int.ofNat_dvd_left.2 (Nat.gcd_dvd_left _ _)
 generalize Nat.gcd n.natAbs (p.den*q.den)=g at *
 rw[hk,Int.mul_ediv_cancel_left _ (by omega)]
 have hgi:(0:Int)<g:=by omega
 rcases Int.lt_trichotomy k 0 with h1 | h1 | h1
 ·rw[a1y h1,a1y (Int.mul_neg_of_pos_of_neg hgi h1)]
 ·rw[h1,Int.mul_zero]
 rw[a2y h1,a2y (Int.mul_pos hgi h1)]
theorem c7u(n:Int) : -1<=sgn n/\sgn n<=1:=by unfold sgn;split<;>(try split)<;>omega
theorem c6f(q:Rat):sgnR (negB q) (numB q)=sgn q.num:=by
 unfold sgnR
 by_cases h:q=0
 ·rw[if_pos (numB_nil'.2 h),h];rfl
 rw[if_neg (mt numB_nil'.1 h)]
 have hn:q.num≠0:=mt Rat.num_eq_zero.1 h
 unfold negB
 by_cases h2:q<0
 ·rw[decide_eq_true h2,if_pos rfl,a1y ((a4d q).1 h2)]
 rw[decide_eq_false h2,if_neg (by decide)]
 have:=mt (a4d q).2 h2
 rw[a2y (by omega)]
theorem a3c(n:Int):(n<0/\sgn n = -1)\/(n=0/\sgn n=0)\/(0<n/\sgn n=1):=by
 rcases Int.lt_trichotomy n 0 with h | h | h
 ·exact .inl ⟨h,a1y h⟩
 ·exact .inr (.inl ⟨h,by rw[h];rfl⟩)
 exact .inr (.inr ⟨h,a2y h⟩)
theorem cmp_less{p q:Rat}(h:sgn p.num<sgn q.num):sgn (p-q).num = -1:=by
 rw[b9k]
 have hp:(0:Int)<p.den:=by have:=p.den_nz;omega
 have hq:(0:Int)<q.den:=by have:=q.den_nz;omega
 refine a1y ?_
 rcases a3c p.num with ⟨h1,e1⟩ | ⟨h1,e1⟩ | ⟨h1,e1⟩<;>rcases a3c q.num with ⟨h2,e2⟩ | ⟨h2,e2⟩ | ⟨h2,e2⟩<;>(rw[e1,e2]at h)<;>first | (exfalso;omega) | skip
 ·have:=Int.mul_neg_of_neg_of_pos h1 hq;rw[h2,Int.zero_mul];omega
 ·have:=Int.mul_neg_of_neg_of_pos h1 hq;have:=Int.mul_pos h2 hp;omega
 have:=Int.mul_pos h2 hp;rw[h1,Int.zero_mul];omega
theorem cmp_more{p q:Rat}(h:sgn q.num<sgn p.num):sgn (p-q).num=1:=by
 rw[b9k]
 have hp:(0:Int)<p.den:=by have:=p.den_nz;omega
 have hq:(0:Int)<q.den:=by have:=q.den_nz;omega
 refine a2y ?_
 rcases a3c p.num with ⟨h1,e1⟩ | ⟨h1,e1⟩ | ⟨h1,e1⟩<;>rcases a3c q.num with ⟨h2,e2⟩ | ⟨h2,e2⟩ | ⟨h2,e2⟩<;>(rw[e1,e2]at h)<;>first | (exfalso;omega) | skip
 ·have:=Int.mul_neg_of_neg_of_pos h2 hp;rw[h1,Int.zero_mul];omega
 ·have:=Int.mul_neg_of_neg_of_pos h2 hp;have:=Int.mul_pos h1 hq;omega
 have:=Int.mul_pos h1 hq;rw[h2,Int.zero_mul];omega
theorem cmp_neg{p q:Rat}(h:sgn p.num=sgn q.num)(hn:negB p=true):sgn (p-q).num = -sgn (((p.num.natAbs*q.den:Nat):Int)-(q.num.natAbs*p.den:Nat)):=by
 rw[b9k]
 have hpn:p.num<0:=(a4d p).1 (of_decide_eq_true hn)
 have hqn:q.num<0:=by
  rcases a3c q.num with ⟨h2,e2⟩ | ⟨h2,e2⟩ | ⟨h2,e2⟩
  ·exact h2
  ·rw[a1y hpn,e2]at h;omega
  rw[a1y hpn,e2]at h;omega
 have e1:(p.num.natAbs:Int) = -p.num:=by omega
 have e2:(q.num.natAbs:Int) = -q.num:=by omega
 rw[Int.natCast_mul,Int.natCast_mul,e1,e2,Int.neg_mul,Int.neg_mul]
 generalize p.num*(q.den:Int)=x
 generalize q.num*(p.den:Int)=y
 rcases a3c (x-y)with ⟨h2,e2⟩ | ⟨h2,e2⟩ | ⟨h2,e2⟩
 ·rw[e2,a2y (by omega)]
 ·rw[e2,show -x - -y=0 by omega];rfl
 rw[e2,a1y (by omega)];rfl
theorem cmp_pos{p q:Rat}(h:sgn p.num=sgn q.num)(hn:negB p=false):sgn (p-q).num=sgn (((p.num.natAbs*q.den:Nat):Int)-(q.num.natAbs*p.den:Nat)):=by
 rw[b9k]
 have hpn:0<=p.num:=by
  have:=mt (a4d p).2 (of_decide_eq_false hn)
  omega
 have hqn:0<=q.num:=by
  rcases a3c q.num with ⟨h2,e2⟩ | ⟨h2,e2⟩ | ⟨h2,e2⟩
  ·rw[e2]at h
   rcases a3c p.num with ⟨h3,e3⟩ | ⟨h3,e3⟩ | ⟨h3,e3⟩<;>rw[e3]at h<;>omega
  ·omega
  omega
 have e1:(p.num.natAbs:Int)=p.num:=by omega
 have e2:(q.num.natAbs:Int)=q.num:=by omega
 rw[Int.natCast_mul,Int.natCast_mul,e1,e2]
theorem a7y(q:Rat):bv (numB q)=q.num.natAbs:=by unfold numB;rw[a0c]
theorem c5g(q:Rat):denL (a0a q)=bytesOf q.den:=by
 unfold denL a0a denB
 by_cases h:q.den=1
 ·rw[if_pos h,if_pos rfl,h,a1d]
 rw[if_neg h,if_neg (fun e=>q.den_nz (bytesOf_eq_nil.1 e))]
theorem a0z(q:Rat)(w:World):Calls Tryz.prog 35 #[rat q] w fun e w'=>e=.returned (.string (bs (bytesOf q.den)))/\Below w.heap.size w w':=by
 rw[<- c5g]
 exact c2f (negB q) (numB q) (a0a q) w

section
variable {w0 w : World} {R : List Own}
theorem cC(h:Hid (St w0 R w))(k i:Nat){g:Nat}{cs:Array Value}{t:TypeId}{v:Value}(hk:R[k]? =some ⟨g,cs,t⟩:=by exact rfl)(hv:cs[i]? =some v:=by exact rfl):w.cell? ⟨g,i,none⟩=some v:=h.out.cell k hk i hv
theorem cF(h:Hid (St w0 R w))(k i:Nat){g:Nat}{cs:Array Value}{t:TypeId}(hk:R[k]? =some ⟨g,cs,t⟩:=by exact rfl):w.frozen? ⟨g,i,none⟩=false:=h.out.frozen k hk i
theorem cN(h:Hid (St w0 R w))(j k:Nat){g g':Nat}{cs cs':Array Value}{t t':TypeId}(hj:R[j]? =some ⟨g,cs,t⟩:=by exact rfl)(hk:R[k]? =some ⟨g',cs',t'⟩:=by exact rfl)(hjk:j≠k:=by decide):¬g=g':=h.out.ne j k hj hk hjk
theorem aL(h:Hid (St w0 R w))(cs:Array Value)(t:TypeId)(g:Nat)(hg:w.heap.size=g:=by simp):Hid (St w0 (⟨g,cs,t⟩::R) (w.alloc (.cells cs t))):=zh (h.out.alloc cs t g hg)
theorem sE(h:Hid (St w0 R w))(k i:Nat){g:Nat}{cs:Array Value}{t:TypeId}(v:Value)(hk:R[k]? =some ⟨g,cs,t⟩:=by exact rfl):Hid (St w0 (R.set k ⟨g,cs.setIfInBounds i v,t⟩) (w.setCell ⟨g,i,none⟩ v)):=zh (h.out.set k hk i v)
theorem cL{P:Program}{f:FuncId}{args:Array Value}{Q:Ending->World->Prop}{X:Ending}(h:Calls P f args w (fun e w'=>e=X/\Below w.heap.size w w'))(HS:Hid (St w0 R w))(k:∀w',Hid (St w0 R w')->Q X w'):Calls P f args w Q :=
  h.mono (fun _ w' ⟨he,hb⟩=>he▸k w' (zh (HS.out.call hb)))
end
end Go.Proofs.YtjmiicjialkpiaaGreatDoor
