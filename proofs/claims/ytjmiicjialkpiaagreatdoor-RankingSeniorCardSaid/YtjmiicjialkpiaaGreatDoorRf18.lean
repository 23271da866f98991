/-
Part 18 of the base.
-/
import Derived.Test.YtjmiicjialkpiaaGreatDoorRf17
import Derived.Test.YtjmiicjialkpiaaGreatDoorRf19
set_option maxRecDepth 100000
set_option maxHeartbeats 1000000
namespace Go.Proofs.YtjmiicjialkpiaaGreatDoor
open Go.RowKit
theorem b7h(s:List UInt8)(w:World):Calls Tryz.prog 73 #[.string (bs s)] w fun e w'=>e=.returned (.bool (resv s))/\w=w':=by
 unfold resv
 obtain⟨e0,he0⟩:∃y,y=(s==[99,108,97,115,115]):=⟨_,rfl⟩
 have f0:((bs s).toList==[99,108,97,115,115])=e0:=by rw[a1q];exact he0.symm
 rw[<- he0]
 clear he0
 obtain⟨e1,he1⟩:∃y,y=(s==[98,101,102,111,114,101]):=⟨_,rfl⟩
 have f1:((bs s).toList==[98,101,102,111,114,101])=e1:=by rw[a1q];exact he1.symm
 rw[<- he1]
 clear he1
 obtain⟨e2,he2⟩:∃y,y=(s==[108,105,109,105,116]):=⟨_,rfl⟩
 have f2:((bs s).toList==[108,105,109,105,116])=e2:=by rw[a1q];exact he2.symm
 rw[<- he2]
 clear he2
 obtain⟨e3,he3⟩:∃y,y=(s==[115,117,98,111,114,100,105,110,97,116,101]):=⟨_,rfl⟩
 have f3:((bs s).toList==[115,117,98,111,114,100,105,110,97,116,101])=e3:=by rw[a1q];exact he3.symm
 rw[<- he3]
 clear he3
 cases e0<;>cases e1<;>cases e2<;>cases e3
 all_goals
  go_enter Tryz.func73,Tryz.ntmps73
  go_wp2
  go_ret
  exact⟨rfl,rfl⟩
theorem b0d(s:List UInt8)(w:World)(h:s.length<=9223372036854775807):Calls Tryz.prog 39 #[.string (bs s)] w fun e w'=>e=.returned (.bool (a7b s))/\w=w':=by
 have h1:=fun W=>c2m s W h
 have h2:=fun W=>b7h s W
 unfold a7b
 generalize b2r s=x at *
 generalize resv s=y at *
 have H1:=zh h1
 have H2:=zh h2
 clear h h1 h2
 cases x
 ·go_enter Tryz.func39,Tryz.ntmps39
  go_wp2_with fail
  refine(H1.out _).mono ?_
  rintro e w' ⟨rfl,rfl⟩
  go_wp2
  go_ret
  exact⟨rfl,rfl⟩
 cases y
 all_goals
  go_enter Tryz.func39,Tryz.ntmps39
  go_wp2_with fail
  refine(H1.out _).mono ?_
  rintro e w' ⟨rfl,rfl⟩
  go_wp2_with fail
  refine(H2.out _).mono ?_
  rintro e w' ⟨rfl,rfl⟩
  go_wp2
  go_ret
  exact⟨rfl,rfl⟩
def optZ:Option Nat->Int
 | some i=>(i:Nat)
 | none => -1
theorem d2e{α:Type}{p:α->Bool}{l:List α}{k:Nat}{x:α}(hn:∀ (j:Nat) t,j<k->l[j]? =some t->p t=false)(hk:l[k]? =some x)(hx:p x=true):l.findIdx? p=some k:=by
 rw[List.findIdx?_eq_some_iff_getElem]
 obtain⟨hl,e⟩:=List.getElem?_eq_some_iff.1 hk
 refine⟨hl,by rw[e];exact hx,fun j hj=>?_⟩
 have:=hn j l[j] hj (List.getElem?_eq_getElem (by omega))
 simp[this]
theorem d2d{α:Type}{p:α->Bool}{l:List α}(hn:∀ (j:Nat) t,j<l.length->l[j]? =some t->p t=false):l.findIdx? p=none:=by
 rw[List.findIdx?_eq_none_iff]
 intro t ht
 obtain⟨j,hj,e⟩:=List.getElem_of_mem ht
 exact hn j t hj (by rw[List.getElem?_eq_getElem hj,e])
theorem a7a{α:Type}{p:α->Bool}{l:List α}{k:Nat}{x:α}(hn:∀ (j:Nat) t,j<k->l[j]? =some t->p t=false)(hk:l[k]? =some x)(hx:p x=false):∀ (j:Nat) t,j<k+1->l[j]? =some t->p t=false:=by
 intro j t hj ht
 rcases Nat.lt_or_ge j k with h | h
 ·exact hn j t h ht
 obtain rfl:j=k:=by omega
 rw[hk]at ht
 obtain rfl:x=t:=Option.some.inj ht
 exact hx
theorem c2d(v:Value)(l:List Nmd)(s:List UInt8)(w:World)(h:NmdL w v l)(hl9:l.length<=1000000) :
  Calls Tryz.prog 96 #[v,.string (bs s)] w fun e w'=>e=.returned (.int .i64 (optZ (a0g l s)))/\Below w.heap.size w w':=by
 have H:=zh h
 have HL:=zh hl9
 obtain⟨A,c,rfl,hl,hcc⟩:=h.slice
 clear h hl9
 go_enter Tryz.func96,Tryz.ntmps96
 have HS:=zh (St.start w)
 go_wp2
 go_loopw [5] (fun i wr=>∃k:Nat,k<=l.length/\i=.int .i64 k/\Hid (∀ (j:Nat) t,j<k->l[j]? =some t->(t.id==s)=false)/\Hid (St w [] wr)) (fun i _=>l.length-(intOf i).toNat)
 case atStart=>exact⟨0,Nat.zero_le _,rfl,fun j t hj=>absurd hj (Nat.not_lt_zero _),St.start w⟩
 case round =>
  obtain⟨k,hk,rfl,HN,HS⟩:=hrel
  by_cases hlt:k<l.length
  ·obtain⟨b,o,x,rfl,hbb,hq,hx⟩:=H.out.at_ hlt
   obtain⟨q,hpq⟩:∃q,q=(x.id==s):=⟨_,rfl⟩
   have fe:((bs x.id).toList==(bs s).toList)=q:=by rw[a1q,a1q];exact hpq.symm
   have HPQ:Hid ((x.id==s)=q):=hpq.symm
   have HQ:=zh hq
   have HX:=zh hx
   have e0:(0:Int)<=((k:Nat):Int):=by omega
   have e1:((k:Nat):Int)<(l.length:Int):=by omega
   have e2:decide (((k:Nat):Int)<(l.length:Int))=true:=decide_eq_true e1
   have i5:IntKind.i64.wrap ((k:Int)+1)=((k+1:Nat):Int):=by have:=HL.out;rw[IntWalk.i64_in _ (by omega)];rfl
   clear hq hx hpq
   cases q
   ·have x1:=HX.out _ HS.out.below 0 _ rfl
    rw[Nat.add_zero]at x1
    go_wp2
    go_roundw
    case rel=>exact⟨k+1,by omega,by go_num,a7a (p:=fun c:Nmd=>c.id==s) HN.out HQ.out HPQ.out,HS⟩
    case measure=>simp[intOf];omega
   have x1:=HX.out _ HS.out.below 0 _ rfl
   rw[Nat.add_zero]at x1
   go_wp2
   go_ret
   rw[show a0g l s=some k from d2e HN.out HQ.out HPQ.out]
   exact⟨rfl,HS.out.below⟩
  obtain rfl:k=l.length:=by omega
  have e2:decide (((l.length:Nat):Int)<(l.length:Int))=false:=decide_eq_false (by omega)
  go_wp2
  go_ret
  rw[show a0g l s=none from d2d HN.out]
  exact⟨rfl,HS.out.below⟩
theorem c2c(v:Value)(l:List Cls)(s:List UInt8)(w:World)(h:ClsL w v l)(hl9:l.length<=1000000) :
  Calls Tryz.prog 97 #[v,.string (bs s)] w fun e w'=>e=.returned (.int .i64 (optZ (a0q l s)))/\Below w.heap.size w w':=by
 have H:=zh h
 have HL:=zh hl9
 obtain⟨A,c,rfl,hl,hcc⟩:=h.slice
 clear h hl9
 go_enter Tryz.func97,Tryz.ntmps97
 have HS:=zh (St.start w)
 go_wp2
 go_loopw [5] (fun i wr=>∃k:Nat,k<=l.length/\i=.int .i64 k/\Hid (∀ (j:Nat) t,j<k->l[j]? =some t->(decide (t.kind=1)&&t.name==s)=false)/\Hid (St w [] wr)) (fun i _=>l.length-(intOf i).toNat)
 case atStart=>exact⟨0,Nat.zero_le _,rfl,fun j t hj=>absurd hj (Nat.not_lt_zero _),St.start w⟩
 case round =>
  obtain⟨k,hk,rfl,HN,HS⟩:=hrel
  by_cases hlt:k<l.length
  ·obtain⟨b,o,x,u,rfl,hbb,hq,_,hx⟩:=H.out.at_ hlt
   obtain⟨q,hpq⟩:∃q,q=(x.name==s):=⟨_,rfl⟩
   obtain⟨p,hp⟩:∃p,p=decide (x.kind=1):=⟨_,rfl⟩
   have fe:((bs x.name).toList==(bs s).toList)=q:=by rw[a1q,a1q];exact hpq.symm
   have fk:(x.kind==1)=p:=by rw[hp,Bool.eq_iff_iff];simp
   have HPQ:Hid ((decide (x.kind=1)&&x.name==s)=(p&&q)):=by rw[hp,hpq];exact rfl
   have HQ:=zh hq
   have HX:=zh hx
   have e0:(0:Int)<=((k:Nat):Int):=by omega
   have e1:((k:Nat):Int)<(l.length:Int):=by omega
   have e2:decide (((k:Nat):Int)<(l.length:Int))=true:=decide_eq_true e1
   have i5:IntKind.i64.wrap ((k:Int)+1)=((k+1:Nat):Int):=by have:=HL.out;rw[IntWalk.i64_in _ (by omega)];rfl
   clear hq hx hpq hp
   cases p
   ·have x1:=HX.out _ HS.out.below 0 _ rfl
    rw[Nat.add_zero]at x1
    go_wp2
    go_roundw
    case rel=>exact⟨k+1,by omega,by go_num,a7a (p:=fun c:Cls=>decide (c.kind=1)&&c.name==s) HN.out HQ.out HPQ.out,HS⟩
    case measure=>simp[intOf];omega
   cases q
   ·have x1:=HX.out _ HS.out.below 0 _ rfl
    rw[Nat.add_zero]at x1
    have x2:=HX.out _ HS.out.below 1 _ rfl
    go_wp2
    go_roundw
    case rel=>exact⟨k+1,by omega,by go_num,a7a (p:=fun c:Cls=>decide (c.kind=1)&&c.name==s) HN.out HQ.out HPQ.out,HS⟩
    case measure=>simp[intOf];omega
   have x1:=HX.out _ HS.out.below 0 _ rfl
   rw[Nat.add_zero]at x1
   have x2:=HX.out _ HS.out.below 1 _ rfl
   go_wp2
   go_ret
   rw[show a0q l s=some k from d2e HN.out HQ.out HPQ.out]
   exact⟨rfl,HS.out.below⟩
  obtain rfl:k=l.length:=by omega
  have e2:decide (((l.length:Nat):Int)<(l.length:Int))=false:=decide_eq_false (by omega)
  go_wp2
  go_ret
  rw[show a0q l s=none from d2d HN.out]
  exact⟨rfl,HS.out.below⟩
theorem a2r:KeyW Tryz.prog 9 strV strL (fun s=>s.length<=maxLen):=key_str Tryz.underlying9
theorem c7c:KeyW Tryz.prog 3 intV intL (fun p=>(Lit.int .i64 p).wf=true):=key_int Tryz.underlying3
theorem a4k(w:World):(zeroValue 4).run Tryz.prog w=.ok (.bool false) w:=by kernel_rfl
theorem a5a(w:World):(zeroValue 3).run Tryz.prog w=.ok (.int .i64 0) w:=by kernel_rfl
theorem b0w(w:World):(zeroValue 49).run Tryz.prog w=.ok (.slice none 0 0) w:=by kernel_rfl
theorem b9b(w:World):(zeroValue 39).run Tryz.prog w=.ok (.agg #[.bool false,.string (bs []),.string (bs [])]) w:=by kernel_rfl
theorem b9z(v:Value)(l:List Nmd)(w:World)(h:NmdL w v l)(hfit:∀x∈l,x.id.length<=9223372036854775807/\x.am.a.length<=17179869184/\x.am.b.length<=17179869184)(hl9:l.length<=1000000) :
  Calls Tryz.prog 17 #[v] w fun e w'=>e=.returned (.int .i64 (a3a l))/\Below w.heap.size w w':=by
 have H:=zh h
 have HFIT:=zh hfit
 obtain⟨A,c,rfl,hl,hcc⟩:=h.slice
 clear h hfit
 have hmm:=@run_makeMap Tryz.prog
 by_cases h24:24<l.length
 have R:=zh (chk_long h24)
 have e1:decide ((24:Int)<(l.length:Int))=true:=decide_eq_true (by omega)
 have e2:decide (24<l.length)=true:=decide_eq_true h24
 clear hl9 h24
 rotate_left
 have e1:decide ((24:Int)<(l.length:Int))=false:=decide_eq_false (by omega)
 have e2:decide (24<l.length)=false:=decide_eq_false h24
 have HL:=zh hl9
 have H24:=zh h24
 clear hl9 h24
 rotate_left
 all_goals
   go_enter Tryz.func17,Tryz.ntmps17
   have HS:=zh (St.start w)
   go_wp2
 ·go_ret
  rw[R.out]
  exact⟨rfl,HS.out.below⟩
 go_loopw [12] (fun i wr=>∃k n:Nat,k<=l.length/\n<=k/\i=.int .i64 k/\Hid (a1n [] l=a1n (l.take k) (l.drop k))/\Hid (RMap Tryz.prog 9 strL wr w.heap.size n (c1u l k) (fun _=>.bool true))/\Hid (St w [] wr)) (fun i _=>l.length-(intOf i).toNat)
 case atStart=>exact⟨0,0,Nat.zero_le _,Nat.le_refl _,rfl,rfl,RMap.made _ _ (by simp),(St.alloc' (HS.out) _)⟩
 case round =>
  clear hmm
  obtain⟨k,n,hk,hn,rfl,HI,HM,HS⟩:=hrel
  by_cases hlt:k<l.length
  ·obtain⟨b,o,x,rfl,hbb,hq,hx⟩:=H.out.at_ hlt
   obtain⟨fi,fa,fb⟩:=HFIT.out x (List.mem_of_getElem? hq)
   have h1:=fun W=>b0d x.id W fi
   have h2:=fun W=>a7p x.am.n x.am.a x.am.b W (by omega) (by omega)
   have n1:=fun h=>c1a H24.out HI.out hq (ner_name h) (by decide)
   have n2:=fun h h2=>c1a H24.out HI.out hq (d0v h h2) (by decide)
   have n3:=fun h h2 h3=>c1a H24.out HI.out hq (d0w h h2 h3) (by decide)
   have n4:=fun h h2 h3 (h4:sgn x.am.val.num<0)=>c1a H24.out HI.out hq ((c6v h h2 h3).trans (if_pos h4)) (by decide)
   have n5:=fun h h2 h3 (h4:¬sgn x.am.val.num<0)=>chk_next HI.out hq ((c6v h h2 h3).trans (if_neg h4))
   have n6:=fun s=>seen_put hq s
   change ∀W,Calls Tryz.prog _ _ W (fun e w'=>e=.returned (.int .i64 (sgn x.am.val.num))/\_)at h2
   have hsn:(a0g (l.take k) x.id).isSome=c1u l k x.id:=rfl
   rw[hsn]at n2 n3 n4 n5
   obtain⟨p,hp⟩:∃p,p=a7b x.id:=⟨_,rfl⟩
   obtain⟨q,hqq⟩:∃q,q=c1u l k x.id:=⟨_,rfl⟩
   obtain⟨sg,hsg⟩:∃z,z=sgn x.am.val.num:=⟨_,rfl⟩
   rw[<- hp]at h1 n1 n2 n3 n4 n5
   rw[<- hqq]at n2 n3 n4 n5
   rw[<- hsg]at h2 n4 n5
   unfold raw at h2
   have H1:=zh h1
   have H2:=zh h2
   have N1:=zh n1
   have N2:=zh n2
   have N3:=zh n3
   have N4:=zh n4
   have N5:=zh n5
   have N6:=zh n6
   have HX:=zh hx
   have HQ:Hid (c1u l k x.id=q):=hqq.symm
   have HF:Hid (x.id.length<=maxLen):=by show _<=_;unfold maxLen;omega
   have e0:(0:Int)<=((k:Nat):Int):=by omega
   have e1:((k:Nat):Int)<(l.length:Int):=by omega
   have e2:decide (((k:Nat):Int)<(l.length:Int))=true:=decide_eq_true e1
   have i5:IntKind.i64.wrap ((k:Int)+1)=((k+1:Nat):Int):=by have:=HL.out;rw[IntWalk.i64_in _ (by omega)];rfl
   have hmb:=HM.out.lt
   clear hx hq hqq hp hsg hsn h1 h2 n1 n2 n3 n4 n5 n6 fi fa fb
   cases p
   ·have R:=zh (by first | exact N1.out rfl | exact N1.out trivial | exact N1.out)
    have x1:b<wr.heap.size:=Nat.lt_of_lt_of_le hbb HS.out.below.size
    have x2:¬b=wr.heap.size:=by omega
    obtain⟨x3,x4,x5⟩:=kE0 (HX.out _ HS.out.below) rfl rfl rfl
    have x6:=HX.out _ HS.out.below 3 _ rfl
    have x7:=HX.out _ HS.out.below 4 _ rfl
    go_wp2_with fail
    refine(H1.out _).mono ?_
    rintro e w' ⟨rfl,rfl⟩
    clear x1 x2 x3 x4 x5 x6 x7
    go_wp2
    go_ret
    have HS2:=aL HS #[.string (bs x.id),.int .i64 x.rank,.bool x.am.n,.string (bs x.am.a),.string (bs x.am.b)] 53 wr.heap.size
    rw[R.out]
    exact⟨rfl,HS2.out.below⟩
   cases q
   ·by_cases k1:x.rank<0
    ·have d1:decide (x.rank<0)=true:=decide_eq_true k1
     have R:=zh (N3.out rfl rfl (.inl k1))
     clear k1
     have x1:b<wr.heap.size:=Nat.lt_of_lt_of_le hbb HS.out.below.size
     have x2:¬b=wr.heap.size:=by omega
     obtain⟨x3,x4,x5⟩:=kE0 (HX.out _ HS.out.below) rfl rfl rfl
     have x6:=HX.out _ HS.out.below 3 _ rfl
     have x7:=HX.out _ HS.out.below 4 _ rfl
     go_wp2_with fail
     refine(H1.out _).mono ?_
     rintro e w' ⟨rfl,rfl⟩
     clear x1 x2 x3 x4 x5 x6 x7
     go_wp2_with (at_lookup;refine a2b rfl _ _ 96 rfl 9 4 a2r Tryz.underlying96 (a4k _) (HM.out.below (Ext.alloc (Below.refl wr.heap.size wr) (Obj.cells #[.string (bs x.id),.int .i64 x.rank,.bool x.am.n,.string (bs x.am.a),.string (bs x.am.b)] 53))) (by simp[Act.eval]) (x.id) (by simp[Act.eval,strV]) HF.out (.bool false) (by rw[HQ.out];rfl) ?_)
     go_wp2
     go_ret
     have HS2:=aL HS #[.string (bs x.id),.int .i64 x.rank,.bool x.am.n,.string (bs x.am.a),.string (bs x.am.b)] 53 wr.heap.size
     rw[R.out]
     exact⟨rfl,HS2.out.below⟩
    by_cases k2:7<x.rank
    ·have d1:decide (x.rank<0)=false:=decide_eq_false k1
     have d2:decide (7<x.rank)=true:=decide_eq_true k2
     have R:=zh (N3.out rfl rfl (.inr k2))
     clear k1 k2
     have x1:b<wr.heap.size:=Nat.lt_of_lt_of_le hbb HS.out.below.size
     have x2:¬b=wr.heap.size:=by omega
     obtain⟨x3,x4,x5⟩:=kE0 (HX.out _ HS.out.below) rfl rfl rfl
     have x6:=HX.out _ HS.out.below 3 _ rfl
     have x7:=HX.out _ HS.out.below 4 _ rfl
     go_wp2_with fail
     refine(H1.out _).mono ?_
     rintro e w' ⟨rfl,rfl⟩
     clear x1 x2 x3 x4 x5 x6 x7
     go_wp2_with (at_lookup;refine a2b rfl _ _ 96 rfl 9 4 a2r Tryz.underlying96 (a4k _) (HM.out.below (Ext.alloc (Below.refl wr.heap.size wr) (Obj.cells #[.string (bs x.id),.int .i64 x.rank,.bool x.am.n,.string (bs x.am.a),.string (bs x.am.b)] 53))) (by simp[Act.eval]) (x.id) (by simp[Act.eval,strV]) HF.out (.bool false) (by rw[HQ.out];rfl) ?_)
     go_wp2
     go_ret
     have HS2:=aL HS #[.string (bs x.id),.int .i64 x.rank,.bool x.am.n,.string (bs x.am.a),.string (bs x.am.b)] 53 wr.heap.size
     rw[R.out]
     exact⟨rfl,HS2.out.below⟩
    by_cases k3:sg<0
    ·have d1:decide (x.rank<0)=false:=decide_eq_false k1
     have d2:decide (7<x.rank)=false:=decide_eq_false k2
     have d3:decide (sg<0)=true:=decide_eq_true k3
     have R:=zh (N4.out rfl rfl (fun h=>h.elim k1 k2) k3)
     clear k1 k2 k3
     have x1:b<wr.heap.size:=Nat.lt_of_lt_of_le hbb HS.out.below.size
     have x2:¬b=wr.heap.size:=by omega
     obtain⟨x3,x4,x5⟩:=kE0 (HX.out _ HS.out.below) rfl rfl rfl
     have x6:=HX.out _ HS.out.below 3 _ rfl
     have x7:=HX.out _ HS.out.below 4 _ rfl
     go_wp2_with fail
     refine(H1.out _).mono ?_
     rintro e w' ⟨rfl,rfl⟩
     clear x1 x2 x3 x4 x5 x6 x7
     go_wp2_with (at_lookup;refine a2b rfl _ _ 96 rfl 9 4 a2r Tryz.underlying96 (a4k _) (HM.out.below (Ext.alloc (Below.refl wr.heap.size wr) (Obj.cells #[.string (bs x.id),.int .i64 x.rank,.bool x.am.n,.string (bs x.am.a),.string (bs x.am.b)] 53))) (by simp[Act.eval]) (x.id) (by simp[Act.eval,strV]) HF.out (.bool false) (by rw[HQ.out];rfl) ?_)
     go_wp2_with fail
     have HS2:=aL HS #[.string (bs x.id),.int .i64 x.rank,.bool x.am.n,.string (bs x.am.a),.string (bs x.am.b)] 53 wr.heap.size
     refine(H2.out _).mono ?_
     rintro e w3 ⟨rfl,hb3⟩
     have HS3:=zh (HS2.out.call hb3)
     have M_3:=zh ((HM.out.below (Ext.alloc (Below.refl wr.heap.size wr) (Obj.cells #[.string (bs x.id),.int .i64 x.rank,.bool x.am.n,.string (bs x.am.a),.string (bs x.am.b)] 53))).below hb3)
     clear HM hb3 HS HS2
     go_wp2
     go_ret
     rw[R.out]
     exact⟨rfl,HS3.out.below⟩
    have d1:decide (x.rank<0)=false:=decide_eq_false k1
    have d2:decide (7<x.rank)=false:=decide_eq_false k2
    have d3:decide (sg<0)=false:=decide_eq_false k3
    have R:=zh (N5.out rfl rfl (fun h=>h.elim k1 k2) k3)
    clear k1 k2 k3
    have x1:b<wr.heap.size:=Nat.lt_of_lt_of_le hbb HS.out.below.size
    have x2:¬b=wr.heap.size:=by omega
    obtain⟨x3,x4,x5⟩:=kE0 (HX.out _ HS.out.below) rfl rfl rfl
    have x6:=HX.out _ HS.out.below 3 _ rfl
    have x7:=HX.out _ HS.out.below 4 _ rfl
    go_wp2_with fail
    refine(H1.out _).mono ?_
    rintro e w' ⟨rfl,rfl⟩
    clear x1 x2 x3 x4 x5 x6 x7
    go_wp2_with (at_lookup;refine a2b rfl _ _ 96 rfl 9 4 a2r Tryz.underlying96 (a4k _) (HM.out.below (Ext.alloc (Below.refl wr.heap.size wr) (Obj.cells #[.string (bs x.id),.int .i64 x.rank,.bool x.am.n,.string (bs x.am.a),.string (bs x.am.b)] 53))) (by simp[Act.eval]) (x.id) (by simp[Act.eval,strV]) HF.out (.bool false) (by rw[HQ.out];rfl) ?_)
    go_wp2_with fail
    have HS2:=aL HS #[.string (bs x.id),.int .i64 x.rank,.bool x.am.n,.string (bs x.am.a),.string (bs x.am.b)] 53 wr.heap.size
    refine(H2.out _).mono ?_
    rintro e w3 ⟨rfl,hb3⟩
    have HS3:=zh (HS2.out.call hb3)
    have M_3:=zh ((HM.out.below (Ext.alloc (Below.refl wr.heap.size wr) (Obj.cells #[.string (bs x.id),.int .i64 x.rank,.bool x.am.n,.string (bs x.am.a),.string (bs x.am.b)] 53))).below hb3)
    clear HM hb3 HS HS2
    have x8:=cC HS3 0 0
    go_wp2_with (at_mapUpdate;refine a3k rfl _ _ _ 96 rfl 9 4 a2r Tryz.underlying96 M_3.out (by have:=HL.out;unfold maxLen;omega) (by simp[Act.eval]) (x.id) (by simp[Act.eval,strV]) HF.out (.bool true) (by simp[Act.eval]) ?_)
    intro w9 hown9 hg9
    have HS9:=zh (HS3.out.turnedM M_3.out hg9 (by omega))
    have HM9:=zh (hown9.congr (S':=c1u l (k+1)) (f':=fun _=>.bool true) N6.out (fun q _=>by unfold putV;split<;>rfl))
    clear hown9 hg9 HS3 M_3 x8
    go_wp2
    go_roundw
    case rel=>exact⟨k+1,n+1,by omega,by omega,by go_num,R.out,HM9.out,HS9.out.sub (by simp)⟩
    case measure=>simp[intOf];omega
   have R:=zh (by first | exact N2.out rfl rfl | exact N2.out trivial trivial | exact N2.out)
   have x1:b<wr.heap.size:=Nat.lt_of_lt_of_le hbb HS.out.below.size
   have x2:¬b=wr.heap.size:=by omega
   obtain⟨x3,x4,x5⟩:=kE0 (HX.out _ HS.out.below) rfl rfl rfl
   have x6:=HX.out _ HS.out.below 3 _ rfl
   have x7:=HX.out _ HS.out.below 4 _ rfl
   go_wp2_with fail
   refine(H1.out _).mono ?_
   rintro e w' ⟨rfl,rfl⟩
   clear x1 x2 x3 x4 x5 x6 x7
   go_wp2_with (at_lookup;refine a2b rfl _ _ 96 rfl 9 4 a2r Tryz.underlying96 (a4k _) (HM.out.below (Ext.alloc (Below.refl wr.heap.size wr) (Obj.cells #[.string (bs x.id),.int .i64 x.rank,.bool x.am.n,.string (bs x.am.a),.string (bs x.am.b)] 53))) (by simp[Act.eval]) (x.id) (by simp[Act.eval,strV]) HF.out (.bool true) (by rw[HQ.out];rfl) ?_)
   go_wp2
   go_ret
   have HS2:=aL HS #[.string (bs x.id),.int .i64 x.rank,.bool x.am.n,.string (bs x.am.a),.string (bs x.am.b)] 53 wr.heap.size
   rw[R.out]
   exact⟨rfl,HS2.out.below⟩
  obtain rfl:k=l.length:=by omega
  have e2:decide (((l.length:Nat):Int)<(l.length:Int))=false:=decide_eq_false (by omega)
  go_wp2
  go_ret
  rw[chk_done H24.out HI.out]
  exact⟨rfl,HS.out.below⟩
end Go.Proofs.YtjmiicjialkpiaaGreatDoor
