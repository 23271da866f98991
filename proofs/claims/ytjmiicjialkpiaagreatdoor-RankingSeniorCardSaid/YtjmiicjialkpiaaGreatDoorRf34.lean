/-
Part 34 of the base.
-/
import Derived.Test.YtjmiicjialkpiaaGreatDoorRf33
import Derived.Test.YtjmiicjialkpiaaGreatDoorRf47
set_option maxRecDepth 100000
set_option maxHeartbeats 4000000
namespace Go.Proofs.YtjmiicjialkpiaaGreatDoor
open Go.RowKit
theorem c4c{fn:Func}{a p u:Tmp}{ty:TypeId}(h:fn.results=#[.tmp a,.cell p ty,.tmp u])(tmps:Array Value)(P:Program)(w:World) :
  (results fn tmps).run P w=((asAddr (tmps.getD p undef)).run P w).andThen fun q w₁=>((loadVar ty q).run P w₁).andThen fun v w₂=>.ok (.tuple #[tmps.getD a undef,v,tmps.getD u undef]) w₂:=by
 simp only[results,h]
 simp[Sem.run_bind,Result.andThen]
theorem c4g{fn:Func}{a p u:Tmp}(h:fn.results=#[.tmp a,.cell p 39,.tmp u])(tmps:Array Value)(w:World)(g:Nat)(neg:Bool)(num den:List UInt8)
  (hp:tmps.getD p undef=.pointer (some ⟨g,0,none⟩)) (hg:Raw w g neg num den):(results fn tmps).run Tryz.prog w=.ok (.tuple #[tmps.getD a undef,raw neg num den,tmps.getD u undef]) w:=by
 rw[c4c h,hp]
 simp only[asAddr,Sem.run_pure,Result.andThen,c6j hg]
def DlvS(E:List Clm)(A:List (List (List Prt)))(w0 w:World)(v:Value):Prop:=∃ (g gg gs:Nat) (ρ:Rat) (b:Bool) (D E':List Rat),v=.pointer (some ⟨g,0,none⟩)/\DlvR E A D/\(∀y∈D,Sized 1131783001 y)/\St w0 (sB g gg gs E.length ρ b D E' []) w
theorem DlvS.below{E:List Clm}{A:List (List (List Prt))}{w0 w w':World}{v:Value}(h:DlvS E A w0 w v)(hb:Below w.heap.size w w'):DlvS E A w0 w' v:=by
 obtain⟨g,gg,gs,ρ,b,D,E',h1,h2,h3,h4⟩:=h
 exact⟨g,gg,gs,ρ,b,D,E',h1,h2,h3,h4.call hb⟩
def sumQ(D:List Rat):Rat:=D.foldl (· + ·) 0
theorem c1q{D:List Rat}{k:Nat}{d:Rat}(h:D[k]? =some d):sumQ (D.take (k+1))=sumQ (D.take k)+d:=by
 unfold sumQ
 rw[a3g h,List.foldl_append];rfl
theorem b2e{D:List Rat}{B:Nat}(h:∀y∈D,Sized B y):∀k,k<=D.length->Sized (k*(B+1)+1) (sumQ (D.take k))
 | 0,_=>by rw[List.take_zero];exact sized_zero.mono (by omega)
 | k+1,hk=>by
  rw[c1q (List.getElem?_eq_getElem (show k<D.length by omega))]
  exact((b2e h k (by omega)).add (h _ (List.getElem_mem (show k<D.length by omega)))).mono (by rw[Nat.succ_mul];omega)
theorem sumQ_pos{D:List Rat}(h:∀y∈D,0<=y):0<=sumQ D:=by
 have key:∀ (D:List Rat) (a:Rat),(∀y∈D,0<=y)->0<=a->0<=D.foldl (· + ·) a:=by
  intro D
  induction D with
  | nil=>exact fun a _ ha=>ha
  | cons d D ih=>exact fun a h ha=>ih (a+d) (fun y hy=>h y (List.mem_cons_of_mem _ hy)) (by have:=h d (List.mem_cons_self ..);grind)
 exact key D 0 h Rat.le_refl
theorem b9x(cn:Bool)(ca cb:List UInt8)(vc va:Value)(E:List Clm)(A:List (List (List Prt)))(m:Rat)(w:World)(hE:ClmL w vc E)(hA:AgrL w va A)(hok:EstOk E A)(hcs:0<=sgn (decR cn ca cb).num)(hca:ca.length<=17179869184)(hcb:cb.length<=17179869184)(hO:EOk E)(hTO:∀T∈A,TOk E.length T)(hA8:A.length<=8)(hm:Sized 16 m)(hm0:0<=m) :
  Calls Tryz.prog 8 #[.agg #[.bool cn,.string (bs ca),.string (bs cb),vc,va],rat m] w fun e w'=>∃ (v:Value) (D:List Rat),e=.returned (.tuple #[v,raw false [] [],.int .i64 0])/\DlvR E A D/\(∀y∈D,Sized 1131783001 y)/\RatsL w' v (D.map encT)/\Below w.heap.size w w':=by
 have HCE:=zh (fun W (hb:Below w.heap.size w W)=>b2k cn ca cb vc va E A W (hE.below hb) (hA.below hb) hok hcs hca hcb)
 have HAM:=zh (fun W=>c2e m W hm0 (hm.mono (by decide)))
 have HDL:=zh (show ∀ (W1 W:World) (_:Below w.heap.size w W) (_:Below W1.heap.size W1 W),Calls Tryz.prog 26 #[.agg #[.bool cn,.string (bs ca),.string (bs cb),vc,va],rat m] W (fun e w'=>∃v,e=.returned v/\DlvS E A W1 w' v/\Below W.heap.size W w')from fun W1 W hb hb1=>(b9w cn ca cb vc va E A m W (hE.below hb) (hA.below hb) hO hTO hA8 hm hm0).mono fun e w' ⟨g,gg,gs,ρ,b,D,E',h1,h2,h3,h4⟩=>⟨_,h1,⟨g,gg,gs,ρ,b,D,E',rfl,h2,h3,by have:=St.join (St.of hb1) h4;rwa[List.append_nil]at this⟩,h4.below⟩)
 have LN:=zh hO.len
 clear hE hA hok hcs hca hcb hO hTO hA8 hm hm0
 unfold rat raw at HAM HDL ⊢
 go_enter Tryz.func8,Tryz.ntmps8
 have HS:=zh (St.start w)
 go_wp2_with fail
 have HS2:=aL (aL (aL HS #[.bool cn,.string (bs ca),.string (bs cb),vc,va] 44 w.heap.size) #[.bool (negB (m)),.string (bs (numB (m))),.string (bs (a0a (m)))] 39 (w.heap.size+1)) #[.bool false,.string (bs []),.string (bs [])] 39 (w.heap.size+1+1)
 refine cL (HCE.out _ HS2.out.below) HS2 fun w3 HS3=>?_
 clear HS HS2
 go_wp2
 refine a0d 4 [eQ (.agg #[.bool cn,.string (bs ca),.string (bs cb),vc,va]),eQ (.agg #[.bool (negB (m)),.string (bs (numB (m))),.string (bs (a0a (m)))]),eQ (.agg #[.bool (negB (m)),.string (bs (numB (m))),.string (bs (a0a (m)))]),fun ww vv=>DlvS E A w3 ww vv] rfl (by kernel_rfl) (by kernel_rfl) (by kernel_rfl) ⟨stE,stE,stE,fun _ _ _ h hb=>h.below hb,trivial⟩ ?_ ?_
 refine⟨?_,?_,?_,?_,trivial⟩<;>(intro xx af wv hbx hev hev0 hd;have H:=SH.mk hev hev0 hd;clear hev hev0 hd)
 ·have e2:=H.i 2;clear H;have hs1:=zh (HS3.out.call hbx);obtain⟨y0,y1,y2⟩:=hs1.out.k0 2 rfl rfl rfl rfl;have y3:=cC hs1 2 3;have y4:=cC hs1 2 4;go_wp2;exact sQ rfl
 ·have e3:=H.i 3;clear H;have hs1:=zh (HS3.out.call hbx);obtain⟨y0,y1,y2⟩:=hs1.out.k0 1 rfl rfl rfl rfl;go_wp2;exact sQ rfl
 ·have e16:=H.r 1 16;clear H
  go_wp2_with fail
  refine(HAM.out _).mono ?_
  rintro e w8 ⟨rfl,hb8⟩;go_wp2;exact StepQ.mk _ hb8 rfl
 ·have e15:=H.r 0 15;have e17:=H.r 2 17;clear H;have hs1:=zh (HS3.out.call hbx)
  go_wp2_with fail
  refine(HDL.out _ _ hs1.out.below hbx).mono ?_
  rintro e w8 ⟨v8,rfl,hl8,hb8⟩;go_wp2;exact StepQ.mk _ hb8 hl8
 intro xx w4 hb9 hv
 obtain⟨v4_3,hx3⟩:∃v,v=xx 3:=⟨_,rfl⟩
 have hl3:DlvS E A w3 w4 (xx 3):=hv 3 (by decide)
 rw[<- hx3]at hl3
 simp only[List.take,List.drop,a0h,Act.put]
 simp only[vQ hv 0,vQ hv 1,vQ hv 2,<-hx3]
 clear hv hx3
 have HS4:=zh (HS3.out.call hb9)
 obtain⟨g1,gg1,gs1,ρ1,b1,D,E1,rfl,hD,hZ,hq⟩:=hl3
 have hqq:=St.join HS3.out hq
 have HD:=zh hD
 have HZ:=zh hZ
 clear hD hZ hq hb9 HS3
 have HQ4:Hid (St w [⟨g1,#[.slice (some ⟨gg1,0,none⟩) E.length E.length,.slice (some ⟨gs1,0,none⟩) E.length E.length,.bool false,.string (bs []),.string (bs []),.bool false,.string (bs []),.string (bs []),.bool (negB (ρ1)),.string (bs (numB (ρ1))),.string (bs (a0a (ρ1))),.bool b1],87⟩,⟨gg1,(rowA ((D.map encT))),39⟩,⟨gs1,(rowA ((E1.map encT))),39⟩,⟨w.heap.size+1+1,#[.bool false,.string (bs []),.string (bs [])],39⟩,⟨w.heap.size+1,#[.bool (negB (m)),.string (bs (numB (m))),.string (bs (a0a (m)))],39⟩,⟨w.heap.size,#[.bool cn,.string (bs ca),.string (bs cb),vc,va],44⟩] _):=zh hqq
 clear hqq HS4
 go_wp2
 refine a0e 9 [.pointer (some ⟨g1,0,none⟩),.pointer (some ⟨g1,0,none⟩),.pointer (some ⟨g1,0,none⟩),.slice (some ⟨gg1,0,none⟩) E.length E.length,.pointer (some ⟨g1,0,none⟩),.pointer (some ⟨g1,0,none⟩),.pointer (some ⟨g1,2,none⟩),.agg #[.bool false,.string (bs []),.string (bs [])],.slice (some ⟨gg1,0,none⟩) E.length E.length] rfl (by kernel_rfl) (by kernel_rfl) (by kernel_rfl) ?_ ?_
 refine⟨?_,?_,?_,?_,?_,?_,?_,?_,?_,trivial⟩<;>(intro xx af wv hbx hev hev0 hd;have H:=SH.mk hev hev0 hd;clear hev hev0 hd)
 ·have e8:=H.i 8;clear H;go_wp2;exact sQ rfl
 ·have e19:=H.r 0 19;clear H;go_wp2;exact sQ rfl
 ·have e20:=H.r 1 20;clear H;go_wp2;exact sQ rfl
 ·have e21:=H.r 2 21;clear H;have hs1:=zh (HQ4.out.call hbx);have y0:=cC hs1 0 0;go_wp2;exact sQ rfl
 ·have e8:=H.i 8;clear H;go_wp2;exact sQ rfl
 ·have e23:=H.r 4 23;clear H;go_wp2;exact sQ rfl
 ·have e24:=H.r 5 24;clear H;go_wp2;exact sQ rfl
 ·have e25:=H.r 6 25;clear H;have hs1:=zh (HQ4.out.call hbx);have y0:=cC hs1 0 2;have y1:=cC hs1 0 3;have y2:=cC hs1 0 4;go_wp2;exact sQ rfl
 ·have e22:=H.r 3 22;clear H;go_wp2;exact sQ rfl
 intro xx w5 hb9 hv
 simp only[List.take,List.drop,a0h,Act.put]
 simp only[vQ hv 0,vQ hv 1,vQ hv 2,vQ hv 3,vQ hv 4,vQ hv 5,vQ hv 6,vQ hv 7,vQ hv 8]
 clear hv
 have HQ5:=zh (HQ4.out.call hb9)
 clear hb9 HQ4
 obtain⟨x1,x2,x3⟩:=HQ5.out.k0 3 rfl rfl rfl rfl
 obtain⟨x4,x5,x6⟩:=HQ5.out.f0 3 rfl
 have x7:=cN HQ5 3 0
 have x8:=cN HQ5 0 3
 have x9:=cN HQ5 3 1
 have x10:=cN HQ5 1 3
 have x11:=cN HQ5 3 2
 have x12:=cN HQ5 2 3
 have x13:=cN HQ5 3 4
 have x14:=cN HQ5 4 3
 have x15:=cN HQ5 3 5
 have x16:=cN HQ5 5 3
 go_wp2
 have HQ6:Hid (St w [_,_,_,⟨w.heap.size+1+1,#[.bool false,.string (bs []),.string (bs [])],39⟩,_,_] _):=zh (St.set (St.set (St.set (HQ5.out) 3 rfl 0 _) 3 rfl 1 _) 3 rfl 2 _)
 refine bodyPost_ret (c4g rfl _ _ _ _ _ _ rfl (HQ6.out.blk 3 rfl)) rfl ?_
 exact⟨_,D,rfl,HD.out,HZ.out,HQ6.out.rowL 1 rfl (by rw[List.length_map];exact HD.out.1) (by have:=LN.out;omega),HQ6.out.below⟩
theorem c2g(v:Value)(D:List Rat)(w:World)(h:RatsL w v (D.map encT))(hl:D.length<=8)(hs:∀y∈D,Sized 1131783001 y) :
  Calls Tryz.prog 15 #[v] w fun e w'=>e=.returned (rat (sumQ D))/\Below w.heap.size w w':=by
 have H:=zh h
 obtain⟨A,c,hv,_,_⟩:=Slc.slice h
 rw[List.length_map]at hv
 subst hv
 have LN:=zh hl
 obtain⟨B,hB⟩:∃B,B=1131783001:=⟨_,rfl⟩
 rw[<- hB]at hs
 have HP:=zh (fun(k:Nat) (d:Rat) (hk:k<D.length) (hd:D[k]? =some d) W=>b3d (sumQ (D.take k)) d W ((b2e hs k (by omega)).mono (by have:=Nat.mul_le_mul_right (B+1) (show k<=8 by omega);omega)) ((hs d (List.mem_of_getElem? hd)).mono (by omega)))
 have HCL:=zh (show ∀ (k:Nat) (d:Rat),D[k]? =some d->∀W,Calls Tryz.prog 32 #[raw (negB d) (numB d) (a0a d)] W (fun e w'=>e=.returned (rat d)/\Below W.heap.size W w')from fun k d hd W=>by
  have sp:=hs d (List.mem_of_getElem? hd)
  have:=a3e (negB d) (numB d) (a0a d) W (Nat.le_trans sp.num (by omega)) (Nat.le_trans sp.denom (by omega))
  rw[show decR (negB d) (numB d) (a0a d)=d from b2z d]at this
  exact this)
 obtain⟨tq,htq⟩:∃f:Nat->Rat,f=fun k=>sumQ (D.take k):=⟨_,rfl⟩
 have HTQ:=zh htq
 have HZ:Hid (#[Value.bool (negB (tq 0)),.string (bs (numB (tq 0))),.string (bs (a0a (tq 0)))]=#[.bool false,.string (bs []),.string (bs [])]):=zh (by rw[htq];dsimp only;rw[List.take_zero,show sumQ []=0 from rfl,enc0q3.1,enc0q3.2.1,enc0q3.2.2])
 rw[show sumQ D=tq D.length by rw[htq];dsimp only;rw[List.take_length]]
 unfold rat raw at HCL ⊢
 clear h hl hs htq hB
 go_enter Tryz.func15,Tryz.ntmps15
 have HS:=zh (St.start w)
 go_wp2
 go_loopw [9] (fun i_ wr=>∃k:Nat,k<=D.length/\i_=.int .i64 k/\Hid (St w [⟨w.heap.size+1,#[.bool (negB (tq k)),.string (bs (numB (tq k))),.string (bs (a0a (tq k)))],39⟩,⟨w.heap.size,#[.bool false,.string (bs []),.string (bs [])],39⟩] wr)) (fun i_ _=>D.length-(intOf i_).toNat)
 case atStart=>exact⟨0,Nat.zero_le _,rfl,by show St w _ _;rw[HZ.out];exact(St.alloc ((St.alloc (HS.out) #[.bool false,.string (bs []),.string (bs [])] 39 (w.heap.size) (by simp))) #[.bool false,.string (bs []),.string (bs [])] 39 (w.heap.size+1) (by simp))⟩
 case round =>
  obtain⟨k,hk,rfl,HS⟩:=hrel
  by_cases hkn:k<D.length
  ·obtain⟨b,o,x,rfl,hb,hq,hx⟩:=Slc.at_ H.out (show k<(D.map encT).length by rw[List.length_map];exact hkn)
   obtain⟨d,hd⟩:∃d,D[k]? =some d:=⟨_,List.getElem?_eq_getElem hkn⟩
   rw[a5j hd]at hq
   obtain rfl:=Option.some.inj hq
   have hpl:=HP.out k d hkn hd
   have hcl:=HCL.out k d hd
   have hst:tq (k+1)=tq k+d:=by rw[HTQ.out];exact c1q hd
   rw[show sumQ (D.take k)=tq k by rw[HTQ.out],<-hst]at hpl
   unfold rat raw at hpl
   have HPL:=zh hpl
   have HCK:=zh hcl
   unfold Rtr.enc at hx
   have HX:=zh hx
   have e0:(0:Int)<=((k:Nat):Int):=by omega
   have e1:((k:Nat):Int)<(D.length:Int):=by omega
   have e2:decide (((k:Nat):Int)<(D.length:Int))=true:=decide_eq_true e1
   have e5:IntKind.i64.wrap ((k:Int)+1)=((k+1:Nat):Int):=by have:=LN.out;rw[IntWalk.i64_in _ (by omega)];rfl
   clear hx hq hpl hcl hst hd
   have x1:b<wr.heap.size:=Nat.lt_of_lt_of_le hb HS.out.below.size
   have x2:¬b=wr.heap.size:=by omega
   obtain⟨x3,x4,x5⟩:=kE0 (HX.out _ HS.out.below) rfl rfl rfl
   go_wp2
   clear x1 x2 x3 x4 x5
   refine a4m (aL HS #[.bool (negB (d)),.string (bs (numB (d))),.string (bs (a0a (d)))] 39 wr.heap.size).out ?_
   intro wg2 hb
   have HS2:=zh hb
   clear hb HS
   refine a0e 4 [.agg #[.bool (negB (tq k)),.string (bs (numB (tq k))),.string (bs (a0a (tq k)))],.agg #[.bool (negB (d)),.string (bs (numB (d))),.string (bs (a0a (d)))],.agg #[.bool (negB (d)),.string (bs (numB (d))),.string (bs (a0a (d)))],.agg #[.bool (negB (tq (k+1))),.string (bs (numB (tq (k+1)))),.string (bs (a0a (tq (k+1))))]] rfl (by kernel_rfl) (by kernel_rfl) (by kernel_rfl) ?_ ?_
   refine⟨?_,?_,?_,?_,trivial⟩<;>(intro xx af wv hbx hev hev0 hd;have H:=SH.mk hev hev0 hd;clear hev hev0 hd)
   ·have e3:=H.i 3;clear H;have hs1:=zh (HS2.out.call hbx);obtain⟨y0,y1,y2⟩:=hs1.out.k0 1 rfl rfl rfl rfl;go_wp2;exact sQ rfl
   ·have e5:=H.i 5;clear H;have hs1:=zh (HS2.out.call hbx);obtain⟨y0,y1,y2⟩:=hs1.out.k0 0 rfl rfl rfl rfl;go_wp2;exact sQ rfl
   ·have e14:=H.r 1 14;clear H
    go_wp2_with fail
    refine(HCK.out _).mono ?_
    rintro e w8 ⟨rfl,hb8⟩;go_wp2;exact StepQ.mk _ hb8 rfl
   ·have e13:=H.r 0 13;have e15:=H.r 2 15;clear H
    go_wp2_with fail
    refine(HPL.out _).mono ?_
    rintro e w8 ⟨rfl,hb8⟩;go_wp2;exact StepQ.mk _ hb8 rfl
   intro xx w4 hb9 hv
   simp only[List.take,List.drop,a0h,Act.put]
   simp only[vQ hv 0,vQ hv 1,vQ hv 2,vQ hv 3]
   clear hv
   have HS4:=zh (HS2.out.call hb9)
   clear hb9 HS2
   obtain⟨x6,x7,x8⟩:=HS4.out.k0 1 rfl rfl rfl rfl
   obtain⟨x9,x10,x11⟩:=HS4.out.f0 1 rfl
   have x12:=cN HS4 1 0
   have x13:=cN HS4 0 1
   have x14:=cN HS4 1 2
   have x15:=cN HS4 2 1
   go_wp2
   have HS5:Hid (St w [_,⟨w.heap.size+1,#[.bool (negB (tq (k+1))),.string (bs (numB (tq (k+1)))),.string (bs (a0a (tq (k+1))))],39⟩,_] _):=zh (St.set (St.set (St.set (HS4.out) 1 rfl 0 _) 1 rfl 1 _) 1 rfl 2 _)
   go_roundw
   case rel=>exact⟨k+1,by omega,by go_num,HS5.out.sub (List.Sublist.cons _ (List.Sublist.cons_cons _ (List.Sublist.cons_cons _ (List.nil_sublist _))))⟩
   case measure=>simp[intOf];omega
  have hke:k=D.length:=by omega
  rw[hke]at HS ⊢
  have e2:decide (((D.length:Nat):Int)<(D.length:Int))=false:=decide_eq_false (by omega)
  clear hke hk hkn
  obtain⟨x1,x2,x3⟩:=HS.out.k0 0 rfl rfl rfl rfl
  obtain⟨x4,x5,x6⟩:=HS.out.k0 1 rfl rfl rfl rfl
  obtain⟨x7,x8,x9⟩:=HS.out.f0 1 rfl
  have x10:=cN HS 1 0
  have x11:=cN HS 0 1
  go_wp2
  have HS2:Hid (St w [_,⟨w.heap.size,#[.bool (negB (tq D.length)),.string (bs (numB (tq D.length))),.string (bs (a0a (tq D.length)))],39⟩] _):=zh (St.set (St.set (St.set (HS.out) 1 rfl 0 _) 1 rfl 1 _) 1 rfl 2 _)
  exact bodyPost_ret (a0f rfl _ _ _ _ _ _ rfl (HS2.out.blk 1 rfl)) rfl ⟨rfl,HS2.out.below⟩
theorem c5d{D:List Rat}{c i:Nat}{x:Rat}(h:i≠c):getQ (D.set c x) i=getQ D i:=by
 unfold getQ
 rw[List.getD_eq_getElem?_getD,List.getD_eq_getElem?_getD,List.getElem?_set,if_neg (fun e=>h e.symm)]
theorem b4w{i:Nat}:∀ (P:List Prt) (S:List Pt×List Rat),(∀x∈P,x.claim.toNat≠i)->getQ (P.foldl a6v S).2 i=getQ S.2 i
 | [],S,_=>rfl
 | x::P,S,h=>by
  rw[List.foldl_cons,b4w P (a6v S x) fun y hy=>h y (List.mem_cons_of_mem _ hy)]
  exact c5d fun e=>h x (List.mem_cons_self ..) e.symm
theorem c1p{p:Pt}:∀ (P:List Prt) (S:List Pt×List Rat),p∈S.1->p∈(P.foldl a6v S).1
 | [],S,h=>h
 | x::P,S,h=>by
  rw[List.foldl_cons]
  exact c1p P (a6v S x) (List.mem_append_left _ h)
theorem c3y{p:Pt}:∀ (P:List Prt) (S:List Pt×List Rat),p∈(P.foldl a6v S).1->p∈S.1\/∃x∈P,x.claim.toNat=p.c
 | [],S,h=>.inl h
 | x::P,S,h=>by
  rw[List.foldl_cons]at h
  rcases c3y P (a6v S x) h with h | ⟨y,hy,e⟩
  ·rcases List.mem_append.1 h with h | h
   ·exact .inl h
   rw[List.mem_singleton.1 h]
   exact .inr ⟨x,List.mem_cons_self ..,rfl⟩
  exact .inr ⟨y,List.mem_cons_of_mem _ hy,e⟩
theorem tier_has{P1 P2:List Prt}{x:Prt}{D:List Rat}{i:Nat}(hx:x.claim.toNat=i)(h:∀y∈P1,y.claim.toNat≠i):(⟨i,a6w (getQ D i) x⟩:Pt)∈(a8e (P1++x::P2) D).1:=by
 unfold a8e
 rw[List.foldl_append,List.foldl_cons]
 refine c1p P2 _ ?_
 have h1:=b4w P1 ([],D) h
 show _∈(List.foldl a6v ([],D) P1).1++[(⟨x.claim.toNat,a6w (getQ (List.foldl a6v ([],D) P1).2 x.claim.toNat) x⟩:Pt)]
 refine List.mem_append_right _ (List.mem_singleton.2 ?_)
 rw[hx,h1]
theorem c1m:∀ (T:List (List Prt)) (S:List (List Pt)×List Rat),∃L2,(T.foldl a8a S).1=S.1++L2
 | [],S=>⟨[],(List.append_nil _).symm⟩
 | P::T,S=>by
  obtain⟨L2,h⟩:=c1m T (a8a S P)
  refine⟨(a8e P S.2).1::L2,?_⟩
  rw[List.foldl_cons,h]
  show(S.1++[_])++L2=_
  rw[List.append_assoc];rfl
theorem c3x(T1:List (List Prt))(P:List Prt)(T2:List (List Prt))(D:List Rat):∃L2,(a4s (T1++P::T2) D).1=(a4s T1 D).1++(a8e P (a4s T1 D).2).1::L2:=by
 unfold a4s
 rw[List.foldl_append,List.foldl_cons]
 obtain⟨L2,h⟩:=c1m T2 (a8a (T1.foldl a8a ([],D)) P)
 refine⟨L2,?_⟩
 rw[h]
 show(_++[_])++L2=_
 rw[List.append_assoc];rfl
theorem b7q{i:Nat}:∀ (T:List (List Prt)) (S:List (List Pt)×List Rat),(∀P∈T,∀x∈P,x.claim.toNat≠i)->getQ (T.foldl a8a S).2 i=getQ S.2 i
 | [],S,_=>rfl
 | P::T,S,h=>by
  rw[List.foldl_cons,b7q T (a8a S P) fun Q hQ=>h Q (List.mem_cons_of_mem _ hQ)]
  exact b4w P ([],S.2) (h P (List.mem_cons_self ..))
theorem b9f{p:Pt}{Q:List Pt}:∀ (T:List (List Prt)) (S:List (List Pt)×List Rat),Q∈(T.foldl a8a S).1->p∈Q->Q∈S.1\/∃P∈T,∃x∈P,x.claim.toNat=p.c
 | [],S,h,_=>.inl h
 | P::T,S,h,hp=>by
  rw[List.foldl_cons]at h
  rcases b9f T (a8a S P) h hp with h | ⟨P',hP',x,hx,e⟩
  ·rcases List.mem_append.1 h with h | h
   ·exact .inl h
   rw[List.mem_singleton.1 h]at hp
   rcases c3y P ([],S.2) hp with h2 | ⟨x,hx,e⟩
   ·cases h2
   exact .inr ⟨P,List.mem_cons_self ..,x,hx,e⟩
  exact .inr ⟨P',List.mem_cons_of_mem _ hP',x,hx,e⟩
theorem c4a{E:List Clm}{T1 T2:List (List Prt)}{P1 P2:List Prt}{x:Prt}{i j:Nat}{m:Rat}{D0:List Rat}(hx:x.claim.toNat=i)(hcap:x.capped=false)(hi1:∀Q∈T1,∀y∈Q,y.claim.toNat≠i)(hi2:∀y∈P1,y.claim.toNat≠i)(hj:∀Q∈T1,∀y∈Q,y.claim.toNat≠j)(hj2:∀y∈P1++x::P2,y.claim.toNat≠j)(hin:i<E.length)(hE:EOk E)(hTO:TOk E.length (T1++(P1++x::P2)::T2))(hm:0<=m)(hl:D0.length=E.length)
  (h0:getQ D0 j<getQ (a1u (allT E (T1++(P1++x::P2)::T2)) m D0) j):getQ D0 i+amE E i<=getQ (a1u (allT E (T1++(P1++x::P2)::T2)) m D0) i:=by
 have hpos:=d3a hE hTO
 have hin':=(c1d hE hTO).inn
 obtain⟨L2,hL⟩:=c3x T1 (P1++x::P2) T2 (a4j E E.length E.length)
 have hfi:getQ (a4j E E.length E.length) i=amE E i:=by rw[a4q (a9v hin),if_pos hin]
 have hle:getQ (a4s T1 (a4j E E.length E.length)).2 i=amE E i:=by
  rw[<- hfi]
  exact b7q T1 ([],a4j E E.length E.length) hi1
 have hp:(⟨i,amE E i⟩:Pt)∈(a8e (P1++x::P2) (a4s T1 (a4j E E.length E.length)).2).1:=by
  have h1:=tier_has (P2:=P2) (D:=(a4s T1 (a4j E E.length E.length)).2) hx hi2
  rw[hle]at h1
  have h2:a6w (amE E i) x=amE E i:=by unfold a6w;rw[if_pos (.inl hcap)]
  rwa[h2]at h1
 unfold allT at h0 hpos hin' ⊢
 rw[hL,List.append_assoc,List.cons_append]at h0 hpos hin' ⊢
 refine b2n _ _ _ m D0 ⟨i,amE E i⟩ j hpos (by rw[hl];exact hin') hm hp (fun Q hQ p hp2 e=>?_) (fun p hp2 e=>?_) h0
 ·rcases b9f T1 ([],_) hQ hp2 with h1 | ⟨P',hP',y,hy,e1⟩
  ·cases h1
  exact hj P' hP' y hy (e1.trans e)
 rcases c3y _ ([],_) hp2 with h1 | ⟨y,hy,e1⟩
 ·cases h1
 exact hj2 y hy (e1.trans e)
theorem all_cl{E:List Clm}{T:List (List Prt)}(hT:TOk E.length T){Q:List Pt}{p:Pt}(hQ:Q∈allT E T)(hp:p∈Q):memB T ((p.c:Nat):Int)=true:=by
 unfold allT at hQ
 rcases List.mem_append.1 hQ with hQ | hQ
 ·rcases b9f T ([],_) hQ hp with h1 | ⟨P,hP,x,hx,e⟩
  ·cases h1
  obtain⟨c,hc,_⟩:=hT.cl P hP x hx
  rw[hc,Int.toNat_natCast]at e
  exact memB_iff.2 ⟨P,hP,x,hx,by rw[hc,e]⟩
 rw[List.mem_singleton.1 hQ]at hp
 unfold a6y at hp
 obtain⟨i,hi,rfl⟩:=List.mem_map.1 hp
 exact(List.mem_filter.1 hi).2
theorem c0x{E:List Clm}{A:List (List (List Prt))}{D:List Rat}(h:Dls E A D):D.length=E.length:=by
 induction h with
 | nil=>exact List.length_replicate
 | snoc _ _ ih=>rw[c0b];exact ih
theorem b8e{E:List Clm}{T:List (List Prt)}{m:Rat}{D:List Rat}{c:Nat}(hE:EOk E)(hT:TOk E.length T)(hl:D.length=E.length)(hc:memB T ((c:Nat):Int)=false):getQ (a1u (allT E T) m D) c=getQ D c :=
 b5r _ m D (by rw[hl];exact(c1d hE hT).inn) c fun Q hQ p hp e=>by
  have:=all_cl hT hQ hp
  rw[e,hc]at this
  cases this
theorem dls_none{E:List Clm}(hE:EOk E){A:List (List (List Prt))}{D:List Rat}(h:Dls E A D){c:Nat}:(∀T∈A,TOk E.length T)->(∀T∈A,memB T ((c:Nat):Int)=false)->getQ D c=0:=by
 induction h with
 | nil=>exact fun _ _=>b4s _ _
 | @snoc A T D m hd hm ih =>
  intro hT hc
  rw[b8e hE (hT T (List.mem_append_right _ (List.mem_singleton.2 rfl))) (c0x hd) (hc T (List.mem_append_right _ (List.mem_singleton.2 rfl)))]
  exact ih (fun T' h'=>hT T' (List.mem_append_left _ h')) fun T' h'=>hc T' (List.mem_append_left _ h')
theorem dls_at{E:List Clm}(hE:EOk E){A:List (List (List Prt))}{D2:List Rat}(h:Dls E A D2):∀ {k:Nat} {T:List (List Prt)},A[k]? =some T->(∀T∈A,TOk E.length T)->∃ (m:Rat) (D0:List Rat),0<=m/\D0.length=E.length/\∀c:Nat,(∀ (k':Nat) (T':List (List Prt)),A[k']? =some T'->k'≠k->memB T' ((c:Nat):Int)=false)->getQ D0 c=0/\getQ D2 c=getQ (a1u (allT E T) m D0) c:=by
 induction h with
 | nil=>intro k T hT;cases hT
 | @snoc A T1 D m hd hm ih =>
  intro k T hT hok
  have hok':∀T∈A,TOk E.length T:=fun T' h'=>hok T' (List.mem_append_left _ h')
  have hT1:=hok T1 (List.mem_append_right _ (List.mem_singleton.2 rfl))
  by_cases hk:k<A.length
  ·rw[List.getElem?_append_left hk]at hT
   obtain⟨m0,D0,h1,h2,h3⟩:=ih hT hok'
   refine⟨m0,D0,h1,h2,fun c hc=>?_⟩
   obtain⟨a1,a2⟩:=h3 c fun k' T' hT' hne=>hc k' T' (by rw[List.getElem?_append_left (List.getElem?_eq_some_iff.1 hT').1];exact hT') hne
   refine⟨a1,?_⟩
   rw[b8e hE hT1 (c0x hd) (hc A.length T1 (by simp) (by omega))]
   exact a2
  have hk':k=A.length:=by
   have:=(List.getElem?_eq_some_iff.1 hT).1
   rw[List.length_append]at this
   simp at this
   omega
  subst hk'
  obtain rfl:T1=T:=by simpa using hT
  refine⟨m,D,hm,c0x hd,fun c hc=>⟨dls_none hE hd hok' fun T' hT'=>?_,rfl⟩⟩
  obtain⟨k',e⟩:=List.mem_iff_getElem?.1 hT'
  have hlt:=(List.getElem?_eq_some_iff.1 e).1
  exact hc k' T' (by rw[List.getElem?_append_left hlt];exact e) (by omega)
theorem dls_pos{E:List Clm}(hE:EOk E){A:List (List (List Prt))}{D:List Rat}(h:Dls E A D):(∀T∈A,TOk E.length T)->∀i,0<=getQ D i:=by
 induction h with
 | nil=>exact fun _ i=>by rw[b4s];exact Rat.le_refl
 | @snoc A T D m hd hm ih =>
  intro hT i
  have hT1:=hT T (List.mem_append_right _ (List.mem_singleton.2 rfl))
  exact Rat.le_trans (ih (fun T' h'=>hT T' (List.mem_append_left _ h')) i) (b2m _ m D (d3a hE hT1) (by rw[c0x hd];exact(c1d hE hT1).inn) hm i)
theorem dlv_pos{E:List Clm}{A:List (List (List Prt))}{D:List Rat}(hE:EOk E)(hT:∀T∈A,TOk E.length T)(h:DlvR E A D):∀y∈D,0<=y:=by
 obtain⟨_,D2,h1,h2⟩:=h
 intro y hy
 obtain⟨i,hi⟩:=List.mem_iff_getElem?.1 hy
 have:=Rat.le_trans (dls_pos hE h1 hT i) (h2.more i)
 rwa[a4q hi]at this
theorem named_sz{ts:List Duo}(h:∀t∈ts,t.ok):∀c∈a7s ts,Sized 16 c.am.val:=by
 intro c hc
 obtain⟨j,t,rfl,ht⟩:=c2v hc
 show Sized 16 (enc3 (a2f t.b)).val
 rw[b1w]
 exact(a3v (h t ht).2).mono (by decide)
theorem d2s{xs:List Qua}(h:∀x∈xs,x.ok):∀x∈a3d xs,Sized 16 x.am.val:=by
 intro x hx
 unfold a3d at hx
 obtain⟨y,hy,rfl⟩:=List.mem_map.1 hx
 have h1:=(a3v (h y (List.mem_of_mem_take hy)).2.2.1).mono (show 8<=16 by decide)
 have h0:Sized 16 zero3.val:=by
  have e:zero3.val=0:=by decide +kernel
  rw[e];exact sized_zero.mono (by decide)
 unfold clsN
 split
 ·exact h0
 split
 ·exact h0
 split
 ·dsimp only
  rw[b1w]
  exact h1
 exact h0
theorem est_eok{cl:List Nmd}{l:List Cls}{R:List Int}{A:List (List (List Prt))}(hk:a3a cl=0)(hO:Okay cl l)(hR:Ranks cl l l.length R)(hA:Agrs cl l A)(hn:cl.length<=8)(h1:∀c∈cl,c.am.a.length<=17179869184/\c.am.b.length<=17179869184)(h2:∀x∈l,(enc3 x.am.val).a.length<=17179869184/\(enc3 x.am.val).b.length<=17179869184)(h3:∀c∈cl,Sized 16 c.am.val):EOk (estC cl R):=by
 have hE:=est_ok hk hO hR hA hn h1 h2
 refine⟨by rw[b1v hR.1];exact hn,fun c hc=>(hE.am c hc).2,fun c hc=>?_,fun c hc=>?_⟩
 ·obtain⟨i,d,r,hd,hr,rfl⟩:=c0u hc
  exact h3 d (List.mem_of_getElem? hd)
 have h4:=(hE.am c hc).1
 refine Classical.byContradiction fun hneg=>?_
 have h5:c.am.val.num<0:=Int.not_le.1 fun h=>hneg (Rat.num_nonneg.1 h)
 rw[a1y h5]at h4
 omega
theorem est_tok{cl:List Nmd}{l:List Cls}{A:List (List (List Prt))}(hO:Okay cl l)(hA:Agrs cl l A)(hn:cl.length<=8)(h2:∀x∈l,(enc3 x.am.val).a.length<=17179869184/\(enc3 x.am.val).b.length<=17179869184)(h3:∀x∈l,Sized 16 x.am.val):A.length<=8/\∀T∈A,TOk cl.length T:=by
 obtain⟨rb,cn,lev,hrb,hcn,hlv,rfl⟩:=hA
 have hplc:∀ {T:List (List Prt)} {P:List Prt} {x:Prt},T∈a8b cl.length rb lev cn (a2e cl l)->P∈T->x∈P->∃i,i<cl.length/\x=a2e cl l i:=fun hT hP hx=>by
  obtain⟨k,e1⟩:=List.mem_iff_getElem?.1 hT
  obtain⟨t,e2⟩:=List.mem_iff_getElem?.1 hP
  obtain⟨q,e3⟩:=List.mem_iff_getElem?.1 hx
  obtain⟨d,i,_,_,_,hi,_,_,_,_,e⟩:=plc_iff.1 ⟨_,_,e1,e2,e3⟩
  exact⟨i,hi,e⟩
 have hcs:∀i,Sized 16 (a2e cl l i).cap.val/\(a2e cl l i).cap.a.length<=17179869184/\(a2e cl l i).cap.b.length<=17179869184:=fun i=>by
  have h0:Sized 16 zero3.val:=by
   have e:zero3.val=0:=by decide +kernel
   rw[e];exact sized_zero.mono (by decide)
  unfold a2e
  split
  ·exact⟨h0,Nat.zero_le _,Nat.zero_le _⟩
  split
  ·exact⟨h0,Nat.zero_le _,Nat.zero_le _⟩
  rename_i y hy
  have hm:=List.mem_of_find?_eq_some hy
  refine⟨?_,h2 y hm⟩
  show Sized 16 (enc3 y.am.val).val
  rw[b1w]
  exact h3 y hm
 refine⟨?_,fun T hT=>⟨?_,fun P hP=>?_,fun P hP x hx=>?_,fun P hP x hx=>?_,fun P hP x hx=>?_,fun P hP x hx=>?_⟩⟩
 ·unfold a8b
  rw[List.length_map]
  have:=b1u (a7d cl.length rb cn) cl.length
  omega
 ·obtain⟨k,e1⟩:=List.mem_iff_getElem?.1 hT
  obtain⟨d,_,_,_,rfl⟩:=agrOf_at.1 e1
  unfold b0c
  have:=List.length_filter_le (fun t:List Prt=>!t.isEmpty) ((List.range cl.length).map (a4r cl.length lev cn (a2e cl l) d))
  rw[List.length_map,List.length_range]at this
  omega
 ·obtain⟨k,e1⟩:=List.mem_iff_getElem?.1 hT
  obtain⟨d,_,_,_,rfl⟩:=agrOf_at.1 e1
  obtain⟨t,e2⟩:=List.mem_iff_getElem?.1 hP
  obtain⟨v,_,_,_,rfl⟩:=tiersK_at.1 e2
  unfold a4r
  rw[List.length_map]
  have:=b1u (fun i=>cn d i&&decide (lev i=v)) cl.length
  omega
 ·obtain⟨i,hi,rfl⟩:=hplc hT hP hx
  exact⟨i,a3r cl l i,hi⟩
 ·obtain⟨i,hi,rfl⟩:=hplc hT hP hx
  exact c6p hO i
 ·obtain⟨i,hi,rfl⟩:=hplc hT hP hx
  exact(hcs i).1
 obtain⟨i,hi,rfl⟩:=hplc hT hP hx
 exact(hcs i).2
theorem c6c{α:Type}{l:List α}{k:Nat}{x:α}(h:l[k]? =some x):∃l1 l2,l=l1++x::l2/\l1=l.take k:=by
 refine⟨l.take k,l.drop (k+1),?_,rfl⟩
 rw[<- c5f h,List.take_append_drop]
theorem b0n{α:Type}{l:List α}{k:Nat}{y:α}(h:y∈l.take k):∃q,q<k/\l[q]? =some y:=by
 obtain⟨q,hq⟩:=List.mem_iff_getElem?.1 h
 rw[List.getElem?_take]at hq
 split at hq
 ·rename_i hlt;exact⟨q,hlt,hq⟩
 cases hq
theorem c7v{cl:List Nmd}{l:List Cls}{R:List Int}{A:List (List (List Prt))}{D:List Rat}{i j:Nat}{c:Nmd}(hO:Okay cl l)(hR:Ranks cl l l.length R)(hA:Agrs cl l A)(hE:EOk (estC cl R))(hT:∀T∈A,TOk cl.length T)(hD:DlvR (estC cl R) A D)(hr:Rel cl l l.length i j)(hc:cl[i]? =some c)(hlim:limC l c.id=none)(hgt:0<getQ D j):c.am.val<=getQ D i:=by
 have hel:=b1v hR.1
 rw[<- hel]at hT
 obtain⟨_,D2,hD2,hF⟩:=hD
 obtain⟨rb,cn,lev,hrb,hcn,hlv,rfl⟩:=hA
 have hb:∀i j,Rel cl l l.length i j->i<cl.length/\j<cl.length:=fun _ _ h=>h.lt
 have hu:=b9a (lev:=lev) (part:=a2e cl l) hrb hcn hb (a3r cl l)
 have hi:=(hb i j hr).1
 have hj:=(hb i j hr).2
 have hll:∀j,j<cl.length->lev j<cl.length:=fun j hj=>lev_lt hb (d0s hO) hlv hj
 obtain⟨d,hd,hl,hci⟩:=has_lead hrb hcn hb hi ⟨j,.inl hr⟩
 have hcj:cn d j=true:=(hcn d j).2 (((hcn d i).1 hci).step (.inl hr))
 have pi:Plc (a8b cl.length rb lev cn (a2e cl l)) _ _ _ (a2e cl l i):=plc_iff.2 ⟨d,i,hd,hl,rfl,hi,hci,hll i hi,rfl,rfl,rfl⟩
 have pj:Plc (a8b cl.length rb lev cn (a2e cl l)) _ _ _ (a2e cl l j):=plc_iff.2 ⟨d,j,hd,hl,rfl,hj,hcj,hll j hj,rfl,rfl,rfl⟩
 have htt:=c5h (p:=c0p cl.length lev cn (a2e cl l) d) (hlv.1 i j hr) (full_at hi hci)
 obtain⟨T,P,e1,e2,e3⟩:=pi
 obtain⟨T',P',f1,f2,f3⟩:=pj
 obtain rfl:T=T':=Option.some.inj (e1.symm.trans f1)
 have hTm:=List.mem_of_getElem? e1
 obtain⟨m,D0,hm,hl0,hat⟩:=dls_at hE hD2 e1 hT
 have hother:∀ (x:Nat) (t q:Nat) (Q:List Prt),T[t]? =some Q->Q[q]? =some (a2e cl l x)->∀ (k':Nat) (T':List (List Prt)),(a8b cl.length rb lev cn (a2e cl l))[k']? =some T'->k'≠cntP (a7d cl.length rb cn) d->memB T' ((x:Nat):Int)=false:=by
  intro x t q Q g1 g2 k' T' hk' hne
  cases hm:memB T' ((x:Nat):Int)with
  | false=>rfl
  | true =>
   obtain⟨Q',hQ',y,hy,he⟩:=memB_iff.1 hm
   obtain⟨t',h2⟩:=List.mem_iff_getElem?.1 hQ'
   obtain⟨q',h3⟩:=List.mem_iff_getElem?.1 hy
   exact absurd (hu.2 k' t' q' y _ t q _ ⟨_,_,hk',h2,h3⟩ ⟨_,_,e1,g1,g2⟩ (he.trans (a3r cl l x).symm)).1 hne
 obtain⟨zi,gi⟩:=hat i (hother i _ _ P e2 e3)
 obtain⟨zj,gj⟩:=hat j (hother j _ _ P' f2 f3)
 have pooled:∀ (x:Nat) (t q:Nat) (Q:List Prt),T[t]? =some Q->Q[q]? =some (a2e cl l x)->a7r (a8b cl.length rb lev cn (a2e cl l)) x=true:=fun x t q Q g1 g2 =>
  List.any_eq_true.2 ⟨T,hTm,memB_iff.2 ⟨Q,List.mem_of_getElem? g1,_,List.mem_of_getElem? g2,a3r cl l x⟩⟩
 have ki:=hF.kept i (by rw[hel];exact hi) (pooled i _ _ P e2 e3)
 have kj:=hF.kept j (by rw[hel];exact hj) (pooled j _ _ P' f2 f3)
 obtain⟨T1,T2,hTs,hT1⟩:=c6c e2
 obtain⟨P1,P2,hPs,hP1⟩:=c6c e3
 have hpi:(a2e cl l i).claim.toNat=i:=by rw[a3r];exact Int.toNat_natCast i
 have hpj:(a2e cl l j).claim.toNat=j:=by rw[a3r];exact Int.toNat_natCast j
 have hcap:(a2e cl l i).capped=false:=by unfold a2e;rw[hc];dsimp only;rw[hlim]
 have place:∀ (x t q t' q':Nat) (Q Q':List Prt) (y:Prt),T[t]? =some Q->Q[q]? =some (a2e cl l x)->T[t']? =some Q'->Q'[q']? =some y->y.claim.toNat=x->t'=t/\q'=q:=by
  intro x t q t' q' Q Q' y g1 g2 g3 g4 hy
  obtain⟨z,_,hz⟩:=hu.1 _ t' q' y ⟨_,_,e1,g3,g4⟩
  rw[hz,Int.toNat_natCast]at hy
  have:=(hu.2 _ t' q' y _ t q _ ⟨_,_,e1,g3,g4⟩ ⟨_,_,e1,g1,g2⟩ (by rw[hz,a3r,hy])).2
  exact this
 have hTP:T=T1++(P1++a2e cl l i::P2)::T2:=by rw[<- hPs];exact hTs
 have key:=c4a (E:=estC cl R) (T1:=T1) (T2:=T2) (P1:=P1) (P2:=P2) (x:=a2e cl l i) (i:=i) (j:=j) (m:=m) (D0:=D0) hpi hcap
  (fun Q hQ y hy e=>by
   rw[hT1]at hQ
   obtain⟨t',ht',h1⟩:=b0n hQ
   obtain⟨q',h2⟩:=List.mem_iff_getElem?.1 hy
   have:=(place i _ _ t' q' P Q y e2 e3 h1 h2 e).1
   omega)
  (fun y hy e=>by
   rw[hP1]at hy
   obtain⟨q',hq',h2⟩:=b0n hy
   have:=(place i _ _ _ q' P P y e2 e3 e2 h2 e).2
   omega)
  (fun Q hQ y hy e=>by
   rw[hT1]at hQ
   obtain⟨t',ht',h1⟩:=b0n hQ
   obtain⟨q',h2⟩:=List.mem_iff_getElem?.1 hy
   have:=(place j _ _ t' q' P' Q y f2 f3 h1 h2 e).1
   omega)
  (fun y hy e=>by
   rw[<- hPs]at hy
   obtain⟨q',h2⟩:=List.mem_iff_getElem?.1 hy
   have:=(place j _ _ _ q' P' P y f2 f3 e2 h2 e).1
   omega)
  (by rw[hel];exact hi) hE (by rw[<- hTP];exact hT T hTm) hm hl0 (by rw[<- hTP,zj,<-gj,<-kj];exact hgt)
 rw[<- hTP,zi,<-gi,<-ki]at key
 obtain⟨r,hri⟩:∃r,R[i]? =some r:=⟨_,List.getElem?_eq_getElem (by rw[hR.1];exact hi)⟩
 have ham:amE (estC cl R) i=c.am.val:=by unfold amE;rw[d2h hc hri]
 rw[ham]at key
 grind
end Go.Proofs.YtjmiicjialkpiaaGreatDoor
