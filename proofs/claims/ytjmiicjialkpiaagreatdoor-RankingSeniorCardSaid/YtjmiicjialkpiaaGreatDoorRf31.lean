/-
Part 31 of the base.
-/
import Derived.Test.YtjmiicjialkpiaaGreatDoorRf30
set_option maxRecDepth 100000
set_option maxHeartbeats 8000000
namespace Go.Proofs.YtjmiicjialkpiaaGreatDoor
open Go.RowKit
theorem c4d(cn:Bool)(ca cb:List UInt8)(vc va:Value)(E:List Clm)(A:List (List (List Prt)))(vt:Value)(T:List (List Prt))(r0:Nat)(w:World)(hE:ClmL w vc E)(hA:AgrL w va A)(hT:TierL w vt T)(hn:E.length<=1000)(hz:∀c∈E,c.am.a.length<=17179869184/\c.am.b.length<=17179869184/\Sized r0 c.am.val)(hT1:T.length<=8)(hT2:∀P∈T,P.length<=8/\∀x∈P,(∃c:Nat,x.claim=(c:Nat)/\c<E.length)/\x.cap.a.length<=17179869184/\x.cap.b.length<=17179869184/\Sized r0 x.cap.val)(hr1:1<=r0)(hr2:r0<=1000) :
  Calls Tryz.prog 56 #[.agg #[.bool cn,.string (bs ca),.string (bs cb),vc,va],.agg #[vt]] w fun e w'=>∃v,e=.returned v/\Tro w' w.heap.size v (allT E T)/\Below w.heap.size w w':=by
 have hmk:=c3a E.length hn
 obtain⟨i0,hi0,hz0,hz1,hz2⟩:=c2r
 obtain⟨i2,hi2,z20,z21,z22⟩:=b8f
 have HI0:=zh hi0
 have HZ0:=zh hz0
 have HI2:=zh hi2
 have HZ2:=zh z20
 have HMEM:=zh (fun(c:Nat) W (hb:Below w.heap.size w W)=>a8r vt T ((c:Nat):Int) W (hT.below hb))
 obtain⟨Ac,cc,rfl,_,_⟩:=Slc.slice hE
 obtain⟨Aa,cx,rfl,_,_⟩:=NstL.slice hA
 obtain⟨At,ct,rfl,_,_⟩:=NstL.slice hT
 have HE:=zh hE
 have HT:=zh hT
 have LN:=zh hn
 have LT:=zh hT1
 have HSZ:=zh hz
 have HTT:=zh hT2
 have HR1:=zh hr1
 have HR2:=zh hr2
 have HZR:Hid (rowA (List.replicate E.length rtr0)=rowA ((a4j E E.length 0).map encT)):=zh (by rw[d2f];exact a8c _)
 have HAS:Hid (∀i,i<E.length->Sized r0 (amE E i)):=zh fun i hi=>by unfold amE;rw[List.getElem?_eq_getElem hi];exact(hz _ (List.getElem_mem hi)).2.2
 clear hE hA hT hn hz hT1 hT2 hr1 hr2 hi0 hz0 hi2 z20
 go_enter Tryz.func56,Tryz.ntmps56
 have HS:=zh (St.start w)
 go_wp2
 go_loopw [7] (fun i_ wr=>∃i:Nat,i<=E.length/\i_=.int .i64 i/\Hid (St w [⟨w.heap.size+1+1,(rowA (((a4j E E.length i).map encT))),39⟩,⟨w.heap.size+1,#[.slice At T.length ct],78⟩,⟨w.heap.size,#[.bool cn,.string (bs ca),.string (bs cb),.slice Ac E.length cc,.slice Aa A.length cx],44⟩] wr)) (fun i_ _=>E.length-(intOf i_).toNat)
 case atStart=>exact⟨0,Nat.zero_le _,rfl,by rw[<- HZR.out];exact(St.alloc ((St.alloc ((St.alloc (HS.out) #[.bool cn,.string (bs ca),.string (bs cb),.slice Ac E.length cc,.slice Aa A.length cx] 44 (w.heap.size) (by simp))) #[.slice At T.length ct] 78 (w.heap.size+1) (by simp))) (rowA (List.replicate E.length rtr0)) 39 (w.heap.size+1+1) (by simp))⟩
 case round =>
  obtain⟨i,hi,rfl,HS⟩:=hrel
  by_cases hin:i<E.length
  ·obtain⟨bc,oc,x,rfl,hbc,hq,hx⟩:=Slc.at_ HE.out hin
   have hzx:=HSZ.out x (List.mem_of_getElem? hq)
   have hfx:=fun W=>b5h x.am.n x.am.a x.am.b W (by omega) (by omega)
   have ham:amE E i=x.am.val:=by unfold amE;rw[hq]
   change ∀W,Calls Tryz.prog _ _ W (fun e w'=>e=.returned (rat x.am.val)/\_)at hfx
   rw[<- ham]at hfx
   have hfs:=fill_set (E:=E) hin
   obtain⟨am,hae⟩:∃a,a=amE E i:=⟨_,rfl⟩
   rw[<- hae]at hfx hfs
   unfold Clm.enc at hx
   unfold rat raw at hfx
   obtain⟨d,hd⟩:∃d,(a4j E E.length i)[i]? =some d:=⟨_,a9v hin⟩
   have HD1:=zh (a5j hd)
   have HL1:Hid (i<((a4j E E.length i).map encT).length):=zh (by rw[List.length_map,a7u];exact hin)
   have HMS:Hid (((a4j E E.length i).map encT).set i ⟨negB am,numB am,a0a am⟩=(a4j E E.length (i+1)).map encT):=zh (by rw[map_set,hfs])
   have HFX:=zh hfx
   have HX:=zh hx
   have e0:(0:Int)<=((i:Nat):Int):=by omega
   have e1:((i:Nat):Int)<(E.length:Int):=by omega
   have e2:decide (((i:Nat):Int)<(E.length:Int))=true:=decide_eq_true e1
   have e5:IntKind.i64.wrap ((i:Int)+1)=((i+1:Nat):Int):=by have:=LN.out;rw[IntWalk.i64_in _ (by omega)];rfl
   clear hx hq hzx hfx ham hae hfs hd
   have x1:=cC HS 2 3
   have x2:=HX.out _ HS.out.below 2 _ rfl
   have x3:=HX.out _ HS.out.below 3 _ rfl
   have x4:=HX.out _ HS.out.below 4 _ rfl
   go_wp2_with fail
   refine cL (HFX.out _) HS fun w2 HS2=>?_
   clear HS x1 x2 x3 x4
   obtain⟨x5,x6,x7⟩:=HS2.out.rowCells 0 rfl (HD1.out)
   have x8:=HS2.out.frozen 0 rfl (i*3)
   have x9:=HS2.out.frozen 0 rfl (i*3+1)
   have x10:=HS2.out.frozen 0 rfl (i*3+2)
   have x11:=cN HS2 0 1
   have x12:=cN HS2 1 0
   have x13:=cN HS2 0 2
   have x14:=cN HS2 2 0
   go_wp2
   have HS3:Hid (St w [⟨w.heap.size+1+1,(rowA ((((a4j E E.length i).map encT)).set i ⟨(negB (am)),(numB (am)),(a0a (am))⟩)),39⟩,⟨w.heap.size+1,#[.slice At T.length ct],78⟩,⟨w.heap.size,#[.bool cn,.string (bs ca),.string (bs cb),.slice (some ⟨bc,oc,none⟩) E.length cc,.slice Aa A.length cx],44⟩] _):=zh (St.setRow (HS2.out) 0 rfl i ⟨(negB (am)),(numB (am)),(a0a (am))⟩ HL1.out)
   go_roundw
   case rel=>exact⟨i+1,by omega,by go_num,by rw[<- HMS.out];exact HS3.out⟩
   case measure=>simp[intOf];omega
  have hie:i=E.length:=by omega
  rw[hie]at HS ⊢
  have e2:decide (((E.length:Nat):Int)<(E.length:Int))=false:=decide_eq_false (by omega)
  have HA0Z:=d2g (k:=E.length) HR1.out HAS.out
  obtain⟨A0,hA0⟩:∃D,D=a4j E E.length E.length:=⟨_,rfl⟩
  rw[<- hA0]at HS HA0Z
  have HA0:=zh hA0
  have HA0Z:=zh HA0Z
  clear hie hi hin hA0
  have x1:=cC HS 2 3
  go_wp2
  go_loopw [5,8] (fun o_ t_ wr=>∃ (t:Nat) (L:List (List Pt)) (D0:List Rat),t<=T.length/\t_=.int .i64 t/\Hid ((L,D0)=a4s (T.take t) A0)/\Hid (L.length=t)/\Hid (LSz r0 E.length (8*t) D0)/\Hid (Tro wr w.heap.size o_ L)/\Hid (St w [⟨w.heap.size+1+1,(rowA ((D0.map encT))),39⟩,⟨w.heap.size+1,#[.slice At T.length ct],78⟩,⟨w.heap.size,#[.bool cn,.string (bs ca),.string (bs cb),.slice Ac E.length cc,.slice Aa A.length cx],44⟩] wr)) (fun _ t_ _=>T.length-(intOf t_).toNat)
  case atStart=>exact⟨0,[],A0,Nat.zero_le _,rfl,rfl,rfl,HA0Z.out,Tro.nil _ _,HS.out⟩
  case round =>
   clear HS HA0Z
   obtain⟨t,L,D0,ht,rfl,HTQ,HLL,HLZ,HG,HS⟩:=hrel
   obtain⟨wo,hwo⟩:∃wo:World,wo=wr:=⟨_,rfl⟩
   subst hwo
   by_cases htn:t<T.length
   ·obtain⟨us,bk,hU0,hSX,_,hBK,hTY⟩:=Tro.beside HG.out HS.out (Nat.le_refl _) (fun x hx=>by simp only[List.mem_cons,List.mem_nil_iff,or_false]at hx;rcases hx with rfl | rfl | rfl;exact⟨by show 39≠145;decide,by show 39≠143;decide⟩;exact⟨by show 78≠145;decide,by show 78≠143;decide⟩;exact⟨by show 44≠145;decide,by show 44≠143;decide⟩)
    have HSX:Hid (St w (_::_::_::bk) wo):=zh hSX
    have HU0:=zh hU0
    have HBK:=zh hBK
    have HBL:Hid (∀x∈bk,x.g<wo.heap.size):=zh fun x hx=>(HSX.out.ok x (List.mem_cons_of_mem _ (List.mem_cons_of_mem _ (List.mem_cons_of_mem _ hx)))).1.lt
    have HSW:Hid (w.heap.size<=wo.heap.size):=zh HS.out.below.size
    obtain⟨b1,o1,u,P,rfl,hb1,hq,hP,hx1⟩:=NstL.at_ HT.out htn
    obtain⟨A3,c3,rfl,l3,l4⟩:=Slc.slice hP
    have HP:=zh hP
    have HXT:=zh hx1
    have HPT:=zh hq
    have hPm:=HTT.out P (List.mem_of_getElem? hq)
    have LP:=zh hPm.1
    have HPX:=zh hPm.2
    have f0:(0:Int)<=((t:Nat):Int):=by omega
    have f1:((t:Nat):Int)<(T.length:Int):=by omega
    have f2:decide (((t:Nat):Int)<(T.length:Int))=true:=decide_eq_true f1
    have f5:IntKind.i64.wrap ((t:Int)+1)=((t+1:Nat):Int):=by have:=LT.out;rw[IntWalk.i64_in _ (by omega)];rfl
    clear hU0 hSX hBK HG HS hTY hP hx1 hq l3 l4 hPm
    have x2:=cC HSX 1 0
    go_wp2
    go_loopw [9,10] (fun l_ k_ wr=>∃ (k:Nat) (Q:List Pt) (D:List Rat),k<=P.length/\k_=.int .i64 k/\Hid ((Q,D)=a8e (P.take k) D0)/\Hid (Q.length=k)/\Hid (LSz r0 E.length (8*t+k) D)/\Hid (Grows wr wo.heap.size 145 4 l_ Q.length (flat Pt.enc Q))/\Hid (SzW wo.heap.size wr)/\Hid (St w (⟨w.heap.size+1+1,(rowA ((D.map encT))),39⟩::⟨w.heap.size+1,#[.slice (some ⟨b1,o1,none⟩) T.length ct],78⟩::⟨w.heap.size,#[.bool cn,.string (bs ca),.string (bs cb),.slice Ac E.length cc,.slice Aa A.length cx],44⟩::bk) wr)) (fun _ k_ _=>P.length-(intOf k_).toNat)
    case atStart=>exact⟨0,[],D0,Nat.zero_le _,rfl,rfl,rfl,HLZ.out,World.ownsRow_nil _ _ _ _,Nat.le_refl _,HSX.out⟩
    case round =>
     clear HSX
     obtain⟨k,Q,D,hk,rfl,HQD,HQL,HDZ,HTO,HW,HS⟩:=hrel
     by_cases hkn:k<P.length
     ·obtain⟨b3,o3,x,rfl,hb3,hq,hx⟩:=Slc.at_ HP.out hkn
      obtain⟨⟨c,hxc,hcn⟩,hxa,hxb,hxs⟩:=HPX.out x (List.mem_of_getElem? hq)
      obtain⟨d,hd,hds⟩:=HDZ.out.at_ hcn
      have hp64:(8*t+k)*(r0+1)<=72*1001:=Nat.mul_le_mul (by have:=LT.out;have:=LP.out;omega) (by have:=HR2.out;omega)
      have hdb:=hds.mono (show _<=17179869184 by have:=HR2.out;omega)
      have hfx:=fun W=>b5h x.cap.n x.cap.a x.cap.b W (by omega) (by omega)
      change ∀W,Calls Tryz.prog _ _ W (fun e w'=>e=.returned (rat x.cap.val)/\_)at hfx
      obtain⟨cv,hcv⟩:∃q,q=x.cap.val:=⟨_,rfl⟩
      rw[<- hcv]at hfx hxs
      have hcb:=hxs.mono (show _<=17179869184 by have:=HR2.out;omega)
      have hls:=fun W=>b1j d cv W hdb hcb
      obtain⟨lb,hlb⟩:∃z,z=decide (d<cv):=⟨_,rfl⟩
      rw[<- hlb]at hls
      obtain⟨cp,hcp⟩:∃z,z=x.capped:=⟨_,rfl⟩
      unfold Prt.enc at hx
      rw[<- hcp,hxc]at hx
      obtain⟨na,hna⟩:∃q,q=d-d:=⟨_,rfl⟩
      have hma:=fun W=>a8p d d W hdb hdb
      rw[<- hna]at hma
      obtain⟨nc,hnc⟩:∃q,q=d-cv:=⟨_,rfl⟩
      have hmc:=fun W=>a8p d cv W hdb hcb
      rw[<- hnc]at hmc
      have HZA:Hid (LSz r0 E.length (8*t+k+1) (D.set c na)):=zh (by rw[hna];exact HDZ.out.all d)
      have HZC:Hid (LSz r0 E.length (8*t+k+1) (D.set c nc)):=zh (by rw[hnc];exact HDZ.out.part hds hxs)
      have HGA:Hid (a6w d x=d->(Q++[⟨c,d⟩],D.set c na)=a8e (P.take (k+1)) D0):=zh (fun hr=>by rw[hna];exact c9j hq HQD.out hxc hd hr)
      have HGC:Hid (a6w d x=cv->(Q++[⟨c,cv⟩],D.set c nc)=a8e (P.take (k+1)) D0):=zh (fun hr=>by rw[hnc];exact c9j hq HQD.out hxc hd hr)
      have HCP:=zh hcp
      have HLB:=zh hlb
      have HCV:=zh hcv
      have HD1:=zh (a5j hd)
      have HL1:Hid (c<(D.map encT).length):=zh (by rw[List.length_map,HDZ.out.len];exact hcn)
      have HMA:=zh (map_set (D:=D) (c:=c) na)
      have HMC:=zh (map_set (D:=D) (c:=c) nc)
      unfold rat raw at hfx hls hma hmc
      have HFC:=zh hfx
      have HLS:=zh hls
      have HIA:=zh hma
      have HIC:=zh hmc
      have HXP:=zh hx
      have n0:(0:Int)<=(c:Int):=by omega
      have n1:(c:Int)<(E.length:Int):=by omega
      have n2:((c:Int) != -1)=true:=by rw[bne_iff_ne];omega
      obtain⟨bt,hBT,hOW⟩:=c8e a8t HTO.out HS.out HSW.out (fun z hz=>by rcases List.mem_cons.1 hz with rfl | hz;exact .inl (by show 39≠145;decide);rcases List.mem_cons.1 hz with rfl | hz;exact .inl (by show 78≠145;decide);rcases List.mem_cons.1 hz with rfl | hz;exact .inl (by show 44≠145;decide);exact .inr (HBL.out z hz))
      have HSB:Hid (St w (⟨w.heap.size+1+1,(rowA ((D.map encT))),39⟩::⟨w.heap.size+1,#[.slice (some ⟨b1,o1,none⟩) T.length ct],78⟩::⟨w.heap.size,#[.bool cn,.string (bs ca),.string (bs cb),.slice Ac E.length cc,.slice Aa A.length cx],44⟩::(bt++bk)) wr):=zh (St.tuck [⟨w.heap.size+1+1,(rowA ((D.map encT))),39⟩,⟨w.heap.size+1,#[.slice (some ⟨b1,o1,none⟩) T.length ct],78⟩,⟨w.heap.size,#[.bool cn,.string (bs ca),.string (bs cb),.slice Ac E.length cc,.slice Aa A.length cx],44⟩] hBT)
      have HOW:=zh hOW
      have j0:(0:Int)<=((k:Nat):Int):=by omega
      have j1:((k:Nat):Int)<(P.length:Int):=by omega
      have j2:decide (((k:Nat):Int)<(P.length:Int))=true:=decide_eq_true j1
      have j5:IntKind.i64.wrap ((k:Int)+1)=((k+1:Nat):Int):=by have:=LP.out;rw[IntWalk.i64_in _ (by omega)];rfl
      clear hx hq hxc hcn hxa hxb hxs hd hds hp64 hdb hfx hcv hcb hls hlb hcp hna hma hnc hmc hBT hOW HTO HS
      cases cp
      ·have x3:=cC HSB 1 0
       have x4:=HSB.out.lt 1 rfl
       have x5:¬w.heap.size+1=wr.heap.size:=by omega
       have x6:¬wr.heap.size=w.heap.size+1:=by omega
       have x7:b1<wr.heap.size:=Nat.lt_of_lt_of_le hb1 HSB.out.below.size
       have x8:¬b1=wr.heap.size:=by omega
       have x9:b3<wr.heap.size:=Nat.lt_of_lt_of_le hb3 HSB.out.below.size
       have x10:¬b3=wr.heap.size:=by omega
       have x11:=HXT.out _ HSB.out.below 0 _ rfl
       rw[Nat.add_zero]at x11
       obtain⟨x12,x13,x14⟩:=kE0 (HXP.out _ HSB.out.below) rfl rfl rfl
       have x15:=HXP.out _ HSB.out.below 3 _ rfl
       have x16:=HXP.out _ HSB.out.below 4 _ rfl
       go_wp2_with fail
       have HSB2:=aL HSB #[.int .i64 (c:Nat),.bool false,.bool x.cap.n,.string (bs x.cap.a),.string (bs x.cap.b)] 81 wr.heap.size
       refine cL (HFC.out _) HSB2 fun w3 HSB3=>?_
       clear HSB HSB2 x3 x4 x5 x6 x7 x8 x9 x10 x11 x12 x13 x14 x15 x16
       have x17:=cC HSB3 0 0
       have x18:=HSB3.out.lt 0 rfl
       have x19:¬wr.heap.size=w3.heap.size:=by omega
       have x20:¬w3.heap.size=wr.heap.size:=by omega
       go_wp2
       clear x17 x18 x19 x20
       refine a4m (R:=(_::_::_::_::_::(bt++bk))) (St.alloc (HSB3.out) #[.bool (negB (cv)),.string (bs (numB (cv))),.string (bs (a0a (cv)))] 39 (w3.heap.size) (by simp)) ?_
       intro wg4 hb
       have HSB4:=zh hb
       clear hb HSB3
       refine a0e 11 [.pointer (some ⟨wr.heap.size,1,none⟩),.bool false,.bool true,.bool true,undef,undef,undef,undef,undef,undef,undef] rfl (by kernel_rfl) (by kernel_rfl) (by kernel_rfl) ?_ ?_
       refine⟨?_,?_,?_,?_,?_,?_,?_,?_,?_,?_,?_,trivial⟩<;>(intro xx af wv hbx hev hev0 hd;have H:=SH.mk hev hev0 hd;clear hev hev0 hd)
       ·have e11:=H.i 11;clear H;go_wp2;exact sQ rfl
       ·have e67:=H.r 0 67;clear H;have hs1:=zh (HSB4.out.call hbx);have y0:=cC hs1 1 1;go_wp2;exact sQ rfl
       ·have e68:=H.r 1 68;clear H;go_wp2;exact sQ rfl
       ·have e69:=H.r 2 69;clear H;go_wp2;exact sQ rfl
       ·have e70:=H.g 3 70;have q70:=a0b e70;clear H;go_wp2;exact sQ rfl
       ·have e70:=H.g 3 70;have q70:=a0b e70;clear H;go_wp2;exact sQ rfl
       ·have e70:=H.g 3 70;have q70:=a0b e70;clear H;go_wp2;exact sQ rfl
       ·have e70:=H.g 3 70;have q70:=a0b e70;clear H;go_wp2;exact sQ rfl
       ·have e70:=H.g 3 70;have q70:=a0b e70;clear H;go_wp2;exact sQ rfl
       ·have e70:=H.g 3 70;have q70:=a0b e70;clear H;go_wp2;exact sQ rfl
       ·have e70:=(H.ev 3 _ 70 rfl rfl).trans (H.hd ⟨3,.chain⟩ (by simp) rfl);have q70:=a0b e70;clear H;go_wp2;exact sQ rfl
       intro xx w6 hb9 hv
       simp only[List.take,List.drop,a0h,Act.put]
       simp only[vQ hv 0,vQ hv 1,vQ hv 2,vQ hv 3,vQ hv 4,vQ hv 5,vQ hv 6,vQ hv 7,vQ hv 8,vQ hv 9,vQ hv 10]
       clear hv
       have HSB6:=zh (HSB4.out.call hb9)
       clear hb9 HSB4
       have x21:=cC HSB6 1 0
       obtain⟨x22,x23,x24⟩:=HSB6.out.k0 0 rfl rfl rfl rfl
       obtain⟨x25,x26,x27⟩:=HSB6.out.f0 0 rfl
       obtain⟨x28,x29,x30⟩:=HSB6.out.rowCells 2 rfl (HD1.out)
       have x31:=cN HSB6 0 1
       have x32:=cN HSB6 1 0
       have x33:=cN HSB6 0 2
       have x34:=cN HSB6 2 0
       have x35:=cN HSB6 0 3
       have x36:=cN HSB6 3 0
       have x37:=cN HSB6 0 4
       have x38:=cN HSB6 4 0
       go_wp2
       clear x21 x22 x23 x24 x25 x26 x27 x28 x29 x30 x31 x32 x33 x34 x35 x36 x37 x38
       refine a4m (R:=(⟨w3.heap.size,#[.bool (negB (d)),.string (bs (numB (d))),.string (bs (a0a (d)))],39⟩::_::_::_::_::(bt++bk))) (St.set ((St.set ((St.set (HSB6.out) 0 rfl 0 _)) 0 rfl 1 _)) 0 rfl 2 _) ?_
       intro wg7 hb
       have HSB7:=zh hb
       clear hb HSB6
       refine a0e 11 [.slice (some ⟨w.heap.size+1+1,0,none⟩) E.length E.length,.pointer (some ⟨wr.heap.size,0,none⟩),.int .i64 (c:Nat),.slice (some ⟨w.heap.size+1+1,0,none⟩) E.length E.length,.pointer (some ⟨wr.heap.size,0,none⟩),.int .i64 (c:Nat),.pointer (some ⟨w.heap.size+1+1,c*3,none⟩),.agg #[.bool (negB (d)),.string (bs (numB (d))),.string (bs (a0a (d)))],.agg #[.bool (negB (d)),.string (bs (numB (d))),.string (bs (a0a (d)))],.agg #[.bool (negB (na)),.string (bs (numB (na))),.string (bs (a0a (na)))],.pointer (some ⟨w.heap.size+1+1,c*3,none⟩)] rfl (by kernel_rfl) (by kernel_rfl) (by kernel_rfl) ?_ ?_
       refine⟨?_,?_,?_,?_,?_,?_,?_,?_,?_,?_,?_,trivial⟩<;>(intro xx af wv hbx hev hev0 hd;have H:=SH.mk hev hev0 hd;clear hev hev0 hd)
       ·have e6:=H.i 6;clear H;go_wp2;exact sQ rfl
       ·have e11:=H.i 11;clear H;go_wp2;exact sQ rfl
       ·have e85:=H.r 1 85;clear H;have hs1:=zh (HSB7.out.call hbx);have y0:=cC hs1 1 0;go_wp2;exact sQ rfl
       ·have e6:=H.i 6;clear H;go_wp2;exact sQ rfl
       ·have e11:=H.i 11;clear H;go_wp2;exact sQ rfl
       ·have e88:=H.r 4 88;clear H;have hs1:=zh (HSB7.out.call hbx);have y0:=cC hs1 1 0;go_wp2;exact sQ rfl
       ·have e87:=H.r 3 87;have e89:=H.r 5 89;clear H;go_wp2;exact sQ rfl
       ·have e90:=H.r 6 90;clear H;have hs1:=zh (HSB7.out.call hbx);obtain⟨yr0,yr1,yr2⟩:=hs1.out.rowCells 2 rfl (HD1.out);go_wp2;exact sQ rfl
       ·have e12:=H.i 12;clear H;have hs1:=zh (HSB7.out.call hbx);obtain⟨y0,y1,y2⟩:=hs1.out.k0 0 rfl rfl rfl rfl;go_wp2;exact sQ rfl
       ·have e91:=H.r 7 91;have e92:=H.r 8 92;clear H
        go_wp2_with fail
        refine(HIA.out _).mono ?_
        rintro e w8 ⟨rfl,hb8⟩;go_wp2;exact StepQ.mk _ hb8 rfl
       ·have e84:=H.r 0 84;have e86:=H.r 2 86;clear H;go_wp2;exact sQ rfl
       intro xx w8 hb9 hv
       simp only[List.take,List.drop,a0h,Act.put]
       simp only[vQ hv 0,vQ hv 1,vQ hv 2,vQ hv 3,vQ hv 4,vQ hv 5,vQ hv 6,vQ hv 7,vQ hv 8,vQ hv 9,vQ hv 10]
       clear hv
       have HSB8:=zh (HSB7.out.call hb9)
       clear hb9 HSB7
       have x39:=cC HSB8 1 0
       obtain⟨x40,x41,x42⟩:=HSB8.out.k0 0 rfl rfl rfl rfl
       obtain⟨x43,x44,x45⟩:=HSB8.out.rowCells 2 rfl (HD1.out)
       have x46:=HSB8.out.frozen 2 rfl (c*3)
       have x47:=HSB8.out.frozen 2 rfl (c*3+1)
       have x48:=HSB8.out.frozen 2 rfl (c*3+2)
       have x49:=cN HSB8 2 0
       have x50:=cN HSB8 0 2
       have x51:=cN HSB8 2 1
       have x52:=cN HSB8 1 2
       have x53:=cN HSB8 2 3
       have x54:=cN HSB8 3 2
       have x55:=cN HSB8 2 4
       have x56:=cN HSB8 4 2
       have x57:=HSB8.out.lt 1 rfl
       have x58:¬wr.heap.size=w8.heap.size:=by omega
       have x59:¬w8.heap.size=wr.heap.size:=by omega
       have x60:=HSB8.out.lt 0 rfl
       have x61:¬w3.heap.size=w8.heap.size:=by omega
       have x62:¬w8.heap.size=w3.heap.size:=by omega
       have x63:=HSB8.out.lt 2 rfl
       have x64:¬w.heap.size+1+1=w8.heap.size:=by omega
       have x65:¬w8.heap.size=w.heap.size+1+1:=by omega
       have HSB9:Hid (St w (⟨w8.heap.size,#[.int .i64 (c:Nat),.bool (negB (d)),.string (bs (numB (d))),.string (bs (a0a (d)))],145⟩::⟨w3.heap.size,#[.bool (negB (d)),.string (bs (numB (d))),.string (bs (a0a (d)))],39⟩::⟨wr.heap.size,#[.int .i64 (c:Nat),.bool false,.bool x.cap.n,.string (bs x.cap.a),.string (bs x.cap.b)],81⟩::⟨w.heap.size+1+1,(rowA (((D.map encT)).set c ⟨(negB (na)),(numB (na)),(a0a (na))⟩)),39⟩::⟨w.heap.size+1,#[.slice (some ⟨b1,o1,none⟩) T.length ct],78⟩::⟨w.heap.size,#[.bool cn,.string (bs ca),.string (bs cb),.slice Ac E.length cc,.slice Aa A.length cx],44⟩::(bt++bk)) _):=zh (St.alloc ((St.setRow (HSB8.out) 2 rfl c ⟨(negB (na)),(numB (na)),(a0a (na))⟩ HL1.out)) #[.int .i64 (c:Nat),.bool (negB (d)),.string (bs (numB (d))),.string (bs (a0a (d)))] 145 (w8.heap.size) (by simp))
       have hgr:World.ownsRow _ wo.heap.size 145 4 u9 Q.length (flat Pt.enc Q):=HOW.out _ (HSB9.out.rds (fun r hr=>List.mem_cons_of_mem _ (List.mem_cons_of_mem _ (List.mem_cons_of_mem _ (List.mem_cons_of_mem _ (List.mem_cons_of_mem _ (List.mem_cons_of_mem _ (List.mem_append_left _ hr))))))))
       have hsz:=Nat.le_trans HW.out (Nat.le_of_lt (HSB9.out.lt 2 rfl))
       go_wp2_with (at_builtin;refine a1e _ rfl _ _ 143 rfl wo.heap.size 145 i0 _ 4 48 Tryz.underlying143 HI0.out HZ0.out hz1 hz2 rfl (by decide) a8t u9 Q.length Q (by simp[Act.eval]) hgr ⟨c,d⟩ (w8.heap.size) _ (HSB9.out.blk 0 rfl) rfl (by simp[Act.eval]) (b1k _) (by have:=HQL.out;have:=LP.out;unfold maxLen;omega) (by have:=HQL.out;have:=LP.out;omega) hsz ?_)
       intro v9 w9 hown9 hg9
       have hsub:=HSB9.out.sub (List.Sublist.cons _ (List.Sublist.cons _ (List.Sublist.cons _ (List.Sublist.cons_cons _ (List.Sublist.cons_cons _ (List.Sublist.cons_cons _ (List.sublist_append_right bt bk)))))))
       rw[HMA.out]at hsub
       have HSA:Hid (St w (⟨w.heap.size+1+1,(rowA (((D.set c na).map encT))),39⟩::⟨w.heap.size+1,#[.slice (some ⟨b1,o1,none⟩) T.length ct],78⟩::⟨w.heap.size,#[.bool cn,.string (bs ca),.string (bs cb),.slice Ac E.length cc,.slice Aa A.length cx],44⟩::bk) w9):=zh (hsub.turnedO hg9 (fun q hq=>Nat.le_trans HSW.out (World.ownsRow.lt hgr q hq).1) (fun z hz=>by rcases List.mem_cons.1 hz with rfl | hz;exact a1m hgr (HSB9.out.blk 3 rfl) (by decide);rcases List.mem_cons.1 hz with rfl | hz;exact a1m hgr (HSB9.out.blk 4 rfl) (by decide);rcases List.mem_cons.1 hz with rfl | hz;exact a1m hgr (HSB9.out.blk 5 rfl) (by decide);exact a8v hgr (HBL.out z hz)))
       have HW9:Hid (SzW wo.heap.size w9):=zh (Nat.le_trans hsz hg9.size)
       have HT9:Hid (Grows w9 wo.heap.size 145 4 v9 (Q++[(⟨c,d⟩:Pt)]).length (flat Pt.enc (Q++[(⟨c,d⟩:Pt)]))):=zh (by rw[List.length_append];exact hown9)
       clear hown9 hg9 hgr hsz hsub HSB9 HSB8 x39 x40 x41 x42 x43 x44 x45 x46 x47 x48 x49 x50 x51 x52 x53 x54 x55 x56 x57 x58 x59 x60 x61 x62 x63 x64 x65
       go_wp2
       go_roundw
       case rel=>exact⟨k+1,_,_,by omega,by go_num,HGA.out (room_un HCP.out),by have:=HQL.out;rw[List.length_append,this];rfl,HZA.out,HT9.out,HW9.out,HSA.out⟩
       case measure=>simp[intOf];omega
      cases lb
      ·have x3:=cC HSB 1 0
       have x4:=HSB.out.lt 1 rfl
       have x5:¬w.heap.size+1=wr.heap.size:=by omega
       have x6:¬wr.heap.size=w.heap.size+1:=by omega
       have x7:b1<wr.heap.size:=Nat.lt_of_lt_of_le hb1 HSB.out.below.size
       have x8:¬b1=wr.heap.size:=by omega
       have x9:b3<wr.heap.size:=Nat.lt_of_lt_of_le hb3 HSB.out.below.size
       have x10:¬b3=wr.heap.size:=by omega
       have x11:=HXT.out _ HSB.out.below 0 _ rfl
       rw[Nat.add_zero]at x11
       obtain⟨x12,x13,x14⟩:=kE0 (HXP.out _ HSB.out.below) rfl rfl rfl
       have x15:=HXP.out _ HSB.out.below 3 _ rfl
       have x16:=HXP.out _ HSB.out.below 4 _ rfl
       go_wp2_with fail
       have HSB2:=aL HSB #[.int .i64 (c:Nat),.bool true,.bool x.cap.n,.string (bs x.cap.a),.string (bs x.cap.b)] 81 wr.heap.size
       refine cL (HFC.out _) HSB2 fun w3 HSB3=>?_
       clear HSB HSB2 x3 x4 x5 x6 x7 x8 x9 x10 x11 x12 x13 x14 x15 x16
       have x17:=cC HSB3 0 0
       have x18:=HSB3.out.lt 0 rfl
       have x19:¬wr.heap.size=w3.heap.size:=by omega
       have x20:¬w3.heap.size=wr.heap.size:=by omega
       go_wp2
       clear x17 x18 x19 x20
       refine a4m (R:=(_::_::⟨w.heap.size+1+1,(rowA ((D.map encT))),39⟩::_::_::(bt++bk))) (St.alloc (HSB3.out) #[.bool (negB (cv)),.string (bs (numB (cv))),.string (bs (a0a (cv)))] 39 (w3.heap.size) (by simp)) ?_
       intro wg4 hb
       have HSB4:=zh hb
       clear hb HSB3
       refine a0e 11 [.pointer (some ⟨wr.heap.size,1,none⟩),.bool true,.bool false,.bool false,.slice (some ⟨w.heap.size+1+1,0,none⟩) E.length E.length,.pointer (some ⟨wr.heap.size,0,none⟩),.int .i64 (c:Nat),.pointer (some ⟨w.heap.size+1+1,c*3,none⟩),.agg #[.bool (negB (d)),.string (bs (numB (d))),.string (bs (a0a (d)))],.agg #[.bool (negB (cv)),.string (bs (numB (cv))),.string (bs (a0a (cv)))],.bool false] rfl (by kernel_rfl) (by kernel_rfl) (by kernel_rfl) ?_ ?_
       refine⟨?_,?_,?_,?_,?_,?_,?_,?_,?_,?_,?_,trivial⟩<;>(intro xx af wv hbx hev hev0 hd;have H:=SH.mk hev hev0 hd;clear hev hev0 hd)
       ·have e11:=H.i 11;clear H;go_wp2;exact sQ rfl
       ·have e67:=H.r 0 67;clear H;have hs1:=zh (HSB4.out.call hbx);have y0:=cC hs1 1 1;go_wp2;exact sQ rfl
       ·have e68:=H.r 1 68;clear H;go_wp2;exact sQ rfl
       ·have e69:=H.r 2 69;clear H;go_wp2;exact sQ rfl
       ·have e70:=H.g 3 70;have e6:=H.i 6;have q70:=a0b e70;clear H;go_wp2;exact sQ rfl
       ·have e70:=H.g 3 70;have e11:=H.i 11;have q70:=a0b e70;clear H;go_wp2;exact sQ rfl
       ·have e70:=H.g 3 70;have e72:=H.r 5 72;have q70:=a0b e70;clear H;have hs1:=zh (HSB4.out.call hbx);have y0:=cC hs1 1 0;go_wp2;exact sQ rfl
       ·have e70:=H.g 3 70;have e71:=H.r 4 71;have e73:=H.r 6 73;have q70:=a0b e70;clear H;go_wp2;exact sQ rfl
       ·have e70:=H.g 3 70;have e74:=H.r 7 74;have q70:=a0b e70;clear H;have hs1:=zh (HSB4.out.call hbx);obtain⟨yr0,yr1,yr2⟩:=hs1.out.rowCells 2 rfl (HD1.out);go_wp2;exact sQ rfl
       ·have e70:=H.g 3 70;have e12:=H.i 12;have q70:=a0b e70;clear H;have hs1:=zh (HSB4.out.call hbx);obtain⟨y0,y1,y2⟩:=hs1.out.k0 0 rfl rfl rfl rfl;go_wp2;exact sQ rfl
       ·have e70:=(H.ev 3 _ 70 rfl rfl).trans (H.hd ⟨3,.chain⟩ (by simp) rfl);have e75:=H.r 8 75;have e76:=H.r 9 76;have q70:=a0b e70;clear H
        go_wp2_with fail
        refine(HLS.out _).mono ?_
        rintro e w8 ⟨rfl,hb8⟩;go_wp2;exact StepQ.mk _ hb8 rfl
       intro xx w6 hb9 hv
       simp only[List.take,List.drop,a0h,Act.put]
       simp only[vQ hv 0,vQ hv 1,vQ hv 2,vQ hv 3,vQ hv 4,vQ hv 5,vQ hv 6,vQ hv 7,vQ hv 8,vQ hv 9,vQ hv 10]
       clear hv
       have HSB6:=zh (HSB4.out.call hb9)
       clear hb9 HSB4
       go_wp2
       refine a0e 11 [.slice (some ⟨w.heap.size+1+1,0,none⟩) E.length E.length,.pointer (some ⟨wr.heap.size,0,none⟩),.int .i64 (c:Nat),.slice (some ⟨w.heap.size+1+1,0,none⟩) E.length E.length,.pointer (some ⟨wr.heap.size,0,none⟩),.int .i64 (c:Nat),.pointer (some ⟨w.heap.size+1+1,c*3,none⟩),.agg #[.bool (negB (d)),.string (bs (numB (d))),.string (bs (a0a (d)))],.agg #[.bool (negB (cv)),.string (bs (numB (cv))),.string (bs (a0a (cv)))],.agg #[.bool (negB (nc)),.string (bs (numB (nc))),.string (bs (a0a (nc)))],.pointer (some ⟨w.heap.size+1+1,c*3,none⟩)] rfl (by kernel_rfl) (by kernel_rfl) (by kernel_rfl) ?_ ?_
       refine⟨?_,?_,?_,?_,?_,?_,?_,?_,?_,?_,?_,trivial⟩<;>(intro xx af wv hbx hev hev0 hd;have H:=SH.mk hev hev0 hd;clear hev hev0 hd)
       ·have e6:=H.i 6;clear H;go_wp2;exact sQ rfl
       ·have e11:=H.i 11;clear H;go_wp2;exact sQ rfl
       ·have e85:=H.r 1 85;clear H;have hs1:=zh (HSB6.out.call hbx);have y0:=cC hs1 1 0;go_wp2;exact sQ rfl
       ·have e6:=H.i 6;clear H;go_wp2;exact sQ rfl
       ·have e11:=H.i 11;clear H;go_wp2;exact sQ rfl
       ·have e88:=H.r 4 88;clear H;have hs1:=zh (HSB6.out.call hbx);have y0:=cC hs1 1 0;go_wp2;exact sQ rfl
       ·have e87:=H.r 3 87;have e89:=H.r 5 89;clear H;go_wp2;exact sQ rfl
       ·have e90:=H.r 6 90;clear H;have hs1:=zh (HSB6.out.call hbx);obtain⟨yr0,yr1,yr2⟩:=hs1.out.rowCells 2 rfl (HD1.out);go_wp2;exact sQ rfl
       ·have e12:=H.i 12;clear H;have hs1:=zh (HSB6.out.call hbx);obtain⟨y0,y1,y2⟩:=hs1.out.k0 0 rfl rfl rfl rfl;go_wp2;exact sQ rfl
       ·have e91:=H.r 7 91;have e92:=H.r 8 92;clear H
        go_wp2_with fail
        refine(HIC.out _).mono ?_
        rintro e w8 ⟨rfl,hb8⟩;go_wp2;exact StepQ.mk _ hb8 rfl
       ·have e84:=H.r 0 84;have e86:=H.r 2 86;clear H;go_wp2;exact sQ rfl
       intro xx w7 hb9 hv
       simp only[List.take,List.drop,a0h,Act.put]
       simp only[vQ hv 0,vQ hv 1,vQ hv 2,vQ hv 3,vQ hv 4,vQ hv 5,vQ hv 6,vQ hv 7,vQ hv 8,vQ hv 9,vQ hv 10]
       clear hv
       have HSB7:=zh (HSB6.out.call hb9)
       clear hb9 HSB6
       have x21:=cC HSB7 1 0
       obtain⟨x22,x23,x24⟩:=HSB7.out.k0 0 rfl rfl rfl rfl
       obtain⟨x25,x26,x27⟩:=HSB7.out.rowCells 2 rfl (HD1.out)
       have x28:=HSB7.out.frozen 2 rfl (c*3)
       have x29:=HSB7.out.frozen 2 rfl (c*3+1)
       have x30:=HSB7.out.frozen 2 rfl (c*3+2)
       have x31:=cN HSB7 2 0
       have x32:=cN HSB7 0 2
       have x33:=cN HSB7 2 1
       have x34:=cN HSB7 1 2
       have x35:=cN HSB7 2 3
       have x36:=cN HSB7 3 2
       have x37:=cN HSB7 2 4
       have x38:=cN HSB7 4 2
       have x39:=HSB7.out.lt 1 rfl
       have x40:¬wr.heap.size=w7.heap.size:=by omega
       have x41:¬w7.heap.size=wr.heap.size:=by omega
       have x42:=HSB7.out.lt 0 rfl
       have x43:¬w3.heap.size=w7.heap.size:=by omega
       have x44:¬w7.heap.size=w3.heap.size:=by omega
       have x45:=HSB7.out.lt 2 rfl
       have x46:¬w.heap.size+1+1=w7.heap.size:=by omega
       have x47:¬w7.heap.size=w.heap.size+1+1:=by omega
       have HSB8:Hid (St w (⟨w7.heap.size,#[.int .i64 (c:Nat),.bool (negB (cv)),.string (bs (numB (cv))),.string (bs (a0a (cv)))],145⟩::⟨w3.heap.size,#[.bool (negB (cv)),.string (bs (numB (cv))),.string (bs (a0a (cv)))],39⟩::⟨wr.heap.size,#[.int .i64 (c:Nat),.bool true,.bool x.cap.n,.string (bs x.cap.a),.string (bs x.cap.b)],81⟩::⟨w.heap.size+1+1,(rowA (((D.map encT)).set c ⟨(negB (nc)),(numB (nc)),(a0a (nc))⟩)),39⟩::⟨w.heap.size+1,#[.slice (some ⟨b1,o1,none⟩) T.length ct],78⟩::⟨w.heap.size,#[.bool cn,.string (bs ca),.string (bs cb),.slice Ac E.length cc,.slice Aa A.length cx],44⟩::(bt++bk)) _):=zh (St.alloc ((St.setRow (HSB7.out) 2 rfl c ⟨(negB (nc)),(numB (nc)),(a0a (nc))⟩ HL1.out)) #[.int .i64 (c:Nat),.bool (negB (cv)),.string (bs (numB (cv))),.string (bs (a0a (cv)))] 145 (w7.heap.size) (by simp))
       have hgr:World.ownsRow _ wo.heap.size 145 4 u9 Q.length (flat Pt.enc Q):=HOW.out _ (HSB8.out.rds (fun r hr=>List.mem_cons_of_mem _ (List.mem_cons_of_mem _ (List.mem_cons_of_mem _ (List.mem_cons_of_mem _ (List.mem_cons_of_mem _ (List.mem_cons_of_mem _ (List.mem_append_left _ hr))))))))
       have hsz:=Nat.le_trans HW.out (Nat.le_of_lt (HSB8.out.lt 2 rfl))
       go_wp2_with (at_builtin;refine a1e _ rfl _ _ 143 rfl wo.heap.size 145 i0 _ 4 48 Tryz.underlying143 HI0.out HZ0.out hz1 hz2 rfl (by decide) a8t u9 Q.length Q (by simp[Act.eval]) hgr ⟨c,cv⟩ (w7.heap.size) _ (HSB8.out.blk 0 rfl) rfl (by simp[Act.eval]) (b1k _) (by have:=HQL.out;have:=LP.out;unfold maxLen;omega) (by have:=HQL.out;have:=LP.out;omega) hsz ?_)
       intro v9 w9 hown9 hg9
       have hsub:=HSB8.out.sub (List.Sublist.cons _ (List.Sublist.cons _ (List.Sublist.cons _ (List.Sublist.cons_cons _ (List.Sublist.cons_cons _ (List.Sublist.cons_cons _ (List.sublist_append_right bt bk)))))))
       rw[HMC.out]at hsub
       have HSA:Hid (St w (⟨w.heap.size+1+1,(rowA (((D.set c nc).map encT))),39⟩::⟨w.heap.size+1,#[.slice (some ⟨b1,o1,none⟩) T.length ct],78⟩::⟨w.heap.size,#[.bool cn,.string (bs ca),.string (bs cb),.slice Ac E.length cc,.slice Aa A.length cx],44⟩::bk) w9):=zh (hsub.turnedO hg9 (fun q hq=>Nat.le_trans HSW.out (World.ownsRow.lt hgr q hq).1) (fun z hz=>by rcases List.mem_cons.1 hz with rfl | hz;exact a1m hgr (HSB8.out.blk 3 rfl) (by decide);rcases List.mem_cons.1 hz with rfl | hz;exact a1m hgr (HSB8.out.blk 4 rfl) (by decide);rcases List.mem_cons.1 hz with rfl | hz;exact a1m hgr (HSB8.out.blk 5 rfl) (by decide);exact a8v hgr (HBL.out z hz)))
       have HW9:Hid (SzW wo.heap.size w9):=zh (Nat.le_trans hsz hg9.size)
       have HT9:Hid (Grows w9 wo.heap.size 145 4 v9 (Q++[(⟨c,cv⟩:Pt)]).length (flat Pt.enc (Q++[(⟨c,cv⟩:Pt)]))):=zh (by rw[List.length_append];exact hown9)
       clear hown9 hg9 hgr hsz hsub HSB8 HSB7 x21 x22 x23 x24 x25 x26 x27 x28 x29 x30 x31 x32 x33 x34 x35 x36 x37 x38 x39 x40 x41 x42 x43 x44 x45 x46 x47
       go_wp2
       go_roundw
       case rel=>exact⟨k+1,_,_,by omega,by go_num,HGC.out (room_cap HCP.out HLB.out HCV.out),by have:=HQL.out;rw[List.length_append,this];rfl,HZC.out,HT9.out,HW9.out,HSA.out⟩
       case measure=>simp[intOf];omega
      have x3:=cC HSB 1 0
      have x4:=HSB.out.lt 1 rfl
      have x5:¬w.heap.size+1=wr.heap.size:=by omega
      have x6:¬wr.heap.size=w.heap.size+1:=by omega
      have x7:b1<wr.heap.size:=Nat.lt_of_lt_of_le hb1 HSB.out.below.size
      have x8:¬b1=wr.heap.size:=by omega
      have x9:b3<wr.heap.size:=Nat.lt_of_lt_of_le hb3 HSB.out.below.size
      have x10:¬b3=wr.heap.size:=by omega
      have x11:=HXT.out _ HSB.out.below 0 _ rfl
      rw[Nat.add_zero]at x11
      obtain⟨x12,x13,x14⟩:=kE0 (HXP.out _ HSB.out.below) rfl rfl rfl
      have x15:=HXP.out _ HSB.out.below 3 _ rfl
      have x16:=HXP.out _ HSB.out.below 4 _ rfl
      go_wp2_with fail
      have HSB2:=aL HSB #[.int .i64 (c:Nat),.bool true,.bool x.cap.n,.string (bs x.cap.a),.string (bs x.cap.b)] 81 wr.heap.size
      refine cL (HFC.out _) HSB2 fun w3 HSB3=>?_
      clear HSB HSB2 x3 x4 x5 x6 x7 x8 x9 x10 x11 x12 x13 x14 x15 x16
      have x17:=cC HSB3 0 0
      have x18:=HSB3.out.lt 0 rfl
      have x19:¬wr.heap.size=w3.heap.size:=by omega
      have x20:¬w3.heap.size=wr.heap.size:=by omega
      go_wp2
      clear x17 x18 x19 x20
      refine a4m (R:=(_::_::⟨w.heap.size+1+1,(rowA ((D.map encT))),39⟩::_::_::(bt++bk))) (St.alloc (HSB3.out) #[.bool (negB (cv)),.string (bs (numB (cv))),.string (bs (a0a (cv)))] 39 (w3.heap.size) (by simp)) ?_
      intro wg4 hb
      have HSB4:=zh hb
      clear hb HSB3
      refine a0e 11 [.pointer (some ⟨wr.heap.size,1,none⟩),.bool true,.bool false,.bool false,.slice (some ⟨w.heap.size+1+1,0,none⟩) E.length E.length,.pointer (some ⟨wr.heap.size,0,none⟩),.int .i64 (c:Nat),.pointer (some ⟨w.heap.size+1+1,c*3,none⟩),.agg #[.bool (negB (d)),.string (bs (numB (d))),.string (bs (a0a (d)))],.agg #[.bool (negB (cv)),.string (bs (numB (cv))),.string (bs (a0a (cv)))],.bool true] rfl (by kernel_rfl) (by kernel_rfl) (by kernel_rfl) ?_ ?_
      refine⟨?_,?_,?_,?_,?_,?_,?_,?_,?_,?_,?_,trivial⟩<;>(intro xx af wv hbx hev hev0 hd;have H:=SH.mk hev hev0 hd;clear hev hev0 hd)
      ·have e11:=H.i 11;clear H;go_wp2;exact sQ rfl
      ·have e67:=H.r 0 67;clear H;have hs1:=zh (HSB4.out.call hbx);have y0:=cC hs1 1 1;go_wp2;exact sQ rfl
      ·have e68:=H.r 1 68;clear H;go_wp2;exact sQ rfl
      ·have e69:=H.r 2 69;clear H;go_wp2;exact sQ rfl
      ·have e70:=H.g 3 70;have e6:=H.i 6;have q70:=a0b e70;clear H;go_wp2;exact sQ rfl
      ·have e70:=H.g 3 70;have e11:=H.i 11;have q70:=a0b e70;clear H;go_wp2;exact sQ rfl
      ·have e70:=H.g 3 70;have e72:=H.r 5 72;have q70:=a0b e70;clear H;have hs1:=zh (HSB4.out.call hbx);have y0:=cC hs1 1 0;go_wp2;exact sQ rfl
      ·have e70:=H.g 3 70;have e71:=H.r 4 71;have e73:=H.r 6 73;have q70:=a0b e70;clear H;go_wp2;exact sQ rfl
      ·have e70:=H.g 3 70;have e74:=H.r 7 74;have q70:=a0b e70;clear H;have hs1:=zh (HSB4.out.call hbx);obtain⟨yr0,yr1,yr2⟩:=hs1.out.rowCells 2 rfl (HD1.out);go_wp2;exact sQ rfl
      ·have e70:=H.g 3 70;have e12:=H.i 12;have q70:=a0b e70;clear H;have hs1:=zh (HSB4.out.call hbx);obtain⟨y0,y1,y2⟩:=hs1.out.k0 0 rfl rfl rfl rfl;go_wp2;exact sQ rfl
      ·have e70:=(H.ev 3 _ 70 rfl rfl).trans (H.hd ⟨3,.chain⟩ (by simp) rfl);have e75:=H.r 8 75;have e76:=H.r 9 76;have q70:=a0b e70;clear H
       go_wp2_with fail
       refine(HLS.out _).mono ?_
       rintro e w8 ⟨rfl,hb8⟩;go_wp2;exact StepQ.mk _ hb8 rfl
      intro xx w6 hb9 hv
      simp only[List.take,List.drop,a0h,Act.put]
      simp only[vQ hv 0,vQ hv 1,vQ hv 2,vQ hv 3,vQ hv 4,vQ hv 5,vQ hv 6,vQ hv 7,vQ hv 8,vQ hv 9,vQ hv 10]
      clear hv
      have HSB6:=zh (HSB4.out.call hb9)
      clear hb9 HSB4
      have x21:=cC HSB6 1 0
      obtain⟨x22,x23,x24⟩:=HSB6.out.k0 0 rfl rfl rfl rfl
      obtain⟨x25,x26,x27⟩:=HSB6.out.f0 0 rfl
      obtain⟨x28,x29,x30⟩:=HSB6.out.rowCells 2 rfl (HD1.out)
      have x31:=cN HSB6 0 1
      have x32:=cN HSB6 1 0
      have x33:=cN HSB6 0 2
      have x34:=cN HSB6 2 0
      have x35:=cN HSB6 0 3
      have x36:=cN HSB6 3 0
      have x37:=cN HSB6 0 4
      have x38:=cN HSB6 4 0
      go_wp2
      clear x21 x22 x23 x24 x25 x26 x27 x28 x29 x30 x31 x32 x33 x34 x35 x36 x37 x38
      refine a4m (R:=(⟨w3.heap.size,#[.bool (negB (d)),.string (bs (numB (d))),.string (bs (a0a (d)))],39⟩::_::_::_::_::(bt++bk))) (St.set ((St.set ((St.set (HSB6.out) 0 rfl 0 _)) 0 rfl 1 _)) 0 rfl 2 _) ?_
      intro wg7 hb
      have HSB7:=zh hb
      clear hb HSB6
      refine a0e 11 [.slice (some ⟨w.heap.size+1+1,0,none⟩) E.length E.length,.pointer (some ⟨wr.heap.size,0,none⟩),.int .i64 (c:Nat),.slice (some ⟨w.heap.size+1+1,0,none⟩) E.length E.length,.pointer (some ⟨wr.heap.size,0,none⟩),.int .i64 (c:Nat),.pointer (some ⟨w.heap.size+1+1,c*3,none⟩),.agg #[.bool (negB (d)),.string (bs (numB (d))),.string (bs (a0a (d)))],.agg #[.bool (negB (d)),.string (bs (numB (d))),.string (bs (a0a (d)))],.agg #[.bool (negB (na)),.string (bs (numB (na))),.string (bs (a0a (na)))],.pointer (some ⟨w.heap.size+1+1,c*3,none⟩)] rfl (by kernel_rfl) (by kernel_rfl) (by kernel_rfl) ?_ ?_
      refine⟨?_,?_,?_,?_,?_,?_,?_,?_,?_,?_,?_,trivial⟩<;>(intro xx af wv hbx hev hev0 hd;have H:=SH.mk hev hev0 hd;clear hev hev0 hd)
      ·have e6:=H.i 6;clear H;go_wp2;exact sQ rfl
      ·have e11:=H.i 11;clear H;go_wp2;exact sQ rfl
      ·have e85:=H.r 1 85;clear H;have hs1:=zh (HSB7.out.call hbx);have y0:=cC hs1 1 0;go_wp2;exact sQ rfl
      ·have e6:=H.i 6;clear H;go_wp2;exact sQ rfl
      ·have e11:=H.i 11;clear H;go_wp2;exact sQ rfl
      ·have e88:=H.r 4 88;clear H;have hs1:=zh (HSB7.out.call hbx);have y0:=cC hs1 1 0;go_wp2;exact sQ rfl
      ·have e87:=H.r 3 87;have e89:=H.r 5 89;clear H;go_wp2;exact sQ rfl
      ·have e90:=H.r 6 90;clear H;have hs1:=zh (HSB7.out.call hbx);obtain⟨yr0,yr1,yr2⟩:=hs1.out.rowCells 2 rfl (HD1.out);go_wp2;exact sQ rfl
      ·have e12:=H.i 12;clear H;have hs1:=zh (HSB7.out.call hbx);obtain⟨y0,y1,y2⟩:=hs1.out.k0 0 rfl rfl rfl rfl;go_wp2;exact sQ rfl
      ·have e91:=H.r 7 91;have e92:=H.r 8 92;clear H
       go_wp2_with fail
       refine(HIA.out _).mono ?_
       rintro e w8 ⟨rfl,hb8⟩;go_wp2;exact StepQ.mk _ hb8 rfl
      ·have e84:=H.r 0 84;have e86:=H.r 2 86;clear H;go_wp2;exact sQ rfl
      intro xx w8 hb9 hv
      simp only[List.take,List.drop,a0h,Act.put]
      simp only[vQ hv 0,vQ hv 1,vQ hv 2,vQ hv 3,vQ hv 4,vQ hv 5,vQ hv 6,vQ hv 7,vQ hv 8,vQ hv 9,vQ hv 10]
      clear hv
      have HSB8:=zh (HSB7.out.call hb9)
      clear hb9 HSB7
      have x39:=cC HSB8 1 0
      obtain⟨x40,x41,x42⟩:=HSB8.out.k0 0 rfl rfl rfl rfl
      obtain⟨x43,x44,x45⟩:=HSB8.out.rowCells 2 rfl (HD1.out)
      have x46:=HSB8.out.frozen 2 rfl (c*3)
      have x47:=HSB8.out.frozen 2 rfl (c*3+1)
      have x48:=HSB8.out.frozen 2 rfl (c*3+2)
      have x49:=cN HSB8 2 0
      have x50:=cN HSB8 0 2
      have x51:=cN HSB8 2 1
      have x52:=cN HSB8 1 2
      have x53:=cN HSB8 2 3
      have x54:=cN HSB8 3 2
      have x55:=cN HSB8 2 4
      have x56:=cN HSB8 4 2
      have x57:=HSB8.out.lt 1 rfl
      have x58:¬wr.heap.size=w8.heap.size:=by omega
      have x59:¬w8.heap.size=wr.heap.size:=by omega
      have x60:=HSB8.out.lt 0 rfl
      have x61:¬w3.heap.size=w8.heap.size:=by omega
      have x62:¬w8.heap.size=w3.heap.size:=by omega
      have x63:=HSB8.out.lt 2 rfl
      have x64:¬w.heap.size+1+1=w8.heap.size:=by omega
      have x65:¬w8.heap.size=w.heap.size+1+1:=by omega
      have HSB9:Hid (St w (⟨w8.heap.size,#[.int .i64 (c:Nat),.bool (negB (d)),.string (bs (numB (d))),.string (bs (a0a (d)))],145⟩::⟨w3.heap.size,#[.bool (negB (d)),.string (bs (numB (d))),.string (bs (a0a (d)))],39⟩::⟨wr.heap.size,#[.int .i64 (c:Nat),.bool true,.bool x.cap.n,.string (bs x.cap.a),.string (bs x.cap.b)],81⟩::⟨w.heap.size+1+1,(rowA (((D.map encT)).set c ⟨(negB (na)),(numB (na)),(a0a (na))⟩)),39⟩::⟨w.heap.size+1,#[.slice (some ⟨b1,o1,none⟩) T.length ct],78⟩::⟨w.heap.size,#[.bool cn,.string (bs ca),.string (bs cb),.slice Ac E.length cc,.slice Aa A.length cx],44⟩::(bt++bk)) _):=zh (St.alloc ((St.setRow (HSB8.out) 2 rfl c ⟨(negB (na)),(numB (na)),(a0a (na))⟩ HL1.out)) #[.int .i64 (c:Nat),.bool (negB (d)),.string (bs (numB (d))),.string (bs (a0a (d)))] 145 (w8.heap.size) (by simp))
      have hgr:World.ownsRow _ wo.heap.size 145 4 u9 Q.length (flat Pt.enc Q):=HOW.out _ (HSB9.out.rds (fun r hr=>List.mem_cons_of_mem _ (List.mem_cons_of_mem _ (List.mem_cons_of_mem _ (List.mem_cons_of_mem _ (List.mem_cons_of_mem _ (List.mem_cons_of_mem _ (List.mem_append_left _ hr))))))))
      have hsz:=Nat.le_trans HW.out (Nat.le_of_lt (HSB9.out.lt 2 rfl))
      go_wp2_with (at_builtin;refine a1e _ rfl _ _ 143 rfl wo.heap.size 145 i0 _ 4 48 Tryz.underlying143 HI0.out HZ0.out hz1 hz2 rfl (by decide) a8t u9 Q.length Q (by simp[Act.eval]) hgr ⟨c,d⟩ (w8.heap.size) _ (HSB9.out.blk 0 rfl) rfl (by simp[Act.eval]) (b1k _) (by have:=HQL.out;have:=LP.out;unfold maxLen;omega) (by have:=HQL.out;have:=LP.out;omega) hsz ?_)
      intro v9 w9 hown9 hg9
      have hsub:=HSB9.out.sub (List.Sublist.cons _ (List.Sublist.cons _ (List.Sublist.cons _ (List.Sublist.cons_cons _ (List.Sublist.cons_cons _ (List.Sublist.cons_cons _ (List.sublist_append_right bt bk)))))))
      rw[HMA.out]at hsub
      have HSA:Hid (St w (⟨w.heap.size+1+1,(rowA (((D.set c na).map encT))),39⟩::⟨w.heap.size+1,#[.slice (some ⟨b1,o1,none⟩) T.length ct],78⟩::⟨w.heap.size,#[.bool cn,.string (bs ca),.string (bs cb),.slice Ac E.length cc,.slice Aa A.length cx],44⟩::bk) w9):=zh (hsub.turnedO hg9 (fun q hq=>Nat.le_trans HSW.out (World.ownsRow.lt hgr q hq).1) (fun z hz=>by rcases List.mem_cons.1 hz with rfl | hz;exact a1m hgr (HSB9.out.blk 3 rfl) (by decide);rcases List.mem_cons.1 hz with rfl | hz;exact a1m hgr (HSB9.out.blk 4 rfl) (by decide);rcases List.mem_cons.1 hz with rfl | hz;exact a1m hgr (HSB9.out.blk 5 rfl) (by decide);exact a8v hgr (HBL.out z hz)))
      have HW9:Hid (SzW wo.heap.size w9):=zh (Nat.le_trans hsz hg9.size)
      have HT9:Hid (Grows w9 wo.heap.size 145 4 v9 (Q++[(⟨c,d⟩:Pt)]).length (flat Pt.enc (Q++[(⟨c,d⟩:Pt)]))):=zh (by rw[List.length_append];exact hown9)
      clear hown9 hg9 hgr hsz hsub HSB9 HSB8 x39 x40 x41 x42 x43 x44 x45 x46 x47 x48 x49 x50 x51 x52 x53 x54 x55 x56 x57 x58 x59 x60 x61 x62 x63 x64 x65
      go_wp2
      go_roundw
      case rel=>exact⟨k+1,_,_,by omega,by go_num,HGA.out (room_lt HLB.out HCV.out),by have:=HQL.out;rw[List.length_append,this];rfl,HZA.out,HT9.out,HW9.out,HSA.out⟩
      case measure=>simp[intOf];omega
     have hke:k=P.length:=by omega
     rw[hke]at HQD HDZ ⊢
     have hql:Q.length<=8:=by have:=HQL.out;have:=LP.out;omega
     have HQ8:=zh hql
     rw[List.take_length]at HQD
     have j2:decide (((P.length:Nat):Int)<(P.length:Int))=false:=decide_eq_false (by omega)
     have HGO:=zh (tiers_go HPT.out HTQ.out HQD.out)
     obtain⟨Ao,co,hu9,_,_⟩:=Slc.slice (Slc.of_own a8t HTO.out rfl)
     subst hu9
     clear hke hk hkn hql
     have x3:=cC HS 1 0
     have x4:=HS.out.lt 1 rfl
     have x5:¬w.heap.size+1=wr.heap.size:=by omega
     have x6:¬wr.heap.size=w.heap.size+1:=by omega
     have x7:b1<wr.heap.size:=Nat.lt_of_lt_of_le hb1 HS.out.below.size
     have x8:¬b1=wr.heap.size:=by omega
     have x9:=HXT.out _ HS.out.below 0 _ rfl
     rw[Nat.add_zero]at x9
     have HS2:=aL HS #[.slice Ao Q.length co] 143 wr.heap.size
     have hgr:World.ownsRow _ wo.heap.size 145 4 (.slice Ao Q.length co) Q.length (flat Pt.enc Q):=(HTO.out.below (Ext.alloc (Below.refl wr.heap.size wr) (Obj.cells #[.slice Ao Q.length co] 143)))
     have hU:=HBK.out _ (HS2.out.rds (fun r hr=>List.mem_cons_of_mem _ (List.mem_cons_of_mem _ (List.mem_cons_of_mem _ (List.mem_cons_of_mem _ (hr))))))
     have hul:us.length<=8:=by rw[hU.len];have:=HLL.out;have:=LT.out;omega
     go_wp2_with (at_builtin;refine wpList_append_own _ rfl _ _ 112 rfl w.heap.size 143 i2 _ 1 24 Tryz.underlying112 HI2.out HZ2.out z21 z22 rfl (by decide) u5 us.length us (by simp[Act.eval]) hU.out ⟨wr.heap.size,0,none⟩ 1 1 [.slice Ao Q.length co] (by simp[Act.eval]) rfl (c1c (HS2.out.blk 0 rfl) rfl) (fun u hu=>by rw[List.mem_singleton.1 hu];rfl) (by unfold maxLen;omega) (by omega) HS2.out.below.size ?_)
     intro v9 w9 hown9 hg9 _
     have HG9:=zh (TroU.put hU (a6m hgr HSW.out) (TroU.young HU0.out (Nat.le_refl _) hgr) hown9 hg9)
     have HSA:Hid (St w [⟨w.heap.size+1+1,(rowA ((D.map encT))),39⟩,⟨w.heap.size+1,#[.slice (some ⟨b1,o1,none⟩) T.length ct],78⟩,⟨w.heap.size,#[.bool cn,.string (bs ca),.string (bs cb),.slice Ac E.length cc,.slice Aa A.length cx],44⟩] w9):=zh ((HS2.out.sub (List.Sublist.cons _ (List.Sublist.cons_cons _ (List.Sublist.cons_cons _ (List.Sublist.cons_cons _ (List.nil_sublist _)))))).turnedO hg9 (fun q hq=>(World.ownsRow.lt hU.out q hq).1) (fun z hz=>by simp only[List.mem_cons,List.mem_nil_iff,or_false]at hz;rcases hz with rfl | rfl | rfl;exact a1m hU.out (HS2.out.blk 1 rfl) (by decide);exact a1m hU.out (HS2.out.blk 2 rfl) (by decide);exact a1m hU.out (HS2.out.blk 3 rfl) (by decide)))
     clear hown9 hg9 hgr hU HS2 HS HTO x3 x4 x5 x6 x7 x8 x9
     go_wp2
     go_roundw
     case rel=>exact⟨t+1,_,_,by omega,by go_num,HGO.out,by have:=HLL.out;rw[List.length_append,this];rfl,HDZ.out.mono (by have:=LP.out;omega),HG9.out,HSA.out⟩
     case measure=>simp[intOf];omega
   have hte:t=T.length:=by omega
   rw[hte]at HTQ HLL ⊢
   have f2:decide (((T.length:Nat):Int)<(T.length:Int))=false:=decide_eq_false (by omega)
   obtain⟨us,bk,hU0,hSX,_,hBK,hTY⟩:=Tro.beside HG.out HS.out (Nat.le_refl _) (fun x hx=>by simp only[List.mem_cons,List.mem_nil_iff,or_false]at hx;rcases hx with rfl | rfl | rfl;exact⟨by show 39≠145;decide,by show 39≠143;decide⟩;exact⟨by show 78≠145;decide,by show 78≠143;decide⟩;exact⟨by show 44≠145;decide,by show 44≠143;decide⟩)
   have HSX:Hid (St w (⟨w.heap.size+1+1,(rowA ((D0.map encT))),39⟩::⟨w.heap.size+1,#[.slice At T.length ct],78⟩::_::bk) wo):=zh hSX
   have HU0:=zh hU0
   have HBK:=zh hBK
   have HBL:Hid (∀x∈bk,x.g<wo.heap.size):=zh fun x hx=>(HSX.out.ok x (List.mem_cons_of_mem _ (List.mem_cons_of_mem _ (List.mem_cons_of_mem _ hx)))).1.lt
   have HSW:Hid (w.heap.size<=wo.heap.size):=zh HS.out.below.size
   have HALL:=zh (all_eq HA0.out HTQ.out)
   clear hU0 hSX hBK HG HS hTY hte ht htn
   have x2:=cC HSX 1 0
   go_wp2
   go_loopw [13,14] (fun l_ i_ wr=>∃i:Nat,i<=E.length/\i_=.int .i64 i/\Hid (Grows wr wo.heap.size 145 4 l_ (a6y T D0 i).length (flat Pt.enc (a6y T D0 i)))/\Hid (SzW wo.heap.size wr)/\Hid (St w (⟨w.heap.size+1+1,(rowA ((D0.map encT))),39⟩::⟨w.heap.size+1,#[.slice At T.length ct],78⟩::⟨w.heap.size,#[.bool cn,.string (bs ca),.string (bs cb),.slice Ac E.length cc,.slice Aa A.length cx],44⟩::bk) wr)) (fun _ i_ _=>E.length-(intOf i_).toNat)
   case atStart=>exact⟨0,Nat.zero_le _,rfl,World.ownsRow_nil _ _ _ _,Nat.le_refl _,HSX.out⟩
   case round =>
    clear HSX
    obtain⟨i,hi,rfl,HTO,HW,HS⟩:=hrel
    by_cases hin:i<E.length
    ·obtain⟨d,hd,_⟩:=HLZ.out.at_ hin
     have HD1:=zh (a5j hd)
     have HL1:Hid (i<(D0.map encT).length):=zh (by rw[List.length_map,HLZ.out.len];exact hin)
     have hmb:=HMEM.out i
     have hyes:=fun h=>last_yes (T:=T) (k:=i) h hd
     have hno:=fun h=>last_no (T:=T) (D:=D0) (k:=i) h
     obtain⟨mb,hmq⟩:∃b,b=memB T ((i:Nat):Int):=⟨_,rfl⟩
     rw[<- hmq]at hmb hyes hno
     have HMB:=zh hmb
     have HYES:=zh hyes
     have HNO:=zh hno
     have hlen:=c7b T D0 i
     have HLEN:=zh hlen
     have e0:(0:Int)<=((i:Nat):Int):=by omega
     have e1:((i:Nat):Int)<(E.length:Int):=by omega
     have e2:decide (((i:Nat):Int)<(E.length:Int))=true:=decide_eq_true e1
     have e5:IntKind.i64.wrap ((i:Int)+1)=((i+1:Nat):Int):=by have:=LN.out;rw[IntWalk.i64_in _ (by omega)];rfl
     clear hd hmb hyes hno hmq hlen
     cases mb
     ·have x3:=cC HS 2 3
      have x4:=cC HS 1 0
      go_wp2_with fail
      refine(HMB.out _ HS.out.below).mono ?_
      rintro e w2 ⟨rfl,hb2⟩
      have HS2:=zh (HS.out.call hb2)
      have HT_2:=zh (HTO.out.below hb2)
      clear HTO
      have HW_2:=zh (HW.out.below hb2)
      clear HW hb2 HS x3 x4
      go_wp2
      have HN:=zh (HNO.out (by simp))
      go_roundw
      case rel=>exact⟨i+1,by omega,by go_num,by show Grows _ _ _ _ _ _ _;rw[HN.out];exact HT_2.out,HW_2.out,HS2.out⟩
      case measure=>simp[intOf];omega
     have x3:=cC HS 2 3
     have x4:=cC HS 1 0
     go_wp2_with fail
     refine(HMB.out _ HS.out.below).mono ?_
     rintro e w2 ⟨rfl,hb2⟩
     have HS2:=zh (HS.out.call hb2)
     have HT_2:=zh (HTO.out.below hb2)
     clear HTO
     have HW_2:=zh (HW.out.below hb2)
     clear HW hb2 HS x3 x4
     obtain⟨x5,x6,x7⟩:=HS2.out.rowCells 0 rfl (HD1.out)
     have x8:=HS2.out.lt 0 rfl
     have x9:¬w.heap.size+1+1=w2.heap.size:=by omega
     have x10:¬w2.heap.size=w.heap.size+1+1:=by omega
     have HS3:=aL HS2 #[.int .i64 (i:Nat),.bool (negB (d)),.string (bs (numB (d))),.string (bs (a0a (d)))] 145 w2.heap.size
     have HY:=zh (HYES.out (by simp))
     have hgr:World.ownsRow _ wo.heap.size 145 4 u13 (a6y T D0 i).length (flat Pt.enc (a6y T D0 i)):=(HT_2.out.below (Ext.alloc (Below.refl w2.heap.size w2) (Obj.cells #[.int .i64 (i:Nat),.bool (negB (d)),.string (bs (numB (d))),.string (bs (a0a (d)))] 145)))
     have hsz:SzW wo.heap.size _:=(HW_2.out.below (Ext.alloc (Below.refl w2.heap.size w2) (Obj.cells #[.int .i64 (i:Nat),.bool (negB (d)),.string (bs (numB (d))),.string (bs (a0a (d)))] 145)))
     go_wp2_with (at_builtin;refine a1e _ rfl _ _ 143 rfl wo.heap.size 145 i0 _ 4 48 Tryz.underlying143 HI0.out HZ0.out hz1 hz2 rfl (by decide) a8t u13 (a6y T D0 i).length (a6y T D0 i) (by simp[Act.eval]) hgr ⟨i,d⟩ (w2.heap.size) _ (HS3.out.blk 0 rfl) rfl (by simp[Act.eval]) (b1k _) (by have:=LN.out;have:=HLEN.out;unfold maxLen;omega) (by have:=LN.out;have:=HLEN.out;omega) hsz ?_)
     intro v9 w9 hown9 hg9
     have HSA:Hid (St w (⟨w.heap.size+1+1,(rowA ((D0.map encT))),39⟩::⟨w.heap.size+1,#[.slice At T.length ct],78⟩::⟨w.heap.size,#[.bool cn,.string (bs ca),.string (bs cb),.slice Ac E.length cc,.slice Aa A.length cx],44⟩::bk) w9):=zh ((HS3.out.sub (List.Sublist.cons _ (List.Sublist.cons_cons _ (List.Sublist.cons_cons _ (List.Sublist.cons_cons _ (List.Sublist.refl _)))))).turnedO hg9 (fun q hq=>Nat.le_trans HSW.out (World.ownsRow.lt hgr q hq).1) (fun z hz=>by rcases List.mem_cons.1 hz with rfl | hz;exact a1m hgr (HS3.out.blk 1 rfl) (by decide);rcases List.mem_cons.1 hz with rfl | hz;exact a1m hgr (HS3.out.blk 2 rfl) (by decide);rcases List.mem_cons.1 hz with rfl | hz;exact a1m hgr (HS3.out.blk 3 rfl) (by decide);exact a8v hgr (HBL.out z hz)))
     have hlt9:=hg9.size
     have HW9:Hid (SzW wo.heap.size w9):=zh (Nat.le_trans hsz hlt9)
     have HT9:Hid (Grows w9 wo.heap.size 145 4 v9 (a6y T D0 (i+1)).length (flat Pt.enc (a6y T D0 (i+1)))):=zh (by rw[HY.out,List.length_append];exact hown9)
     clear hown9 hg9 hgr hlt9 hsz HS3 HS2 HT_2 HW_2 x5 x6 x7 x8 x9 x10
     go_wp2
     go_roundw
     case rel=>exact⟨i+1,by omega,by go_num,HT9.out,HW9.out,HSA.out⟩
     case measure=>simp[intOf];omega
    have hie:i=E.length:=by omega
    rw[hie]at HTO ⊢
    have e2:decide (((E.length:Nat):Int)<(E.length:Int))=false:=decide_eq_false (by omega)
    obtain⟨P,hP⟩:∃P,P=a6y T D0 E.length:=⟨_,rfl⟩
    rw[<- hP]at HTO HALL
    obtain⟨Ao,co,hu13,_,_⟩:=Slc.slice (Slc.of_own a8t HTO.out rfl)
    subst hu13
    clear hP hie hi hin
    have x3:=cC HS 2 3
    have x4:=HS.out.lt 2 rfl
    have x5:¬w.heap.size=wr.heap.size:=by omega
    have x6:¬wr.heap.size=w.heap.size:=by omega
    have HS2:=aL HS #[.slice Ao P.length co] 143 wr.heap.size
    have hgr:World.ownsRow _ wo.heap.size 145 4 (.slice Ao P.length co) P.length (flat Pt.enc P):=(HTO.out.below (Ext.alloc (Below.refl wr.heap.size wr) (Obj.cells #[.slice Ao P.length co] 143)))
    have hU:=HBK.out _ (HS2.out.rds (fun r hr=>List.mem_cons_of_mem _ (List.mem_cons_of_mem _ (List.mem_cons_of_mem _ (List.mem_cons_of_mem _ (hr))))))
    have hul:us.length<=8:=by rw[hU.len];have:=HLL.out;have:=LT.out;omega
    go_wp2_with (at_builtin;refine wpList_append_own _ rfl _ _ 112 rfl w.heap.size 143 i2 _ 1 24 Tryz.underlying112 HI2.out HZ2.out z21 z22 rfl (by decide) u5 us.length us (by simp[Act.eval]) hU.out ⟨wr.heap.size,0,none⟩ 1 1 [.slice Ao P.length co] (by simp[Act.eval]) rfl (c1c (HS2.out.blk 0 rfl) rfl) (fun u hu=>by rw[List.mem_singleton.1 hu];rfl) (by unfold maxLen;omega) (by omega) HS2.out.below.size ?_)
    intro v9 w9 hown9 hg9 _
    have HG9:=zh (TroU.put hU (a6m hgr HSW.out) (TroU.young HU0.out (Nat.le_refl _) hgr) hown9 hg9)
    have HSA:Hid (St w [⟨w.heap.size+1+1,(rowA ((D0.map encT))),39⟩,⟨w.heap.size+1,#[.slice At T.length ct],78⟩,⟨w.heap.size,#[.bool cn,.string (bs ca),.string (bs cb),.slice Ac E.length cc,.slice Aa A.length cx],44⟩] w9):=zh ((HS2.out.sub (List.Sublist.cons _ (List.Sublist.cons_cons _ (List.Sublist.cons_cons _ (List.Sublist.cons_cons _ (List.nil_sublist _)))))).turnedO hg9 (fun q hq=>(World.ownsRow.lt hU.out q hq).1) (fun z hz=>by simp only[List.mem_cons,List.mem_nil_iff,or_false]at hz;rcases hz with rfl | rfl | rfl;exact a1m hU.out (HS2.out.blk 1 rfl) (by decide);exact a1m hU.out (HS2.out.blk 2 rfl) (by decide);exact a1m hU.out (HS2.out.blk 3 rfl) (by decide)))
    clear hown9 hg9 hgr hU HS2 HS HTO x3 x4 x5 x6
    go_wp2
    go_ret
    exact⟨_,rfl,by rw[HALL.out];exact HG9.out,HSA.out.below⟩
end Go.Proofs.YtjmiicjialkpiaaGreatDoor
