/-
Part 33 of the base.
-/
import Derived.Test.YtjmiicjialkpiaaGreatDoorRf32
set_option maxRecDepth 100000
set_option maxHeartbeats 8000000
namespace Go.Proofs.YtjmiicjialkpiaaGreatDoor
open Go.RowKit
theorem d0f{n i:Nat}{F F2:Nat->Bool}{M:Nat->Bool}(h:∀j,j<n->F2 j=(F j||(decide (j<i)&&M j)))(hm:M i=true):∀j,j<n->putA F2 i true j=(F j||(decide (j<i+1)&&M j)):=by
 intro j hj
 unfold putA
 by_cases e:j=i
 ·rw[if_pos e,e,hm,decide_eq_true (Nat.lt_succ_self i)];simp
 rw[if_neg e,h j hj]
 by_cases hl:j<i
 ·rw[decide_eq_true hl,decide_eq_true (show j<i+1 by omega)]
 rw[decide_eq_false hl,decide_eq_false (show ¬j<i+1 by omega)]
theorem put_no{n i:Nat}{F F2:Nat->Bool}{M:Nat->Bool}(h:∀j,j<n->F2 j=(F j||(decide (j<i)&&M j)))(hm:M i=false):∀j,j<n->F2 j=(F j||(decide (j<i+1)&&M j)):=by
 intro j hj
 rw[h j hj]
 by_cases e:j=i
 ·rw[e,hm];simp
 by_cases hl:j<i
 ·rw[decide_eq_true hl,decide_eq_true (show j<i+1 by omega)]
 rw[decide_eq_false hl,decide_eq_false (show ¬j<i+1 by omega)]
theorem d0g{A:List (List (List Prt))}{T:List (List Prt)}{k n:Nat}{F F2:Nat->Bool}(hT:A[k]? =some T)(hF:∀j,j<n->F j=a7r (A.take k) j)(h:∀j,j<n->F2 j=(F j||(decide (j<n)&&memB T ((j:Nat):Int)))):∀j,j<n->F2 j=a7r (A.take (k+1)) j:=by
 intro j hj
 rw[h j hj,hF j hj,d0n hT,decide_eq_true hj,Bool.true_and]
theorem b9w(cn:Bool)(ca cb:List UInt8)(vc va:Value)(E:List Clm)(A:List (List (List Prt)))(m:Rat)(w:World)(hE:ClmL w vc E)(hA:AgrL w va A)(hO:EOk E)(hTO:∀T∈A,TOk E.length T)(hA8:A.length<=8)(hm:Sized 16 m)(hm0:0<=m) :
  Calls Tryz.prog 26 #[.agg #[.bool cn,.string (bs ca),.string (bs cb),vc,va],rat m] w fun e w'=>∃ (g gg gs:Nat) (ρ:Rat) (b:Bool) (D E':List Rat),e=.returned (.pointer (some ⟨g,0,none⟩))/\DlvR E A D/\(∀y∈D,Sized 1131783001 y)/\St w (sB g gg gs E.length ρ b D E' []) w':=by
 have hn:=hO.len
 have hmk:=a5u E.length (by omega)
 have HGR:=zh (fun W (hb:Below w.heap.size w W)=>c4f cn ca cb vc va E A m W (hE.below hb) (hA.below hb) hn (fun c hc=>⟨(hO.raw c hc).1,(hO.raw c hc).2,hO.sz c hc⟩) hm)
 have HTI:=zh (show ∀ (vt:Value) (T:List (List Prt)),T∈A->TierL w vt T->∀W (_:Below w.heap.size w W),Calls Tryz.prog 56 #[.agg #[.bool cn,.string (bs ca),.string (bs cb),vc,va],.agg #[vt]] W (fun e w'=>∃v,e=.returned v/\Tro w' w.heap.size v (allT E T)/\Below W.heap.size W w')from fun vt T hT hv W hb=>(c4d cn ca cb vc va E A vt T 16 W (hE.below hb) (hA.below hb) (hv.below hb) (by omega) (fun c hc=>⟨(hO.raw c hc).1,(hO.raw c hc).2,hO.sz c hc⟩) (hTO T hT).len (fun P hP=>⟨(hTO T hT).tier P hP,fun x hx=>⟨(hTO T hT).cl P hP x hx,((hTO T hT).raw P hP x hx).1,((hTO T hT).raw P hP x hx).2,(hTO T hT).sz P hP x hx⟩⟩) (by decide) (by decide)).mono fun e w' ⟨v,h1,h2,h3⟩=>⟨v,h1,h2.mono hb.size,h3⟩)
 have HMEM:=zh (fun(vt:Value) (T:List (List Prt)) (hv:TierL w vt T) (i:Nat) W (hb:Below w.heap.size w W)=>a8r vt T ((i:Nat):Int) W (hv.below hb))
 have HEM:=zh (fun W=>b5j E.length W (by omega))
 have HD1P:=d2b hO hm0
 have HFT:=zh (fun T hT=>c1d hO (hTO T hT))
 obtain⟨Ac,cc,rfl,_,_⟩:=Slc.slice hE
 obtain⟨Aa,cx,rfl,_,_⟩:=NstL.slice hA
 obtain⟨D1,hD1⟩:∃D,D=a1u (a4t E) m (List.replicate E.length 0):=⟨_,rfl⟩
 rw[<- hD1]at HGR HD1P
 have HD1P:=zh HD1P
 have HA:=zh hA
 have LN:=zh hn
 have LA:=zh hA8
 have HZZ:=zh (c5s 1 1886304 E.length (Nat.le_refl _))
 obtain⟨ZZ,hZZ⟩:∃Z,Z=List.replicate E.length (0:Rat):=⟨_,rfl⟩
 have HDN:Hid (Dls E [] ZZ):=zh (by rw[hZZ];exact Dls.nil)
 rw[<- hZZ]at HEM HZZ
 clear hE hA hn hO hTO hA8 hm hm0 hD1 hZZ
 unfold rat raw at HGR ⊢
 go_enter Tryz.func26,Tryz.ntmps26
 have HS:=zh (St.start w)
 go_wp2_with fail
 have HS2:=aL (aL HS #[.bool cn,.string (bs ca),.string (bs cb),.slice Ac E.length cc,.slice Aa A.length cx] 44 w.heap.size) #[.bool (negB (m)),.string (bs (numB (m))),.string (bs (a0a (m)))] 39 (w.heap.size+1)
 refine(HGR.out _ HS2.out.below).mono ?_
 rintro e w3 ⟨g1,gg1,gs1,ρ1,b1,E1,rfl,hZ1,hq3⟩
 have hst3:=St.join HS2.out hq3
 have HZ1:=zh hZ1
 clear hq3 hZ1
 have HS3:Hid (St w [⟨g1,#[.slice (some ⟨gg1,0,none⟩) E.length E.length,.slice (some ⟨gs1,0,none⟩) E.length E.length,.bool false,.string (bs []),.string (bs []),.bool false,.string (bs []),.string (bs []),.bool (negB (ρ1)),.string (bs (numB (ρ1))),.string (bs (a0a (ρ1))),.bool b1],87⟩,⟨gg1,(rowA ((D1.map encT))),39⟩,⟨gs1,(rowA ((E1.map encT))),39⟩,⟨w.heap.size+1,#[.bool (negB (m)),.string (bs (numB (m))),.string (bs (a0a (m)))],39⟩,⟨w.heap.size,#[.bool cn,.string (bs ca),.string (bs cb),.slice Ac E.length cc,.slice Aa A.length cx],44⟩] w3):=zh hst3
 clear hst3 HS HS2
 have x1:=cC HS3 4 3
 go_wp2_with fail
 refine(HEM.out _).mono ?_
 rintro e w4 ⟨g2,gg2,gs2,rfl,hq4⟩
 have hst4:=St.join HS3.out hq4
 clear hq4
 have HS4:Hid (St w [⟨g2,#[.slice (some ⟨gg2,0,none⟩) E.length E.length,.slice (some ⟨gs2,0,none⟩) E.length E.length,.bool false,.string (bs []),.string (bs []),.bool false,.string (bs []),.string (bs []),.bool (negB (0)),.string (bs (numB (0))),.string (bs (a0a (0))),.bool false],87⟩,⟨gg2,(rowA ((ZZ.map encT))),39⟩,⟨gs2,(rowA ((ZZ.map encT))),39⟩,⟨g1,#[.slice (some ⟨gg1,0,none⟩) E.length E.length,.slice (some ⟨gs1,0,none⟩) E.length E.length,.bool false,.string (bs []),.string (bs []),.bool false,.string (bs []),.string (bs []),.bool (negB (ρ1)),.string (bs (numB (ρ1))),.string (bs (a0a (ρ1))),.bool b1],87⟩,⟨gg1,(rowA ((D1.map encT))),39⟩,⟨gs1,(rowA ((E1.map encT))),39⟩,⟨w.heap.size+1,#[.bool (negB (m)),.string (bs (numB (m))),.string (bs (a0a (m)))],39⟩,⟨w.heap.size,#[.bool cn,.string (bs ca),.string (bs cb),.slice Ac E.length cc,.slice Aa A.length cx],44⟩] w4):=zh hst4
 clear hst4 HS3 x1
 have x2:=cC HS4 3 11
 go_upto_if 23 with fail
 clear x2
 cases b1
 ·have x3:=cC HS4 7 3
  have x4:=HS4.out.lt 7 rfl
  have x5:¬w.heap.size=w4.heap.size:=by omega
  have x6:¬w4.heap.size=w.heap.size:=by omega
  go_wp2
  have HS5:=aL HS4 (rowE (.bool) E.length (fun _=>false)) 4 w4.heap.size
  go_loopw [8] (fun k_ wr=>∃ (k:Nat) (ρ2:Rat) (b2:Bool) (D2 E2:List Rat) (F:Nat->Bool),k<=A.length/\k_=.int .i64 k/\Hid (Dls E (A.take k) D2)/\Hid (PSz 1 1886304 E.length (72*k) D2 E2 ρ2)/\Hid (∀j,j<E.length->F j=a7r (A.take k) j)/\Hid (St w [⟨w4.heap.size,(rowE (.bool) E.length F),4⟩,⟨g2,#[.slice (some ⟨gg2,0,none⟩) E.length E.length,.slice (some ⟨gs2,0,none⟩) E.length E.length,.bool false,.string (bs []),.string (bs []),.bool false,.string (bs []),.string (bs []),.bool (negB (ρ2)),.string (bs (numB (ρ2))),.string (bs (a0a (ρ2))),.bool b2],87⟩,⟨gg2,(rowA ((D2.map encT))),39⟩,⟨gs2,(rowA ((E2.map encT))),39⟩,⟨g1,#[.slice (some ⟨gg1,0,none⟩) E.length E.length,.slice (some ⟨gs1,0,none⟩) E.length E.length,.bool false,.string (bs []),.string (bs []),.bool false,.string (bs []),.string (bs []),.bool (negB (ρ1)),.string (bs (numB (ρ1))),.string (bs (a0a (ρ1))),.bool false],87⟩,⟨gg1,(rowA ((D1.map encT))),39⟩,⟨gs1,(rowA ((E1.map encT))),39⟩,⟨w.heap.size+1,#[.bool (negB (m)),.string (bs (numB (m))),.string (bs (a0a (m)))],39⟩,⟨w.heap.size,#[.bool cn,.string (bs ca),.string (bs cb),.slice Ac E.length cc,.slice Aa A.length cx],44⟩] wr)) (fun k_ _=>A.length-(intOf k_).toNat)
  case atStart=>exact⟨0,0,false,ZZ,ZZ,fun _=>false,Nat.zero_le _,rfl,HDN.out,HZZ.out,fun _ _=>rfl,HS5.out⟩
  case round =>
   clear HS4
   obtain⟨k,ρ2,b2,D2,E2,F,hk,rfl,HDL,HZ2,HF,HS⟩:=hrel
   obtain⟨wo,hwo⟩:∃wo:World,wo=wr:=⟨_,rfl⟩
   subst hwo
   by_cases hkn:k<A.length
   ·obtain⟨bA,oA,u,T,rfl,hbA,hq,hT,hx1⟩:=NstL.at_ HA.out hkn
    obtain⟨A3,c3,rfl,_,_⟩:=NstL.slice hT
    have hTm:=List.mem_of_getElem? hq
    have HTI1:=zh (HTI.out _ T hTm hT)
    have HME1:=zh (HMEM.out _ T hT)
    have HFT1:=zh (HFT.out T hTm)
    have HX1:=zh hx1
    have HTQ:=zh hq
    have hk8:k<8:=by have:=LA.out;omega
    have HK8:=zh hk8
    have f0:(0:Int)<=((k:Nat):Int):=by omega
    have f1:((k:Nat):Int)<(A.length:Int):=by omega
    have f2:decide (((k:Nat):Int)<(A.length:Int))=true:=decide_eq_true f1
    have f5:IntKind.i64.wrap ((k:Int)+1)=((k+1:Nat):Int):=by have:=LA.out;rw[IntWalk.i64_in _ (by omega)];rfl
    clear hTm hT hx1 hq hk8
    have x7:=cC HS 8 4
    have x8:=HS.out.lt 8 rfl
    have x9:¬w.heap.size=wo.heap.size:=by omega
    have x10:¬wo.heap.size=w.heap.size:=by omega
    have x11:¬w.heap.size=wo.heap.size+1:=by omega
    have x12:¬wo.heap.size+1=w.heap.size:=by omega
    go_wp2
    have HS6:=aL (aL HS #[.bool false,.string (bs []),.string (bs [])] 39 wo.heap.size) #[.bool false,.string (bs []),.string (bs [])] 39 (wo.heap.size+1)
    go_loopw [11] (fun i_ wr=>∃ (i:Nat) (F2:Nat->Bool) (pq rq:Rat),i<=E.length/\i_=.int .i64 i/\Hid (0<=pq)/\Hid (Sized (i*111746+1) pq)/\Hid (Sized (i*111746+1) rq)/\Hid (∀j,j<E.length->F2 j=(F j||(decide (j<i)&&memB T ((j:Nat):Int))))/\Hid (St w [⟨wo.heap.size+1,#[.bool (negB (rq)),.string (bs (numB (rq))),.string (bs (a0a (rq)))],39⟩,⟨wo.heap.size,#[.bool (negB (pq)),.string (bs (numB (pq))),.string (bs (a0a (pq)))],39⟩,⟨w4.heap.size,(rowE (.bool) E.length F2),4⟩,⟨g2,#[.slice (some ⟨gg2,0,none⟩) E.length E.length,.slice (some ⟨gs2,0,none⟩) E.length E.length,.bool false,.string (bs []),.string (bs []),.bool false,.string (bs []),.string (bs []),.bool (negB (ρ2)),.string (bs (numB (ρ2))),.string (bs (a0a (ρ2))),.bool b2],87⟩,⟨gg2,(rowA ((D2.map encT))),39⟩,⟨gs2,(rowA ((E2.map encT))),39⟩,⟨g1,#[.slice (some ⟨gg1,0,none⟩) E.length E.length,.slice (some ⟨gs1,0,none⟩) E.length E.length,.bool false,.string (bs []),.string (bs []),.bool false,.string (bs []),.string (bs []),.bool (negB (ρ1)),.string (bs (numB (ρ1))),.string (bs (a0a (ρ1))),.bool false],87⟩,⟨gg1,(rowA ((D1.map encT))),39⟩,⟨gs1,(rowA ((E1.map encT))),39⟩,⟨w.heap.size+1,#[.bool (negB (m)),.string (bs (numB (m))),.string (bs (a0a (m)))],39⟩,⟨w.heap.size,#[.bool cn,.string (bs ca),.string (bs cb),.slice Ac E.length cc,.slice (some ⟨bA,oA,none⟩) A.length cx],44⟩] wr)) (fun i_ _=>E.length-(intOf i_).toNat)
    case atStart=>exact⟨0,F,0,0,Nat.zero_le _,rfl,Rat.le_refl,sized_zero.mono (by omega),sized_zero.mono (by omega),fun j _=>by simp,by have hz:=enc0q3;show St w _ _;rw[hz.1,hz.2.1,hz.2.2];exact HS6.out⟩
    case round =>
     clear HS6 HS
     obtain⟨i,F2,pq,rq,hi,rfl,HPP,HPS,HRS,HF2,HV⟩:=hrel
     by_cases hin:i<E.length
     ·obtain⟨d,hd⟩:∃d,D1[i]? =some d:=⟨_,List.getElem?_eq_getElem (by rw[HZ1.out.dl];exact hin)⟩
      obtain⟨e,he⟩:∃e,E1[i]? =some e:=⟨_,List.getElem?_eq_getElem (by rw[HZ1.out.el];exact hin)⟩
      have hds:=HZ1.out.ds d (List.mem_of_getElem? hd)
      have hes:=HZ1.out.es e (List.mem_of_getElem? he)
      have hd0:0<=d:=by have:=HD1P.out i;rwa[a4q hd]at this
      have hi8:i<8:=by have:=LN.out;omega
      have hpb:=HPS.out.mono (show _<=17179869184 by omega)
      have hrb:=HRS.out.mono (show _<=17179869184 by omega)
      have hpl:=fun W=>a6k pq d W hpb (hds.mono (by decide))
      have hrl:=fun W=>a6k rq e W hrb (hes.mono (by decide))
      obtain⟨pn,hpn⟩:∃q,q=pq+d:=⟨_,rfl⟩
      obtain⟨rn,hrn⟩:∃q,q=rq+e:=⟨_,rfl⟩
      rw[<- hpn]at hpl
      rw[<- hrn]at hrl
      have HPN:Hid (0<=pn):=zh (by rw[hpn];have:=HPP.out;grind)
      have HPZ:Hid (Sized ((i+1)*111746+1) pn):=zh (by rw[hpn];exact(HPS.out.add hds).mono (by omega))
      have HRZ:Hid (Sized ((i+1)*111746+1) rn):=zh (by rw[hrn];exact(HRS.out.add hes).mono (by omega))
      obtain⟨mb,hmb⟩:∃b,b=memB T ((i:Nat):Int):=⟨_,rfl⟩
      have hmc:=HME1.out i
      rw[<- hmb]at hmc
      have HFY:Hid (mb=true->∀j,j<E.length->putA F2 i true j=(F j||(decide (j<i+1)&&memB T ((j:Nat):Int)))):=zh fun h=>d0f (M:=fun j=>memB T ((j:Nat):Int)) HF2.out (hmb.symm.trans h)
      have HFN:Hid (mb=false->∀j,j<E.length->F2 j=(F j||(decide (j<i+1)&&memB T ((j:Nat):Int)))):=zh fun h=>put_no (M:=fun j=>memB T ((j:Nat):Int)) HF2.out (hmb.symm.trans h)
      have HDI:=zh (a5j hd)
      have HEI:=zh (a5j he)
      unfold rat raw at hpl hrl
      have HPL:=zh hpl
      have HRL:=zh hrl
      have HMC:=zh hmc
      have e0:(0:Int)<=((i:Nat):Int):=by omega
      have e1:((i:Nat):Int)<(E.length:Int):=by omega
      have e2:decide (((i:Nat):Int)<(E.length:Int))=true:=decide_eq_true e1
      have e5:IntKind.i64.wrap ((i:Int)+1)=((i+1:Nat):Int):=by have:=LN.out;rw[IntWalk.i64_in _ (by omega)];rfl
      clear hd he hds hes hd0 hi8 hpb hrb hpl hrl hpn hrn hmb hmc
      cases mb
      ·have x13:=cC HV 10 3
       have x14:=cC HV 10 4
       have x15:=HX1.out _ HV.out.below 0 _ rfl
       rw[Nat.add_zero]at x15
       go_wp2_with fail
       refine(HMC.out _ HV.out.below).mono ?_
       rintro e w7 ⟨rfl,hb7⟩
       have HV7:=zh (HV.out.call hb7)
       clear hb7 HV x13 x14 x15
       go_wp2
       go_roundw
       case rel=>exact⟨i+1,F2,pq,rq,by omega,by go_num,HPP.out,HPS.out.mono (by omega),HRS.out.mono (by omega),HFN.out (by simp),HV7.out⟩
       case measure=>simp[intOf];omega
      have x13:=cC HV 10 3
      have x14:=cC HV 10 4
      have x15:=HX1.out _ HV.out.below 0 _ rfl
      rw[Nat.add_zero]at x15
      go_wp2_with fail
      refine(HMC.out _ HV.out.below).mono ?_
      rintro e w7 ⟨rfl,hb7⟩
      have HV7:=zh (HV.out.call hb7)
      clear hb7 HV x13 x14 x15
      have x16:=HV7.out.cellE 2 rfl hin
      have x17:=HV7.out.frozen 2 rfl i
      have x18:=cN HV7 2 0
      have x19:=cN HV7 0 2
      have x20:=cN HV7 2 1
      have x21:=cN HV7 1 2
      have x22:=cN HV7 2 3
      have x23:=cN HV7 3 2
      have x24:=cN HV7 2 4
      have x25:=cN HV7 4 2
      have x26:=cN HV7 2 5
      have x27:=cN HV7 5 2
      have x28:=cN HV7 2 6
      have x29:=cN HV7 6 2
      have x30:=cN HV7 2 7
      have x31:=cN HV7 7 2
      have x32:=cN HV7 2 8
      have x33:=cN HV7 8 2
      have x34:=cN HV7 2 9
      have x35:=cN HV7 9 2
      have x36:=cN HV7 2 10
      have x37:=cN HV7 10 2
      go_wp2
      clear x16 x17 x18 x19 x20 x21 x22 x23 x24 x25 x26 x27 x28 x29 x30 x31 x32 x33 x34 x35 x36 x37
      refine a4m (R:=[_,_,⟨w4.heap.size,(rowE (.bool) E.length (putA F2 i true)),4⟩,_,_,_,_,_,_,_,_]) (St.setE (HV7.out) 2 rfl i (true)) ?_
      intro wg8 hb
      have HV8:=zh hb
      clear hb HV7
      refine a0e 9 [.agg #[.bool (negB (pq)),.string (bs (numB (pq))),.string (bs (a0a (pq)))],.pointer (some ⟨g1,0,none⟩),.pointer (some ⟨g1,0,none⟩),.pointer (some ⟨g1,0,none⟩),.slice (some ⟨gg1,0,none⟩) E.length E.length,.int .i64 (i:Nat),.pointer (some ⟨gg1,i*3,none⟩),.agg #[.bool (negB (d)),.string (bs (numB (d))),.string (bs (a0a (d)))],.agg #[.bool (negB (pn)),.string (bs (numB (pn))),.string (bs (a0a (pn)))]] rfl (by kernel_rfl) (by kernel_rfl) (by kernel_rfl) ?_ ?_
      refine⟨?_,?_,?_,?_,?_,?_,?_,?_,?_,trivial⟩<;>(intro xx af wv hbx hev hev0 hd;have H:=SH.mk hev hev0 hd;clear hev hev0 hd)
      ·have e9:=H.i 9;clear H;have hs1:=zh (HV8.out.call hbx);obtain⟨y0,y1,y2⟩:=hs1.out.k0 1 rfl rfl rfl rfl;go_wp2;exact sQ rfl
      ·have e5:=H.i 5;clear H;go_wp2;exact sQ rfl
      ·have e61:=H.r 1 61;clear H;go_wp2;exact sQ rfl
      ·have e62:=H.r 2 62;clear H;go_wp2;exact sQ rfl
      ·have e63:=H.r 3 63;clear H;have hs1:=zh (HV8.out.call hbx);have y0:=cC hs1 6 0;go_wp2;exact sQ rfl
      ·have e11:=H.i 11;clear H;go_wp2;exact sQ rfl
      ·have e64:=H.r 4 64;have e65:=H.r 5 65;clear H;go_wp2;exact sQ rfl
      ·have e66:=H.r 6 66;clear H;have hs1:=zh (HV8.out.call hbx);obtain⟨yr0,yr1,yr2⟩:=hs1.out.rowCells 7 rfl (HDI.out);go_wp2;exact sQ rfl
      ·have e60:=H.r 0 60;have e67:=H.r 7 67;clear H
       go_wp2_with fail
       refine(HPL.out _).mono ?_
       rintro e w8 ⟨rfl,hb8⟩;go_wp2;exact StepQ.mk _ hb8 rfl
      intro xx w9 hb9 hv
      simp only[List.take,List.drop,a0h,Act.put]
      simp only[vQ hv 0,vQ hv 1,vQ hv 2,vQ hv 3,vQ hv 4,vQ hv 5,vQ hv 6,vQ hv 7,vQ hv 8]
      clear hv
      have HV9:=zh (HV8.out.call hb9)
      clear hb9 HV8
      obtain⟨x38,x39,x40⟩:=HV9.out.k0 1 rfl rfl rfl rfl
      obtain⟨x41,x42,x43⟩:=HV9.out.f0 1 rfl
      have x44:=cN HV9 1 0
      have x45:=cN HV9 0 1
      have x46:=cN HV9 1 2
      have x47:=cN HV9 2 1
      have x48:=cN HV9 1 3
      have x49:=cN HV9 3 1
      have x50:=cN HV9 1 4
      have x51:=cN HV9 4 1
      have x52:=cN HV9 1 5
      have x53:=cN HV9 5 1
      have x54:=cN HV9 1 6
      have x55:=cN HV9 6 1
      have x56:=cN HV9 1 7
      have x57:=cN HV9 7 1
      have x58:=cN HV9 1 8
      have x59:=cN HV9 8 1
      have x60:=cN HV9 1 9
      have x61:=cN HV9 9 1
      have x62:=cN HV9 1 10
      have x63:=cN HV9 10 1
      go_wp2
      clear x38 x39 x40 x41 x42 x43 x44 x45 x46 x47 x48 x49 x50 x51 x52 x53 x54 x55 x56 x57 x58 x59 x60 x61 x62 x63
      refine a4m (R:=[_,⟨wo.heap.size,#[.bool (negB (pn)),.string (bs (numB (pn))),.string (bs (a0a (pn)))],39⟩,_,_,_,_,_,_,_,_,_]) (St.set (St.set (St.set (HV9.out) 1 rfl 0 _) 1 rfl 1 _) 1 rfl 2 _) ?_
      intro wg10 hb
      have HV10:=zh hb
      clear hb HV9
      refine a0e 9 [.agg #[.bool (negB (rq)),.string (bs (numB (rq))),.string (bs (a0a (rq)))],.pointer (some ⟨g1,0,none⟩),.pointer (some ⟨g1,0,none⟩),.pointer (some ⟨g1,1,none⟩),.slice (some ⟨gs1,0,none⟩) E.length E.length,.int .i64 (i:Nat),.pointer (some ⟨gs1,i*3,none⟩),.agg #[.bool (negB (e)),.string (bs (numB (e))),.string (bs (a0a (e)))],.agg #[.bool (negB (rn)),.string (bs (numB (rn))),.string (bs (a0a (rn)))]] rfl (by kernel_rfl) (by kernel_rfl) (by kernel_rfl) ?_ ?_
      refine⟨?_,?_,?_,?_,?_,?_,?_,?_,?_,trivial⟩<;>(intro xx af wv hbx hev hev0 hd;have H:=SH.mk hev hev0 hd;clear hev hev0 hd)
      ·have e10:=H.i 10;clear H;have hs1:=zh (HV10.out.call hbx);obtain⟨y0,y1,y2⟩:=hs1.out.k0 0 rfl rfl rfl rfl;go_wp2;exact sQ rfl
      ·have e5:=H.i 5;clear H;go_wp2;exact sQ rfl
      ·have e70:=H.r 1 70;clear H;go_wp2;exact sQ rfl
      ·have e71:=H.r 2 71;clear H;go_wp2;exact sQ rfl
      ·have e72:=H.r 3 72;clear H;have hs1:=zh (HV10.out.call hbx);have y0:=cC hs1 6 1;go_wp2;exact sQ rfl
      ·have e11:=H.i 11;clear H;go_wp2;exact sQ rfl
      ·have e73:=H.r 4 73;have e74:=H.r 5 74;clear H;go_wp2;exact sQ rfl
      ·have e75:=H.r 6 75;clear H;have hs1:=zh (HV10.out.call hbx);obtain⟨yr0,yr1,yr2⟩:=hs1.out.rowCells 8 rfl (HEI.out);go_wp2;exact sQ rfl
      ·have e69:=H.r 0 69;have e76:=H.r 7 76;clear H
       go_wp2_with fail
       refine(HRL.out _).mono ?_
       rintro e w8 ⟨rfl,hb8⟩;go_wp2;exact StepQ.mk _ hb8 rfl
      intro xx w11 hb9 hv
      simp only[List.take,List.drop,a0h,Act.put]
      simp only[vQ hv 0,vQ hv 1,vQ hv 2,vQ hv 3,vQ hv 4,vQ hv 5,vQ hv 6,vQ hv 7,vQ hv 8]
      clear hv
      have HV11:=zh (HV10.out.call hb9)
      clear hb9 HV10
      obtain⟨x64,x65,x66⟩:=HV11.out.k0 0 rfl rfl rfl rfl
      obtain⟨x67,x68,x69⟩:=HV11.out.f0 0 rfl
      have x70:=cN HV11 0 1
      have x71:=cN HV11 1 0
      have x72:=cN HV11 0 2
      have x73:=cN HV11 2 0
      have x74:=cN HV11 0 3
      have x75:=cN HV11 3 0
      have x76:=cN HV11 0 4
      have x77:=cN HV11 4 0
      have x78:=cN HV11 0 5
      have x79:=cN HV11 5 0
      have x80:=cN HV11 0 6
      have x81:=cN HV11 6 0
      have x82:=cN HV11 0 7
      have x83:=cN HV11 7 0
      have x84:=cN HV11 0 8
      have x85:=cN HV11 8 0
      have x86:=cN HV11 0 9
      have x87:=cN HV11 9 0
      have x88:=cN HV11 0 10
      have x89:=cN HV11 10 0
      go_wp2
      have HV12:Hid (St w [⟨wo.heap.size+1,#[.bool (negB (rn)),.string (bs (numB (rn))),.string (bs (a0a (rn)))],39⟩,_,_,_,_,_,_,_,_,_,_] _):=zh (St.set (St.set (St.set (HV11.out) 0 rfl 0 _) 0 rfl 1 _) 0 rfl 2 _)
      go_roundw
      case rel=>exact⟨i+1,putA F2 i true,pn,rn,by omega,by go_num,HPN.out,HPZ.out,HRZ.out,HFY.out (by simp),HV12.out⟩
      case measure=>simp[intOf];omega
     have hie:i=E.length:=by omega
     rw[hie]at HPS HRS HF2 ⊢
     have e2:decide (((E.length:Nat):Int)<(E.length:Int))=false:=decide_eq_false (by omega)
     have hn8:=LN.out
     have hk8:=HK8.out
     have HFA:=zh (d0g HTQ.out HF.out HF2.out)
     have HPM:=HPS.out.mono (show _<=893969 by omega)
     have HRM:=HRS.out.mono (show _<=893969 by omega)
     have HPO:=zh (fun(v:Value) (R:List Own) W (h:St w (sB g2 gg2 gs2 E.length ρ2 b2 D2 E2 R) W) (hv:TrsR v (allT E T) R)=>b2g g2 gg2 gs2 E.length ρ2 b2 D2 E2 v (allT E T) pq rq 1104 893969 8841 973547 893969 (1+72*k*(1886304+1)) 1886304 W h hv HFT1.out ⟨by decide,by decide,by decide,by omega⟩ HZ2.out.front HPM HRM)
     have HDG:=zh (HDL.out.go HTQ.out HPP.out)
     obtain⟨DP,hDP⟩:∃D,D=a1u (allT E T) pq D2:=⟨_,rfl⟩
     rw[<- hDP]at HPO HDG
     unfold rat raw at HPO
     clear hie hi hin hn8 hk8 HPM HRM hDP
     have x13:=cC HV 10 3
     go_wp2
     clear x13
     refine a0d 10 [eQ (.pointer (some ⟨g2,0,none⟩)),eQ (.agg #[.bool cn,.string (bs ca),.string (bs cb),.slice Ac E.length cc,.slice (some ⟨bA,oA,none⟩) A.length cx]),eQ (.pointer (some ⟨w.heap.size,4,none⟩)),eQ (.slice (some ⟨bA,oA,none⟩) A.length cx),eQ (.int .i64 (k:Nat)),eQ (.pointer (some ⟨bA,oA+k,none⟩)),eQ (.agg #[.slice A3 T.length c3]),fun ww vv=>Tro ww w.heap.size vv (allT E T),eQ (.agg #[.bool (negB (pq)),.string (bs (numB (pq))),.string (bs (a0a (pq)))]),eQ (.agg #[.bool (negB (rq)),.string (bs (numB (rq))),.string (bs (a0a (rq)))])] rfl (by kernel_rfl) (by kernel_rfl) (by kernel_rfl) ⟨stE,stE,stE,stE,stE,stE,stE,fun _ _ _ h hb=>h.below hb,stE,stE,trivial⟩ ?_ ?_
     refine⟨?_,?_,?_,?_,?_,?_,?_,?_,?_,?_,trivial⟩<;>(intro xx af wv hbx hev hev0 hd;have H:=SH.mk hev hev0 hd;clear hev hev0 hd)
     ·have e6:=H.i 6;clear H;go_wp2;exact sQ rfl
     ·have e2:=H.i 2;clear H;have hs1:=zh (HV.out.call hbx);obtain⟨y0,y1,y2⟩:=hs1.out.k0 10 rfl rfl rfl rfl;have y3:=cC hs1 10 3;have y4:=cC hs1 10 4;go_wp2;exact sQ rfl
     ·have e2:=H.i 2;clear H;go_wp2;exact sQ rfl
     ·have e80:=H.r 2 80;clear H;have hs1:=zh (HV.out.call hbx);have y0:=cC hs1 10 4;go_wp2;exact sQ rfl
     ·have e8:=H.i 8;clear H;go_wp2;exact sQ rfl
     ·have e81:=H.r 3 81;have e82:=H.r 4 82;clear H;go_wp2;exact sQ rfl
     ·have e83:=H.r 5 83;clear H;have hs1:=zh (HV.out.call hbx);have y0:=HX1.out _ hs1.out.below 0 _ rfl;rw[Nat.add_zero]at y0;go_wp2;exact sQ rfl
     ·have e79:=H.r 1 79;have e84:=H.r 6 84;clear H;have hs1:=zh (HV.out.call hbx)
      go_wp2_with fail
      refine(HTI1.out _ hs1.out.below).mono ?_
      rintro e w8 ⟨v8,rfl,hl8,hb8⟩;go_wp2;exact StepQ.mk _ hb8 hl8
     ·have e9:=H.i 9;clear H;have hs1:=zh (HV.out.call hbx);obtain⟨y0,y1,y2⟩:=hs1.out.k0 1 rfl rfl rfl rfl;go_wp2;exact sQ rfl
     ·have e10:=H.i 10;clear H;have hs1:=zh (HV.out.call hbx);obtain⟨y0,y1,y2⟩:=hs1.out.k0 0 rfl rfl rfl rfl;go_wp2;exact sQ rfl
     intro xx w7 hb9 hv
     obtain⟨v7_7,hx7⟩:∃v,v=xx 7:=⟨_,rfl⟩
     have hl7:Tro w7 w.heap.size (xx 7) (allT E T):=hv 7 (by decide)
     rw[<- hx7]at hl7
     simp only[List.take,List.drop,a0h,Act.put]
     simp only[vQ hv 0,vQ hv 1,vQ hv 2,vQ hv 3,vQ hv 4,vQ hv 5,vQ hv 6,vQ hv 8,vQ hv 9,<-hx7]
     clear hv hx7
     have HV7:=zh (HV.out.call hb9)
     have HTZ:=zh hl7
     clear hl7 hb9 HV
     obtain⟨us,bk,_,hSX,hTR,_,_⟩:=Tro.beside HTZ.out HV7.out (Nat.le_refl _) (fun x hx=>by simp only[List.mem_cons,List.mem_nil_iff,or_false]at hx;rcases hx with rfl | rfl | rfl | rfl | rfl | rfl | rfl | rfl | rfl | rfl | rfl;exact⟨by show 39≠145;decide,by show 39≠143;decide⟩;exact⟨by show 39≠145;decide,by show 39≠143;decide⟩;exact⟨by show 4≠145;decide,by show 4≠143;decide⟩;exact⟨by show 87≠145;decide,by show 87≠143;decide⟩;exact⟨by show 39≠145;decide,by show 39≠143;decide⟩;exact⟨by show 39≠145;decide,by show 39≠143;decide⟩;exact⟨by show 87≠145;decide,by show 87≠143;decide⟩;exact⟨by show 39≠145;decide,by show 39≠143;decide⟩;exact⟨by show 39≠145;decide,by show 39≠143;decide⟩;exact⟨by show 39≠145;decide,by show 39≠143;decide⟩;exact⟨by show 44≠145;decide,by show 44≠143;decide⟩)
     have HSX:Hid (St w (⟨wo.heap.size+1,#[.bool (negB (rq)),.string (bs (numB (rq))),.string (bs (a0a (rq)))],39⟩::⟨wo.heap.size,#[.bool (negB (pq)),.string (bs (numB (pq))),.string (bs (a0a (pq)))],39⟩::⟨w4.heap.size,(rowE (.bool) E.length F2),4⟩::_::_::_::_::_::_::_::_::bk) _):=zh hSX
     have HTR:=zh hTR
     clear hSX hTR HTZ HV7
     go_wp2_with fail
     refine(HPO.out _ _ _ (a6j [⟨wo.heap.size+1,#[.bool (negB (rq)),.string (bs (numB (rq))),.string (bs (a0a (rq)))],39⟩,⟨wo.heap.size,#[.bool (negB (pq)),.string (bs (numB (pq))),.string (bs (a0a (pq)))],39⟩,⟨w4.heap.size,(rowE (.bool) E.length F2),4⟩] HSX.out) (HTR.out.more (fun r hr=>List.mem_append_right _ (List.mem_cons_of_mem _ (List.mem_cons_of_mem _ (List.mem_cons_of_mem _ (List.mem_cons_of_mem _ (List.mem_cons_of_mem _ (hr))))))))).mono ?_
     rintro e w8 ⟨rfl,ρ3,b3,E3,hZ3,hq8⟩
     have hst8:=a8k [⟨wo.heap.size+1,#[.bool (negB (rq)),.string (bs (numB (rq))),.string (bs (a0a (rq)))],39⟩,⟨wo.heap.size,#[.bool (negB (pq)),.string (bs (numB (pq))),.string (bs (a0a (pq)))],39⟩,⟨w4.heap.size,(rowE (.bool) E.length F2),4⟩] hq8
     have HZ3:=zh hZ3.back
     clear hq8 hZ3
     have HSX8:Hid (St w (⟨wo.heap.size+1,#[.bool (negB (rq)),.string (bs (numB (rq))),.string (bs (a0a (rq)))],39⟩::⟨wo.heap.size,#[.bool (negB (pq)),.string (bs (numB (pq))),.string (bs (a0a (pq)))],39⟩::⟨w4.heap.size,(rowE (.bool) E.length F2),4⟩::⟨g2,#[.slice (some ⟨gg2,0,none⟩) E.length E.length,.slice (some ⟨gs2,0,none⟩) E.length E.length,.bool false,.string (bs []),.string (bs []),.bool false,.string (bs []),.string (bs []),.bool (negB (ρ3)),.string (bs (numB (ρ3))),.string (bs (a0a (ρ3))),.bool b3],87⟩::⟨gg2,(rowA ((DP.map encT))),39⟩::⟨gs2,(rowA ((E3.map encT))),39⟩::⟨g1,#[.slice (some ⟨gg1,0,none⟩) E.length E.length,.slice (some ⟨gs1,0,none⟩) E.length E.length,.bool false,.string (bs []),.string (bs []),.bool false,.string (bs []),.string (bs []),.bool (negB (ρ1)),.string (bs (numB (ρ1))),.string (bs (a0a (ρ1))),.bool false],87⟩::⟨gg1,(rowA ((D1.map encT))),39⟩::⟨gs1,(rowA ((E1.map encT))),39⟩::⟨w.heap.size+1,#[.bool (negB (m)),.string (bs (numB (m))),.string (bs (a0a (m)))],39⟩::⟨w.heap.size,#[.bool cn,.string (bs ca),.string (bs cb),.slice Ac E.length cc,.slice (some ⟨bA,oA,none⟩) A.length cx],44⟩::bk) w8):=zh hst8
     clear hst8 HSX
     go_wp2
     go_roundw
     case rel=>exact⟨k+1,ρ3,b3,DP,E3,F2,by omega,by go_num,HDG.out,HZ3.out.mono (by omega),HFA.out,HSX8.out.sub (List.Sublist.cons _ (List.Sublist.cons _ (List.Sublist.cons_cons _ (List.Sublist.cons_cons _ (List.Sublist.cons_cons _ (List.Sublist.cons_cons _ (List.Sublist.cons_cons _ (List.Sublist.cons_cons _ (List.Sublist.cons_cons _ (List.Sublist.cons_cons _ (List.Sublist.cons_cons _ (List.nil_sublist _))))))))))))⟩
     case measure=>simp[intOf];omega
   have hke:k=A.length:=by omega
   rw[hke]at HDL HZ2 HF ⊢
   have f2:decide (((A.length:Nat):Int)<(A.length:Int))=false:=decide_eq_false (by omega)
   rw[List.take_length]at HDL HF
   clear hke hk hkn
   have x7:=cC HS 8 4
   go_wp2
   go_loopw [12] (fun i_ wr=>∃ (i:Nat) (D E3:List Rat),i<=E.length/\i_=.int .i64 i/\Hid (FinD E.length F D2 D)/\Hid (PSz 1 1886304 E.length (72*A.length+i) D E3 ρ2)/\Hid (St w [⟨w4.heap.size,(rowE (.bool) E.length F),4⟩,⟨g2,#[.slice (some ⟨gg2,0,none⟩) E.length E.length,.slice (some ⟨gs2,0,none⟩) E.length E.length,.bool false,.string (bs []),.string (bs []),.bool false,.string (bs []),.string (bs []),.bool (negB (ρ2)),.string (bs (numB (ρ2))),.string (bs (a0a (ρ2))),.bool b2],87⟩,⟨gg2,(rowA ((D.map encT))),39⟩,⟨gs2,(rowA ((E3.map encT))),39⟩,⟨g1,#[.slice (some ⟨gg1,0,none⟩) E.length E.length,.slice (some ⟨gs1,0,none⟩) E.length E.length,.bool false,.string (bs []),.string (bs []),.bool false,.string (bs []),.string (bs []),.bool (negB (ρ1)),.string (bs (numB (ρ1))),.string (bs (a0a (ρ1))),.bool false],87⟩,⟨gg1,(rowA ((D1.map encT))),39⟩,⟨gs1,(rowA ((E1.map encT))),39⟩,⟨w.heap.size+1,#[.bool (negB (m)),.string (bs (numB (m))),.string (bs (a0a (m)))],39⟩,⟨w.heap.size,#[.bool cn,.string (bs ca),.string (bs cb),.slice Ac E.length cc,.slice Aa A.length cx],44⟩] wr)) (fun i_ _=>E.length-(intOf i_).toNat)
   case atStart=>exact⟨0,D2,E2,Nat.zero_le _,rfl,FinD.refl _ _ _,HZ2.out,HS.out⟩
   case round =>
    clear HS
    obtain⟨i,D,E3,hi,rfl,HFD,HZ3,HV⟩:=hrel
    by_cases hin:i<E.length
    ·obtain⟨d,hd⟩:∃d,D1[i]? =some d:=⟨_,List.getElem?_eq_getElem (by rw[HZ1.out.dl];exact hin)⟩
     obtain⟨e,he⟩:∃e,E1[i]? =some e:=⟨_,List.getElem?_eq_getElem (by rw[HZ1.out.el];exact hin)⟩
     have hds:=HZ1.out.ds d (List.mem_of_getElem? hd)
     have hes:=HZ1.out.es e (List.mem_of_getElem? he)
     have hd0:0<=d:=by have:=HD1P.out i;rwa[a4q hd]at this
     have hi8:i<8:=by have:=LN.out;omega
     have ha8:=LA.out
     obtain⟨hf1,hf2⟩:=HZ3.out.fit' (by omega)
     have HPU:=zh (fun(X:List Own) (R:List Own) W (h:St w (sB g2 gg2 gs2 E.length ρ2 b2 D E3 (X++R)) W)=>a8h g2 gg2 gs2 E.length ρ2 b2 D E3 i d e W h HZ3.out.dl HZ3.out.el hin (fun y hy=>(hf1 y hy).mono (by decide)) (fun y hy=>(hf2 y hy).mono (by decide)) (hds.mono (by decide)) (hes.mono (by decide)))
     have HPZ:=zh (HZ3.out.put hin (hds.mono (by decide)) (hes.mono (by decide)))
     have HFP:Hid (F i=false->FinD E.length F D2 (a2k D i d)):=zh fun h=>HFD.out.put (by rw[HZ3.out.dl];exact hin) h hd0
     have HDI:=zh (a5j hd)
     have HEI:=zh (a5j he)
     unfold rat raw at HPU
     obtain⟨fb,hfb⟩:∃b,F i=b:=⟨_,rfl⟩
     have e0:(0:Int)<=((i:Nat):Int):=by omega
     have e1:((i:Nat):Int)<(E.length:Int):=by omega
     have e2:decide (((i:Nat):Int)<(E.length:Int))=true:=decide_eq_true e1
     have e5:IntKind.i64.wrap ((i:Int)+1)=((i+1:Nat):Int):=by have:=LN.out;rw[IntWalk.i64_in _ (by omega)];rfl
     clear hd he hds hes hd0 hi8 ha8 hf1 hf2
     cases fb
     ·have x8:=cC HV 8 3
      have x9:=HV.out.cellE 0 rfl hin
      rw[hfb]at x9
      go_wp2
      clear x8 x9
      refine a0e 16 [.pointer (some ⟨g2,0,none⟩),.int .i64 (i:Nat),.pointer (some ⟨g1,0,none⟩),.pointer (some ⟨g1,0,none⟩),.pointer (some ⟨g1,0,none⟩),.slice (some ⟨gg1,0,none⟩) E.length E.length,.int .i64 (i:Nat),.pointer (some ⟨gg1,i*3,none⟩),.agg #[.bool (negB (d)),.string (bs (numB (d))),.string (bs (a0a (d)))],.pointer (some ⟨g1,0,none⟩),.pointer (some ⟨g1,0,none⟩),.pointer (some ⟨g1,1,none⟩),.slice (some ⟨gs1,0,none⟩) E.length E.length,.int .i64 (i:Nat),.pointer (some ⟨gs1,i*3,none⟩),.agg #[.bool (negB (e)),.string (bs (numB (e))),.string (bs (a0a (e)))]] rfl (by kernel_rfl) (by kernel_rfl) (by kernel_rfl) ?_ ?_
      refine⟨?_,?_,?_,?_,?_,?_,?_,?_,?_,?_,?_,?_,?_,?_,?_,?_,trivial⟩<;>(intro xx af wv hbx hev hev0 hd;have H:=SH.mk hev hev0 hd;clear hev hev0 hd)
      ·have e6:=H.i 6;clear H;go_wp2;exact sQ rfl
      ·have e12:=H.i 12;clear H;go_wp2;exact sQ rfl
      ·have e5:=H.i 5;clear H;go_wp2;exact sQ rfl
      ·have e103:=H.r 2 103;clear H;go_wp2;exact sQ rfl
      ·have e104:=H.r 3 104;clear H;go_wp2;exact sQ rfl
      ·have e105:=H.r 4 105;clear H;have hs1:=zh (HV.out.call hbx);have y0:=cC hs1 4 0;go_wp2;exact sQ rfl
      ·have e12:=H.i 12;clear H;go_wp2;exact sQ rfl
      ·have e106:=H.r 5 106;have e107:=H.r 6 107;clear H;go_wp2;exact sQ rfl
      ·have e108:=H.r 7 108;clear H;have hs1:=zh (HV.out.call hbx);obtain⟨yr0,yr1,yr2⟩:=hs1.out.rowCells 5 rfl (HDI.out);go_wp2;exact sQ rfl
      ·have e5:=H.i 5;clear H;go_wp2;exact sQ rfl
      ·have e110:=H.r 9 110;clear H;go_wp2;exact sQ rfl
      ·have e111:=H.r 10 111;clear H;go_wp2;exact sQ rfl
      ·have e112:=H.r 11 112;clear H;have hs1:=zh (HV.out.call hbx);have y0:=cC hs1 4 1;go_wp2;exact sQ rfl
      ·have e12:=H.i 12;clear H;go_wp2;exact sQ rfl
      ·have e113:=H.r 12 113;have e114:=H.r 13 114;clear H;go_wp2;exact sQ rfl
      ·have e115:=H.r 14 115;clear H;have hs1:=zh (HV.out.call hbx);obtain⟨yr0,yr1,yr2⟩:=hs1.out.rowCells 6 rfl (HEI.out);go_wp2;exact sQ rfl
      intro xx w6 hb9 hv
      simp only[List.take,List.drop,a0h,Act.put]
      simp only[vQ hv 0,vQ hv 1,vQ hv 2,vQ hv 3,vQ hv 4,vQ hv 5,vQ hv 6,vQ hv 7,vQ hv 8,vQ hv 9,vQ hv 10,vQ hv 11,vQ hv 12,vQ hv 13,vQ hv 14,vQ hv 15]
      clear hv
      have HV6:=zh (HV.out.call hb9)
      clear hb9 HV
      go_wp2_with fail
      refine(HPU.out [⟨w4.heap.size,(rowE (.bool) E.length F),4⟩] _ _ (a6j [⟨w4.heap.size,(rowE (.bool) E.length F),4⟩] HV6.out)).mono ?_
      rintro e w7 ⟨rfl,hq7⟩
      have hst7:=a8k [⟨w4.heap.size,(rowE (.bool) E.length F),4⟩] hq7
      clear hq7
      have HV7:Hid (St w [⟨w4.heap.size,(rowE (.bool) E.length F),4⟩,⟨g2,#[.slice (some ⟨gg2,0,none⟩) E.length E.length,.slice (some ⟨gs2,0,none⟩) E.length E.length,.bool false,.string (bs []),.string (bs []),.bool false,.string (bs []),.string (bs []),.bool (negB (ρ2)),.string (bs (numB (ρ2))),.string (bs (a0a (ρ2))),.bool b2],87⟩,⟨gg2,(rowA (((a2k D i d).map encT))),39⟩,⟨gs2,(rowA (((a2k E3 i e).map encT))),39⟩,⟨g1,#[.slice (some ⟨gg1,0,none⟩) E.length E.length,.slice (some ⟨gs1,0,none⟩) E.length E.length,.bool false,.string (bs []),.string (bs []),.bool false,.string (bs []),.string (bs []),.bool (negB (ρ1)),.string (bs (numB (ρ1))),.string (bs (a0a (ρ1))),.bool false],87⟩,⟨gg1,(rowA ((D1.map encT))),39⟩,⟨gs1,(rowA ((E1.map encT))),39⟩,⟨w.heap.size+1,#[.bool (negB (m)),.string (bs (numB (m))),.string (bs (a0a (m)))],39⟩,⟨w.heap.size,#[.bool cn,.string (bs ca),.string (bs cb),.slice Ac E.length cc,.slice Aa A.length cx],44⟩] w7):=zh hst7
      clear hst7 HV6
      go_wp2
      go_roundw
      case rel=>exact⟨i+1,_,_,by omega,by go_num,HFP.out hfb,HPZ.out.mono (by omega),HV7.out⟩
      case measure=>simp[intOf];omega
     have x8:=cC HV 8 3
     have x9:=HV.out.cellE 0 rfl hin
     rw[hfb]at x9
     go_wp2
     go_roundw
     case rel=>exact⟨i+1,D,E3,by omega,by go_num,HFD.out,HZ3.out.mono (by omega),HV.out⟩
     case measure=>simp[intOf];omega
    have hie:i=E.length:=by omega
    rw[hie]at HZ3 ⊢
    have e2:decide (((E.length:Nat):Int)<(E.length:Int))=false:=decide_eq_false (by omega)
    have hn8:=LN.out
    have ha8:=LA.out
    have HFI:=HZ3.out.fit' (by omega)
    clear hie hi hin hn8 ha8
    have x8:=cC HV 8 3
    go_wp2
    go_ret
    exact⟨g2,gg2,gs2,ρ2,b2,D,E3,rfl,⟨HZ3.out.dl,D2,HDL.out,HFD.out.congr HF.out⟩,HFI.1,HV.out.sub (List.Sublist.cons _ (List.Sublist.cons_cons _ (List.Sublist.cons_cons _ (List.Sublist.cons_cons _ (List.nil_sublist _)))))⟩
 have HKI:=zh (fun(R:List Own) W (h:St w (sB g2 gg2 gs2 E.length 0 false ZZ ZZ R) W)=>b7u g2 gg2 gs2 E.length 0 false ZZ ZZ ρ1 W h (sized_zero.mono (by decide)) HZ1.out.rs)
 unfold rat raw at HKI
 have x3:=cC HS4 3 8
 have x4:=cC HS4 3 9
 have x5:=cC HS4 3 10
 go_wp2_with fail
 refine(HKI.out _ _ HS4.out).mono ?_
 rintro e w5 ⟨rfl,ρ2,b2,HR2,hst5⟩
 have HZ2:=zh (HZZ.out.rho HR2)
 clear HR2
 have HS5:Hid (St w [⟨g2,#[.slice (some ⟨gg2,0,none⟩) E.length E.length,.slice (some ⟨gs2,0,none⟩) E.length E.length,.bool false,.string (bs []),.string (bs []),.bool false,.string (bs []),.string (bs []),.bool (negB (ρ2)),.string (bs (numB (ρ2))),.string (bs (a0a (ρ2))),.bool b2],87⟩,⟨gg2,(rowA ((ZZ.map encT))),39⟩,⟨gs2,(rowA ((ZZ.map encT))),39⟩,⟨g1,#[.slice (some ⟨gg1,0,none⟩) E.length E.length,.slice (some ⟨gs1,0,none⟩) E.length E.length,.bool false,.string (bs []),.string (bs []),.bool false,.string (bs []),.string (bs []),.bool (negB (ρ1)),.string (bs (numB (ρ1))),.string (bs (a0a (ρ1))),.bool true],87⟩,⟨gg1,(rowA ((D1.map encT))),39⟩,⟨gs1,(rowA ((E1.map encT))),39⟩,⟨w.heap.size+1,#[.bool (negB (m)),.string (bs (numB (m))),.string (bs (a0a (m)))],39⟩,⟨w.heap.size,#[.bool cn,.string (bs ca),.string (bs cb),.slice Ac E.length cc,.slice Aa A.length cx],44⟩] w5):=zh hst5
 clear hst5 HS4 x3 x4 x5
 have x6:=cC HS5 7 3
 have x7:=HS5.out.lt 7 rfl
 have x8:¬w.heap.size=w5.heap.size:=by omega
 have x9:¬w5.heap.size=w.heap.size:=by omega
 go_wp2
 have HS6:=aL HS5 (rowE (.bool) E.length (fun _=>false)) 4 w5.heap.size
 go_loopw [8] (fun k_ wr=>∃ (k:Nat) (ρ2:Rat) (b2:Bool) (D2 E2:List Rat) (F:Nat->Bool),k<=A.length/\k_=.int .i64 k/\Hid (Dls E (A.take k) D2)/\Hid (PSz 1 1886304 E.length (72*k) D2 E2 ρ2)/\Hid (∀j,j<E.length->F j=a7r (A.take k) j)/\Hid (St w [⟨w5.heap.size,(rowE (.bool) E.length F),4⟩,⟨g2,#[.slice (some ⟨gg2,0,none⟩) E.length E.length,.slice (some ⟨gs2,0,none⟩) E.length E.length,.bool false,.string (bs []),.string (bs []),.bool false,.string (bs []),.string (bs []),.bool (negB (ρ2)),.string (bs (numB (ρ2))),.string (bs (a0a (ρ2))),.bool b2],87⟩,⟨gg2,(rowA ((D2.map encT))),39⟩,⟨gs2,(rowA ((E2.map encT))),39⟩,⟨g1,#[.slice (some ⟨gg1,0,none⟩) E.length E.length,.slice (some ⟨gs1,0,none⟩) E.length E.length,.bool false,.string (bs []),.string (bs []),.bool false,.string (bs []),.string (bs []),.bool (negB (ρ1)),.string (bs (numB (ρ1))),.string (bs (a0a (ρ1))),.bool true],87⟩,⟨gg1,(rowA ((D1.map encT))),39⟩,⟨gs1,(rowA ((E1.map encT))),39⟩,⟨w.heap.size+1,#[.bool (negB (m)),.string (bs (numB (m))),.string (bs (a0a (m)))],39⟩,⟨w.heap.size,#[.bool cn,.string (bs ca),.string (bs cb),.slice Ac E.length cc,.slice Aa A.length cx],44⟩] wr)) (fun k_ _=>A.length-(intOf k_).toNat)
 case atStart=>exact⟨0,ρ2,b2,ZZ,ZZ,fun _=>false,Nat.zero_le _,rfl,HDN.out,HZ2.out,fun _ _=>rfl,HS6.out⟩
 case round =>
  clear HS5
  obtain⟨k,ρ2,b2,D2,E2,F,hk,rfl,HDL,HZ2,HF,HS⟩:=hrel
  obtain⟨wo,hwo⟩:∃wo:World,wo=wr:=⟨_,rfl⟩
  subst hwo
  by_cases hkn:k<A.length
  ·obtain⟨bA,oA,u,T,rfl,hbA,hq,hT,hx1⟩:=NstL.at_ HA.out hkn
   obtain⟨A3,c3,rfl,_,_⟩:=NstL.slice hT
   have hTm:=List.mem_of_getElem? hq
   have HTI1:=zh (HTI.out _ T hTm hT)
   have HME1:=zh (HMEM.out _ T hT)
   have HFT1:=zh (HFT.out T hTm)
   have HX1:=zh hx1
   have HTQ:=zh hq
   have hk8:k<8:=by have:=LA.out;omega
   have HK8:=zh hk8
   have f0:(0:Int)<=((k:Nat):Int):=by omega
   have f1:((k:Nat):Int)<(A.length:Int):=by omega
   have f2:decide (((k:Nat):Int)<(A.length:Int))=true:=decide_eq_true f1
   have f5:IntKind.i64.wrap ((k:Int)+1)=((k+1:Nat):Int):=by have:=LA.out;rw[IntWalk.i64_in _ (by omega)];rfl
   clear hTm hT hx1 hq hk8
   have x10:=cC HS 8 4
   have x11:=HS.out.lt 8 rfl
   have x12:¬w.heap.size=wo.heap.size:=by omega
   have x13:¬wo.heap.size=w.heap.size:=by omega
   have x14:¬w.heap.size=wo.heap.size+1:=by omega
   have x15:¬wo.heap.size+1=w.heap.size:=by omega
   go_wp2
   have HS7:=aL (aL HS #[.bool false,.string (bs []),.string (bs [])] 39 wo.heap.size) #[.bool false,.string (bs []),.string (bs [])] 39 (wo.heap.size+1)
   go_loopw [11] (fun i_ wr=>∃ (i:Nat) (F2:Nat->Bool) (pq rq:Rat),i<=E.length/\i_=.int .i64 i/\Hid (0<=pq)/\Hid (Sized (i*111746+1) pq)/\Hid (Sized (i*111746+1) rq)/\Hid (∀j,j<E.length->F2 j=(F j||(decide (j<i)&&memB T ((j:Nat):Int))))/\Hid (St w [⟨wo.heap.size+1,#[.bool (negB (rq)),.string (bs (numB (rq))),.string (bs (a0a (rq)))],39⟩,⟨wo.heap.size,#[.bool (negB (pq)),.string (bs (numB (pq))),.string (bs (a0a (pq)))],39⟩,⟨w5.heap.size,(rowE (.bool) E.length F2),4⟩,⟨g2,#[.slice (some ⟨gg2,0,none⟩) E.length E.length,.slice (some ⟨gs2,0,none⟩) E.length E.length,.bool false,.string (bs []),.string (bs []),.bool false,.string (bs []),.string (bs []),.bool (negB (ρ2)),.string (bs (numB (ρ2))),.string (bs (a0a (ρ2))),.bool b2],87⟩,⟨gg2,(rowA ((D2.map encT))),39⟩,⟨gs2,(rowA ((E2.map encT))),39⟩,⟨g1,#[.slice (some ⟨gg1,0,none⟩) E.length E.length,.slice (some ⟨gs1,0,none⟩) E.length E.length,.bool false,.string (bs []),.string (bs []),.bool false,.string (bs []),.string (bs []),.bool (negB (ρ1)),.string (bs (numB (ρ1))),.string (bs (a0a (ρ1))),.bool true],87⟩,⟨gg1,(rowA ((D1.map encT))),39⟩,⟨gs1,(rowA ((E1.map encT))),39⟩,⟨w.heap.size+1,#[.bool (negB (m)),.string (bs (numB (m))),.string (bs (a0a (m)))],39⟩,⟨w.heap.size,#[.bool cn,.string (bs ca),.string (bs cb),.slice Ac E.length cc,.slice (some ⟨bA,oA,none⟩) A.length cx],44⟩] wr)) (fun i_ _=>E.length-(intOf i_).toNat)
   case atStart=>exact⟨0,F,0,0,Nat.zero_le _,rfl,Rat.le_refl,sized_zero.mono (by omega),sized_zero.mono (by omega),fun j _=>by simp,by have hz:=enc0q3;show St w _ _;rw[hz.1,hz.2.1,hz.2.2];exact HS7.out⟩
   case round =>
    clear HS7 HS
    obtain⟨i,F2,pq,rq,hi,rfl,HPP,HPS,HRS,HF2,HV⟩:=hrel
    by_cases hin:i<E.length
    ·obtain⟨d,hd⟩:∃d,D1[i]? =some d:=⟨_,List.getElem?_eq_getElem (by rw[HZ1.out.dl];exact hin)⟩
     obtain⟨e,he⟩:∃e,E1[i]? =some e:=⟨_,List.getElem?_eq_getElem (by rw[HZ1.out.el];exact hin)⟩
     have hds:=HZ1.out.ds d (List.mem_of_getElem? hd)
     have hes:=HZ1.out.es e (List.mem_of_getElem? he)
     have hd0:0<=d:=by have:=HD1P.out i;rwa[a4q hd]at this
     have hi8:i<8:=by have:=LN.out;omega
     have hpb:=HPS.out.mono (show _<=17179869184 by omega)
     have hrb:=HRS.out.mono (show _<=17179869184 by omega)
     have hpl:=fun W=>a6k pq d W hpb (hds.mono (by decide))
     have hrl:=fun W=>a6k rq e W hrb (hes.mono (by decide))
     obtain⟨pn,hpn⟩:∃q,q=pq+d:=⟨_,rfl⟩
     obtain⟨rn,hrn⟩:∃q,q=rq+e:=⟨_,rfl⟩
     rw[<- hpn]at hpl
     rw[<- hrn]at hrl
     have HPN:Hid (0<=pn):=zh (by rw[hpn];have:=HPP.out;grind)
     have HPZ:Hid (Sized ((i+1)*111746+1) pn):=zh (by rw[hpn];exact(HPS.out.add hds).mono (by omega))
     have HRZ:Hid (Sized ((i+1)*111746+1) rn):=zh (by rw[hrn];exact(HRS.out.add hes).mono (by omega))
     obtain⟨mb,hmb⟩:∃b,b=memB T ((i:Nat):Int):=⟨_,rfl⟩
     have hmc:=HME1.out i
     rw[<- hmb]at hmc
     have HFY:Hid (mb=true->∀j,j<E.length->putA F2 i true j=(F j||(decide (j<i+1)&&memB T ((j:Nat):Int)))):=zh fun h=>d0f (M:=fun j=>memB T ((j:Nat):Int)) HF2.out (hmb.symm.trans h)
     have HFN:Hid (mb=false->∀j,j<E.length->F2 j=(F j||(decide (j<i+1)&&memB T ((j:Nat):Int)))):=zh fun h=>put_no (M:=fun j=>memB T ((j:Nat):Int)) HF2.out (hmb.symm.trans h)
     have HDI:=zh (a5j hd)
     have HEI:=zh (a5j he)
     unfold rat raw at hpl hrl
     have HPL:=zh hpl
     have HRL:=zh hrl
     have HMC:=zh hmc
     have e0:(0:Int)<=((i:Nat):Int):=by omega
     have e1:((i:Nat):Int)<(E.length:Int):=by omega
     have e2:decide (((i:Nat):Int)<(E.length:Int))=true:=decide_eq_true e1
     have e5:IntKind.i64.wrap ((i:Int)+1)=((i+1:Nat):Int):=by have:=LN.out;rw[IntWalk.i64_in _ (by omega)];rfl
     clear hd he hds hes hd0 hi8 hpb hrb hpl hrl hpn hrn hmb hmc
     cases mb
     ·have x16:=cC HV 10 3
      have x17:=cC HV 10 4
      have x18:=HX1.out _ HV.out.below 0 _ rfl
      rw[Nat.add_zero]at x18
      go_wp2_with fail
      refine(HMC.out _ HV.out.below).mono ?_
      rintro e w8 ⟨rfl,hb8⟩
      have HV8:=zh (HV.out.call hb8)
      clear hb8 HV x16 x17 x18
      go_wp2
      go_roundw
      case rel=>exact⟨i+1,F2,pq,rq,by omega,by go_num,HPP.out,HPS.out.mono (by omega),HRS.out.mono (by omega),HFN.out (by simp),HV8.out⟩
      case measure=>simp[intOf];omega
     have x16:=cC HV 10 3
     have x17:=cC HV 10 4
     have x18:=HX1.out _ HV.out.below 0 _ rfl
     rw[Nat.add_zero]at x18
     go_wp2_with fail
     refine(HMC.out _ HV.out.below).mono ?_
     rintro e w8 ⟨rfl,hb8⟩
     have HV8:=zh (HV.out.call hb8)
     clear hb8 HV x16 x17 x18
     have x19:=HV8.out.cellE 2 rfl hin
     have x20:=HV8.out.frozen 2 rfl i
     have x21:=cN HV8 2 0
     have x22:=cN HV8 0 2
     have x23:=cN HV8 2 1
     have x24:=cN HV8 1 2
     have x25:=cN HV8 2 3
     have x26:=cN HV8 3 2
     have x27:=cN HV8 2 4
     have x28:=cN HV8 4 2
     have x29:=cN HV8 2 5
     have x30:=cN HV8 5 2
     have x31:=cN HV8 2 6
     have x32:=cN HV8 6 2
     have x33:=cN HV8 2 7
     have x34:=cN HV8 7 2
     have x35:=cN HV8 2 8
     have x36:=cN HV8 8 2
     have x37:=cN HV8 2 9
     have x38:=cN HV8 9 2
     have x39:=cN HV8 2 10
     have x40:=cN HV8 10 2
     go_wp2
     clear x19 x20 x21 x22 x23 x24 x25 x26 x27 x28 x29 x30 x31 x32 x33 x34 x35 x36 x37 x38 x39 x40
     refine a4m (R:=[_,_,⟨w5.heap.size,(rowE (.bool) E.length (putA F2 i true)),4⟩,_,_,_,_,_,_,_,_]) (St.setE (HV8.out) 2 rfl i (true)) ?_
     intro wg9 hb
     have HV9:=zh hb
     clear hb HV8
     refine a0e 9 [.agg #[.bool (negB (pq)),.string (bs (numB (pq))),.string (bs (a0a (pq)))],.pointer (some ⟨g1,0,none⟩),.pointer (some ⟨g1,0,none⟩),.pointer (some ⟨g1,0,none⟩),.slice (some ⟨gg1,0,none⟩) E.length E.length,.int .i64 (i:Nat),.pointer (some ⟨gg1,i*3,none⟩),.agg #[.bool (negB (d)),.string (bs (numB (d))),.string (bs (a0a (d)))],.agg #[.bool (negB (pn)),.string (bs (numB (pn))),.string (bs (a0a (pn)))]] rfl (by kernel_rfl) (by kernel_rfl) (by kernel_rfl) ?_ ?_
     refine⟨?_,?_,?_,?_,?_,?_,?_,?_,?_,trivial⟩<;>(intro xx af wv hbx hev hev0 hd;have H:=SH.mk hev hev0 hd;clear hev hev0 hd)
     ·have e9:=H.i 9;clear H;have hs1:=zh (HV9.out.call hbx);obtain⟨y0,y1,y2⟩:=hs1.out.k0 1 rfl rfl rfl rfl;go_wp2;exact sQ rfl
     ·have e5:=H.i 5;clear H;go_wp2;exact sQ rfl
     ·have e61:=H.r 1 61;clear H;go_wp2;exact sQ rfl
     ·have e62:=H.r 2 62;clear H;go_wp2;exact sQ rfl
     ·have e63:=H.r 3 63;clear H;have hs1:=zh (HV9.out.call hbx);have y0:=cC hs1 6 0;go_wp2;exact sQ rfl
     ·have e11:=H.i 11;clear H;go_wp2;exact sQ rfl
     ·have e64:=H.r 4 64;have e65:=H.r 5 65;clear H;go_wp2;exact sQ rfl
     ·have e66:=H.r 6 66;clear H;have hs1:=zh (HV9.out.call hbx);obtain⟨yr0,yr1,yr2⟩:=hs1.out.rowCells 7 rfl (HDI.out);go_wp2;exact sQ rfl
     ·have e60:=H.r 0 60;have e67:=H.r 7 67;clear H
      go_wp2_with fail
      refine(HPL.out _).mono ?_
      rintro e w8 ⟨rfl,hb8⟩;go_wp2;exact StepQ.mk _ hb8 rfl
     intro xx w10 hb9 hv
     simp only[List.take,List.drop,a0h,Act.put]
     simp only[vQ hv 0,vQ hv 1,vQ hv 2,vQ hv 3,vQ hv 4,vQ hv 5,vQ hv 6,vQ hv 7,vQ hv 8]
     clear hv
     have HV10:=zh (HV9.out.call hb9)
     clear hb9 HV9
     obtain⟨x41,x42,x43⟩:=HV10.out.k0 1 rfl rfl rfl rfl
     obtain⟨x44,x45,x46⟩:=HV10.out.f0 1 rfl
     have x47:=cN HV10 1 0
     have x48:=cN HV10 0 1
     have x49:=cN HV10 1 2
     have x50:=cN HV10 2 1
     have x51:=cN HV10 1 3
     have x52:=cN HV10 3 1
     have x53:=cN HV10 1 4
     have x54:=cN HV10 4 1
     have x55:=cN HV10 1 5
     have x56:=cN HV10 5 1
     have x57:=cN HV10 1 6
     have x58:=cN HV10 6 1
     have x59:=cN HV10 1 7
     have x60:=cN HV10 7 1
     have x61:=cN HV10 1 8
     have x62:=cN HV10 8 1
     have x63:=cN HV10 1 9
     have x64:=cN HV10 9 1
     have x65:=cN HV10 1 10
     have x66:=cN HV10 10 1
     go_wp2
     clear x41 x42 x43 x44 x45 x46 x47 x48 x49 x50 x51 x52 x53 x54 x55 x56 x57 x58 x59 x60 x61 x62 x63 x64 x65 x66
     refine a4m (R:=[_,⟨wo.heap.size,#[.bool (negB (pn)),.string (bs (numB (pn))),.string (bs (a0a (pn)))],39⟩,_,_,_,_,_,_,_,_,_]) (St.set (St.set (St.set (HV10.out) 1 rfl 0 _) 1 rfl 1 _) 1 rfl 2 _) ?_
     intro wg11 hb
     have HV11:=zh hb
     clear hb HV10
     refine a0e 9 [.agg #[.bool (negB (rq)),.string (bs (numB (rq))),.string (bs (a0a (rq)))],.pointer (some ⟨g1,0,none⟩),.pointer (some ⟨g1,0,none⟩),.pointer (some ⟨g1,1,none⟩),.slice (some ⟨gs1,0,none⟩) E.length E.length,.int .i64 (i:Nat),.pointer (some ⟨gs1,i*3,none⟩),.agg #[.bool (negB (e)),.string (bs (numB (e))),.string (bs (a0a (e)))],.agg #[.bool (negB (rn)),.string (bs (numB (rn))),.string (bs (a0a (rn)))]] rfl (by kernel_rfl) (by kernel_rfl) (by kernel_rfl) ?_ ?_
     refine⟨?_,?_,?_,?_,?_,?_,?_,?_,?_,trivial⟩<;>(intro xx af wv hbx hev hev0 hd;have H:=SH.mk hev hev0 hd;clear hev hev0 hd)
     ·have e10:=H.i 10;clear H;have hs1:=zh (HV11.out.call hbx);obtain⟨y0,y1,y2⟩:=hs1.out.k0 0 rfl rfl rfl rfl;go_wp2;exact sQ rfl
     ·have e5:=H.i 5;clear H;go_wp2;exact sQ rfl
     ·have e70:=H.r 1 70;clear H;go_wp2;exact sQ rfl
     ·have e71:=H.r 2 71;clear H;go_wp2;exact sQ rfl
     ·have e72:=H.r 3 72;clear H;have hs1:=zh (HV11.out.call hbx);have y0:=cC hs1 6 1;go_wp2;exact sQ rfl
     ·have e11:=H.i 11;clear H;go_wp2;exact sQ rfl
     ·have e73:=H.r 4 73;have e74:=H.r 5 74;clear H;go_wp2;exact sQ rfl
     ·have e75:=H.r 6 75;clear H;have hs1:=zh (HV11.out.call hbx);obtain⟨yr0,yr1,yr2⟩:=hs1.out.rowCells 8 rfl (HEI.out);go_wp2;exact sQ rfl
     ·have e69:=H.r 0 69;have e76:=H.r 7 76;clear H
      go_wp2_with fail
      refine(HRL.out _).mono ?_
      rintro e w8 ⟨rfl,hb8⟩;go_wp2;exact StepQ.mk _ hb8 rfl
     intro xx w12 hb9 hv
     simp only[List.take,List.drop,a0h,Act.put]
     simp only[vQ hv 0,vQ hv 1,vQ hv 2,vQ hv 3,vQ hv 4,vQ hv 5,vQ hv 6,vQ hv 7,vQ hv 8]
     clear hv
     have HV12:=zh (HV11.out.call hb9)
     clear hb9 HV11
     obtain⟨x67,x68,x69⟩:=HV12.out.k0 0 rfl rfl rfl rfl
     obtain⟨x70,x71,x72⟩:=HV12.out.f0 0 rfl
     have x73:=cN HV12 0 1
     have x74:=cN HV12 1 0
     have x75:=cN HV12 0 2
     have x76:=cN HV12 2 0
     have x77:=cN HV12 0 3
     have x78:=cN HV12 3 0
     have x79:=cN HV12 0 4
     have x80:=cN HV12 4 0
     have x81:=cN HV12 0 5
     have x82:=cN HV12 5 0
     have x83:=cN HV12 0 6
     have x84:=cN HV12 6 0
     have x85:=cN HV12 0 7
     have x86:=cN HV12 7 0
     have x87:=cN HV12 0 8
     have x88:=cN HV12 8 0
     have x89:=cN HV12 0 9
     have x90:=cN HV12 9 0
     have x91:=cN HV12 0 10
     have x92:=cN HV12 10 0
     go_wp2
     have HV13:Hid (St w [⟨wo.heap.size+1,#[.bool (negB (rn)),.string (bs (numB (rn))),.string (bs (a0a (rn)))],39⟩,_,_,_,_,_,_,_,_,_,_] _):=zh (St.set (St.set (St.set (HV12.out) 0 rfl 0 _) 0 rfl 1 _) 0 rfl 2 _)
     go_roundw
     case rel=>exact⟨i+1,putA F2 i true,pn,rn,by omega,by go_num,HPN.out,HPZ.out,HRZ.out,HFY.out (by simp),HV13.out⟩
     case measure=>simp[intOf];omega
    have hie:i=E.length:=by omega
    rw[hie]at HPS HRS HF2 ⊢
    have e2:decide (((E.length:Nat):Int)<(E.length:Int))=false:=decide_eq_false (by omega)
    have hn8:=LN.out
    have hk8:=HK8.out
    have HFA:=zh (d0g HTQ.out HF.out HF2.out)
    have HPM:=HPS.out.mono (show _<=893969 by omega)
    have HRM:=HRS.out.mono (show _<=893969 by omega)
    have HPO:=zh (fun(v:Value) (R:List Own) W (h:St w (sB g2 gg2 gs2 E.length ρ2 b2 D2 E2 R) W) (hv:TrsR v (allT E T) R)=>b2g g2 gg2 gs2 E.length ρ2 b2 D2 E2 v (allT E T) pq rq 1104 893969 8841 973547 893969 (1+72*k*(1886304+1)) 1886304 W h hv HFT1.out ⟨by decide,by decide,by decide,by omega⟩ HZ2.out.front HPM HRM)
    have HDG:=zh (HDL.out.go HTQ.out HPP.out)
    obtain⟨DP,hDP⟩:∃D,D=a1u (allT E T) pq D2:=⟨_,rfl⟩
    rw[<- hDP]at HPO HDG
    unfold rat raw at HPO
    clear hie hi hin hn8 hk8 HPM HRM hDP
    have x16:=cC HV 10 3
    go_wp2
    clear x16
    refine a0d 10 [eQ (.pointer (some ⟨g2,0,none⟩)),eQ (.agg #[.bool cn,.string (bs ca),.string (bs cb),.slice Ac E.length cc,.slice (some ⟨bA,oA,none⟩) A.length cx]),eQ (.pointer (some ⟨w.heap.size,4,none⟩)),eQ (.slice (some ⟨bA,oA,none⟩) A.length cx),eQ (.int .i64 (k:Nat)),eQ (.pointer (some ⟨bA,oA+k,none⟩)),eQ (.agg #[.slice A3 T.length c3]),fun ww vv=>Tro ww w.heap.size vv (allT E T),eQ (.agg #[.bool (negB (pq)),.string (bs (numB (pq))),.string (bs (a0a (pq)))]),eQ (.agg #[.bool (negB (rq)),.string (bs (numB (rq))),.string (bs (a0a (rq)))])] rfl (by kernel_rfl) (by kernel_rfl) (by kernel_rfl) ⟨stE,stE,stE,stE,stE,stE,stE,fun _ _ _ h hb=>h.below hb,stE,stE,trivial⟩ ?_ ?_
    refine⟨?_,?_,?_,?_,?_,?_,?_,?_,?_,?_,trivial⟩<;>(intro xx af wv hbx hev hev0 hd;have H:=SH.mk hev hev0 hd;clear hev hev0 hd)
    ·have e6:=H.i 6;clear H;go_wp2;exact sQ rfl
    ·have e2:=H.i 2;clear H;have hs1:=zh (HV.out.call hbx);obtain⟨y0,y1,y2⟩:=hs1.out.k0 10 rfl rfl rfl rfl;have y3:=cC hs1 10 3;have y4:=cC hs1 10 4;go_wp2;exact sQ rfl
    ·have e2:=H.i 2;clear H;go_wp2;exact sQ rfl
    ·have e80:=H.r 2 80;clear H;have hs1:=zh (HV.out.call hbx);have y0:=cC hs1 10 4;go_wp2;exact sQ rfl
    ·have e8:=H.i 8;clear H;go_wp2;exact sQ rfl
    ·have e81:=H.r 3 81;have e82:=H.r 4 82;clear H;go_wp2;exact sQ rfl
    ·have e83:=H.r 5 83;clear H;have hs1:=zh (HV.out.call hbx);have y0:=HX1.out _ hs1.out.below 0 _ rfl;rw[Nat.add_zero]at y0;go_wp2;exact sQ rfl
    ·have e79:=H.r 1 79;have e84:=H.r 6 84;clear H;have hs1:=zh (HV.out.call hbx)
     go_wp2_with fail
     refine(HTI1.out _ hs1.out.below).mono ?_
     rintro e w8 ⟨v8,rfl,hl8,hb8⟩;go_wp2;exact StepQ.mk _ hb8 hl8
    ·have e9:=H.i 9;clear H;have hs1:=zh (HV.out.call hbx);obtain⟨y0,y1,y2⟩:=hs1.out.k0 1 rfl rfl rfl rfl;go_wp2;exact sQ rfl
    ·have e10:=H.i 10;clear H;have hs1:=zh (HV.out.call hbx);obtain⟨y0,y1,y2⟩:=hs1.out.k0 0 rfl rfl rfl rfl;go_wp2;exact sQ rfl
    intro xx w8 hb9 hv
    obtain⟨v8_7,hx7⟩:∃v,v=xx 7:=⟨_,rfl⟩
    have hl7:Tro w8 w.heap.size (xx 7) (allT E T):=hv 7 (by decide)
    rw[<- hx7]at hl7
    simp only[List.take,List.drop,a0h,Act.put]
    simp only[vQ hv 0,vQ hv 1,vQ hv 2,vQ hv 3,vQ hv 4,vQ hv 5,vQ hv 6,vQ hv 8,vQ hv 9,<-hx7]
    clear hv hx7
    have HV8:=zh (HV.out.call hb9)
    have HTZ:=zh hl7
    clear hl7 hb9 HV
    obtain⟨us,bk,_,hSX,hTR,_,_⟩:=Tro.beside HTZ.out HV8.out (Nat.le_refl _) (fun x hx=>by simp only[List.mem_cons,List.mem_nil_iff,or_false]at hx;rcases hx with rfl | rfl | rfl | rfl | rfl | rfl | rfl | rfl | rfl | rfl | rfl;exact⟨by show 39≠145;decide,by show 39≠143;decide⟩;exact⟨by show 39≠145;decide,by show 39≠143;decide⟩;exact⟨by show 4≠145;decide,by show 4≠143;decide⟩;exact⟨by show 87≠145;decide,by show 87≠143;decide⟩;exact⟨by show 39≠145;decide,by show 39≠143;decide⟩;exact⟨by show 39≠145;decide,by show 39≠143;decide⟩;exact⟨by show 87≠145;decide,by show 87≠143;decide⟩;exact⟨by show 39≠145;decide,by show 39≠143;decide⟩;exact⟨by show 39≠145;decide,by show 39≠143;decide⟩;exact⟨by show 39≠145;decide,by show 39≠143;decide⟩;exact⟨by show 44≠145;decide,by show 44≠143;decide⟩)
    have HSX:Hid (St w (⟨wo.heap.size+1,#[.bool (negB (rq)),.string (bs (numB (rq))),.string (bs (a0a (rq)))],39⟩::⟨wo.heap.size,#[.bool (negB (pq)),.string (bs (numB (pq))),.string (bs (a0a (pq)))],39⟩::⟨w5.heap.size,(rowE (.bool) E.length F2),4⟩::_::_::_::_::_::_::_::_::bk) _):=zh hSX
    have HTR:=zh hTR
    clear hSX hTR HTZ HV8
    go_wp2_with fail
    refine(HPO.out _ _ _ (a6j [⟨wo.heap.size+1,#[.bool (negB (rq)),.string (bs (numB (rq))),.string (bs (a0a (rq)))],39⟩,⟨wo.heap.size,#[.bool (negB (pq)),.string (bs (numB (pq))),.string (bs (a0a (pq)))],39⟩,⟨w5.heap.size,(rowE (.bool) E.length F2),4⟩] HSX.out) (HTR.out.more (fun r hr=>List.mem_append_right _ (List.mem_cons_of_mem _ (List.mem_cons_of_mem _ (List.mem_cons_of_mem _ (List.mem_cons_of_mem _ (List.mem_cons_of_mem _ (hr))))))))).mono ?_
    rintro e w9 ⟨rfl,ρ3,b3,E3,hZ3,hq9⟩
    have hst9:=a8k [⟨wo.heap.size+1,#[.bool (negB (rq)),.string (bs (numB (rq))),.string (bs (a0a (rq)))],39⟩,⟨wo.heap.size,#[.bool (negB (pq)),.string (bs (numB (pq))),.string (bs (a0a (pq)))],39⟩,⟨w5.heap.size,(rowE (.bool) E.length F2),4⟩] hq9
    have HZ3:=zh hZ3.back
    clear hq9 hZ3
    have HSX9:Hid (St w (⟨wo.heap.size+1,#[.bool (negB (rq)),.string (bs (numB (rq))),.string (bs (a0a (rq)))],39⟩::⟨wo.heap.size,#[.bool (negB (pq)),.string (bs (numB (pq))),.string (bs (a0a (pq)))],39⟩::⟨w5.heap.size,(rowE (.bool) E.length F2),4⟩::⟨g2,#[.slice (some ⟨gg2,0,none⟩) E.length E.length,.slice (some ⟨gs2,0,none⟩) E.length E.length,.bool false,.string (bs []),.string (bs []),.bool false,.string (bs []),.string (bs []),.bool (negB (ρ3)),.string (bs (numB (ρ3))),.string (bs (a0a (ρ3))),.bool b3],87⟩::⟨gg2,(rowA ((DP.map encT))),39⟩::⟨gs2,(rowA ((E3.map encT))),39⟩::⟨g1,#[.slice (some ⟨gg1,0,none⟩) E.length E.length,.slice (some ⟨gs1,0,none⟩) E.length E.length,.bool false,.string (bs []),.string (bs []),.bool false,.string (bs []),.string (bs []),.bool (negB (ρ1)),.string (bs (numB (ρ1))),.string (bs (a0a (ρ1))),.bool true],87⟩::⟨gg1,(rowA ((D1.map encT))),39⟩::⟨gs1,(rowA ((E1.map encT))),39⟩::⟨w.heap.size+1,#[.bool (negB (m)),.string (bs (numB (m))),.string (bs (a0a (m)))],39⟩::⟨w.heap.size,#[.bool cn,.string (bs ca),.string (bs cb),.slice Ac E.length cc,.slice (some ⟨bA,oA,none⟩) A.length cx],44⟩::bk) w9):=zh hst9
    clear hst9 HSX
    go_wp2
    go_roundw
    case rel=>exact⟨k+1,ρ3,b3,DP,E3,F2,by omega,by go_num,HDG.out,HZ3.out.mono (by omega),HFA.out,HSX9.out.sub (List.Sublist.cons _ (List.Sublist.cons _ (List.Sublist.cons_cons _ (List.Sublist.cons_cons _ (List.Sublist.cons_cons _ (List.Sublist.cons_cons _ (List.Sublist.cons_cons _ (List.Sublist.cons_cons _ (List.Sublist.cons_cons _ (List.Sublist.cons_cons _ (List.Sublist.cons_cons _ (List.nil_sublist _))))))))))))⟩
    case measure=>simp[intOf];omega
  have hke:k=A.length:=by omega
  rw[hke]at HDL HZ2 HF ⊢
  have f2:decide (((A.length:Nat):Int)<(A.length:Int))=false:=decide_eq_false (by omega)
  rw[List.take_length]at HDL HF
  clear hke hk hkn
  have x10:=cC HS 8 4
  go_wp2
  go_loopw [12] (fun i_ wr=>∃ (i:Nat) (D E3:List Rat),i<=E.length/\i_=.int .i64 i/\Hid (FinD E.length F D2 D)/\Hid (PSz 1 1886304 E.length (72*A.length+i) D E3 ρ2)/\Hid (St w [⟨w5.heap.size,(rowE (.bool) E.length F),4⟩,⟨g2,#[.slice (some ⟨gg2,0,none⟩) E.length E.length,.slice (some ⟨gs2,0,none⟩) E.length E.length,.bool false,.string (bs []),.string (bs []),.bool false,.string (bs []),.string (bs []),.bool (negB (ρ2)),.string (bs (numB (ρ2))),.string (bs (a0a (ρ2))),.bool b2],87⟩,⟨gg2,(rowA ((D.map encT))),39⟩,⟨gs2,(rowA ((E3.map encT))),39⟩,⟨g1,#[.slice (some ⟨gg1,0,none⟩) E.length E.length,.slice (some ⟨gs1,0,none⟩) E.length E.length,.bool false,.string (bs []),.string (bs []),.bool false,.string (bs []),.string (bs []),.bool (negB (ρ1)),.string (bs (numB (ρ1))),.string (bs (a0a (ρ1))),.bool true],87⟩,⟨gg1,(rowA ((D1.map encT))),39⟩,⟨gs1,(rowA ((E1.map encT))),39⟩,⟨w.heap.size+1,#[.bool (negB (m)),.string (bs (numB (m))),.string (bs (a0a (m)))],39⟩,⟨w.heap.size,#[.bool cn,.string (bs ca),.string (bs cb),.slice Ac E.length cc,.slice Aa A.length cx],44⟩] wr)) (fun i_ _=>E.length-(intOf i_).toNat)
  case atStart=>exact⟨0,D2,E2,Nat.zero_le _,rfl,FinD.refl _ _ _,HZ2.out,HS.out⟩
  case round =>
   clear HS
   obtain⟨i,D,E3,hi,rfl,HFD,HZ3,HV⟩:=hrel
   by_cases hin:i<E.length
   ·obtain⟨d,hd⟩:∃d,D1[i]? =some d:=⟨_,List.getElem?_eq_getElem (by rw[HZ1.out.dl];exact hin)⟩
    obtain⟨e,he⟩:∃e,E1[i]? =some e:=⟨_,List.getElem?_eq_getElem (by rw[HZ1.out.el];exact hin)⟩
    have hds:=HZ1.out.ds d (List.mem_of_getElem? hd)
    have hes:=HZ1.out.es e (List.mem_of_getElem? he)
    have hd0:0<=d:=by have:=HD1P.out i;rwa[a4q hd]at this
    have hi8:i<8:=by have:=LN.out;omega
    have ha8:=LA.out
    obtain⟨hf1,hf2⟩:=HZ3.out.fit' (by omega)
    have HPU:=zh (fun(X:List Own) (R:List Own) W (h:St w (sB g2 gg2 gs2 E.length ρ2 b2 D E3 (X++R)) W)=>a8h g2 gg2 gs2 E.length ρ2 b2 D E3 i d e W h HZ3.out.dl HZ3.out.el hin (fun y hy=>(hf1 y hy).mono (by decide)) (fun y hy=>(hf2 y hy).mono (by decide)) (hds.mono (by decide)) (hes.mono (by decide)))
    have HPZ:=zh (HZ3.out.put hin (hds.mono (by decide)) (hes.mono (by decide)))
    have HFP:Hid (F i=false->FinD E.length F D2 (a2k D i d)):=zh fun h=>HFD.out.put (by rw[HZ3.out.dl];exact hin) h hd0
    have HDI:=zh (a5j hd)
    have HEI:=zh (a5j he)
    unfold rat raw at HPU
    obtain⟨fb,hfb⟩:∃b,F i=b:=⟨_,rfl⟩
    have e0:(0:Int)<=((i:Nat):Int):=by omega
    have e1:((i:Nat):Int)<(E.length:Int):=by omega
    have e2:decide (((i:Nat):Int)<(E.length:Int))=true:=decide_eq_true e1
    have e5:IntKind.i64.wrap ((i:Int)+1)=((i+1:Nat):Int):=by have:=LN.out;rw[IntWalk.i64_in _ (by omega)];rfl
    clear hd he hds hes hd0 hi8 ha8 hf1 hf2
    cases fb
    ·have x11:=cC HV 8 3
     have x12:=HV.out.cellE 0 rfl hin
     rw[hfb]at x12
     go_wp2
     clear x11 x12
     refine a0e 16 [.pointer (some ⟨g2,0,none⟩),.int .i64 (i:Nat),.pointer (some ⟨g1,0,none⟩),.pointer (some ⟨g1,0,none⟩),.pointer (some ⟨g1,0,none⟩),.slice (some ⟨gg1,0,none⟩) E.length E.length,.int .i64 (i:Nat),.pointer (some ⟨gg1,i*3,none⟩),.agg #[.bool (negB (d)),.string (bs (numB (d))),.string (bs (a0a (d)))],.pointer (some ⟨g1,0,none⟩),.pointer (some ⟨g1,0,none⟩),.pointer (some ⟨g1,1,none⟩),.slice (some ⟨gs1,0,none⟩) E.length E.length,.int .i64 (i:Nat),.pointer (some ⟨gs1,i*3,none⟩),.agg #[.bool (negB (e)),.string (bs (numB (e))),.string (bs (a0a (e)))]] rfl (by kernel_rfl) (by kernel_rfl) (by kernel_rfl) ?_ ?_
     refine⟨?_,?_,?_,?_,?_,?_,?_,?_,?_,?_,?_,?_,?_,?_,?_,?_,trivial⟩<;>(intro xx af wv hbx hev hev0 hd;have H:=SH.mk hev hev0 hd;clear hev hev0 hd)
     ·have e6:=H.i 6;clear H;go_wp2;exact sQ rfl
     ·have e12:=H.i 12;clear H;go_wp2;exact sQ rfl
     ·have e5:=H.i 5;clear H;go_wp2;exact sQ rfl
     ·have e103:=H.r 2 103;clear H;go_wp2;exact sQ rfl
     ·have e104:=H.r 3 104;clear H;go_wp2;exact sQ rfl
     ·have e105:=H.r 4 105;clear H;have hs1:=zh (HV.out.call hbx);have y0:=cC hs1 4 0;go_wp2;exact sQ rfl
     ·have e12:=H.i 12;clear H;go_wp2;exact sQ rfl
     ·have e106:=H.r 5 106;have e107:=H.r 6 107;clear H;go_wp2;exact sQ rfl
     ·have e108:=H.r 7 108;clear H;have hs1:=zh (HV.out.call hbx);obtain⟨yr0,yr1,yr2⟩:=hs1.out.rowCells 5 rfl (HDI.out);go_wp2;exact sQ rfl
     ·have e5:=H.i 5;clear H;go_wp2;exact sQ rfl
     ·have e110:=H.r 9 110;clear H;go_wp2;exact sQ rfl
     ·have e111:=H.r 10 111;clear H;go_wp2;exact sQ rfl
     ·have e112:=H.r 11 112;clear H;have hs1:=zh (HV.out.call hbx);have y0:=cC hs1 4 1;go_wp2;exact sQ rfl
     ·have e12:=H.i 12;clear H;go_wp2;exact sQ rfl
     ·have e113:=H.r 12 113;have e114:=H.r 13 114;clear H;go_wp2;exact sQ rfl
     ·have e115:=H.r 14 115;clear H;have hs1:=zh (HV.out.call hbx);obtain⟨yr0,yr1,yr2⟩:=hs1.out.rowCells 6 rfl (HEI.out);go_wp2;exact sQ rfl
     intro xx w7 hb9 hv
     simp only[List.take,List.drop,a0h,Act.put]
     simp only[vQ hv 0,vQ hv 1,vQ hv 2,vQ hv 3,vQ hv 4,vQ hv 5,vQ hv 6,vQ hv 7,vQ hv 8,vQ hv 9,vQ hv 10,vQ hv 11,vQ hv 12,vQ hv 13,vQ hv 14,vQ hv 15]
     clear hv
     have HV7:=zh (HV.out.call hb9)
     clear hb9 HV
     go_wp2_with fail
     refine(HPU.out [⟨w5.heap.size,(rowE (.bool) E.length F),4⟩] _ _ (a6j [⟨w5.heap.size,(rowE (.bool) E.length F),4⟩] HV7.out)).mono ?_
     rintro e w8 ⟨rfl,hq8⟩
     have hst8:=a8k [⟨w5.heap.size,(rowE (.bool) E.length F),4⟩] hq8
     clear hq8
     have HV8:Hid (St w [⟨w5.heap.size,(rowE (.bool) E.length F),4⟩,⟨g2,#[.slice (some ⟨gg2,0,none⟩) E.length E.length,.slice (some ⟨gs2,0,none⟩) E.length E.length,.bool false,.string (bs []),.string (bs []),.bool false,.string (bs []),.string (bs []),.bool (negB (ρ2)),.string (bs (numB (ρ2))),.string (bs (a0a (ρ2))),.bool b2],87⟩,⟨gg2,(rowA (((a2k D i d).map encT))),39⟩,⟨gs2,(rowA (((a2k E3 i e).map encT))),39⟩,⟨g1,#[.slice (some ⟨gg1,0,none⟩) E.length E.length,.slice (some ⟨gs1,0,none⟩) E.length E.length,.bool false,.string (bs []),.string (bs []),.bool false,.string (bs []),.string (bs []),.bool (negB (ρ1)),.string (bs (numB (ρ1))),.string (bs (a0a (ρ1))),.bool true],87⟩,⟨gg1,(rowA ((D1.map encT))),39⟩,⟨gs1,(rowA ((E1.map encT))),39⟩,⟨w.heap.size+1,#[.bool (negB (m)),.string (bs (numB (m))),.string (bs (a0a (m)))],39⟩,⟨w.heap.size,#[.bool cn,.string (bs ca),.string (bs cb),.slice Ac E.length cc,.slice Aa A.length cx],44⟩] w8):=zh hst8
     clear hst8 HV7
     go_wp2
     go_roundw
     case rel=>exact⟨i+1,_,_,by omega,by go_num,HFP.out hfb,HPZ.out.mono (by omega),HV8.out⟩
     case measure=>simp[intOf];omega
    have x11:=cC HV 8 3
    have x12:=HV.out.cellE 0 rfl hin
    rw[hfb]at x12
    go_wp2
    go_roundw
    case rel=>exact⟨i+1,D,E3,by omega,by go_num,HFD.out,HZ3.out.mono (by omega),HV.out⟩
    case measure=>simp[intOf];omega
   have hie:i=E.length:=by omega
   rw[hie]at HZ3 ⊢
   have e2:decide (((E.length:Nat):Int)<(E.length:Int))=false:=decide_eq_false (by omega)
   have hn8:=LN.out
   have ha8:=LA.out
   have HFI:=HZ3.out.fit' (by omega)
   clear hie hi hin hn8 ha8
   have x11:=cC HV 8 3
   go_wp2
   go_ret
   exact⟨g2,gg2,gs2,ρ2,b2,D,E3,rfl,⟨HZ3.out.dl,D2,HDL.out,HFD.out.congr HF.out⟩,HFI.1,HV.out.sub (List.Sublist.cons _ (List.Sublist.cons_cons _ (List.Sublist.cons_cons _ (List.Sublist.cons_cons _ (List.nil_sublist _)))))⟩
end Go.Proofs.YtjmiicjialkpiaaGreatDoor
