/-
Part 48 of the base.
-/
import Derived.Test.YtjmiicjialkpiaaGreatDoorRf34
set_option maxRecDepth 100000
set_option maxHeartbeats 4000000
namespace Go.Proofs.YtjmiicjialkpiaaGreatDoor
open Go.RowKit
def limS(l:List Cls)(s:List UInt8)(k:Nat):Bool:=(l.take k).any fun x=>decide (x.kind=3)&&x.name==s
theorem lim_go{l:List Cls}{s:List UInt8}{k:Nat}{x:Cls}(h:l[k]? =some x):limS l s (k+1)=(limS l s k||(decide (x.kind=3)&&x.name==s)):=by
 unfold limS
 rw[a3g h,List.any_append,List.any_cons,List.any_nil,Bool.or_false]
theorem sgn_lt3{q:Rat}(h:sgn q.num<0):q<0:=by
 refine Classical.byContradiction fun hn=>?_
 have h1:=Rat.num_nonneg.2 (show 0<=q by grind)
 rcases a3c q.num with ⟨a,b⟩ | ⟨a,b⟩ | ⟨a,b⟩<;>omega
theorem sgn_gt3{q:Rat}(h:0<sgn q.num):0<q:=by
 refine Classical.byContradiction fun hn=>?_
 have h1:=Rat.num_nonneg.2 (show 0 <= -q by grind)
 rw[Rat.neg_num]at h1
 rcases a3c q.num with ⟨a,b⟩ | ⟨a,b⟩ | ⟨a,b⟩<;>omega
theorem sgn_nn3{q:Rat}(h:0<=q):0<=sgn q.num:=by
 have h1:=Rat.num_nonneg.2 h
 rcases a3c q.num with ⟨a,b⟩ | ⟨a,b⟩ | ⟨a,b⟩<;>omega
theorem lim_none{l:List Cls}{s:List UInt8}(h:limS l s l.length=false):limC l s=none:=by
 unfold limS at h
 rw[List.take_length,List.any_eq_false]at h
 unfold limC
 rw[List.find?_eq_none]
 exact fun x hx=>h x hx
theorem b2x(v1:Value)(ts:List Duo)(v2:Value)(xs:List Qua)(mi:Int)(w:World)(h1:Duos w v1 ts)(k1:∀t∈ts,t.ok)(h2:Quas w v2 xs)(k2:∀t∈xs,t.ok)(hmi:0<=mi/\mi<=65535):Calls Tryz.prog 3 #[v1,v2,.int .u16 mi] w fun e w'=>e=.returned (.bool true)/\Below w.heap.size w w':=by
 obtain⟨mn,rfl⟩:=Int.eq_ofNat_of_zero_le hmi.1
 have hmx:mn<=65535:=by omega
 have HAMT:=zh (fun W=>b0q mn W hmx)
 have HAMS:Hid (Sized 16 (a2f mn)):=zh ((a3v hmx).mono (by decide))
 have HAMP:Hid (0<=a2f mn):=zh (b7n mn)
 obtain⟨am,ham⟩:∃q,q=a2f mn:=⟨_,rfl⟩
 rw[<- ham]at HAMT HAMS HAMP
 clear ham hmi hmx
 have dN:=fun W (hb:Below w.heap.size w W)=>c8p v1 ts W (h1.below hb) k1
 have dL:=fun W (hb:Below w.heap.size w W)=>c3f v2 xs W (h2.below hb) k2
 have hF:=d2x k1 k2
 have dA:=fun W=>c4w W
 obtain⟨A1,c1,rfl,_,_⟩:=Slc.slice h1
 obtain⟨A2,c2,rfl,_,_⟩:=Slc.slice h2
 have hcl:=c2w ts
 have hll:=b6r xs
 have hnsz:=named_sz k1
 generalize a7s ts=cl at *
 have hcam:=d2t k2
 have hcsz:=d2s k2
 generalize a3d xs=l at *
 have dC:=fun a b W (ha:NmdL W a cl) (hb:ClsL W b l)=>a5y a b cl l W ha hb hF
 have DC:=zh dC
 have DN:=zh dN
 have DL:=zh dL
 have DA:=zh dA
 have LC:=zh hcl
 have LL:=zh hll
 have HFL:=zh (fun c hc=>(hF.cls c hc).2.2.1)
 have HNA:=zh (fun c hc=>(hF.nmd c hc).2)
 have HCM:=zh hcam
 have HNZ:=zh hnsz
 have HCZ:=zh hcsz
 unfold rat at HAMT
 unfold raw at HAMT
 clear hcam hnsz hcsz h1 k1 h2 k2 dN dL hF dA dC hcl hll
 go_enter Tryz.func3,Tryz.ntmps3
 have HS:=zh (St.start w)
 go_wp2_with fail
 refine(DN.out _ HS.out.below).mono ?_
 rintro e w2 ⟨vn,rfl,hN,hb2⟩
 obtain⟨An,cn,rfl,_,_⟩:=Slc.slice hN
 have HS2:=zh (HS.out.call hb2)
 have N_2:=zh hN
 clear hN hb2 HS
 go_wp2_with fail
 refine(DL.out _ HS2.out.below).mono ?_
 rintro e w3 ⟨vl,rfl,hL,hb3⟩
 obtain⟨Al,dn,rfl,_,_⟩:=ClsL.slice hL
 have HS3:=zh (HS2.out.call hb3)
 have N_3:=zh (N_2.out.below hb3)
 clear N_2
 have L_3:=zh hL
 clear hL hb3 HS2
 go_wp2_with fail
 refine(((DC.out _ _ _ N_3.out L_3.out).mono fun _ _ h=>h.open)).mono ?_
 rintro e w4 ⟨Ap,cp,Bp,dp,Rp,Gp,ip,ep,rfl,hPp,hCp,hb4⟩
 generalize hnR:Rp.length=nR at *
 have HNR:=zh hnR
 clear hnR
 have HCp:=zh hCp
 clear hCp
 have HS4:=zh (HS3.out.call hb4)
 obtain⟨q,hq⟩:∃q,q=(ep != 0):=⟨_,rfl⟩
 have hq1:(ep != 0)=q:=hq.symm
 have HEQ:=zh hq1
 clear hq
 have N_4:=zh (N_3.out.below hb4)
 clear N_3
 have L_4:=zh (L_3.out.below hb4)
 clear L_3
 have Pp_4:=zh hPp
 clear hPp hb4 HS3
 go_upto_if 33 with fail
 cases q
 ·have he0:ep=0:=by have h0:=HEQ.out;rwa[bne_eq_false_iff_eq]at h0
  subst he0
  obtain⟨hck,_,hO,hR,hA⟩:=(HCp.out).okay
  have hrl:nR=cl.length:=by rw[<- HNR.out];exact hR.1
  subst hrl
  have HOK:=zh (est_ok hck hO hR hA LC.out HNA.out HCM.out)
  have HEO:=zh (est_eok hck hO hR hA LC.out HNA.out HCM.out HNZ.out)
  have HTK:=zh (est_tok hO hA LC.out HCM.out HCZ.out)
  have HEL:=zh (b1v hR.1)
  have HO:=zh hO
  have HA:=zh hA
  have HR:=zh hR
  clear hO hR HEQ hck hA
  go_wp2_with fail
  have HS5:=aL HS4 #[.slice Ap cl.length cp,.slice Bp Gp.length dp] 32 w4.heap.size
  refine(c3e _ cl _ _ Rp Gp _ (N_4.out.below (Ext.alloc (Below.refl w4.heap.size w4) (Obj.cells #[.slice Ap cl.length cp,.slice Bp Gp.length dp] 32))) (Pp_4.out.below (Ext.alloc (Below.refl w4.heap.size w4) (Obj.cells #[.slice Ap cl.length cp,.slice Bp Gp.length dp] 32))) HR.out.1 (by have:=LC.out;omega)).mono ?_
  rintro e w6 ⟨ve,rfl,hV,hb6⟩
  have HS6:=zh (HS5.out.call hb6)
  have N_6:=zh (N_4.out.below (Ext.trans (Ext.alloc (Below.refl w4.heap.size w4) (Obj.cells #[.slice Ap cl.length cp,.slice Bp Gp.length dp] 32)) hb6))
  clear N_4
  have L_6:=zh (L_4.out.below (Ext.trans (Ext.alloc (Below.refl w4.heap.size w4) (Obj.cells #[.slice Ap cl.length cp,.slice Bp Gp.length dp] 32)) hb6))
  clear L_4
  have Pp_6:=zh (Pp_4.out.below (Ext.trans (Ext.alloc (Below.refl w4.heap.size w4) (Obj.cells #[.slice Ap cl.length cp,.slice Bp Gp.length dp] 32)) hb6))
  clear Pp_4
  have V_6:=zh hV
  clear hV hb6 HS4 HS5
  go_wp2_with fail
  refine(HAMT.out _).mono ?_
  rintro e w7 ⟨rfl,hb7⟩
  have HS7:=zh (HS6.out.call hb7)
  have N_7:=zh (N_6.out.below hb7)
  clear N_6
  have L_7:=zh (L_6.out.below hb7)
  clear L_6
  have Pp_7:=zh (Pp_6.out.below hb7)
  clear Pp_6
  have V_7:=zh (V_6.out.below hb7)
  clear V_6 hb7 HS6
  go_wp2_with fail
  refine(b9x false [] [] ve _ (estC cl Rp) Gp am _ V_7.out Pp_7.out.2 HOK.out (by decide +kernel) (by decide) (by decide) HEO.out (fun T hT=>by rw[HEL.out];exact HTK.out.2 T hT) HTK.out.1 HAMS.out HAMP.out).mono ?_
  rintro e w8 ⟨vd,D,rfl,hD,hZ,hRt,hb8⟩
  obtain⟨Ad,cd,hvd,_,_⟩:=Slc.slice hRt
  rw[List.length_map,hD.1,HEL.out]at hvd
  subst hvd
  have HD:=zh hD
  have HZ:=zh hZ
  clear hD hZ
  unfold raw
  have HS8:=zh (HS7.out.call hb8)
  have N_8:=zh (N_7.out.below hb8)
  clear N_7
  have L_8:=zh (L_7.out.below hb8)
  clear L_7
  have Pp_8:=zh (Pp_7.out.below hb8)
  clear Pp_7
  have V_8:=zh (V_7.out.below hb8)
  clear V_7
  have Rt_8:=zh hRt
  clear hRt hb8 HS7
  go_wp2_with fail
  have HS9:=aL HS8 #[.bool false,.string (bs []),.string (bs [])] 39 w8.heap.size
  refine(b9u _ _ cl l _ (N_8.out.below (Ext.alloc (Below.refl w8.heap.size w8) (Obj.cells #[.bool false,.string (bs []),.string (bs [])] 39))) (L_8.out.below (Ext.alloc (Below.refl w8.heap.size w8) (Obj.cells #[.bool false,.string (bs []),.string (bs [])] 39))) ⟨HO.out,HFL.out⟩ (by have:=LC.out;omega) (by have:=LL.out;omega)).mono ?_
  rintro e w10 ⟨vm,M,rfl,hM,hMr,hb10⟩
  obtain⟨Am,cm,rfl,_,_⟩:=MatB.slice hM
  have HMR:=zh hMr
  clear hMr
  have HS10:=zh (HS9.out.call hb10)
  have N_10:=zh (N_8.out.below (Ext.trans (Ext.alloc (Below.refl w8.heap.size w8) (Obj.cells #[.bool false,.string (bs []),.string (bs [])] 39)) hb10))
  clear N_8
  have L_10:=zh (L_8.out.below (Ext.trans (Ext.alloc (Below.refl w8.heap.size w8) (Obj.cells #[.bool false,.string (bs []),.string (bs [])] 39)) hb10))
  clear L_8
  have Pp_10:=zh (Pp_8.out.below (Ext.trans (Ext.alloc (Below.refl w8.heap.size w8) (Obj.cells #[.bool false,.string (bs []),.string (bs [])] 39)) hb10))
  clear Pp_8
  have V_10:=zh (V_8.out.below (Ext.trans (Ext.alloc (Below.refl w8.heap.size w8) (Obj.cells #[.bool false,.string (bs []),.string (bs [])] 39)) hb10))
  clear V_8
  have Rt_10:=zh (Rt_8.out.below (Ext.trans (Ext.alloc (Below.refl w8.heap.size w8) (Obj.cells #[.bool false,.string (bs []),.string (bs [])] 39)) hb10))
  clear Rt_8
  have M_10:=zh hM
  clear hM hb10 HS8 HS9
  have HB0:=zh HS10.out.below
  have HT:=zh (St.start w10)
  clear HS10
  go_wp2
  go_loopw [58] (fun i_ wr=>∃i:Nat,i<=cl.length/\i_=.int .i64 i/\Hid (St w10 [] wr)) (fun i_ _=>cl.length-(intOf i_).toNat)
  case atStart=>exact⟨0,Nat.zero_le _,rfl,HT.out⟩
  case round =>
   clear HT
   obtain⟨i,hi,rfl,HS⟩:=hrel
   by_cases hin:i<cl.length
   ·obtain⟨b1,o1,x,rfl,hb1,hqx,hx1⟩:=Slc.at_ N_10.out hin
    obtain⟨b4,o4,gi,rfl,hb4,hqg,hx4⟩:=Slc.at_ Rt_10.out (show i<(D.map encT).length by rw[List.length_map,HD.out.1,HEL.out];exact hin)
    obtain⟨di,hdi⟩:∃d,D[i]? =some d:=⟨_,List.getElem?_eq_getElem (by rw[HD.out.1,HEL.out];exact hin)⟩
    rw[a5j hdi]at hqg
    obtain rfl:=Option.some.inj hqg
    obtain⟨b0,o0,gr,rfl,hb0,hgr,hm1,hm2⟩:=M_10.out.at_ hin
    have HX:=zh (c0e hm1)
    have HMC:=zh hm2
    have hna:=HNA.out x (List.mem_of_getElem? hqx)
    have hcmp:=fun W=>b3q (negB di) (numB di) (a0a di) x.am.n x.am.a x.am.b W (Nat.le_trans (HZ.out di (List.mem_of_getElem? hdi)).num (by decide)) (Nat.le_trans (HZ.out di (List.mem_of_getElem? hdi)).denom (by decide)) (Nat.le_trans hna.1 (by decide)) (Nat.le_trans hna.2 (by decide))
    rw[show decR (negB di) (numB di) (a0a di)=di from b2z di]at hcmp
    obtain⟨cs,hcs⟩:∃z,z=sgn (di-decR x.am.n x.am.a x.am.b).num:=⟨_,rfl⟩
    rw[<- hcs]at hcmp
    obtain⟨cq,hcq⟩:∃z,z=decide (cs<0):=⟨_,rfl⟩
    have fc:decide (cs<0)=cq:=hcq.symm
    unfold raw at hcmp
    have HAB:Hid (cq=true->di<x.am.val):=zh fun h=>by rw[hcq,hcs]at h;have h1:=of_decide_eq_true h;have h2:=sgn_lt3 h1;show di<decR _ _ _;grind
    have HSL:Hid (∀j,Rel cl l l.length i j->limS l x.id l.length=false->0<getQ D j->x.am.val<=di):=zh fun j hr hl hg=>by have:=c7v HO.out HR.out HA.out HEO.out HTK.out.2 HD.out hr hqx (lim_none hl) hg;rwa[a4q hdi]at this
    unfold Nmd.enc at hx1
    have HX1:=zh hx1
    have hx4:∀w',Below _ _ w'->∀ (j:Nat) (y:Value),[Value.bool (negB di),.string (bs (numB di)),.string (bs (a0a di))][j]? =some y->w'.cell? ⟨b4,o4+i*3+j,none⟩=some y:=hx4
    have HX4:=zh hx4
    have HCC:=zh hcmp
    have e0:(0:Int)<=((i:Nat):Int):=by omega
    have e1:((i:Nat):Int)<(cl.length:Int):=by omega
    have e2:decide (((i:Nat):Int)<(cl.length:Int))=true:=decide_eq_true e1
    have e5:IntKind.i64.wrap ((i:Int)+1)=((i+1:Nat):Int):=by have:=LC.out;rw[IntWalk.i64_in _ (by omega)];rfl
    clear hx1 hx4 hqx hqg hdi hm1 hm2 hna hcmp hcs hcq
    go_wp2
    go_loopw [17,63] (fun q_ k_ wr=>∃ (k:Nat) (lb:Bool),k<=l.length/\k_=.int .i64 k/\q_=.bool lb/\Hid (limS l x.id k=lb)/\Hid (St w10 [] wr)) (fun _ k_ _=>l.length-(intOf k_).toNat)
    case atStart=>exact⟨0,false,Nat.zero_le _,rfl,rfl,rfl,HS.out⟩
    case round =>
     clear HS
     obtain⟨k,lb,hk,rfl,rfl,HLB,HV⟩:=hrel
     by_cases hkn:k<l.length
     ·obtain⟨b2,o2,y,u,rfl,hb2,hqy,hu,hx2⟩:=L_10.out.at_ hkn
      obtain⟨Au,cu,rfl,_,_⟩:=Slc.slice hu
      unfold CRow.enc at hx2
      dsimp only at hx2
      obtain⟨ne,hne⟩:∃q,q=(y.name==x.id):=⟨_,rfl⟩
      obtain⟨kd,hkd⟩:∃p,p=decide (y.kind=3):=⟨_,rfl⟩
      have fe:((bs y.name).toList==(bs x.id).toList)=ne:=by rw[a1q,a1q];exact hne.symm
      have fk:(y.kind==3)=kd:=by rw[hkd,Bool.eq_iff_iff];simp
      have hlg:=lim_go (s:=x.id) hqy
      rw[HLB.out,<-hne,<-hkd]at hlg
      have HLG:=zh hlg
      have HX2:=zh hx2
      have f0:(0:Int)<=((k:Nat):Int):=by omega
      have f1:((k:Nat):Int)<(l.length:Int):=by omega
      have f2:decide (((k:Nat):Int)<(l.length:Int))=true:=decide_eq_true f1
      have f5:IntKind.i64.wrap ((k:Int)+1)=((k+1:Nat):Int):=by have:=LL.out;rw[IntWalk.i64_in _ (by omega)];rfl
      clear hx2 hqy hne hkd hlg hu
      cases lb
      ·cases kd
       ·go_wp2_with (first | (refine wpList_load_mid rfl _ _ rfl (b2) (o2+k*8) rfl [.int .i64 y.kind,.string (bs y.name),.string (bs y.other),.slice Au y.list.length cu,.bool y.am.n,.string (bs y.am.a),.string (bs y.am.b),.int .i64 y.at_] _ (fun j v hv=>HX2.out _ (HV.out).below j v hv) Tryz.underlying51 rfl a2w ?_) | (refine a1r rfl _ _ _ rfl (St.alloc (HV.out) #[.int .i64 0,.string (bs []),.string (bs []),.slice none 0 0,.bool false,.string (bs []),.string (bs []),.int .i64 0] 51 (wr.heap.size) (by simp)) 0 rfl [.int .i64 y.kind,.string (bs y.name),.string (bs y.other),.slice Au y.list.length cu,.bool y.am.n,.string (bs y.am.a),.string (bs y.am.b),.int .i64 y.at_] rfl rfl rfl a2w rfl ?_))
        intro w11 hS11
        have HV11:Hid (St w10 [⟨wr.heap.size,#[.int .i64 y.kind,.string (bs y.name),.string (bs y.other),.slice Au y.list.length cu,.bool y.am.n,.string (bs y.am.a),.string (bs y.am.b),.int .i64 y.at_],51⟩] w11):=zh hS11
        clear hS11 HV
        go_wp2
        refine a0e 16 [.bool false,.bool false,.pointer (some ⟨wr.heap.size,0,none⟩),.int .i64 y.kind,.bool false,.bool false,undef,undef,undef,undef,undef,undef,undef,undef,.bool false,.bool false] rfl (by kernel_rfl) (by kernel_rfl) (by kernel_rfl) ?_ ?_
        refine⟨?_,?_,?_,?_,?_,?_,?_,?_,?_,?_,?_,?_,?_,?_,?_,?_,trivial⟩<;>(intro xx af wv hbx hev hev0 hd;have H:=SH.mk hev hev0 hd;clear hev hev0 hd)
        ·have e17:=H.i 17;clear H;go_wp2;exact sQ rfl
        ·have e67:=H.r 0 67;clear H;go_wp2;exact sQ rfl
        ·have e68:=H.g 1 68;have e19:=H.i 19;have q68:=a0b e68;clear H;go_wp2;exact sQ rfl
        ·have e68:=H.g 1 68;have e69:=H.r 2 69;have q68:=a0b e68;clear H;have hs1:=zh (HV11.out.call hbx);have y0:=cC hs1 0 0;go_wp2;exact sQ rfl
        ·have e68:=H.g 1 68;have e70:=H.r 3 70;have q68:=a0b e68;clear H;go_wp2;exact sQ rfl
        ·have e68:=(H.ev 1 _ 68 rfl rfl).trans (H.hd ⟨1,.chain⟩ (by simp) rfl);have e71:=H.r 4 71;have q68:=a0b e68;clear H;go_wp2;exact sQ rfl
        ·have e72:=H.g 5 72;have q72:=a0b e72;clear H;go_wp2;exact sQ rfl
        ·have e72:=H.g 5 72;have q72:=a0b e72;clear H;go_wp2;exact sQ rfl
        ·have e72:=H.g 5 72;have q72:=a0b e72;clear H;go_wp2;exact sQ rfl
        ·have e72:=H.g 5 72;have q72:=a0b e72;clear H;go_wp2;exact sQ rfl
        ·have e72:=H.g 5 72;have q72:=a0b e72;clear H;go_wp2;exact sQ rfl
        ·have e72:=H.g 5 72;have q72:=a0b e72;clear H;go_wp2;exact sQ rfl
        ·have e72:=H.g 5 72;have q72:=a0b e72;clear H;go_wp2;exact sQ rfl
        ·have e72:=H.g 5 72;have q72:=a0b e72;clear H;go_wp2;exact sQ rfl
        ·have e68:=H.g 1 68;have e72:=H.r 5 72;have e80:=H.r 13 80;have q68:=a0b e68;clear H;go_wp2;exact sQ rfl
        ·have e68:=H.r 1 68;have e81:=H.r 14 81;clear H;go_wp2;exact sQ rfl
        intro xx w12 hb9 hv
        simp only[List.take,List.drop,a0h,Act.put]
        simp only[vQ hv 0,vQ hv 1,vQ hv 2,vQ hv 3,vQ hv 4,vQ hv 5,vQ hv 6,vQ hv 7,vQ hv 8,vQ hv 9,vQ hv 10,vQ hv 11,vQ hv 12,vQ hv 13,vQ hv 14,vQ hv 15]
        clear hv
        have HV12:=zh (HV11.out.call hb9)
        clear hb9 HV11
        go_wp2
        go_roundw
        case rel=>exact⟨k+1,false,by omega,by go_num,rfl,HLG.out,HV12.out.sub (List.nil_sublist _)⟩
        case measure=>simp[intOf];omega
       cases ne
       ·go_wp2_with (first | (refine wpList_load_mid rfl _ _ rfl (b2) (o2+k*8) rfl [.int .i64 y.kind,.string (bs y.name),.string (bs y.other),.slice Au y.list.length cu,.bool y.am.n,.string (bs y.am.a),.string (bs y.am.b),.int .i64 y.at_] _ (fun j v hv=>HX2.out _ (HV.out).below j v hv) Tryz.underlying51 rfl a2w ?_) | (refine a1r rfl _ _ _ rfl (St.alloc (HV.out) #[.int .i64 0,.string (bs []),.string (bs []),.slice none 0 0,.bool false,.string (bs []),.string (bs []),.int .i64 0] 51 (wr.heap.size) (by simp)) 0 rfl [.int .i64 y.kind,.string (bs y.name),.string (bs y.other),.slice Au y.list.length cu,.bool y.am.n,.string (bs y.am.a),.string (bs y.am.b),.int .i64 y.at_] rfl rfl rfl a2w rfl ?_))
        intro w11 hS11
        have HV11:Hid (St w10 [⟨wr.heap.size,#[.int .i64 y.kind,.string (bs y.name),.string (bs y.other),.slice Au y.list.length cu,.bool y.am.n,.string (bs y.am.a),.string (bs y.am.b),.int .i64 y.at_],51⟩] w11):=zh hS11
        clear hS11 HV
        go_wp2
        refine a0e 16 [.bool false,.bool false,.pointer (some ⟨wr.heap.size,0,none⟩),.int .i64 y.kind,.bool true,.bool true,.pointer (some ⟨wr.heap.size,1,none⟩),.string (bs y.name),.slice (some ⟨b1,o1,none⟩) cl.length cn,.int .i64 (i:Nat),.pointer (some ⟨b1,o1+i*5,none⟩),.pointer (some ⟨b1,o1+i*5,none⟩),.string (bs x.id),.bool false,.bool false,.bool false] rfl (by kernel_rfl) (by kernel_rfl) (by kernel_rfl) ?_ ?_
        refine⟨?_,?_,?_,?_,?_,?_,?_,?_,?_,?_,?_,?_,?_,?_,?_,?_,trivial⟩<;>(intro xx af wv hbx hev hev0 hd;have H:=SH.mk hev hev0 hd;clear hev hev0 hd)
        ·have e17:=H.i 17;clear H;go_wp2;exact sQ rfl
        ·have e67:=H.r 0 67;clear H;go_wp2;exact sQ rfl
        ·have e68:=H.g 1 68;have e19:=H.i 19;have q68:=a0b e68;clear H;go_wp2;exact sQ rfl
        ·have e68:=H.g 1 68;have e69:=H.r 2 69;have q68:=a0b e68;clear H;have hs1:=zh (HV11.out.call hbx);have y0:=cC hs1 0 0;go_wp2;exact sQ rfl
        ·have e68:=H.g 1 68;have e70:=H.r 3 70;have q68:=a0b e68;clear H;go_wp2;exact sQ rfl
        ·have e68:=(H.ev 1 _ 68 rfl rfl).trans (H.hd ⟨1,.chain⟩ (by simp) rfl);have e71:=H.r 4 71;have q68:=a0b e68;clear H;go_wp2;exact sQ rfl
        ·have e72:=H.g 5 72;have e19:=H.i 19;have q72:=a0b e72;clear H;go_wp2;exact sQ rfl
        ·have e72:=H.g 5 72;have e73:=H.r 6 73;have q72:=a0b e72;clear H;have hs1:=zh (HV11.out.call hbx);have y0:=cC hs1 0 1;go_wp2;exact sQ rfl
        ·have e72:=H.g 5 72;have e7:=H.i 7;have q72:=a0b e72;clear H;go_wp2;exact sQ rfl
        ·have e72:=H.g 5 72;have e16:=H.i 16;have q72:=a0b e72;clear H;go_wp2;exact sQ rfl
        ·have e72:=H.g 5 72;have e75:=H.r 8 75;have e76:=H.r 9 76;have q72:=a0b e72;clear H;go_wp2;exact sQ rfl
        ·have e72:=H.g 5 72;have e77:=H.r 10 77;have q72:=a0b e72;clear H;go_wp2;exact sQ rfl
        ·have e72:=H.g 5 72;have e78:=H.r 11 78;have q72:=a0b e72;clear H;have hs1:=zh (HV11.out.call hbx);have y0:=HX1.out _ hs1.out.below 0 _ rfl;rw[Nat.add_zero]at y0;go_wp2;exact sQ rfl
        ·have e72:=H.g 5 72;have e74:=H.r 7 74;have e79:=H.r 12 79;have q72:=a0b e72;clear H;go_wp2;exact sQ rfl
        ·have e68:=H.g 1 68;have e72:=H.r 5 72;have e80:=H.r 13 80;have q68:=a0b e68;clear H;go_wp2;exact sQ rfl
        ·have e68:=H.r 1 68;have e81:=H.r 14 81;clear H;go_wp2;exact sQ rfl
        intro xx w12 hb9 hv
        simp only[List.take,List.drop,a0h,Act.put]
        simp only[vQ hv 0,vQ hv 1,vQ hv 2,vQ hv 3,vQ hv 4,vQ hv 5,vQ hv 6,vQ hv 7,vQ hv 8,vQ hv 9,vQ hv 10,vQ hv 11,vQ hv 12,vQ hv 13,vQ hv 14,vQ hv 15]
        clear hv
        have HV12:=zh (HV11.out.call hb9)
        clear hb9 HV11
        go_wp2
        go_roundw
        case rel=>exact⟨k+1,false,by omega,by go_num,rfl,HLG.out,HV12.out.sub (List.nil_sublist _)⟩
        case measure=>simp[intOf];omega
       go_wp2_with (first | (refine wpList_load_mid rfl _ _ rfl (b2) (o2+k*8) rfl [.int .i64 y.kind,.string (bs y.name),.string (bs y.other),.slice Au y.list.length cu,.bool y.am.n,.string (bs y.am.a),.string (bs y.am.b),.int .i64 y.at_] _ (fun j v hv=>HX2.out _ (HV.out).below j v hv) Tryz.underlying51 rfl a2w ?_) | (refine a1r rfl _ _ _ rfl (St.alloc (HV.out) #[.int .i64 0,.string (bs []),.string (bs []),.slice none 0 0,.bool false,.string (bs []),.string (bs []),.int .i64 0] 51 (wr.heap.size) (by simp)) 0 rfl [.int .i64 y.kind,.string (bs y.name),.string (bs y.other),.slice Au y.list.length cu,.bool y.am.n,.string (bs y.am.a),.string (bs y.am.b),.int .i64 y.at_] rfl rfl rfl a2w rfl ?_))
       intro w11 hS11
       have HV11:Hid (St w10 [⟨wr.heap.size,#[.int .i64 y.kind,.string (bs y.name),.string (bs y.other),.slice Au y.list.length cu,.bool y.am.n,.string (bs y.am.a),.string (bs y.am.b),.int .i64 y.at_],51⟩] w11):=zh hS11
       clear hS11 HV
       go_wp2
       refine a0e 16 [.bool false,.bool false,.pointer (some ⟨wr.heap.size,0,none⟩),.int .i64 y.kind,.bool true,.bool true,.pointer (some ⟨wr.heap.size,1,none⟩),.string (bs y.name),.slice (some ⟨b1,o1,none⟩) cl.length cn,.int .i64 (i:Nat),.pointer (some ⟨b1,o1+i*5,none⟩),.pointer (some ⟨b1,o1+i*5,none⟩),.string (bs x.id),.bool true,.bool true,.bool true] rfl (by kernel_rfl) (by kernel_rfl) (by kernel_rfl) ?_ ?_
       refine⟨?_,?_,?_,?_,?_,?_,?_,?_,?_,?_,?_,?_,?_,?_,?_,?_,trivial⟩<;>(intro xx af wv hbx hev hev0 hd;have H:=SH.mk hev hev0 hd;clear hev hev0 hd)
       ·have e17:=H.i 17;clear H;go_wp2;exact sQ rfl
       ·have e67:=H.r 0 67;clear H;go_wp2;exact sQ rfl
       ·have e68:=H.g 1 68;have e19:=H.i 19;have q68:=a0b e68;clear H;go_wp2;exact sQ rfl
       ·have e68:=H.g 1 68;have e69:=H.r 2 69;have q68:=a0b e68;clear H;have hs1:=zh (HV11.out.call hbx);have y0:=cC hs1 0 0;go_wp2;exact sQ rfl
       ·have e68:=H.g 1 68;have e70:=H.r 3 70;have q68:=a0b e68;clear H;go_wp2;exact sQ rfl
       ·have e68:=(H.ev 1 _ 68 rfl rfl).trans (H.hd ⟨1,.chain⟩ (by simp) rfl);have e71:=H.r 4 71;have q68:=a0b e68;clear H;go_wp2;exact sQ rfl
       ·have e72:=H.g 5 72;have e19:=H.i 19;have q72:=a0b e72;clear H;go_wp2;exact sQ rfl
       ·have e72:=H.g 5 72;have e73:=H.r 6 73;have q72:=a0b e72;clear H;have hs1:=zh (HV11.out.call hbx);have y0:=cC hs1 0 1;go_wp2;exact sQ rfl
       ·have e72:=H.g 5 72;have e7:=H.i 7;have q72:=a0b e72;clear H;go_wp2;exact sQ rfl
       ·have e72:=H.g 5 72;have e16:=H.i 16;have q72:=a0b e72;clear H;go_wp2;exact sQ rfl
       ·have e72:=H.g 5 72;have e75:=H.r 8 75;have e76:=H.r 9 76;have q72:=a0b e72;clear H;go_wp2;exact sQ rfl
       ·have e72:=H.g 5 72;have e77:=H.r 10 77;have q72:=a0b e72;clear H;go_wp2;exact sQ rfl
       ·have e72:=H.g 5 72;have e78:=H.r 11 78;have q72:=a0b e72;clear H;have hs1:=zh (HV11.out.call hbx);have y0:=HX1.out _ hs1.out.below 0 _ rfl;rw[Nat.add_zero]at y0;go_wp2;exact sQ rfl
       ·have e72:=H.g 5 72;have e74:=H.r 7 74;have e79:=H.r 12 79;have q72:=a0b e72;clear H;go_wp2;exact sQ rfl
       ·have e68:=H.g 1 68;have e72:=H.r 5 72;have e80:=H.r 13 80;have q68:=a0b e68;clear H;go_wp2;exact sQ rfl
       ·have e68:=H.r 1 68;have e81:=H.r 14 81;clear H;go_wp2;exact sQ rfl
       intro xx w12 hb9 hv
       simp only[List.take,List.drop,a0h,Act.put]
       simp only[vQ hv 0,vQ hv 1,vQ hv 2,vQ hv 3,vQ hv 4,vQ hv 5,vQ hv 6,vQ hv 7,vQ hv 8,vQ hv 9,vQ hv 10,vQ hv 11,vQ hv 12,vQ hv 13,vQ hv 14,vQ hv 15]
       clear hv
       have HV12:=zh (HV11.out.call hb9)
       clear hb9 HV11
       go_wp2
       go_roundw
       case rel=>exact⟨k+1,true,by omega,by go_num,rfl,HLG.out,HV12.out.sub (List.nil_sublist _)⟩
       case measure=>simp[intOf];omega
      go_wp2_with (first | (refine wpList_load_mid rfl _ _ rfl (b2) (o2+k*8) rfl [.int .i64 y.kind,.string (bs y.name),.string (bs y.other),.slice Au y.list.length cu,.bool y.am.n,.string (bs y.am.a),.string (bs y.am.b),.int .i64 y.at_] _ (fun j v hv=>HX2.out _ (HV.out).below j v hv) Tryz.underlying51 rfl a2w ?_) | (refine a1r rfl _ _ _ rfl (St.alloc (HV.out) #[.int .i64 0,.string (bs []),.string (bs []),.slice none 0 0,.bool false,.string (bs []),.string (bs []),.int .i64 0] 51 (wr.heap.size) (by simp)) 0 rfl [.int .i64 y.kind,.string (bs y.name),.string (bs y.other),.slice Au y.list.length cu,.bool y.am.n,.string (bs y.am.a),.string (bs y.am.b),.int .i64 y.at_] rfl rfl rfl a2w rfl ?_))
      intro w11 hS11
      have HV11:Hid (St w10 [⟨wr.heap.size,#[.int .i64 y.kind,.string (bs y.name),.string (bs y.other),.slice Au y.list.length cu,.bool y.am.n,.string (bs y.am.a),.string (bs y.am.b),.int .i64 y.at_],51⟩] w11):=zh hS11
      clear hS11 HV
      go_wp2
      refine a0e 16 [.bool true,.bool true,undef,undef,undef,undef,undef,undef,undef,undef,undef,undef,undef,undef,undef,.bool true] rfl (by kernel_rfl) (by kernel_rfl) (by kernel_rfl) ?_ ?_
      refine⟨?_,?_,?_,?_,?_,?_,?_,?_,?_,?_,?_,?_,?_,?_,?_,?_,trivial⟩<;>(intro xx af wv hbx hev hev0 hd;have H:=SH.mk hev hev0 hd;clear hev hev0 hd)
      ·have e17:=H.i 17;clear H;go_wp2;exact sQ rfl
      ·have e67:=H.r 0 67;clear H;go_wp2;exact sQ rfl
      ·have e68:=H.g 1 68;have q68:=a0b e68;clear H;go_wp2;exact sQ rfl
      ·have e68:=H.g 1 68;have q68:=a0b e68;clear H;go_wp2;exact sQ rfl
      ·have e68:=H.g 1 68;have q68:=a0b e68;clear H;go_wp2;exact sQ rfl
      ·have e68:=(H.ev 1 _ 68 rfl rfl).trans (H.hd ⟨1,.chain⟩ (by simp) rfl);have q68:=a0b e68;clear H;go_wp2;exact sQ rfl
      ·have e72:=H.g 5 72;clear H
       rcases a2n e72 with q72 | q72
       ·go_wp2
        exact sQ rfl
       go_wp2
       exact sQ rfl
      ·have e72:=H.g 5 72;clear H
       rcases a2n e72 with q72 | q72
       ·go_wp2
        exact sQ rfl
       go_wp2
       exact sQ rfl
      ·have e72:=H.g 5 72;clear H
       rcases a2n e72 with q72 | q72
       ·go_wp2
        exact sQ rfl
       go_wp2
       exact sQ rfl
      ·have e72:=H.g 5 72;clear H
       rcases a2n e72 with q72 | q72
       ·go_wp2
        exact sQ rfl
       go_wp2
       exact sQ rfl
      ·have e72:=H.g 5 72;clear H
       rcases a2n e72 with q72 | q72
       ·go_wp2
        exact sQ rfl
       go_wp2
       exact sQ rfl
      ·have e72:=H.g 5 72;clear H
       rcases a2n e72 with q72 | q72
       ·go_wp2
        exact sQ rfl
       go_wp2
       exact sQ rfl
      ·have e72:=H.g 5 72;clear H
       rcases a2n e72 with q72 | q72
       ·go_wp2
        exact sQ rfl
       go_wp2
       exact sQ rfl
      ·have e72:=H.g 5 72;clear H
       rcases a2n e72 with q72 | q72
       ·go_wp2
        exact sQ rfl
       go_wp2
       exact sQ rfl
      ·have e68:=H.g 1 68;have q68:=a0b e68;clear H;go_wp2;exact sQ rfl
      ·have e68:=H.r 1 68;have e81:=H.r 14 81;clear H;go_wp2;exact sQ rfl
      intro xx w12 hb9 hv
      simp only[List.take,List.drop,a0h,Act.put]
      simp only[vQ hv 0,vQ hv 1,vQ hv 2,vQ hv 3,vQ hv 4,vQ hv 5,vQ hv 6,vQ hv 7,vQ hv 8,vQ hv 9,vQ hv 10,vQ hv 11,vQ hv 12,vQ hv 13,vQ hv 14,vQ hv 15]
      clear hv
      have HV12:=zh (HV11.out.call hb9)
      clear hb9 HV11
      go_wp2
      go_roundw
      case rel=>exact⟨k+1,true,by omega,by go_num,rfl,HLG.out,HV12.out.sub (List.nil_sublist _)⟩
      case measure=>simp[intOf];omega
     have hke:k=l.length:=by omega
     rw[hke]at HLB ⊢
     have f2:decide (((l.length:Nat):Int)<(l.length:Int))=false:=decide_eq_false (by omega)
     clear hke hk hkn
     go_wp2
     go_loopw [86] (fun j_ wr=>∃j:Nat,j<=cl.length/\j_=.int .i64 j/\Hid (St w10 [] wr)) (fun j_ _=>cl.length-(intOf j_).toNat)
     case atStart=>exact⟨0,Nat.zero_le _,rfl,HV.out⟩
     case round =>
      clear HV
      obtain⟨j,hj,rfl,HU⟩:=hrel
      by_cases hjn:j<cl.length
      ·obtain⟨b5,o5,gj,hbo,hb5,hqj,hx5⟩:=Slc.at_ Rt_10.out (show j<(D.map encT).length by rw[List.length_map,HD.out.1,HEL.out];exact hjn)
       cases hbo
       obtain⟨dj,hdj⟩:∃d,D[j]? =some d:=⟨_,List.getElem?_eq_getElem (by rw[HD.out.1,HEL.out];exact hjn)⟩
       rw[a5j hdj]at hqj
       obtain rfl:=Option.some.inj hqj
       obtain⟨rv,hrv⟩:∃q,q=M i j:=⟨_,rfl⟩
       have hy:=c0e (fun w' hw=>HMC.out w' hw j hjn)
       rw[<- hrv]at hy
       have HY:=zh hy
       have hsn:=fun W=>a7p (negB dj) (numB dj) (a0a dj) W (Nat.le_trans (HZ.out dj (List.mem_of_getElem? hdj)).num (by decide)) (Nat.le_trans (HZ.out dj (List.mem_of_getElem? hdj)).denom (by decide))
       rw[show decR (negB dj) (numB dj) (a0a dj)=dj from b2z dj]at hsn
       obtain⟨sg,hsg⟩:∃z,z=sgn dj.num:=⟨_,rfl⟩
       rw[<- hsg]at hsn
       obtain⟨sp,hsp⟩:∃z,z=decide (0<sg):=⟨_,rfl⟩
       have fs:decide (0<sg)=sp:=hsp.symm
       unfold raw at hsn
       have HSN:=zh hsn
       have HNO:Hid (rv=true->lb=false->sp=true->cq=true->False):=zh fun h1 h2 h3 h4=>by have a1:=HSL.out j ((HMR.out i j hin hjn).1 (hrv.symm.trans h1)) (HLB.out.trans h2) (by rw[a4q hdj];rw[hsp,hsg]at h3;exact sgn_gt3 (of_decide_eq_true h3));have a2:=HAB.out h4;grind
       have hx5:∀w',Below _ _ w'->∀ (p:Nat) (y:Value),[Value.bool (negB dj),.string (bs (numB dj)),.string (bs (a0a dj))][p]? =some y->w'.cell? ⟨b4,o4+j*3+p,none⟩=some y:=hx5
       have HX5:=zh hx5
       have g0:(0:Int)<=((j:Nat):Int):=by omega
       have g1:((j:Nat):Int)<(cl.length:Int):=by omega
       have g2:decide (((j:Nat):Int)<(cl.length:Int))=true:=decide_eq_true g1
       have g5:IntKind.i64.wrap ((j:Int)+1)=((j+1:Nat):Int):=by have:=LC.out;rw[IntWalk.i64_in _ (by omega)];rfl
       clear hx5 hqj hdj hrv hy hsn hsg hsp
       cases rv
       ·go_wp2
        refine a0e 31 [.slice (some ⟨b0,o0,none⟩) cl.length cm,.int .i64 (i:Nat),.pointer (some ⟨b0,o0+i,none⟩),.slice (some ⟨gr,0,none⟩) cl.length cl.length,.int .i64 (j:Nat),.pointer (some ⟨gr,j,none⟩),.bool false,.bool false,undef,undef,.bool false,.bool false,undef,undef,undef,undef,undef,undef,.bool false,.bool false,undef,undef,undef,undef,undef,undef,undef,undef,undef,undef,undef] rfl (by kernel_rfl) (by kernel_rfl) (by kernel_rfl) ?_ ?_
        refine⟨?_,?_,?_,?_,?_,?_,?_,?_,?_,?_,?_,?_,?_,?_,?_,?_,?_,?_,?_,?_,?_,?_,?_,?_,?_,?_,?_,?_,?_,?_,?_,trivial⟩<;>(intro xx af wv hbx hev hev0 hd;have H:=SH.mk hev hev0 hd;clear hev hev0 hd)
        ·have e15:=H.i 15;clear H;go_wp2;exact sQ rfl
        ·have e16:=H.i 16;clear H;go_wp2;exact sQ rfl
        ·have e89:=H.r 0 89;have e90:=H.r 1 90;clear H;go_wp2;exact sQ rfl
        ·have e91:=H.r 2 91;clear H;have hs1:=zh (HU.out.call hbx);have y0:=HX.out _ hs1.out.below 0 _ rfl;rw[Nat.add_zero]at y0;go_wp2;exact sQ rfl
        ·have e20:=H.i 20;clear H;go_wp2;exact sQ rfl
        ·have e92:=H.r 3 92;have e93:=H.r 4 93;clear H;go_wp2;exact sQ rfl
        ·have e94:=H.r 5 94;clear H;have hs1:=zh (HU.out.call hbx);have y0:=HY.out _ hs1.out.below 0 _ rfl;rw[Nat.add_zero]at y0;go_wp2;exact sQ rfl
        ·have e95:=H.r 6 95;clear H;go_wp2;exact sQ rfl
        ·have e96:=H.g 7 96;have q96:=a0b e96;clear H;go_wp2;exact sQ rfl
        ·have e96:=H.g 7 96;have q96:=a0b e96;clear H;go_wp2;exact sQ rfl
        ·have e96:=H.r 7 96;have e98:=H.r 9 98;clear H;go_wp2;exact sQ rfl
        ·have e99:=H.r 10 99;clear H;go_wp2;exact sQ rfl
        ·have e100:=H.g 11 100;have q100:=a0b e100;clear H;go_wp2;exact sQ rfl
        ·have e100:=H.g 11 100;have q100:=a0b e100;clear H;go_wp2;exact sQ rfl
        ·have e100:=H.g 11 100;have q100:=a0b e100;clear H;go_wp2;exact sQ rfl
        ·have e100:=H.g 11 100;have q100:=a0b e100;clear H;go_wp2;exact sQ rfl
        ·have e100:=(H.ev 11 _ 100 rfl rfl).trans (H.hd ⟨11,.chain⟩ (by simp) rfl);have q100:=a0b e100;clear H;go_wp2;exact sQ rfl
        ·have e100:=H.g 11 100;have q100:=a0b e100;clear H;go_wp2;exact sQ rfl
        ·have e100:=H.r 11 100;have e106:=H.r 17 106;clear H;go_wp2;exact sQ rfl
        ·have e107:=H.r 18 107;clear H;go_wp2;exact sQ rfl
        ·have e108:=H.g 19 108;have q108:=a0b e108;clear H;go_wp2;exact sQ rfl
        ·have e108:=H.g 19 108;have q108:=a0b e108;clear H;go_wp2;exact sQ rfl
        ·have e108:=H.g 19 108;have q108:=a0b e108;clear H;go_wp2;exact sQ rfl
        ·have e108:=H.g 19 108;have q108:=a0b e108;clear H;go_wp2;exact sQ rfl
        ·have e108:=H.g 19 108;have q108:=a0b e108;clear H;go_wp2;exact sQ rfl
        ·have e108:=H.g 19 108;have q108:=a0b e108;clear H;go_wp2;exact sQ rfl
        ·have e108:=H.g 19 108;have q108:=a0b e108;clear H;go_wp2;exact sQ rfl
        ·have e108:=H.g 19 108;have q108:=a0b e108;clear H;go_wp2;exact sQ rfl
        ·have e108:=H.g 19 108;have q108:=a0b e108;clear H;go_wp2;exact sQ rfl
        ·have e108:=(H.ev 19 _ 108 rfl rfl).trans (H.hd ⟨19,.chain⟩ (by simp) rfl);have q108:=a0b e108;clear H;go_wp2;exact sQ rfl
        ·have e108:=H.g 19 108;have q108:=a0b e108;clear H;go_wp2;exact sQ rfl
        intro xx w11 hb9 hv
        simp only[List.take,List.drop,a0h,Act.put]
        simp only[vQ hv 0,vQ hv 1,vQ hv 2,vQ hv 3,vQ hv 4,vQ hv 5,vQ hv 6,vQ hv 7,vQ hv 8,vQ hv 9,vQ hv 10,vQ hv 11,vQ hv 12,vQ hv 13,vQ hv 14,vQ hv 15,vQ hv 16,vQ hv 17,vQ hv 18,vQ hv 19,vQ hv 20,vQ hv 21,vQ hv 22,vQ hv 23,vQ hv 24,vQ hv 25,vQ hv 26,vQ hv 27,vQ hv 28,vQ hv 29,vQ hv 30]
        clear hv
        have HU11:=zh (HU.out.call hb9)
        clear hb9 HU
        go_wp2
        go_roundw
        case rel=>exact⟨j+1,by omega,by go_num,HU11.out.sub (List.nil_sublist _)⟩
        case measure=>simp[intOf];omega
       cases lb
       ·cases sp
        ·go_wp2
         refine a0e 31 [.slice (some ⟨b0,o0,none⟩) cl.length cm,.int .i64 (i:Nat),.pointer (some ⟨b0,o0+i,none⟩),.slice (some ⟨gr,0,none⟩) cl.length cl.length,.int .i64 (j:Nat),.pointer (some ⟨gr,j,none⟩),.bool true,.bool true,.bool false,.bool true,.bool true,.bool true,.slice (some ⟨b4,o4,none⟩) cl.length cd,.int .i64 (j:Nat),.pointer (some ⟨b4,o4+j*3,none⟩),.agg #[.bool (negB (dj)),.string (bs (numB (dj))),.string (bs (a0a (dj)))],.int .i64 sg,.bool false,.bool false,.bool false,undef,undef,undef,undef,undef,undef,undef,undef,undef,undef,undef] rfl (by kernel_rfl) (by kernel_rfl) (by kernel_rfl) ?_ ?_
         refine⟨?_,?_,?_,?_,?_,?_,?_,?_,?_,?_,?_,?_,?_,?_,?_,?_,?_,?_,?_,?_,?_,?_,?_,?_,?_,?_,?_,?_,?_,?_,?_,trivial⟩<;>(intro xx af wv hbx hev hev0 hd;have H:=SH.mk hev hev0 hd;clear hev hev0 hd)
         ·have e15:=H.i 15;clear H;go_wp2;exact sQ rfl
         ·have e16:=H.i 16;clear H;go_wp2;exact sQ rfl
         ·have e89:=H.r 0 89;have e90:=H.r 1 90;clear H;go_wp2;exact sQ rfl
         ·have e91:=H.r 2 91;clear H;have hs1:=zh (HU.out.call hbx);have y0:=HX.out _ hs1.out.below 0 _ rfl;rw[Nat.add_zero]at y0;go_wp2;exact sQ rfl
         ·have e20:=H.i 20;clear H;go_wp2;exact sQ rfl
         ·have e92:=H.r 3 92;have e93:=H.r 4 93;clear H;go_wp2;exact sQ rfl
         ·have e94:=H.r 5 94;clear H;have hs1:=zh (HU.out.call hbx);have y0:=HY.out _ hs1.out.below 0 _ rfl;rw[Nat.add_zero]at y0;go_wp2;exact sQ rfl
         ·have e95:=H.r 6 95;clear H;go_wp2;exact sQ rfl
         ·have e96:=H.g 7 96;have e17:=H.i 17;have q96:=a0b e96;clear H;go_wp2;exact sQ rfl
         ·have e96:=H.g 7 96;have e97:=H.r 8 97;have q96:=a0b e96;clear H;go_wp2;exact sQ rfl
         ·have e96:=H.r 7 96;have e98:=H.r 9 98;clear H;go_wp2;exact sQ rfl
         ·have e99:=H.r 10 99;clear H;go_wp2;exact sQ rfl
         ·have e100:=H.g 11 100;have e12:=H.i 12;have q100:=a0b e100;clear H;go_wp2;exact sQ rfl
         ·have e100:=H.g 11 100;have e20:=H.i 20;have q100:=a0b e100;clear H;go_wp2;exact sQ rfl
         ·have e100:=H.g 11 100;have e101:=H.r 12 101;have e102:=H.r 13 102;have q100:=a0b e100;clear H;go_wp2;exact sQ rfl
         ·have e100:=H.g 11 100;have e103:=H.r 14 103;have q100:=a0b e100;clear H;have hs1:=zh (HU.out.call hbx);obtain⟨y0,y1,y2⟩:=kE0 (HX5.out _ hs1.out.below) rfl rfl rfl;go_wp2;exact sQ rfl
         ·have e100:=(H.ev 11 _ 100 rfl rfl).trans (H.hd ⟨11,.chain⟩ (by simp) rfl);have e104:=H.r 15 104;have q100:=a0b e100;clear H
          go_wp2_with fail
          refine(HSN.out _).mono ?_
          rintro e w8 ⟨rfl,hb8⟩;go_wp2;exact StepQ.mk _ hb8 rfl
         ·have e100:=H.g 11 100;have e105:=H.r 16 105;have q100:=a0b e100;clear H;go_wp2;exact sQ rfl
         ·have e100:=H.r 11 100;have e106:=H.r 17 106;clear H;go_wp2;exact sQ rfl
         ·have e107:=H.r 18 107;clear H;go_wp2;exact sQ rfl
         ·have e108:=H.g 19 108;have q108:=a0b e108;clear H;go_wp2;exact sQ rfl
         ·have e108:=H.g 19 108;have q108:=a0b e108;clear H;go_wp2;exact sQ rfl
         ·have e108:=H.g 19 108;have q108:=a0b e108;clear H;go_wp2;exact sQ rfl
         ·have e108:=H.g 19 108;have q108:=a0b e108;clear H;go_wp2;exact sQ rfl
         ·have e108:=H.g 19 108;have q108:=a0b e108;clear H;go_wp2;exact sQ rfl
         ·have e108:=H.g 19 108;have q108:=a0b e108;clear H;go_wp2;exact sQ rfl
         ·have e108:=H.g 19 108;have q108:=a0b e108;clear H;go_wp2;exact sQ rfl
         ·have e108:=H.g 19 108;have q108:=a0b e108;clear H;go_wp2;exact sQ rfl
         ·have e108:=H.g 19 108;have q108:=a0b e108;clear H;go_wp2;exact sQ rfl
         ·have e108:=(H.ev 19 _ 108 rfl rfl).trans (H.hd ⟨19,.chain⟩ (by simp) rfl);have q108:=a0b e108;clear H;go_wp2;exact sQ rfl
         ·have e108:=H.g 19 108;have q108:=a0b e108;clear H;go_wp2;exact sQ rfl
         intro xx w11 hb9 hv
         simp only[List.take,List.drop,a0h,Act.put]
         simp only[vQ hv 0,vQ hv 1,vQ hv 2,vQ hv 3,vQ hv 4,vQ hv 5,vQ hv 6,vQ hv 7,vQ hv 8,vQ hv 9,vQ hv 10,vQ hv 11,vQ hv 12,vQ hv 13,vQ hv 14,vQ hv 15,vQ hv 16,vQ hv 17,vQ hv 18,vQ hv 19,vQ hv 20,vQ hv 21,vQ hv 22,vQ hv 23,vQ hv 24,vQ hv 25,vQ hv 26,vQ hv 27,vQ hv 28,vQ hv 29,vQ hv 30]
         clear hv
         have HU11:=zh (HU.out.call hb9)
         clear hb9 HU
         go_wp2
         go_roundw
         case rel=>exact⟨j+1,by omega,by go_num,HU11.out.sub (List.nil_sublist _)⟩
         case measure=>simp[intOf];omega
        cases cq
        ·go_wp2
         refine a0e 31 [.slice (some ⟨b0,o0,none⟩) cl.length cm,.int .i64 (i:Nat),.pointer (some ⟨b0,o0+i,none⟩),.slice (some ⟨gr,0,none⟩) cl.length cl.length,.int .i64 (j:Nat),.pointer (some ⟨gr,j,none⟩),.bool true,.bool true,.bool false,.bool true,.bool true,.bool true,.slice (some ⟨b4,o4,none⟩) cl.length cd,.int .i64 (j:Nat),.pointer (some ⟨b4,o4+j*3,none⟩),.agg #[.bool (negB (dj)),.string (bs (numB (dj))),.string (bs (a0a (dj)))],.int .i64 sg,.bool true,.bool true,.bool true,.slice (some ⟨b4,o4,none⟩) cl.length cd,.int .i64 (i:Nat),.pointer (some ⟨b4,o4+i*3,none⟩),.agg #[.bool (negB (di)),.string (bs (numB (di))),.string (bs (a0a (di)))],.slice (some ⟨b1,o1,none⟩) cl.length cn,.int .i64 (i:Nat),.pointer (some ⟨b1,o1+i*5,none⟩),.pointer (some ⟨b1,o1+i*5+2,none⟩),.agg #[.bool x.am.n,.string (bs x.am.a),.string (bs x.am.b)],.int .i64 cs,.bool false] rfl (by kernel_rfl) (by kernel_rfl) (by kernel_rfl) ?_ ?_
         refine⟨?_,?_,?_,?_,?_,?_,?_,?_,?_,?_,?_,?_,?_,?_,?_,?_,?_,?_,?_,?_,?_,?_,?_,?_,?_,?_,?_,?_,?_,?_,?_,trivial⟩<;>(intro xx af wv hbx hev hev0 hd;have H:=SH.mk hev hev0 hd;clear hev hev0 hd)
         ·have e15:=H.i 15;clear H;go_wp2;exact sQ rfl
         ·have e16:=H.i 16;clear H;go_wp2;exact sQ rfl
         ·have e89:=H.r 0 89;have e90:=H.r 1 90;clear H;go_wp2;exact sQ rfl
         ·have e91:=H.r 2 91;clear H;have hs1:=zh (HU.out.call hbx);have y0:=HX.out _ hs1.out.below 0 _ rfl;rw[Nat.add_zero]at y0;go_wp2;exact sQ rfl
         ·have e20:=H.i 20;clear H;go_wp2;exact sQ rfl
         ·have e92:=H.r 3 92;have e93:=H.r 4 93;clear H;go_wp2;exact sQ rfl
         ·have e94:=H.r 5 94;clear H;have hs1:=zh (HU.out.call hbx);have y0:=HY.out _ hs1.out.below 0 _ rfl;rw[Nat.add_zero]at y0;go_wp2;exact sQ rfl
         ·have e95:=H.r 6 95;clear H;go_wp2;exact sQ rfl
         ·have e96:=H.g 7 96;have e17:=H.i 17;have q96:=a0b e96;clear H;go_wp2;exact sQ rfl
         ·have e96:=H.g 7 96;have e97:=H.r 8 97;have q96:=a0b e96;clear H;go_wp2;exact sQ rfl
         ·have e96:=H.r 7 96;have e98:=H.r 9 98;clear H;go_wp2;exact sQ rfl
         ·have e99:=H.r 10 99;clear H;go_wp2;exact sQ rfl
         ·have e100:=H.g 11 100;have e12:=H.i 12;have q100:=a0b e100;clear H;go_wp2;exact sQ rfl
         ·have e100:=H.g 11 100;have e20:=H.i 20;have q100:=a0b e100;clear H;go_wp2;exact sQ rfl
         ·have e100:=H.g 11 100;have e101:=H.r 12 101;have e102:=H.r 13 102;have q100:=a0b e100;clear H;go_wp2;exact sQ rfl
         ·have e100:=H.g 11 100;have e103:=H.r 14 103;have q100:=a0b e100;clear H;have hs1:=zh (HU.out.call hbx);obtain⟨y0,y1,y2⟩:=kE0 (HX5.out _ hs1.out.below) rfl rfl rfl;go_wp2;exact sQ rfl
         ·have e100:=(H.ev 11 _ 100 rfl rfl).trans (H.hd ⟨11,.chain⟩ (by simp) rfl);have e104:=H.r 15 104;have q100:=a0b e100;clear H
          go_wp2_with fail
          refine(HSN.out _).mono ?_
          rintro e w8 ⟨rfl,hb8⟩;go_wp2;exact StepQ.mk _ hb8 rfl
         ·have e100:=H.g 11 100;have e105:=H.r 16 105;have q100:=a0b e100;clear H;go_wp2;exact sQ rfl
         ·have e100:=H.r 11 100;have e106:=H.r 17 106;clear H;go_wp2;exact sQ rfl
         ·have e107:=H.r 18 107;clear H;go_wp2;exact sQ rfl
         ·have e108:=H.g 19 108;have e12:=H.i 12;have q108:=a0b e108;clear H;go_wp2;exact sQ rfl
         ·have e108:=H.g 19 108;have e16:=H.i 16;have q108:=a0b e108;clear H;go_wp2;exact sQ rfl
         ·have e108:=H.g 19 108;have e109:=H.r 20 109;have e110:=H.r 21 110;have q108:=a0b e108;clear H;go_wp2;exact sQ rfl
         ·have e108:=H.g 19 108;have e111:=H.r 22 111;have q108:=a0b e108;clear H;have hs1:=zh (HU.out.call hbx);obtain⟨y0,y1,y2⟩:=kE0 (HX4.out _ hs1.out.below) rfl rfl rfl;go_wp2;exact sQ rfl
         ·have e108:=H.g 19 108;have e7:=H.i 7;have q108:=a0b e108;clear H;go_wp2;exact sQ rfl
         ·have e108:=H.g 19 108;have e16:=H.i 16;have q108:=a0b e108;clear H;go_wp2;exact sQ rfl
         ·have e108:=H.g 19 108;have e113:=H.r 24 113;have e114:=H.r 25 114;have q108:=a0b e108;clear H;go_wp2;exact sQ rfl
         ·have e108:=H.g 19 108;have e115:=H.r 26 115;have q108:=a0b e108;clear H;go_wp2;exact sQ rfl
         ·have e108:=H.g 19 108;have e116:=H.r 27 116;have q108:=a0b e108;clear H;have hs1:=zh (HU.out.call hbx);have y0:=HX1.out _ hs1.out.below 2 _ rfl;have y1:=HX1.out _ hs1.out.below 3 _ rfl;have y2:=HX1.out _ hs1.out.below 4 _ rfl;go_wp2;exact sQ rfl
         ·have e108:=(H.ev 19 _ 108 rfl rfl).trans (H.hd ⟨19,.chain⟩ (by simp) rfl);have e112:=H.r 23 112;have e117:=H.r 28 117;have q108:=a0b e108;clear H
          go_wp2_with fail
          refine(HCC.out _).mono ?_
          rintro e w8 ⟨rfl,hb8⟩;go_wp2;exact StepQ.mk _ hb8 rfl
         ·have e108:=H.g 19 108;have e118:=H.r 29 118;have q108:=a0b e108;clear H;go_wp2;exact sQ rfl
         intro xx w11 hb9 hv
         simp only[List.take,List.drop,a0h,Act.put]
         simp only[vQ hv 0,vQ hv 1,vQ hv 2,vQ hv 3,vQ hv 4,vQ hv 5,vQ hv 6,vQ hv 7,vQ hv 8,vQ hv 9,vQ hv 10,vQ hv 11,vQ hv 12,vQ hv 13,vQ hv 14,vQ hv 15,vQ hv 16,vQ hv 17,vQ hv 18,vQ hv 19,vQ hv 20,vQ hv 21,vQ hv 22,vQ hv 23,vQ hv 24,vQ hv 25,vQ hv 26,vQ hv 27,vQ hv 28,vQ hv 29,vQ hv 30]
         clear hv
         have HU11:=zh (HU.out.call hb9)
         clear hb9 HU
         go_wp2
         go_roundw
         case rel=>exact⟨j+1,by omega,by go_num,HU11.out.sub (List.nil_sublist _)⟩
         case measure=>simp[intOf];omega
        exact(HNO.out rfl rfl rfl rfl).elim
       go_wp2
       refine a0e 31 [.slice (some ⟨b0,o0,none⟩) cl.length cm,.int .i64 (i:Nat),.pointer (some ⟨b0,o0+i,none⟩),.slice (some ⟨gr,0,none⟩) cl.length cl.length,.int .i64 (j:Nat),.pointer (some ⟨gr,j,none⟩),.bool true,.bool true,.bool true,.bool false,.bool false,.bool false,undef,undef,undef,undef,undef,undef,.bool false,.bool false,undef,undef,undef,undef,undef,undef,undef,undef,undef,undef,undef] rfl (by kernel_rfl) (by kernel_rfl) (by kernel_rfl) ?_ ?_
       refine⟨?_,?_,?_,?_,?_,?_,?_,?_,?_,?_,?_,?_,?_,?_,?_,?_,?_,?_,?_,?_,?_,?_,?_,?_,?_,?_,?_,?_,?_,?_,?_,trivial⟩<;>(intro xx af wv hbx hev hev0 hd;have H:=SH.mk hev hev0 hd;clear hev hev0 hd)
       ·have e15:=H.i 15;clear H;go_wp2;exact sQ rfl
       ·have e16:=H.i 16;clear H;go_wp2;exact sQ rfl
       ·have e89:=H.r 0 89;have e90:=H.r 1 90;clear H;go_wp2;exact sQ rfl
       ·have e91:=H.r 2 91;clear H;have hs1:=zh (HU.out.call hbx);have y0:=HX.out _ hs1.out.below 0 _ rfl;rw[Nat.add_zero]at y0;go_wp2;exact sQ rfl
       ·have e20:=H.i 20;clear H;go_wp2;exact sQ rfl
       ·have e92:=H.r 3 92;have e93:=H.r 4 93;clear H;go_wp2;exact sQ rfl
       ·have e94:=H.r 5 94;clear H;have hs1:=zh (HU.out.call hbx);have y0:=HY.out _ hs1.out.below 0 _ rfl;rw[Nat.add_zero]at y0;go_wp2;exact sQ rfl
       ·have e95:=H.r 6 95;clear H;go_wp2;exact sQ rfl
       ·have e96:=H.g 7 96;have e17:=H.i 17;have q96:=a0b e96;clear H;go_wp2;exact sQ rfl
       ·have e96:=H.g 7 96;have e97:=H.r 8 97;have q96:=a0b e96;clear H;go_wp2;exact sQ rfl
       ·have e96:=H.r 7 96;have e98:=H.r 9 98;clear H;go_wp2;exact sQ rfl
       ·have e99:=H.r 10 99;clear H;go_wp2;exact sQ rfl
       ·have e100:=H.g 11 100;have q100:=a0b e100;clear H;go_wp2;exact sQ rfl
       ·have e100:=H.g 11 100;have q100:=a0b e100;clear H;go_wp2;exact sQ rfl
       ·have e100:=H.g 11 100;have q100:=a0b e100;clear H;go_wp2;exact sQ rfl
       ·have e100:=H.g 11 100;have q100:=a0b e100;clear H;go_wp2;exact sQ rfl
       ·have e100:=(H.ev 11 _ 100 rfl rfl).trans (H.hd ⟨11,.chain⟩ (by simp) rfl);have q100:=a0b e100;clear H;go_wp2;exact sQ rfl
       ·have e100:=H.g 11 100;have q100:=a0b e100;clear H;go_wp2;exact sQ rfl
       ·have e100:=H.r 11 100;have e106:=H.r 17 106;clear H;go_wp2;exact sQ rfl
       ·have e107:=H.r 18 107;clear H;go_wp2;exact sQ rfl
       ·have e108:=H.g 19 108;have q108:=a0b e108;clear H;go_wp2;exact sQ rfl
       ·have e108:=H.g 19 108;have q108:=a0b e108;clear H;go_wp2;exact sQ rfl
       ·have e108:=H.g 19 108;have q108:=a0b e108;clear H;go_wp2;exact sQ rfl
       ·have e108:=H.g 19 108;have q108:=a0b e108;clear H;go_wp2;exact sQ rfl
       ·have e108:=H.g 19 108;have q108:=a0b e108;clear H;go_wp2;exact sQ rfl
       ·have e108:=H.g 19 108;have q108:=a0b e108;clear H;go_wp2;exact sQ rfl
       ·have e108:=H.g 19 108;have q108:=a0b e108;clear H;go_wp2;exact sQ rfl
       ·have e108:=H.g 19 108;have q108:=a0b e108;clear H;go_wp2;exact sQ rfl
       ·have e108:=H.g 19 108;have q108:=a0b e108;clear H;go_wp2;exact sQ rfl
       ·have e108:=(H.ev 19 _ 108 rfl rfl).trans (H.hd ⟨19,.chain⟩ (by simp) rfl);have q108:=a0b e108;clear H;go_wp2;exact sQ rfl
       ·have e108:=H.g 19 108;have q108:=a0b e108;clear H;go_wp2;exact sQ rfl
       intro xx w11 hb9 hv
       simp only[List.take,List.drop,a0h,Act.put]
       simp only[vQ hv 0,vQ hv 1,vQ hv 2,vQ hv 3,vQ hv 4,vQ hv 5,vQ hv 6,vQ hv 7,vQ hv 8,vQ hv 9,vQ hv 10,vQ hv 11,vQ hv 12,vQ hv 13,vQ hv 14,vQ hv 15,vQ hv 16,vQ hv 17,vQ hv 18,vQ hv 19,vQ hv 20,vQ hv 21,vQ hv 22,vQ hv 23,vQ hv 24,vQ hv 25,vQ hv 26,vQ hv 27,vQ hv 28,vQ hv 29,vQ hv 30]
       clear hv
       have HU11:=zh (HU.out.call hb9)
       clear hb9 HU
       go_wp2
       go_roundw
       case rel=>exact⟨j+1,by omega,by go_num,HU11.out.sub (List.nil_sublist _)⟩
       case measure=>simp[intOf];omega
      have hje:j=cl.length:=by omega
      rw[hje]
      have g2:decide (((cl.length:Nat):Int)<(cl.length:Int))=false:=decide_eq_false (by omega)
      clear hje hj hjn
      go_wp2
      go_roundw
      case rel=>exact⟨i+1,by omega,by go_num,HU.out⟩
      case measure=>simp[intOf];omega
   have hie:i=cl.length:=by omega
   rw[hie]
   have e2:decide (((cl.length:Nat):Int)<(cl.length:Int))=false:=decide_eq_false (by omega)
   have hsu:=fun W (hb:Below w10.heap.size w10 W)=>c2g _ D W (Rt_10.out.below hb) (by rw[HD.out.1,HEL.out];exact LC.out) HZ.out
   obtain⟨B,hB⟩:∃B,B=1131783001:=⟨_,rfl⟩
   have hzb:∀y∈D,Sized B y:=by rw[hB];exact HZ.out
   have hsz:=b2e hzb D.length (Nat.le_refl _)
   rw[List.take_length]at hsz
   have hsm:=sumQ_pos (dlv_pos HEO.out (fun T hT=>by rw[HEL.out];exact HTK.out.2 T hT) HD.out)
   obtain⟨sm,hsmq⟩:∃q,q=sumQ D:=⟨_,rfl⟩
   rw[<- hsmq]at hsu hsz hsm
   have hdl:D.length<=8:=by rw[HD.out.1,HEL.out];exact LC.out
   have hsz:=hsz.mono (show D.length*(B+1)+1<=17179869184 by have:=Nat.mul_le_mul_right (B+1) hdl;omega)
   clear hzb hB
   have hss:=fun W=>b4j (negB sm) (numB sm) (a0a sm) W (Nat.le_trans hsz.num (by decide)) (Nat.le_trans hsz.denom (by decide))
   rw[show decR (negB sm) (numB sm) (a0a sm)=sm from b2z sm]at hss
   obtain⟨ss,hssq⟩:∃q,q=sgn sm.num:=⟨_,rfl⟩
   rw[<- hssq]at hss
   have d9:decide (0<=ss)=true:=decide_eq_true (by rw[hssq];exact sgn_nn3 hsm)
   unfold rat raw at hsu
   unfold raw at hss
   have HSU:=zh hsu
   have HSS:=zh hss
   clear hie hi hin hsu hsz hsm hsmq hss hssq hdl
   go_wp2_with fail
   refine cL (DA.out _) HS fun w11 HS11=>?_
   clear HS
   go_wp2_with fail
   refine cL (HSU.out _ HS11.out.below) HS11 fun w12 HS12=>?_
   clear HS11
   go_wp2_with fail
   refine cL (HSS.out _) HS12 fun w13 HS13=>?_
   clear HS12
   go_wp2
   go_ret
   exact⟨rfl,HB0.out.trans (HS13.out.below.mono HB0.out.size)⟩
 go_wp2_with fail
 have HS5:=aL HS4 #[.slice Ap nR cp,.slice Bp Gp.length dp] 32 w4.heap.size
 refine(DA.out _).mono ?_
 rintro e w6 ⟨rfl,hb6⟩
 have HS6:=zh (HS5.out.call hb6)
 have N_6:=zh (N_4.out.below (Ext.trans (Ext.alloc (Below.refl w4.heap.size w4) (Obj.cells #[.slice Ap nR cp,.slice Bp Gp.length dp] 32)) hb6))
 clear N_4
 have L_6:=zh (L_4.out.below (Ext.trans (Ext.alloc (Below.refl w4.heap.size w4) (Obj.cells #[.slice Ap nR cp,.slice Bp Gp.length dp] 32)) hb6))
 clear L_4
 have Pp_6:=zh (Pp_4.out.below (Ext.trans (Ext.alloc (Below.refl w4.heap.size w4) (Obj.cells #[.slice Ap nR cp,.slice Bp Gp.length dp] 32)) hb6))
 clear Pp_4 hb6 HS4 HS5
 go_wp2
 go_ret
 exact⟨rfl,HS6.out.below⟩
end Go.Proofs.YtjmiicjialkpiaaGreatDoor
