/-
Part 28 of the base.
-/
import Derived.Test.YtjmiicjialkpiaaGreatDoorRf27
set_option maxRecDepth 100000
set_option maxHeartbeats 8000000
namespace Go.Proofs.YtjmiicjialkpiaaGreatDoor
open Go.RowKit
structure PFit(r M T0 Mx rr S0 x:Nat):Prop where
 t0:8*(r+1)+1<=T0
 mx:M+9*(T0+1)<=Mx
 xx:r+T0+Mx+T0+rr+2<=x
 bb:S0+72*(x+1)<=17179869184
structure LFit(L:List (List Pt))(n r:Nat):Prop where
 len:L.length<=9
 tier:∀P∈L,P.length<=8
 sz:∀P∈L,SzP r P
 inn:InL n L
theorem c0c{L:List (List Pt)}{t:Nat}{P:List Pt}{m m' kq:Rat}{D D' D2:List Rat}(h:L[t]? =some P)(hp:a1u (L.drop t) m' D'=a1u L m D)(h0:totR P≠0)(hk:kq=minQ m' (totR P))(h2:D2=a2x (totR P) kq (P.take P.length) D'):a1u (L.drop (t+1)) (m'-kq) D2=a1u L m D:=by
 rw[<- hp,c2n h,if_neg h0,h2,List.take_length,hk]
theorem d0m{L:List (List Pt)}{t:Nat}{P:List Pt}{m m':Rat}{D D':List Rat}(h:L[t]? =some P)(hp:a1u (L.drop t) m' D'=a1u L m D)(h0:totR P=0):a1u (L.drop (t+1)) m' D'=a1u L m D:=by
 rw[<- hp,c2n h,if_pos h0]
theorem c6u{q:Rat}:(bs (numB q)).toList.isEmpty=decide (q=0):=by
 rw[a1q,Bool.eq_iff_iff,decide_eq_true_eq,List.isEmpty_iff]
 exact numB_nil
theorem b7t{w0:World}{R:List Own}(g gg gs n:Nat)(ρ:Rat)(b:Bool)(D E:List Rat)(c:Nat)(q:Rat)(W:World)(h:St w0 (sB g gg gs n ρ b D E R) W)(hD:D.length=n)(hE:E.length=n)(hc:c<n)(s1:∀x∈D,Sized 17179869184 x)(s2:∀x∈E,Sized 17179869184 x)(sq:Sized 17179869184 q) :
  Calls Tryz.prog 57 #[.pointer (some ⟨g,0,none⟩),.int .i64 (c:Nat),rat q,.agg #[.bool false,.string (bs []),.string (bs [])]] W fun e w'=>e=.returned (.tuple #[])/\St w0 (sB g gg gs n ρ b (a2k D c q) (a2k E c 0) R) w':=by
 have h1:=a8h g gg gs n ρ b D E c q 0 W h hD hE hc s1 s2 sq (sized_zero.mono (by decide))
 rw[show rat 0=.agg #[.bool false,.string (bs []),.string (bs [])] by unfold rat raw;rw[enc0q3.1,enc0q3.2.1,enc0q3.2.2]]at h1
 exact h1
theorem b2g{w0:World}{R:List Own}(g gg gs n:Nat)(ρ:Rat)(b:Bool)(D E:List Rat)(v:Value)(L:List (List Pt))(m rt:Rat)(r M T0 Mx rr S0 x:Nat)(W:World)(h:St w0 (sB g gg gs n ρ b D E R) W)(hv:TrsR v L R)(hL:LFit L n r)(hF:PFit r M T0 Mx rr S0 x)(hP:PSz S0 x n 0 D E ρ)(hm:Sized M m)(hr:Sized rr rt) :
  Calls Tryz.prog 55 #[.pointer (some ⟨g,0,none⟩),v,rat m,rat rt] W fun e w'=>e=.returned (.tuple #[])/\∃ (ρ':Rat) (b':Bool) (E':List Rat),PSz S0 x n 72 (a1u L m D) E' ρ'/\St w0 (sB g gg gs n ρ' b' (a1u L m D) E' R) w':=by
 obtain⟨A1,c1,rfl,lv1,lv2⟩:=hv.slice
 obtain⟨fB1,fB2,fB3,fB4⟩:=hF
 have HV:=zh hv
 have LN:=zh hL.len
 have HLF:=zh hL
 have HRT:=zh hr
 have HP0:=zh hP
 have HM0:Hid (Sized (M+0*(T0+1)) m):=zh (hm.mono (by omega))
 have HF:=zh (show(8*(r+1)+1<=T0/\M+9*(T0+1)<=Mx)/\r+T0+Mx+T0+rr+2<=x/\S0+72*(x+1)<=17179869184 from⟨⟨fB1,fB2⟩,fB3,fB4⟩)
 have HSUM:=zh (fun(P:List Pt) (u:Value) (hP:P∈L) W (h:PtsL W u P)=>d0c u P r W h (hL.sz P hP) (by have:=hL.tier P hP;omega) (by omega) (by have:=hL.tier P hP;have:=Nat.mul_le_mul_right (r+1) this;omega))
 have HTZ:=zh (fun(P:List Pt) (hP:P∈L)=>(b2d (hL.sz P hP)).mono (show _<=T0 by have:=hL.tier P hP;have:=Nat.mul_le_mul_right (r+1) this;omega))
 obtain⟨rz,hrz⟩:∃z,z=decide (rt=0):=⟨_,rfl⟩
 have r1:(bs (numB rt)).toList.isEmpty=rz:=by rw[c6u];exact hrz.symm
 have HRZ:=zh hrz
 have hr0:sB g gg gs n ρ b D E R=(⟨g,#[.slice (some ⟨gg,0,none⟩) n n,.slice (some ⟨gs,0,none⟩) n n,.bool false,.string (bs []),.string (bs []),.bool false,.string (bs []),.string (bs []),.bool (negB (ρ)),.string (bs (numB (ρ))),.string (bs (a0a (ρ))),.bool b],87⟩::⟨gg,rowA (D.map encT),39⟩::⟨gs,rowA (E.map encT),39⟩::R):=rfl
 rw[hr0]at h
 have HS:=zh h
 clear h hv hL hP hm hr fB1 fB2 fB3 fB4 lv1 lv2 hrz hr0
 unfold rat raw
 go_enter Tryz.func55,Tryz.ntmps55
 go_wp2
 have HS2:=aL (aL HS #[.bool (negB (m)),.string (bs (numB (m))),.string (bs (a0a (m)))] 39 W.heap.size) #[.bool (negB (rt)),.string (bs (numB (rt))),.string (bs (a0a (rt)))] 39 (W.heap.size+1)
 go_loopw [8,9] (fun mar_ t_ wr=>∃ (t:Nat) (mar:Bool) (m1 ρ1:Rat) (b1:Bool) (D1 E1:List Rat),t<=L.length/\mar_=.bool mar/\t_=.int .i64 t/\Hid (a1u (L.drop t) m1 D1=a1u L m D)/\Hid (Sized (M+t*(T0+1)) m1)/\Hid (PSz S0 x n (8*t) D1 E1 ρ1)/\Hid (St w0 (⟨W.heap.size+1,#[.bool (negB (rt)),.string (bs (numB (rt))),.string (bs (a0a (rt)))],39⟩::⟨W.heap.size,#[.bool (negB (m1)),.string (bs (numB (m1))),.string (bs (a0a (m1)))],39⟩::⟨g,#[.slice (some ⟨gg,0,none⟩) n n,.slice (some ⟨gs,0,none⟩) n n,.bool false,.string (bs []),.string (bs []),.bool false,.string (bs []),.string (bs []),.bool (negB (ρ1)),.string (bs (numB (ρ1))),.string (bs (a0a (ρ1))),.bool b1],87⟩::⟨gg,(rowA ((D1.map encT))),39⟩::⟨gs,(rowA ((E1.map encT))),39⟩::R) wr)) (fun _ t_ _=>L.length-(intOf t_).toNat)
 case atStart=>exact⟨0,true,m,ρ,b,D,E,Nat.zero_le _,rfl,rfl,rfl,HM0.out,HP0.out,HS2.out⟩
 case round =>
  clear HS2 HS HM0 HP0
  obtain⟨t,mar,m1,ρ1,b1,D1,E1,ht,rfl,rfl,HPD,HMZ,HPZ,HS⟩:=hrel
  by_cases htn:t<L.length
  ·obtain⟨bL,oL,u,P,rfl,hq,hu,hlt,hx⟩:=HV.out.at_ htn
   obtain⟨A2,c2,rfl,lp1,lp2⟩:=RdL.slice hu
   have hPL:=List.mem_of_getElem? hq
   have HU:=zh hu
   have HXT:=zh hx
   have HXL:=zh hlt
   have HQ:=zh hq
   have hp8:=HLF.out.tier P hPL
   have LP:=zh hp8
   have HIN:=zh (HLF.out.inn P hPL)
   have HSZ:=zh (HLF.out.sz P hPL)
   obtain⟨tq,htq⟩:∃q,q=totR P:=⟨_,rfl⟩
   have hts:=HTZ.out P hPL
   have hsum:=fun W hr=>HSUM.out P _ hPL W (RdL.slc hu hr)
   rw[<- htq]at hts hsum
   have HTQ:=zh htq
   have HTS:=zh hts
   unfold rat raw at hsum
   have HSM:=zh hsum
   have ht9:t*(T0+1)<=8*(T0+1):=Nat.mul_le_mul_right _ (by have:=LN.out;omega)
   have HB9:=zh ht9
   obtain⟨z,hz⟩:∃z,z=decide (tq=0):=⟨_,rfl⟩
   have z1:(bs (numB tq)).toList.isEmpty=z:=by rw[c6u];exact hz.symm
   have HZ:=zh hz
   have e0:(0:Int)<=((t:Nat):Int):=by omega
   have e1:((t:Nat):Int)<(L.length:Int):=by omega
   have e2:decide (((t:Nat):Int)<(L.length:Int))=true:=decide_eq_true e1
   have e5:IntKind.i64.wrap ((t:Int)+1)=((t+1:Nat):Int):=by have:=LN.out;rw[IntWalk.i64_in _ (by omega)];rfl
   clear hx hlt hu lp1 lp2 hq hp8 hPL htq hts hsum ht9 hz
   cases z
   ·have hq0:tq≠0:=of_decide_eq_false HZ.out.symm
    have HQ0:=zh hq0
    obtain⟨kq,hkq⟩:∃q,q=minQ m1 tq:=⟨_,rfl⟩
    have HKQ:=zh hkq
    have hms:=HMZ.out.mono (show _<=17179869184 by have:=HF.out;have:=HB9.out;omega)
    have htB:=HTS.out.mono (show _<=17179869184 by have:=HF.out;omega)
    have hks:Sized (Mx+T0) kq:=by rw[hkq];exact(c8j HMZ.out HTS.out).mono (by have:=HF.out;have:=HB9.out;omega)
    have hl:=fun W=>c8b m1 tq W hms htB
    have hls:=fun W=>b1j m1 tq W hms htB
    obtain⟨lb,hlb⟩:∃z,z=decide (m1<tq):=⟨_,rfl⟩
    rw[<- hkq]at hl
    rw[<- hlb]at hls
    obtain⟨mn,hmn⟩:∃q,q=m1-kq:=⟨_,rfl⟩
    have hmi:=fun W=>a8p m1 kq W hms (hks.mono (by have:=HF.out;omega))
    rw[<- hmn]at hmi
    have HMN:Hid (Sized (M+(t+1)*(T0+1)) mn):=zh (by rw[hmn,hkq];exact(c8m HMZ.out HTS.out).mono (by rw[Nat.succ_mul];omega))
    have HMNE:=zh hmn
    unfold rat raw at hl hls hmi
    have HLS:=zh hl
    have HLE:=zh hls
    have HMI:=zh hmi
    have HKS:=zh hks
    have HTB:=zh htB
    clear hq0 hkq hms htB hks hl hls hlb hmn hmi
    cases mar
    ·have x1:=HXT.out _ (HS.out.rds (fun r hr=>List.mem_cons_of_mem _ (List.mem_cons_of_mem _ (List.mem_cons_of_mem _ (List.mem_cons_of_mem _ (List.mem_cons_of_mem _ (hr))))))) 0 _ rfl
     rw[Nat.add_zero]at x1
     go_wp2_with fail
     refine cL (HSM.out _ (HS.out.rds (fun r hr=>List.mem_cons_of_mem _ (List.mem_cons_of_mem _ (List.mem_cons_of_mem _ (List.mem_cons_of_mem _ (List.mem_cons_of_mem _ (hr)))))))) HS fun w3 HS3=>?_
     clear HS x1
     obtain⟨x2,x3,x4⟩:=HS3.out.k0 1 rfl rfl rfl rfl
     have x5:=HS3.out.lt 1 rfl
     have x6:¬W.heap.size=w3.heap.size:=by omega
     have x7:¬w3.heap.size=W.heap.size:=by omega
     go_wp2_with fail
     have HS4:=aL HS3 #[.bool (negB (tq)),.string (bs (numB (tq))),.string (bs (a0a (tq)))] 39 w3.heap.size
     refine cL (HLS.out _) HS4 fun w5 HS5=>?_
     clear HS3 HS4 x2 x3 x4 x5 x6 x7
     go_wp2
     have HS6:=aL HS5 #[.bool (negB (kq)),.string (bs (numB (kq))),.string (bs (a0a (kq)))] 39 w5.heap.size
     go_loopw [13] (fun i_ wr=>∃ (k:Nat) (D2 E2:List Rat),k<=P.length/\i_=.int .i64 k/\Hid (D2=a2x tq kq (P.take k) D1)/\Hid (PSz S0 x n (8*t+k) D2 E2 ρ1)/\Hid (St w0 (⟨w5.heap.size,#[.bool (negB (kq)),.string (bs (numB (kq))),.string (bs (a0a (kq)))],39⟩::⟨w3.heap.size,#[.bool (negB (tq)),.string (bs (numB (tq))),.string (bs (a0a (tq)))],39⟩::⟨W.heap.size+1,#[.bool (negB (rt)),.string (bs (numB (rt))),.string (bs (a0a (rt)))],39⟩::⟨W.heap.size,#[.bool (negB (m1)),.string (bs (numB (m1))),.string (bs (a0a (m1)))],39⟩::⟨g,#[.slice (some ⟨gg,0,none⟩) n n,.slice (some ⟨gs,0,none⟩) n n,.bool false,.string (bs []),.string (bs []),.bool false,.string (bs []),.string (bs []),.bool (negB (ρ1)),.string (bs (numB (ρ1))),.string (bs (a0a (ρ1))),.bool b1],87⟩::⟨gg,(rowA ((D2.map encT))),39⟩::⟨gs,(rowA ((E2.map encT))),39⟩::R) wr)) (fun i_ _=>P.length-(intOf i_).toNat)
     case atStart=>exact⟨0,D1,E1,Nat.zero_le _,rfl,rfl,HPZ.out,HS6.out⟩
     case round =>
      clear HS6 HS5
      obtain⟨k,D2,E2,hk,rfl,HD2,HZ2,HV2⟩:=hrel
      by_cases hkn:k<P.length
      ·obtain⟨b2,o2,p,rfl,hq,hlt,hx⟩:=RdL.at_ HU.out hkn
       have HXP:=zh hx
       have HXPL:=zh hlt
       have hpm:=List.mem_of_getElem? hq
       have hps:=HSZ.out p hpm
       have hpc:=HIN.out p hpm
       have HSD:=zh (b5a (tot:=tq) (take:=kq) (D:=D1) hq)
       unfold Pt.enc at HXP
       obtain⟨sh,hsh⟩:∃q,q=p.q/tq:=⟨_,rfl⟩
       have hov:=fun W=>b9r p.q tq W (hps.mono (by have:=HF.out;omega)) HTB.out HQ0.out
       have hss:Sized (r+T0) sh:=by rw[hsh];exact hps.div HTS.out
       rw[<- hsh]at hov
       obtain⟨gv,hgv⟩:∃q,q=sh*kq:=⟨_,rfl⟩
       have htm:=fun W=>b1h sh kq W (hss.mono (by have:=HF.out;omega)) (HKS.out.mono (by have:=HF.out;omega))
       have hgs:Sized x gv:=by rw[hgv];exact(hss.mul HKS.out).mono (by have:=HF.out;omega)
       rw[<- hgv]at htm
       obtain⟨sl,hsl⟩:∃q,q=sh*rt:=⟨_,rfl⟩
       have htr:=fun W=>b1h sh rt W (hss.mono (by have:=HF.out;omega)) (HRT.out.mono (by have:=HF.out;omega))
       have hls:Sized x sl:=by rw[hsl];exact(hss.mul HRT.out).mono (by have:=HF.out;omega)
       rw[<- hsl]at htr
       rw[<- hsh,<-hgv]at HSD
       obtain⟨hf1,hf2⟩:=HZ2.out.fit (show 8*t+k<=72 by have:=LN.out;have:=LP.out;omega) HF.out.2.2
       have HSP:=zh (fun(X:List Own) W (h:St w0 (sB g gg gs n ρ1 b1 D2 E2 (X++R)) W)=>a8h g gg gs n ρ1 b1 D2 E2 p.c gv sl W h HZ2.out.dl HZ2.out.el hpc hf1 hf2 (hgs.mono (by have:=HF.out;omega)) (hls.mono (by have:=HF.out;omega)))
       have HSQ:=zh (fun(X:List Own) W (h:St w0 (sB g gg gs n ρ1 b1 D2 E2 (X++R)) W)=>b7t g gg gs n ρ1 b1 D2 E2 p.c gv W h HZ2.out.dl HZ2.out.el hpc hf1 hf2 (hgs.mono (by have:=HF.out;omega)))
       have HZP:=zh (HZ2.out.put hpc hgs hls)
       have HZQ:=zh (HZ2.out.put hpc hgs (sized_zero.mono (show 1<=x by have:=HF.out;omega)))
       unfold rat raw at hov htm htr
       have HOV:=zh hov
       have HTM:=zh htm
       have HTR:=zh htr
       have j0:(0:Int)<=((k:Nat):Int):=by omega
       have j1:((k:Nat):Int)<(P.length:Int):=by omega
       have j2:decide (((k:Nat):Int)<(P.length:Int))=true:=decide_eq_true j1
       have j5:IntKind.i64.wrap ((k:Int)+1)=((k+1:Nat):Int):=by have:=LP.out;rw[IntWalk.i64_in _ (by omega)];rfl
       clear hx hlt hq hpm hps hpc hov htm htr hss hgs hls hsh hgv hsl hf1 hf2
       have x8:=HXT.out _ (HV2.out.rds (fun r hr=>List.mem_cons_of_mem _ (List.mem_cons_of_mem _ (List.mem_cons_of_mem _ (List.mem_cons_of_mem _ (List.mem_cons_of_mem _ (List.mem_cons_of_mem _ (List.mem_cons_of_mem _ (hr))))))))) 0 _ rfl
       rw[Nat.add_zero]at x8
       go_wp2
       clear x8
       refine a0d 11 [eQ (.slice (some ⟨bL,oL,none⟩) L.length c1),eQ (.int .i64 (t:Nat)),eQ (.pointer (some ⟨bL,oL+t,none⟩)),eQ (.slice (some ⟨b2,o2,none⟩) P.length c2),eQ (.int .i64 (k:Nat)),eQ (.pointer (some ⟨b2,o2+k*4,none⟩)),eQ (.pointer (some ⟨b2,o2+k*4+1,none⟩)),eQ (.agg #[.bool (negB (p.q)),.string (bs (numB (p.q))),.string (bs (a0a (p.q)))]),eQ (.agg #[.bool (negB (tq)),.string (bs (numB (tq))),.string (bs (a0a (tq)))]),eQ (.agg #[.bool (negB (sh)),.string (bs (numB (sh))),.string (bs (a0a (sh)))]),fun ww vv=>∃g,vv=.pointer (some ⟨g,0,none⟩)/\wr.heap.size<=g/\Blk ww g #[.bool false,.string (bs []),.string (bs [])] 39] rfl (by kernel_rfl) (by kernel_rfl) (by kernel_rfl) ⟨stE,stE,stE,stE,stE,stE,stE,stE,stE,stE,fun _ _ _ ⟨g,e,hg,h⟩ hb=>⟨g,e,hg,h.below hb h.lt⟩,trivial⟩ ?_ ?_
       refine⟨?_,?_,?_,?_,?_,?_,?_,?_,?_,?_,?_,trivial⟩<;>(intro xx af wv hbx hev hev0 hd;have H:=SH.mk hev hev0 hd;clear hev hev0 hd)
       ·have e1:=H.i 1;clear H;go_wp2;exact sQ rfl
       ·have e9:=H.i 9;clear H;go_wp2;exact sQ rfl
       ·have e48:=H.r 0 48;have e49:=H.r 1 49;clear H;go_wp2;exact sQ rfl
       ·have e50:=H.r 2 50;clear H;have hs1:=zh (HV2.out.call hbx);have y0:=HXT.out _ (hs1.out.rds (fun r hr=>List.mem_cons_of_mem _ (List.mem_cons_of_mem _ (List.mem_cons_of_mem _ (List.mem_cons_of_mem _ (List.mem_cons_of_mem _ (List.mem_cons_of_mem _ (List.mem_cons_of_mem _ (hr))))))))) 0 _ rfl;rw[Nat.add_zero]at y0;go_wp2;exact sQ rfl
       ·have e13:=H.i 13;clear H;go_wp2;exact sQ rfl
       ·have e51:=H.r 3 51;have e52:=H.r 4 52;clear H;go_wp2;exact sQ rfl
       ·have e53:=H.r 5 53;clear H;go_wp2;exact sQ rfl
       ·have e54:=H.r 6 54;clear H;have hs1:=zh (HV2.out.call hbx);obtain⟨y0,y1,y2⟩:=kE1 (HXP.out _ (hs1.out.rds (fun r hr=>List.mem_cons_of_mem _ (List.mem_cons_of_mem _ (List.mem_cons_of_mem _ (List.mem_cons_of_mem _ (List.mem_cons_of_mem _ (List.mem_cons_of_mem _ (List.mem_cons_of_mem _ (hr)))))))))) rfl rfl rfl;go_wp2;exact sQ rfl
       ·have e10:=H.i 10;clear H;have hs1:=zh (HV2.out.call hbx);obtain⟨y0,y1,y2⟩:=hs1.out.k0 1 rfl rfl rfl rfl;go_wp2;exact sQ rfl
       ·have e55:=H.r 7 55;have e56:=H.r 8 56;clear H
        go_wp2_with fail
        refine(HOV.out _).mono ?_
        rintro e w8 ⟨rfl,hb8⟩;go_wp2;exact StepQ.mk _ hb8 rfl
       ·clear H;go_wp2;exact StepQ.mk _ (Ext.alloc (Below.refl _ _) _) ⟨_,rfl,hbx.size,Blk.new _ _ _⟩
       intro xx w7 hb9 hv
       obtain⟨g7,hv10,hlg10,hB10⟩:=hv 10 (by decide)
       simp only[List.take,List.drop,a0h,Act.put]
       simp only[vQ hv 0,vQ hv 1,vQ hv 2,vQ hv 3,vQ hv 4,vQ hv 5,vQ hv 6,vQ hv 7,vQ hv 8,vQ hv 9,hv10]
       clear hv hv10
       have HV7:=zh (HV2.out.fill hb9 hlg10 hB10)
       clear hlg10 hB10 hb9 HV2
       obtain⟨x9,x10,x11⟩:=HV7.out.k0 0 rfl rfl rfl rfl
       obtain⟨x12,x13,x14⟩:=HV7.out.f0 0 rfl
       have x15:=cN HV7 0 1
       have x16:=cN HV7 1 0
       have x17:=cN HV7 0 2
       have x18:=cN HV7 2 0
       have x19:=cN HV7 0 3
       have x20:=cN HV7 3 0
       have x21:=cN HV7 0 4
       have x22:=cN HV7 4 0
       have x23:=cN HV7 0 5
       have x24:=cN HV7 5 0
       have x25:=cN HV7 0 6
       have x26:=cN HV7 6 0
       have x27:=cN HV7 0 7
       have x28:=cN HV7 7 0
       have x29:=HV7.out.lt 0 rfl
       have x30:¬g7=w7.heap.size:=by omega
       have x31:¬w7.heap.size=g7:=by omega
       go_wp2
       clear x9 x10 x11 x12 x13 x14 x15 x16 x17 x18 x19 x20 x21 x22 x23 x24 x25 x26 x27 x28 x29 x30 x31
       refine a4m (R:=(_::⟨g7,#[.bool (negB (sh)),.string (bs (numB (sh))),.string (bs (a0a (sh)))],39⟩::_::_::_::⟨W.heap.size,#[.bool (negB (m1)),.string (bs (numB (m1))),.string (bs (a0a (m1)))],39⟩::⟨g,#[.slice (some ⟨gg,0,none⟩) n n,.slice (some ⟨gs,0,none⟩) n n,.bool false,.string (bs []),.string (bs []),.bool false,.string (bs []),.string (bs []),.bool (negB (ρ1)),.string (bs (numB (ρ1))),.string (bs (a0a (ρ1))),.bool b1],87⟩::⟨gg,(rowA ((D2.map encT))),39⟩::⟨gs,(rowA ((E2.map encT))),39⟩::R)) (St.alloc ((St.set ((St.set ((St.set (HV7.out) 0 rfl 0 _)) 0 rfl 1 _)) 0 rfl 2 _)) #[.bool false,.string (bs []),.string (bs [])] 39 (w7.heap.size) (by simp)) ?_
       intro wg8 hb
       have HV8:=zh hb
       clear hb HV7
       refine a0e 13 [.pointer (some ⟨g,0,none⟩),.slice (some ⟨bL,oL,none⟩) L.length c1,.int .i64 (t:Nat),.pointer (some ⟨bL,oL+t,none⟩),.slice (some ⟨b2,o2,none⟩) P.length c2,.int .i64 (k:Nat),.pointer (some ⟨b2,o2+k*4,none⟩),.pointer (some ⟨b2,o2+k*4,none⟩),.int .i64 (p.c:Nat),.agg #[.bool (negB (sh)),.string (bs (numB (sh))),.string (bs (a0a (sh)))],.agg #[.bool (negB (kq)),.string (bs (numB (kq))),.string (bs (a0a (kq)))],.agg #[.bool (negB (gv)),.string (bs (numB (gv))),.string (bs (a0a (gv)))],.agg #[.bool false,.string (bs []),.string (bs [])]] rfl (by kernel_rfl) (by kernel_rfl) (by kernel_rfl) ?_ ?_
       refine⟨?_,?_,?_,?_,?_,?_,?_,?_,?_,?_,?_,?_,?_,trivial⟩<;>(intro xx af wv hbx hev hev0 hd;have H:=SH.mk hev hev0 hd;clear hev hev0 hd)
       ·have e0:=H.i 0;clear H;go_wp2;exact sQ rfl
       ·have e1:=H.i 1;clear H;go_wp2;exact sQ rfl
       ·have e9:=H.i 9;clear H;go_wp2;exact sQ rfl
       ·have e64:=H.r 1 64;have e65:=H.r 2 65;clear H;go_wp2;exact sQ rfl
       ·have e66:=H.r 3 66;clear H;have hs1:=zh (HV8.out.call hbx);have y0:=HXT.out _ (hs1.out.rds (fun r hr=>List.mem_cons_of_mem _ (List.mem_cons_of_mem _ (List.mem_cons_of_mem _ (List.mem_cons_of_mem _ (List.mem_cons_of_mem _ (List.mem_cons_of_mem _ (List.mem_cons_of_mem _ (List.mem_cons_of_mem _ (List.mem_cons_of_mem _ (hr))))))))))) 0 _ rfl;rw[Nat.add_zero]at y0;go_wp2;exact sQ rfl
       ·have e13:=H.i 13;clear H;go_wp2;exact sQ rfl
       ·have e67:=H.r 4 67;have e68:=H.r 5 68;clear H;go_wp2;exact sQ rfl
       ·have e69:=H.r 6 69;clear H;go_wp2;exact sQ rfl
       ·have e70:=H.r 7 70;clear H;have hs1:=zh (HV8.out.call hbx);have y0:=HXP.out _ (hs1.out.rds (fun r hr=>List.mem_cons_of_mem _ (List.mem_cons_of_mem _ (List.mem_cons_of_mem _ (List.mem_cons_of_mem _ (List.mem_cons_of_mem _ (List.mem_cons_of_mem _ (List.mem_cons_of_mem _ (List.mem_cons_of_mem _ (List.mem_cons_of_mem _ (hr))))))))))) 0 _ rfl;rw[Nat.add_zero]at y0;go_wp2;exact sQ rfl
       ·have e14:=H.i 14;clear H;have hs1:=zh (HV8.out.call hbx);obtain⟨y0,y1,y2⟩:=hs1.out.k0 1 rfl rfl rfl rfl;go_wp2;exact sQ rfl
       ·have e11:=H.i 11;clear H;have hs1:=zh (HV8.out.call hbx);obtain⟨y0,y1,y2⟩:=hs1.out.k0 2 rfl rfl rfl rfl;go_wp2;exact sQ rfl
       ·have e72:=H.r 9 72;have e73:=H.r 10 73;clear H
        go_wp2_with fail
        refine(HTM.out _).mono ?_
        rintro e w8 ⟨rfl,hb8⟩;go_wp2;exact StepQ.mk _ hb8 rfl
       ·have e15:=H.i 15;clear H;have hs1:=zh (HV8.out.call hbx);obtain⟨y0,y1,y2⟩:=hs1.out.k0 0 rfl rfl rfl rfl;go_wp2;exact sQ rfl
       intro xx w10 hb9 hv
       simp only[List.take,List.drop,a0h,Act.put]
       simp only[vQ hv 0,vQ hv 1,vQ hv 2,vQ hv 3,vQ hv 4,vQ hv 5,vQ hv 6,vQ hv 7,vQ hv 8,vQ hv 9,vQ hv 10,vQ hv 11,vQ hv 12]
       clear hv
       have HV10:=zh (HV8.out.call hb9)
       clear hb9 HV8
       go_wp2_with fail
       refine(HSQ.out [⟨w7.heap.size,#[.bool false,.string (bs []),.string (bs [])],39⟩,⟨g7,#[.bool (negB (sh)),.string (bs (numB (sh))),.string (bs (a0a (sh)))],39⟩,⟨w5.heap.size,#[.bool (negB (kq)),.string (bs (numB (kq))),.string (bs (a0a (kq)))],39⟩,⟨w3.heap.size,#[.bool (negB (tq)),.string (bs (numB (tq))),.string (bs (a0a (tq)))],39⟩,⟨W.heap.size+1,#[.bool (negB (rt)),.string (bs (numB (rt))),.string (bs (a0a (rt)))],39⟩,⟨W.heap.size,#[.bool (negB (m1)),.string (bs (numB (m1))),.string (bs (a0a (m1)))],39⟩] _ (a6j [⟨w7.heap.size,#[.bool false,.string (bs []),.string (bs [])],39⟩,⟨g7,#[.bool (negB (sh)),.string (bs (numB (sh))),.string (bs (a0a (sh)))],39⟩,⟨w5.heap.size,#[.bool (negB (kq)),.string (bs (numB (kq))),.string (bs (a0a (kq)))],39⟩,⟨w3.heap.size,#[.bool (negB (tq)),.string (bs (numB (tq))),.string (bs (a0a (tq)))],39⟩,⟨W.heap.size+1,#[.bool (negB (rt)),.string (bs (numB (rt))),.string (bs (a0a (rt)))],39⟩,⟨W.heap.size,#[.bool (negB (m1)),.string (bs (numB (m1))),.string (bs (a0a (m1)))],39⟩] HV10.out)).mono ?_
       rintro e w11 ⟨rfl,hq11⟩
       have hst11:=a8k [⟨w7.heap.size,#[.bool false,.string (bs []),.string (bs [])],39⟩,⟨g7,#[.bool (negB (sh)),.string (bs (numB (sh))),.string (bs (a0a (sh)))],39⟩,⟨w5.heap.size,#[.bool (negB (kq)),.string (bs (numB (kq))),.string (bs (a0a (kq)))],39⟩,⟨w3.heap.size,#[.bool (negB (tq)),.string (bs (numB (tq))),.string (bs (a0a (tq)))],39⟩,⟨W.heap.size+1,#[.bool (negB (rt)),.string (bs (numB (rt))),.string (bs (a0a (rt)))],39⟩,⟨W.heap.size,#[.bool (negB (m1)),.string (bs (numB (m1))),.string (bs (a0a (m1)))],39⟩] hq11
       clear hq11
       have HV11:Hid (St w0 (⟨w7.heap.size,#[.bool false,.string (bs []),.string (bs [])],39⟩::⟨g7,#[.bool (negB (sh)),.string (bs (numB (sh))),.string (bs (a0a (sh)))],39⟩::⟨w5.heap.size,#[.bool (negB (kq)),.string (bs (numB (kq))),.string (bs (a0a (kq)))],39⟩::⟨w3.heap.size,#[.bool (negB (tq)),.string (bs (numB (tq))),.string (bs (a0a (tq)))],39⟩::⟨W.heap.size+1,#[.bool (negB (rt)),.string (bs (numB (rt))),.string (bs (a0a (rt)))],39⟩::⟨W.heap.size,#[.bool (negB (m1)),.string (bs (numB (m1))),.string (bs (a0a (m1)))],39⟩::⟨g,#[.slice (some ⟨gg,0,none⟩) n n,.slice (some ⟨gs,0,none⟩) n n,.bool false,.string (bs []),.string (bs []),.bool false,.string (bs []),.string (bs []),.bool (negB (ρ1)),.string (bs (numB (ρ1))),.string (bs (a0a (ρ1))),.bool b1],87⟩::⟨gg,(rowA (((a2k D2 p.c gv).map encT))),39⟩::⟨gs,(rowA (((a2k E2 p.c 0).map encT))),39⟩::R) w11):=zh hst11
       clear hst11 HV10
       go_wp2
       go_roundw
       case rel=>exact⟨k+1,_,_,by omega,by go_num,by show _=_;rw[HSD.out,<-HD2.out],HZQ.out,HV11.out.sub (List.Sublist.cons _ (List.Sublist.cons _ (List.Sublist.refl _)))⟩
       case measure=>simp[intOf];omega
      have hke:k=P.length:=by omega
      rw[hke]at HD2 HZ2 ⊢
      have j2:decide (((P.length:Nat):Int)<(P.length:Int))=false:=decide_eq_false (by omega)
      have HPN:Hid (a1u (L.drop (t+1)) mn D2=a1u L m D):=zh (by rw[HMNE.out];exact c0c (kq:=kq) (D2:=D2) HQ.out HPD.out (by rw[<- HTQ.out];exact HQ0.out) (by rw[<- HTQ.out];exact HKQ.out) (by rw[<- HTQ.out];exact HD2.out))
      clear hke hk hkn
      obtain⟨x8,x9,x10⟩:=HV2.out.k0 3 rfl rfl rfl rfl
      obtain⟨x11,x12,x13⟩:=HV2.out.k0 0 rfl rfl rfl rfl
      have x14:=HXT.out _ (HV2.out.rds (fun r hr=>List.mem_cons_of_mem _ (List.mem_cons_of_mem _ (List.mem_cons_of_mem _ (List.mem_cons_of_mem _ (List.mem_cons_of_mem _ (List.mem_cons_of_mem _ (List.mem_cons_of_mem _ (hr))))))))) 0 _ rfl
      rw[Nat.add_zero]at x14
      go_wp2_with fail
      refine(HMI.out _).mono ?_
      rintro e w7 ⟨rfl,hb7⟩
      have HV7:=zh (HV2.out.call hb7)
      clear hb7 HV2 x8 x9 x10 x11 x12 x13 x14
      obtain⟨x15,x16,x17⟩:=HV7.out.k0 3 rfl rfl rfl rfl
      obtain⟨x18,x19,x20⟩:=HV7.out.f0 3 rfl
      have x21:=cN HV7 3 0
      have x22:=cN HV7 0 3
      have x23:=cN HV7 3 1
      have x24:=cN HV7 1 3
      have x25:=cN HV7 3 2
      have x26:=cN HV7 2 3
      have x27:=cN HV7 3 4
      have x28:=cN HV7 4 3
      have x29:=cN HV7 3 5
      have x30:=cN HV7 5 3
      have x31:=cN HV7 3 6
      have x32:=cN HV7 6 3
      go_wp2
      have HV8:Hid (St w0 (⟨w5.heap.size,#[.bool (negB (kq)),.string (bs (numB (kq))),.string (bs (a0a (kq)))],39⟩::⟨w3.heap.size,#[.bool (negB (tq)),.string (bs (numB (tq))),.string (bs (a0a (tq)))],39⟩::⟨W.heap.size+1,#[.bool (negB (rt)),.string (bs (numB (rt))),.string (bs (a0a (rt)))],39⟩::⟨W.heap.size,#[.bool (negB (mn)),.string (bs (numB (mn))),.string (bs (a0a (mn)))],39⟩::⟨g,#[.slice (some ⟨gg,0,none⟩) n n,.slice (some ⟨gs,0,none⟩) n n,.bool false,.string (bs []),.string (bs []),.bool false,.string (bs []),.string (bs []),.bool (negB (ρ1)),.string (bs (numB (ρ1))),.string (bs (a0a (ρ1))),.bool b1],87⟩::⟨gg,(rowA ((D2.map encT))),39⟩::⟨gs,(rowA ((E2.map encT))),39⟩::R) _):=zh (St.set ((St.set ((St.set (HV7.out) 3 rfl 0 _)) 3 rfl 1 _)) 3 rfl 2 _)
      go_roundw
      case rel=>exact⟨t+1,false,mn,ρ1,b1,D2,E2,by omega,rfl,by go_num,HPN.out,HMN.out,HZ2.out.mono (by have:=LP.out;omega),HV8.out.sub (List.Sublist.cons _ (List.Sublist.cons _ (List.Sublist.refl _)))⟩
      case measure=>simp[intOf];omega
    have x1:=HXT.out _ (HS.out.rds (fun r hr=>List.mem_cons_of_mem _ (List.mem_cons_of_mem _ (List.mem_cons_of_mem _ (List.mem_cons_of_mem _ (List.mem_cons_of_mem _ (hr))))))) 0 _ rfl
    rw[Nat.add_zero]at x1
    go_wp2_with fail
    refine cL (HSM.out _ (HS.out.rds (fun r hr=>List.mem_cons_of_mem _ (List.mem_cons_of_mem _ (List.mem_cons_of_mem _ (List.mem_cons_of_mem _ (List.mem_cons_of_mem _ (hr)))))))) HS fun w3 HS3=>?_
    clear HS x1
    obtain⟨x2,x3,x4⟩:=HS3.out.k0 1 rfl rfl rfl rfl
    have x5:=HS3.out.lt 1 rfl
    have x6:¬W.heap.size=w3.heap.size:=by omega
    have x7:¬w3.heap.size=W.heap.size:=by omega
    go_wp2_with fail
    have HS4:=aL HS3 #[.bool (negB (tq)),.string (bs (numB (tq))),.string (bs (a0a (tq)))] 39 w3.heap.size
    refine cL (HLS.out _) HS4 fun w5 HS5=>?_
    clear HS3 HS4 x2 x3 x4 x5 x6 x7
    obtain⟨x8,x9,x10⟩:=HS5.out.k0 2 rfl rfl rfl rfl
    obtain⟨x11,x12,x13⟩:=HS5.out.k0 0 rfl rfl rfl rfl
    have x14:=HS5.out.lt 2 rfl
    have x15:¬W.heap.size=w5.heap.size:=by omega
    have x16:¬w5.heap.size=W.heap.size:=by omega
    have x17:=HS5.out.lt 0 rfl
    have x18:¬w3.heap.size=w5.heap.size:=by omega
    have x19:¬w5.heap.size=w3.heap.size:=by omega
    go_wp2_with fail
    have HS6:=aL HS5 #[.bool (negB (kq)),.string (bs (numB (kq))),.string (bs (a0a (kq)))] 39 w5.heap.size
    refine cL (HLE.out _) HS6 fun w7 HS7=>?_
    clear HS5 HS6 x8 x9 x10 x11 x12 x13 x14 x15 x16 x17 x18 x19
    go_wp2
    go_loopw [13] (fun i_ wr=>∃ (k:Nat) (D2 E2:List Rat),k<=P.length/\i_=.int .i64 k/\Hid (D2=a2x tq kq (P.take k) D1)/\Hid (PSz S0 x n (8*t+k) D2 E2 ρ1)/\Hid (St w0 (⟨w5.heap.size,#[.bool (negB (kq)),.string (bs (numB (kq))),.string (bs (a0a (kq)))],39⟩::⟨w3.heap.size,#[.bool (negB (tq)),.string (bs (numB (tq))),.string (bs (a0a (tq)))],39⟩::⟨W.heap.size+1,#[.bool (negB (rt)),.string (bs (numB (rt))),.string (bs (a0a (rt)))],39⟩::⟨W.heap.size,#[.bool (negB (m1)),.string (bs (numB (m1))),.string (bs (a0a (m1)))],39⟩::⟨g,#[.slice (some ⟨gg,0,none⟩) n n,.slice (some ⟨gs,0,none⟩) n n,.bool false,.string (bs []),.string (bs []),.bool false,.string (bs []),.string (bs []),.bool (negB (ρ1)),.string (bs (numB (ρ1))),.string (bs (a0a (ρ1))),.bool b1],87⟩::⟨gg,(rowA ((D2.map encT))),39⟩::⟨gs,(rowA ((E2.map encT))),39⟩::R) wr)) (fun i_ _=>P.length-(intOf i_).toNat)
    case atStart=>exact⟨0,D1,E1,Nat.zero_le _,rfl,rfl,HPZ.out,HS7.out⟩
    case round =>
     clear HS7
     obtain⟨k,D2,E2,hk,rfl,HD2,HZ2,HV2⟩:=hrel
     by_cases hkn:k<P.length
     ·obtain⟨b2,o2,p,rfl,hq,hlt,hx⟩:=RdL.at_ HU.out hkn
      have HXP:=zh hx
      have HXPL:=zh hlt
      have hpm:=List.mem_of_getElem? hq
      have hps:=HSZ.out p hpm
      have hpc:=HIN.out p hpm
      have HSD:=zh (b5a (tot:=tq) (take:=kq) (D:=D1) hq)
      unfold Pt.enc at HXP
      obtain⟨sh,hsh⟩:∃q,q=p.q/tq:=⟨_,rfl⟩
      have hov:=fun W=>b9r p.q tq W (hps.mono (by have:=HF.out;omega)) HTB.out HQ0.out
      have hss:Sized (r+T0) sh:=by rw[hsh];exact hps.div HTS.out
      rw[<- hsh]at hov
      obtain⟨gv,hgv⟩:∃q,q=sh*kq:=⟨_,rfl⟩
      have htm:=fun W=>b1h sh kq W (hss.mono (by have:=HF.out;omega)) (HKS.out.mono (by have:=HF.out;omega))
      have hgs:Sized x gv:=by rw[hgv];exact(hss.mul HKS.out).mono (by have:=HF.out;omega)
      rw[<- hgv]at htm
      obtain⟨sl,hsl⟩:∃q,q=sh*rt:=⟨_,rfl⟩
      have htr:=fun W=>b1h sh rt W (hss.mono (by have:=HF.out;omega)) (HRT.out.mono (by have:=HF.out;omega))
      have hls:Sized x sl:=by rw[hsl];exact(hss.mul HRT.out).mono (by have:=HF.out;omega)
      rw[<- hsl]at htr
      rw[<- hsh,<-hgv]at HSD
      obtain⟨hf1,hf2⟩:=HZ2.out.fit (show 8*t+k<=72 by have:=LN.out;have:=LP.out;omega) HF.out.2.2
      have HSP:=zh (fun(X:List Own) W (h:St w0 (sB g gg gs n ρ1 b1 D2 E2 (X++R)) W)=>a8h g gg gs n ρ1 b1 D2 E2 p.c gv sl W h HZ2.out.dl HZ2.out.el hpc hf1 hf2 (hgs.mono (by have:=HF.out;omega)) (hls.mono (by have:=HF.out;omega)))
      have HSQ:=zh (fun(X:List Own) W (h:St w0 (sB g gg gs n ρ1 b1 D2 E2 (X++R)) W)=>b7t g gg gs n ρ1 b1 D2 E2 p.c gv W h HZ2.out.dl HZ2.out.el hpc hf1 hf2 (hgs.mono (by have:=HF.out;omega)))
      have HZP:=zh (HZ2.out.put hpc hgs hls)
      have HZQ:=zh (HZ2.out.put hpc hgs (sized_zero.mono (show 1<=x by have:=HF.out;omega)))
      unfold rat raw at hov htm htr
      have HOV:=zh hov
      have HTM:=zh htm
      have HTR:=zh htr
      have j0:(0:Int)<=((k:Nat):Int):=by omega
      have j1:((k:Nat):Int)<(P.length:Int):=by omega
      have j2:decide (((k:Nat):Int)<(P.length:Int))=true:=decide_eq_true j1
      have j5:IntKind.i64.wrap ((k:Int)+1)=((k+1:Nat):Int):=by have:=LP.out;rw[IntWalk.i64_in _ (by omega)];rfl
      clear hx hlt hq hpm hps hpc hov htm htr hss hgs hls hsh hgv hsl hf1 hf2
      cases lb
      ·have x20:=HXT.out _ (HV2.out.rds (fun r hr=>List.mem_cons_of_mem _ (List.mem_cons_of_mem _ (List.mem_cons_of_mem _ (List.mem_cons_of_mem _ (List.mem_cons_of_mem _ (List.mem_cons_of_mem _ (List.mem_cons_of_mem _ (hr))))))))) 0 _ rfl
       rw[Nat.add_zero]at x20
       go_wp2
       clear x20
       refine a0d 11 [eQ (.slice (some ⟨bL,oL,none⟩) L.length c1),eQ (.int .i64 (t:Nat)),eQ (.pointer (some ⟨bL,oL+t,none⟩)),eQ (.slice (some ⟨b2,o2,none⟩) P.length c2),eQ (.int .i64 (k:Nat)),eQ (.pointer (some ⟨b2,o2+k*4,none⟩)),eQ (.pointer (some ⟨b2,o2+k*4+1,none⟩)),eQ (.agg #[.bool (negB (p.q)),.string (bs (numB (p.q))),.string (bs (a0a (p.q)))]),eQ (.agg #[.bool (negB (tq)),.string (bs (numB (tq))),.string (bs (a0a (tq)))]),eQ (.agg #[.bool (negB (sh)),.string (bs (numB (sh))),.string (bs (a0a (sh)))]),fun ww vv=>∃g,vv=.pointer (some ⟨g,0,none⟩)/\wr.heap.size<=g/\Blk ww g #[.bool false,.string (bs []),.string (bs [])] 39] rfl (by kernel_rfl) (by kernel_rfl) (by kernel_rfl) ⟨stE,stE,stE,stE,stE,stE,stE,stE,stE,stE,fun _ _ _ ⟨g,e,hg,h⟩ hb=>⟨g,e,hg,h.below hb h.lt⟩,trivial⟩ ?_ ?_
       refine⟨?_,?_,?_,?_,?_,?_,?_,?_,?_,?_,?_,trivial⟩<;>(intro xx af wv hbx hev hev0 hd;have H:=SH.mk hev hev0 hd;clear hev hev0 hd)
       ·have e1:=H.i 1;clear H;go_wp2;exact sQ rfl
       ·have e9:=H.i 9;clear H;go_wp2;exact sQ rfl
       ·have e48:=H.r 0 48;have e49:=H.r 1 49;clear H;go_wp2;exact sQ rfl
       ·have e50:=H.r 2 50;clear H;have hs1:=zh (HV2.out.call hbx);have y0:=HXT.out _ (hs1.out.rds (fun r hr=>List.mem_cons_of_mem _ (List.mem_cons_of_mem _ (List.mem_cons_of_mem _ (List.mem_cons_of_mem _ (List.mem_cons_of_mem _ (List.mem_cons_of_mem _ (List.mem_cons_of_mem _ (hr))))))))) 0 _ rfl;rw[Nat.add_zero]at y0;go_wp2;exact sQ rfl
       ·have e13:=H.i 13;clear H;go_wp2;exact sQ rfl
       ·have e51:=H.r 3 51;have e52:=H.r 4 52;clear H;go_wp2;exact sQ rfl
       ·have e53:=H.r 5 53;clear H;go_wp2;exact sQ rfl
       ·have e54:=H.r 6 54;clear H;have hs1:=zh (HV2.out.call hbx);obtain⟨y0,y1,y2⟩:=kE1 (HXP.out _ (hs1.out.rds (fun r hr=>List.mem_cons_of_mem _ (List.mem_cons_of_mem _ (List.mem_cons_of_mem _ (List.mem_cons_of_mem _ (List.mem_cons_of_mem _ (List.mem_cons_of_mem _ (List.mem_cons_of_mem _ (hr)))))))))) rfl rfl rfl;go_wp2;exact sQ rfl
       ·have e10:=H.i 10;clear H;have hs1:=zh (HV2.out.call hbx);obtain⟨y0,y1,y2⟩:=hs1.out.k0 1 rfl rfl rfl rfl;go_wp2;exact sQ rfl
       ·have e55:=H.r 7 55;have e56:=H.r 8 56;clear H
        go_wp2_with fail
        refine(HOV.out _).mono ?_
        rintro e w8 ⟨rfl,hb8⟩;go_wp2;exact StepQ.mk _ hb8 rfl
       ·clear H;go_wp2;exact StepQ.mk _ (Ext.alloc (Below.refl _ _) _) ⟨_,rfl,hbx.size,Blk.new _ _ _⟩
       intro xx w8 hb9 hv
       obtain⟨g8,hv10,hlg10,hB10⟩:=hv 10 (by decide)
       simp only[List.take,List.drop,a0h,Act.put]
       simp only[vQ hv 0,vQ hv 1,vQ hv 2,vQ hv 3,vQ hv 4,vQ hv 5,vQ hv 6,vQ hv 7,vQ hv 8,vQ hv 9,hv10]
       clear hv hv10
       have HV8:=zh (HV2.out.fill hb9 hlg10 hB10)
       clear hlg10 hB10 hb9 HV2
       obtain⟨x21,x22,x23⟩:=HV8.out.k0 0 rfl rfl rfl rfl
       obtain⟨x24,x25,x26⟩:=HV8.out.f0 0 rfl
       have x27:=cN HV8 0 1
       have x28:=cN HV8 1 0
       have x29:=cN HV8 0 2
       have x30:=cN HV8 2 0
       have x31:=cN HV8 0 3
       have x32:=cN HV8 3 0
       have x33:=cN HV8 0 4
       have x34:=cN HV8 4 0
       have x35:=cN HV8 0 5
       have x36:=cN HV8 5 0
       have x37:=cN HV8 0 6
       have x38:=cN HV8 6 0
       have x39:=cN HV8 0 7
       have x40:=cN HV8 7 0
       have x41:=HV8.out.lt 0 rfl
       have x42:¬g8=w8.heap.size:=by omega
       have x43:¬w8.heap.size=g8:=by omega
       go_wp2
       clear x21 x22 x23 x24 x25 x26 x27 x28 x29 x30 x31 x32 x33 x34 x35 x36 x37 x38 x39 x40 x41 x42 x43
       refine a4m (R:=(_::⟨g8,#[.bool (negB (sh)),.string (bs (numB (sh))),.string (bs (a0a (sh)))],39⟩::_::_::_::⟨W.heap.size,#[.bool (negB (m1)),.string (bs (numB (m1))),.string (bs (a0a (m1)))],39⟩::_::_::_::R)) (St.alloc ((St.set ((St.set ((St.set (HV8.out) 0 rfl 0 _)) 0 rfl 1 _)) 0 rfl 2 _)) #[.bool false,.string (bs []),.string (bs [])] 39 (w8.heap.size) (by simp)) ?_
       intro wg9 hb
       have HV9:=zh hb
       clear hb HV8
       refine a0e 13 [.pointer (some ⟨g,0,none⟩),.slice (some ⟨bL,oL,none⟩) L.length c1,.int .i64 (t:Nat),.pointer (some ⟨bL,oL+t,none⟩),.slice (some ⟨b2,o2,none⟩) P.length c2,.int .i64 (k:Nat),.pointer (some ⟨b2,o2+k*4,none⟩),.pointer (some ⟨b2,o2+k*4,none⟩),.int .i64 (p.c:Nat),.agg #[.bool (negB (sh)),.string (bs (numB (sh))),.string (bs (a0a (sh)))],.agg #[.bool (negB (kq)),.string (bs (numB (kq))),.string (bs (a0a (kq)))],.agg #[.bool (negB (gv)),.string (bs (numB (gv))),.string (bs (a0a (gv)))],.agg #[.bool false,.string (bs []),.string (bs [])]] rfl (by kernel_rfl) (by kernel_rfl) (by kernel_rfl) ?_ ?_
       refine⟨?_,?_,?_,?_,?_,?_,?_,?_,?_,?_,?_,?_,?_,trivial⟩<;>(intro xx af wv hbx hev hev0 hd;have H:=SH.mk hev hev0 hd;clear hev hev0 hd)
       ·have e0:=H.i 0;clear H;go_wp2;exact sQ rfl
       ·have e1:=H.i 1;clear H;go_wp2;exact sQ rfl
       ·have e9:=H.i 9;clear H;go_wp2;exact sQ rfl
       ·have e64:=H.r 1 64;have e65:=H.r 2 65;clear H;go_wp2;exact sQ rfl
       ·have e66:=H.r 3 66;clear H;have hs1:=zh (HV9.out.call hbx);have y0:=HXT.out _ (hs1.out.rds (fun r hr=>List.mem_cons_of_mem _ (List.mem_cons_of_mem _ (List.mem_cons_of_mem _ (List.mem_cons_of_mem _ (List.mem_cons_of_mem _ (List.mem_cons_of_mem _ (List.mem_cons_of_mem _ (List.mem_cons_of_mem _ (List.mem_cons_of_mem _ (hr))))))))))) 0 _ rfl;rw[Nat.add_zero]at y0;go_wp2;exact sQ rfl
       ·have e13:=H.i 13;clear H;go_wp2;exact sQ rfl
       ·have e67:=H.r 4 67;have e68:=H.r 5 68;clear H;go_wp2;exact sQ rfl
       ·have e69:=H.r 6 69;clear H;go_wp2;exact sQ rfl
       ·have e70:=H.r 7 70;clear H;have hs1:=zh (HV9.out.call hbx);have y0:=HXP.out _ (hs1.out.rds (fun r hr=>List.mem_cons_of_mem _ (List.mem_cons_of_mem _ (List.mem_cons_of_mem _ (List.mem_cons_of_mem _ (List.mem_cons_of_mem _ (List.mem_cons_of_mem _ (List.mem_cons_of_mem _ (List.mem_cons_of_mem _ (List.mem_cons_of_mem _ (hr))))))))))) 0 _ rfl;rw[Nat.add_zero]at y0;go_wp2;exact sQ rfl
       ·have e14:=H.i 14;clear H;have hs1:=zh (HV9.out.call hbx);obtain⟨y0,y1,y2⟩:=hs1.out.k0 1 rfl rfl rfl rfl;go_wp2;exact sQ rfl
       ·have e11:=H.i 11;clear H;have hs1:=zh (HV9.out.call hbx);obtain⟨y0,y1,y2⟩:=hs1.out.k0 2 rfl rfl rfl rfl;go_wp2;exact sQ rfl
       ·have e72:=H.r 9 72;have e73:=H.r 10 73;clear H
        go_wp2_with fail
        refine(HTM.out _).mono ?_
        rintro e w8 ⟨rfl,hb8⟩;go_wp2;exact StepQ.mk _ hb8 rfl
       ·have e15:=H.i 15;clear H;have hs1:=zh (HV9.out.call hbx);obtain⟨y0,y1,y2⟩:=hs1.out.k0 0 rfl rfl rfl rfl;go_wp2;exact sQ rfl
       intro xx w11 hb9 hv
       simp only[List.take,List.drop,a0h,Act.put]
       simp only[vQ hv 0,vQ hv 1,vQ hv 2,vQ hv 3,vQ hv 4,vQ hv 5,vQ hv 6,vQ hv 7,vQ hv 8,vQ hv 9,vQ hv 10,vQ hv 11,vQ hv 12]
       clear hv
       have HV11:=zh (HV9.out.call hb9)
       clear hb9 HV9
       go_wp2_with fail
       refine(HSQ.out [⟨w8.heap.size,#[.bool false,.string (bs []),.string (bs [])],39⟩,⟨g8,#[.bool (negB (sh)),.string (bs (numB (sh))),.string (bs (a0a (sh)))],39⟩,⟨w5.heap.size,#[.bool (negB (kq)),.string (bs (numB (kq))),.string (bs (a0a (kq)))],39⟩,⟨w3.heap.size,#[.bool (negB (tq)),.string (bs (numB (tq))),.string (bs (a0a (tq)))],39⟩,⟨W.heap.size+1,#[.bool (negB (rt)),.string (bs (numB (rt))),.string (bs (a0a (rt)))],39⟩,⟨W.heap.size,#[.bool (negB (m1)),.string (bs (numB (m1))),.string (bs (a0a (m1)))],39⟩] _ (a6j [⟨w8.heap.size,#[.bool false,.string (bs []),.string (bs [])],39⟩,⟨g8,#[.bool (negB (sh)),.string (bs (numB (sh))),.string (bs (a0a (sh)))],39⟩,⟨w5.heap.size,#[.bool (negB (kq)),.string (bs (numB (kq))),.string (bs (a0a (kq)))],39⟩,⟨w3.heap.size,#[.bool (negB (tq)),.string (bs (numB (tq))),.string (bs (a0a (tq)))],39⟩,⟨W.heap.size+1,#[.bool (negB (rt)),.string (bs (numB (rt))),.string (bs (a0a (rt)))],39⟩,⟨W.heap.size,#[.bool (negB (m1)),.string (bs (numB (m1))),.string (bs (a0a (m1)))],39⟩] HV11.out)).mono ?_
       rintro e w12 ⟨rfl,hq12⟩
       have hst12:=a8k [⟨w8.heap.size,#[.bool false,.string (bs []),.string (bs [])],39⟩,⟨g8,#[.bool (negB (sh)),.string (bs (numB (sh))),.string (bs (a0a (sh)))],39⟩,⟨w5.heap.size,#[.bool (negB (kq)),.string (bs (numB (kq))),.string (bs (a0a (kq)))],39⟩,⟨w3.heap.size,#[.bool (negB (tq)),.string (bs (numB (tq))),.string (bs (a0a (tq)))],39⟩,⟨W.heap.size+1,#[.bool (negB (rt)),.string (bs (numB (rt))),.string (bs (a0a (rt)))],39⟩,⟨W.heap.size,#[.bool (negB (m1)),.string (bs (numB (m1))),.string (bs (a0a (m1)))],39⟩] hq12
       clear hq12
       have HV12:Hid (St w0 (⟨w8.heap.size,#[.bool false,.string (bs []),.string (bs [])],39⟩::⟨g8,#[.bool (negB (sh)),.string (bs (numB (sh))),.string (bs (a0a (sh)))],39⟩::⟨w5.heap.size,#[.bool (negB (kq)),.string (bs (numB (kq))),.string (bs (a0a (kq)))],39⟩::⟨w3.heap.size,#[.bool (negB (tq)),.string (bs (numB (tq))),.string (bs (a0a (tq)))],39⟩::⟨W.heap.size+1,#[.bool (negB (rt)),.string (bs (numB (rt))),.string (bs (a0a (rt)))],39⟩::⟨W.heap.size,#[.bool (negB (m1)),.string (bs (numB (m1))),.string (bs (a0a (m1)))],39⟩::⟨g,#[.slice (some ⟨gg,0,none⟩) n n,.slice (some ⟨gs,0,none⟩) n n,.bool false,.string (bs []),.string (bs []),.bool false,.string (bs []),.string (bs []),.bool (negB (ρ1)),.string (bs (numB (ρ1))),.string (bs (a0a (ρ1))),.bool b1],87⟩::⟨gg,(rowA (((a2k D2 p.c gv).map encT))),39⟩::⟨gs,(rowA (((a2k E2 p.c 0).map encT))),39⟩::R) w12):=zh hst12
       clear hst12 HV11
       go_wp2
       go_roundw
       case rel=>exact⟨k+1,_,_,by omega,by go_num,by show _=_;rw[HSD.out,<-HD2.out],HZQ.out,HV12.out.sub (List.Sublist.cons _ (List.Sublist.cons _ (List.Sublist.refl _)))⟩
       case measure=>simp[intOf];omega
      have x20:=HXT.out _ (HV2.out.rds (fun r hr=>List.mem_cons_of_mem _ (List.mem_cons_of_mem _ (List.mem_cons_of_mem _ (List.mem_cons_of_mem _ (List.mem_cons_of_mem _ (List.mem_cons_of_mem _ (List.mem_cons_of_mem _ (hr))))))))) 0 _ rfl
      rw[Nat.add_zero]at x20
      go_wp2
      clear x20
      refine a0d 11 [eQ (.slice (some ⟨bL,oL,none⟩) L.length c1),eQ (.int .i64 (t:Nat)),eQ (.pointer (some ⟨bL,oL+t,none⟩)),eQ (.slice (some ⟨b2,o2,none⟩) P.length c2),eQ (.int .i64 (k:Nat)),eQ (.pointer (some ⟨b2,o2+k*4,none⟩)),eQ (.pointer (some ⟨b2,o2+k*4+1,none⟩)),eQ (.agg #[.bool (negB (p.q)),.string (bs (numB (p.q))),.string (bs (a0a (p.q)))]),eQ (.agg #[.bool (negB (tq)),.string (bs (numB (tq))),.string (bs (a0a (tq)))]),eQ (.agg #[.bool (negB (sh)),.string (bs (numB (sh))),.string (bs (a0a (sh)))]),fun ww vv=>∃g,vv=.pointer (some ⟨g,0,none⟩)/\wr.heap.size<=g/\Blk ww g #[.bool false,.string (bs []),.string (bs [])] 39] rfl (by kernel_rfl) (by kernel_rfl) (by kernel_rfl) ⟨stE,stE,stE,stE,stE,stE,stE,stE,stE,stE,fun _ _ _ ⟨g,e,hg,h⟩ hb=>⟨g,e,hg,h.below hb h.lt⟩,trivial⟩ ?_ ?_
      refine⟨?_,?_,?_,?_,?_,?_,?_,?_,?_,?_,?_,trivial⟩<;>(intro xx af wv hbx hev hev0 hd;have H:=SH.mk hev hev0 hd;clear hev hev0 hd)
      ·have e1:=H.i 1;clear H;go_wp2;exact sQ rfl
      ·have e9:=H.i 9;clear H;go_wp2;exact sQ rfl
      ·have e48:=H.r 0 48;have e49:=H.r 1 49;clear H;go_wp2;exact sQ rfl
      ·have e50:=H.r 2 50;clear H;have hs1:=zh (HV2.out.call hbx);have y0:=HXT.out _ (hs1.out.rds (fun r hr=>List.mem_cons_of_mem _ (List.mem_cons_of_mem _ (List.mem_cons_of_mem _ (List.mem_cons_of_mem _ (List.mem_cons_of_mem _ (List.mem_cons_of_mem _ (List.mem_cons_of_mem _ (hr))))))))) 0 _ rfl;rw[Nat.add_zero]at y0;go_wp2;exact sQ rfl
      ·have e13:=H.i 13;clear H;go_wp2;exact sQ rfl
      ·have e51:=H.r 3 51;have e52:=H.r 4 52;clear H;go_wp2;exact sQ rfl
      ·have e53:=H.r 5 53;clear H;go_wp2;exact sQ rfl
      ·have e54:=H.r 6 54;clear H;have hs1:=zh (HV2.out.call hbx);obtain⟨y0,y1,y2⟩:=kE1 (HXP.out _ (hs1.out.rds (fun r hr=>List.mem_cons_of_mem _ (List.mem_cons_of_mem _ (List.mem_cons_of_mem _ (List.mem_cons_of_mem _ (List.mem_cons_of_mem _ (List.mem_cons_of_mem _ (List.mem_cons_of_mem _ (hr)))))))))) rfl rfl rfl;go_wp2;exact sQ rfl
      ·have e10:=H.i 10;clear H;have hs1:=zh (HV2.out.call hbx);obtain⟨y0,y1,y2⟩:=hs1.out.k0 1 rfl rfl rfl rfl;go_wp2;exact sQ rfl
      ·have e55:=H.r 7 55;have e56:=H.r 8 56;clear H
       go_wp2_with fail
       refine(HOV.out _).mono ?_
       rintro e w8 ⟨rfl,hb8⟩;go_wp2;exact StepQ.mk _ hb8 rfl
      ·clear H;go_wp2;exact StepQ.mk _ (Ext.alloc (Below.refl _ _) _) ⟨_,rfl,hbx.size,Blk.new _ _ _⟩
      intro xx w8 hb9 hv
      obtain⟨g8,hv10,hlg10,hB10⟩:=hv 10 (by decide)
      simp only[List.take,List.drop,a0h,Act.put]
      simp only[vQ hv 0,vQ hv 1,vQ hv 2,vQ hv 3,vQ hv 4,vQ hv 5,vQ hv 6,vQ hv 7,vQ hv 8,vQ hv 9,hv10]
      clear hv hv10
      have HV8:=zh (HV2.out.fill hb9 hlg10 hB10)
      clear hlg10 hB10 hb9 HV2
      obtain⟨x21,x22,x23⟩:=HV8.out.k0 0 rfl rfl rfl rfl
      obtain⟨x24,x25,x26⟩:=HV8.out.k0 3 rfl rfl rfl rfl
      obtain⟨x27,x28,x29⟩:=HV8.out.f0 0 rfl
      have x30:=cN HV8 0 1
      have x31:=cN HV8 1 0
      have x32:=cN HV8 0 2
      have x33:=cN HV8 2 0
      have x34:=cN HV8 0 3
      have x35:=cN HV8 3 0
      have x36:=cN HV8 0 4
      have x37:=cN HV8 4 0
      have x38:=cN HV8 0 5
      have x39:=cN HV8 5 0
      have x40:=cN HV8 0 6
      have x41:=cN HV8 6 0
      have x42:=cN HV8 0 7
      have x43:=cN HV8 7 0
      have x44:=HV8.out.lt 0 rfl
      have x45:¬g8=w8.heap.size:=by omega
      have x46:¬w8.heap.size=g8:=by omega
      have x47:=HV8.out.lt 3 rfl
      have x48:¬W.heap.size+1=w8.heap.size:=by omega
      have x49:¬w8.heap.size=W.heap.size+1:=by omega
      go_wp2_with fail
      have HV9:Hid (St w0 (⟨w8.heap.size,#[.bool false,.string (bs []),.string (bs [])],39⟩::⟨g8,#[.bool (negB (sh)),.string (bs (numB (sh))),.string (bs (a0a (sh)))],39⟩::⟨w5.heap.size,#[.bool (negB (kq)),.string (bs (numB (kq))),.string (bs (a0a (kq)))],39⟩::⟨w3.heap.size,#[.bool (negB (tq)),.string (bs (numB (tq))),.string (bs (a0a (tq)))],39⟩::⟨W.heap.size+1,#[.bool (negB (rt)),.string (bs (numB (rt))),.string (bs (a0a (rt)))],39⟩::⟨W.heap.size,#[.bool (negB (m1)),.string (bs (numB (m1))),.string (bs (a0a (m1)))],39⟩::⟨g,#[.slice (some ⟨gg,0,none⟩) n n,.slice (some ⟨gs,0,none⟩) n n,.bool false,.string (bs []),.string (bs []),.bool false,.string (bs []),.string (bs []),.bool (negB (ρ1)),.string (bs (numB (ρ1))),.string (bs (a0a (ρ1))),.bool b1],87⟩::⟨gg,(rowA ((D2.map encT))),39⟩::⟨gs,(rowA ((E2.map encT))),39⟩::R) _):=zh (St.alloc ((St.set ((St.set ((St.set (HV8.out) 0 rfl 0 _)) 0 rfl 1 _)) 0 rfl 2 _)) #[.bool false,.string (bs []),.string (bs [])] 39 (w8.heap.size) (by simp))
      refine(HTR.out _).mono ?_
      rintro e w10 ⟨rfl,hb10⟩
      have HV10:=zh (HV9.out.call hb10)
      clear hb10 HV8 HV9 x21 x22 x23 x24 x25 x26 x27 x28 x29 x30 x31 x32 x33 x34 x35 x36 x37 x38 x39 x40 x41 x42 x43 x44 x45 x46 x47 x48 x49
      obtain⟨x50,x51,x52⟩:=HV10.out.k0 0 rfl rfl rfl rfl
      obtain⟨x53,x54,x55⟩:=HV10.out.f0 0 rfl
      have x56:=cN HV10 0 1
      have x57:=cN HV10 1 0
      have x58:=cN HV10 0 2
      have x59:=cN HV10 2 0
      have x60:=cN HV10 0 3
      have x61:=cN HV10 3 0
      have x62:=cN HV10 0 4
      have x63:=cN HV10 4 0
      have x64:=cN HV10 0 5
      have x65:=cN HV10 5 0
      have x66:=cN HV10 0 6
      have x67:=cN HV10 6 0
      have x68:=cN HV10 0 7
      have x69:=cN HV10 7 0
      have x70:=cN HV10 0 8
      have x71:=cN HV10 8 0
      go_wp2
      clear x50 x51 x52 x53 x54 x55 x56 x57 x58 x59 x60 x61 x62 x63 x64 x65 x66 x67 x68 x69 x70 x71
      refine a4m (R:=(⟨w8.heap.size,#[.bool (negB (sl)),.string (bs (numB (sl))),.string (bs (a0a (sl)))],39⟩::_::_::_::_::_::_::_::_::R)) (St.set ((St.set ((St.set (HV10.out) 0 rfl 0 _)) 0 rfl 1 _)) 0 rfl 2 _) ?_
      intro wg11 hb
      have HV11:=zh hb
      clear hb HV10
      refine a0e 13 [.pointer (some ⟨g,0,none⟩),.slice (some ⟨bL,oL,none⟩) L.length c1,.int .i64 (t:Nat),.pointer (some ⟨bL,oL+t,none⟩),.slice (some ⟨b2,o2,none⟩) P.length c2,.int .i64 (k:Nat),.pointer (some ⟨b2,o2+k*4,none⟩),.pointer (some ⟨b2,o2+k*4,none⟩),.int .i64 (p.c:Nat),.agg #[.bool (negB (sh)),.string (bs (numB (sh))),.string (bs (a0a (sh)))],.agg #[.bool (negB (kq)),.string (bs (numB (kq))),.string (bs (a0a (kq)))],.agg #[.bool (negB (gv)),.string (bs (numB (gv))),.string (bs (a0a (gv)))],.agg #[.bool (negB (sl)),.string (bs (numB (sl))),.string (bs (a0a (sl)))]] rfl (by kernel_rfl) (by kernel_rfl) (by kernel_rfl) ?_ ?_
      refine⟨?_,?_,?_,?_,?_,?_,?_,?_,?_,?_,?_,?_,?_,trivial⟩<;>(intro xx af wv hbx hev hev0 hd;have H:=SH.mk hev hev0 hd;clear hev hev0 hd)
      ·have e0:=H.i 0;clear H;go_wp2;exact sQ rfl
      ·have e1:=H.i 1;clear H;go_wp2;exact sQ rfl
      ·have e9:=H.i 9;clear H;go_wp2;exact sQ rfl
      ·have e64:=H.r 1 64;have e65:=H.r 2 65;clear H;go_wp2;exact sQ rfl
      ·have e66:=H.r 3 66;clear H;have hs1:=zh (HV11.out.call hbx);have y0:=HXT.out _ (hs1.out.rds (fun r hr=>List.mem_cons_of_mem _ (List.mem_cons_of_mem _ (List.mem_cons_of_mem _ (List.mem_cons_of_mem _ (List.mem_cons_of_mem _ (List.mem_cons_of_mem _ (List.mem_cons_of_mem _ (List.mem_cons_of_mem _ (List.mem_cons_of_mem _ (hr))))))))))) 0 _ rfl;rw[Nat.add_zero]at y0;go_wp2;exact sQ rfl
      ·have e13:=H.i 13;clear H;go_wp2;exact sQ rfl
      ·have e67:=H.r 4 67;have e68:=H.r 5 68;clear H;go_wp2;exact sQ rfl
      ·have e69:=H.r 6 69;clear H;go_wp2;exact sQ rfl
      ·have e70:=H.r 7 70;clear H;have hs1:=zh (HV11.out.call hbx);have y0:=HXP.out _ (hs1.out.rds (fun r hr=>List.mem_cons_of_mem _ (List.mem_cons_of_mem _ (List.mem_cons_of_mem _ (List.mem_cons_of_mem _ (List.mem_cons_of_mem _ (List.mem_cons_of_mem _ (List.mem_cons_of_mem _ (List.mem_cons_of_mem _ (List.mem_cons_of_mem _ (hr))))))))))) 0 _ rfl;rw[Nat.add_zero]at y0;go_wp2;exact sQ rfl
      ·have e14:=H.i 14;clear H;have hs1:=zh (HV11.out.call hbx);obtain⟨y0,y1,y2⟩:=hs1.out.k0 1 rfl rfl rfl rfl;go_wp2;exact sQ rfl
      ·have e11:=H.i 11;clear H;have hs1:=zh (HV11.out.call hbx);obtain⟨y0,y1,y2⟩:=hs1.out.k0 2 rfl rfl rfl rfl;go_wp2;exact sQ rfl
      ·have e72:=H.r 9 72;have e73:=H.r 10 73;clear H
       go_wp2_with fail
       refine(HTM.out _).mono ?_
       rintro e w8 ⟨rfl,hb8⟩;go_wp2;exact StepQ.mk _ hb8 rfl
      ·have e15:=H.i 15;clear H;have hs1:=zh (HV11.out.call hbx);obtain⟨y0,y1,y2⟩:=hs1.out.k0 0 rfl rfl rfl rfl;go_wp2;exact sQ rfl
      intro xx w12 hb9 hv
      simp only[List.take,List.drop,a0h,Act.put]
      simp only[vQ hv 0,vQ hv 1,vQ hv 2,vQ hv 3,vQ hv 4,vQ hv 5,vQ hv 6,vQ hv 7,vQ hv 8,vQ hv 9,vQ hv 10,vQ hv 11,vQ hv 12]
      clear hv
      have HV12:=zh (HV11.out.call hb9)
      clear hb9 HV11
      go_wp2_with fail
      refine(HSP.out [⟨w8.heap.size,#[.bool (negB (sl)),.string (bs (numB (sl))),.string (bs (a0a (sl)))],39⟩,⟨g8,#[.bool (negB (sh)),.string (bs (numB (sh))),.string (bs (a0a (sh)))],39⟩,⟨w5.heap.size,#[.bool (negB (kq)),.string (bs (numB (kq))),.string (bs (a0a (kq)))],39⟩,⟨w3.heap.size,#[.bool (negB (tq)),.string (bs (numB (tq))),.string (bs (a0a (tq)))],39⟩,⟨W.heap.size+1,#[.bool (negB (rt)),.string (bs (numB (rt))),.string (bs (a0a (rt)))],39⟩,⟨W.heap.size,#[.bool (negB (m1)),.string (bs (numB (m1))),.string (bs (a0a (m1)))],39⟩] _ (a6j [⟨w8.heap.size,#[.bool (negB (sl)),.string (bs (numB (sl))),.string (bs (a0a (sl)))],39⟩,⟨g8,#[.bool (negB (sh)),.string (bs (numB (sh))),.string (bs (a0a (sh)))],39⟩,⟨w5.heap.size,#[.bool (negB (kq)),.string (bs (numB (kq))),.string (bs (a0a (kq)))],39⟩,⟨w3.heap.size,#[.bool (negB (tq)),.string (bs (numB (tq))),.string (bs (a0a (tq)))],39⟩,⟨W.heap.size+1,#[.bool (negB (rt)),.string (bs (numB (rt))),.string (bs (a0a (rt)))],39⟩,⟨W.heap.size,#[.bool (negB (m1)),.string (bs (numB (m1))),.string (bs (a0a (m1)))],39⟩] HV12.out)).mono ?_
      rintro e w13 ⟨rfl,hq13⟩
      have hst13:=a8k [⟨w8.heap.size,#[.bool (negB (sl)),.string (bs (numB (sl))),.string (bs (a0a (sl)))],39⟩,⟨g8,#[.bool (negB (sh)),.string (bs (numB (sh))),.string (bs (a0a (sh)))],39⟩,⟨w5.heap.size,#[.bool (negB (kq)),.string (bs (numB (kq))),.string (bs (a0a (kq)))],39⟩,⟨w3.heap.size,#[.bool (negB (tq)),.string (bs (numB (tq))),.string (bs (a0a (tq)))],39⟩,⟨W.heap.size+1,#[.bool (negB (rt)),.string (bs (numB (rt))),.string (bs (a0a (rt)))],39⟩,⟨W.heap.size,#[.bool (negB (m1)),.string (bs (numB (m1))),.string (bs (a0a (m1)))],39⟩] hq13
      clear hq13
      have HV13:Hid (St w0 (⟨w8.heap.size,#[.bool (negB (sl)),.string (bs (numB (sl))),.string (bs (a0a (sl)))],39⟩::⟨g8,#[.bool (negB (sh)),.string (bs (numB (sh))),.string (bs (a0a (sh)))],39⟩::⟨w5.heap.size,#[.bool (negB (kq)),.string (bs (numB (kq))),.string (bs (a0a (kq)))],39⟩::⟨w3.heap.size,#[.bool (negB (tq)),.string (bs (numB (tq))),.string (bs (a0a (tq)))],39⟩::⟨W.heap.size+1,#[.bool (negB (rt)),.string (bs (numB (rt))),.string (bs (a0a (rt)))],39⟩::⟨W.heap.size,#[.bool (negB (m1)),.string (bs (numB (m1))),.string (bs (a0a (m1)))],39⟩::⟨g,#[.slice (some ⟨gg,0,none⟩) n n,.slice (some ⟨gs,0,none⟩) n n,.bool false,.string (bs []),.string (bs []),.bool false,.string (bs []),.string (bs []),.bool (negB (ρ1)),.string (bs (numB (ρ1))),.string (bs (a0a (ρ1))),.bool b1],87⟩::⟨gg,(rowA (((a2k D2 p.c gv).map encT))),39⟩::⟨gs,(rowA (((a2k E2 p.c sl).map encT))),39⟩::R) w13):=zh hst13
      clear hst13 HV12
      go_wp2
      go_roundw
      case rel=>exact⟨k+1,_,_,by omega,by go_num,by show _=_;rw[HSD.out,<-HD2.out],HZP.out,HV13.out.sub (List.Sublist.cons _ (List.Sublist.cons _ (List.Sublist.refl _)))⟩
      case measure=>simp[intOf];omega
     cases lb
     ·have hke:k=P.length:=by omega
      rw[hke]at HD2 HZ2 ⊢
      have j2:decide (((P.length:Nat):Int)<(P.length:Int))=false:=decide_eq_false (by omega)
      have HPN:Hid (a1u (L.drop (t+1)) mn D2=a1u L m D):=zh (by rw[HMNE.out];exact c0c (kq:=kq) (D2:=D2) HQ.out HPD.out (by rw[<- HTQ.out];exact HQ0.out) (by rw[<- HTQ.out];exact HKQ.out) (by rw[<- HTQ.out];exact HD2.out))
      clear hke hk hkn
      obtain⟨x20,x21,x22⟩:=HV2.out.k0 3 rfl rfl rfl rfl
      obtain⟨x23,x24,x25⟩:=HV2.out.k0 0 rfl rfl rfl rfl
      have x26:=HXT.out _ (HV2.out.rds (fun r hr=>List.mem_cons_of_mem _ (List.mem_cons_of_mem _ (List.mem_cons_of_mem _ (List.mem_cons_of_mem _ (List.mem_cons_of_mem _ (List.mem_cons_of_mem _ (List.mem_cons_of_mem _ (hr))))))))) 0 _ rfl
      rw[Nat.add_zero]at x26
      go_wp2_with fail
      refine(HMI.out _).mono ?_
      rintro e w8 ⟨rfl,hb8⟩
      have HV8:=zh (HV2.out.call hb8)
      clear hb8 HV2 x20 x21 x22 x23 x24 x25 x26
      obtain⟨x27,x28,x29⟩:=HV8.out.k0 3 rfl rfl rfl rfl
      obtain⟨x30,x31,x32⟩:=HV8.out.f0 3 rfl
      have x33:=cN HV8 3 0
      have x34:=cN HV8 0 3
      have x35:=cN HV8 3 1
      have x36:=cN HV8 1 3
      have x37:=cN HV8 3 2
      have x38:=cN HV8 2 3
      have x39:=cN HV8 3 4
      have x40:=cN HV8 4 3
      have x41:=cN HV8 3 5
      have x42:=cN HV8 5 3
      have x43:=cN HV8 3 6
      have x44:=cN HV8 6 3
      go_wp2
      have HV9:Hid (St w0 (⟨w5.heap.size,#[.bool (negB (kq)),.string (bs (numB (kq))),.string (bs (a0a (kq)))],39⟩::⟨w3.heap.size,#[.bool (negB (tq)),.string (bs (numB (tq))),.string (bs (a0a (tq)))],39⟩::⟨W.heap.size+1,#[.bool (negB (rt)),.string (bs (numB (rt))),.string (bs (a0a (rt)))],39⟩::⟨W.heap.size,#[.bool (negB (mn)),.string (bs (numB (mn))),.string (bs (a0a (mn)))],39⟩::⟨g,#[.slice (some ⟨gg,0,none⟩) n n,.slice (some ⟨gs,0,none⟩) n n,.bool false,.string (bs []),.string (bs []),.bool false,.string (bs []),.string (bs []),.bool (negB (ρ1)),.string (bs (numB (ρ1))),.string (bs (a0a (ρ1))),.bool b1],87⟩::⟨gg,(rowA ((D2.map encT))),39⟩::⟨gs,(rowA ((E2.map encT))),39⟩::R) _):=zh (St.set ((St.set ((St.set (HV8.out) 3 rfl 0 _)) 3 rfl 1 _)) 3 rfl 2 _)
      go_roundw
      case rel=>exact⟨t+1,true,mn,ρ1,b1,D2,E2,by omega,rfl,by go_num,HPN.out,HMN.out,HZ2.out.mono (by have:=LP.out;omega),HV9.out.sub (List.Sublist.cons _ (List.Sublist.cons _ (List.Sublist.refl _)))⟩
      case measure=>simp[intOf];omega
     cases rz
     ·have hr0:rt≠0:=of_decide_eq_false HRZ.out.symm
      obtain⟨df,hdf⟩:∃q,q=tq-kq:=⟨_,rfl⟩
      have hmf:=fun W=>a8p tq kq W HTB.out (HKS.out.mono (by have:=HF.out;omega))
      have hdz:Sized (T0+(Mx+T0)+1) df:=by rw[hdf,Rat.sub_eq_add_neg];exact HTS.out.add HKS.out.neg
      rw[<- hdf]at hmf
      obtain⟨dk,hdk⟩:∃q,q=df/rt:=⟨_,rfl⟩
      have hok:=fun W=>b9r df rt W (hdz.mono (by have:=HF.out;omega)) (HRT.out.mono (by have:=HF.out;omega)) hr0
      have hks:Sized 17179869184 dk:=by rw[hdk];exact(hdz.div HRT.out).mono (by have:=HF.out;omega)
      rw[<- hdk]at hok
      have HSK:=zh (fun(X:List Own) W (h:St w0 (sB g gg gs n ρ1 b1 D2 E2 (X++R)) W)=>b7u g gg gs n ρ1 b1 D2 E2 dk W h HZ2.out.rs hks)
      unfold rat raw at hmf hok
      have HDF:=zh hmf
      have HDK:=zh hok
      clear hr0 hdf hmf hdz hdk hok hks
      have hke:k=P.length:=by omega
      rw[hke]at HD2 HZ2 ⊢
      have j2:decide (((P.length:Nat):Int)<(P.length:Int))=false:=decide_eq_false (by omega)
      have HPN:Hid (a1u (L.drop (t+1)) mn D2=a1u L m D):=zh (by rw[HMNE.out];exact c0c (kq:=kq) (D2:=D2) HQ.out HPD.out (by rw[<- HTQ.out];exact HQ0.out) (by rw[<- HTQ.out];exact HKQ.out) (by rw[<- HTQ.out];exact HD2.out))
      clear hke hk hkn
      obtain⟨x20,x21,x22⟩:=HV2.out.k0 3 rfl rfl rfl rfl
      obtain⟨x23,x24,x25⟩:=HV2.out.k0 0 rfl rfl rfl rfl
      have x26:=HXT.out _ (HV2.out.rds (fun r hr=>List.mem_cons_of_mem _ (List.mem_cons_of_mem _ (List.mem_cons_of_mem _ (List.mem_cons_of_mem _ (List.mem_cons_of_mem _ (List.mem_cons_of_mem _ (List.mem_cons_of_mem _ (hr))))))))) 0 _ rfl
      rw[Nat.add_zero]at x26
      go_wp2_with fail
      refine(HMI.out _).mono ?_
      rintro e w8 ⟨rfl,hb8⟩
      have HV8:=zh (HV2.out.call hb8)
      clear hb8 HV2 x20 x21 x22 x23 x24 x25 x26
      obtain⟨x27,x28,x29⟩:=HV8.out.k0 3 rfl rfl rfl rfl
      have x30:=cC HV8 2 1
      obtain⟨x31,x32,x33⟩:=HV8.out.f0 3 rfl
      have x34:=cN HV8 3 0
      have x35:=cN HV8 0 3
      have x36:=cN HV8 3 1
      have x37:=cN HV8 1 3
      have x38:=cN HV8 3 2
      have x39:=cN HV8 2 3
      have x40:=cN HV8 3 4
      have x41:=cN HV8 4 3
      have x42:=cN HV8 3 5
      have x43:=cN HV8 5 3
      have x44:=cN HV8 3 6
      have x45:=cN HV8 6 3
      go_wp2
      clear x27 x28 x29 x30 x31 x32 x33 x34 x35 x36 x37 x38 x39 x40 x41 x42 x43 x44 x45
      refine a4m (R:=(_::_::_::_::_::_::_::R)) (St.set ((St.set ((St.set (HV8.out) 3 rfl 0 _)) 3 rfl 1 _)) 3 rfl 2 _) ?_
      intro wg9 hb
      have HV9:=zh hb
      clear hb HV8
      refine a0e 6 [.pointer (some ⟨g,0,none⟩),.agg #[.bool (negB (tq)),.string (bs (numB (tq))),.string (bs (a0a (tq)))],.agg #[.bool (negB (kq)),.string (bs (numB (kq))),.string (bs (a0a (kq)))],.agg #[.bool (negB (df)),.string (bs (numB (df))),.string (bs (a0a (df)))],.agg #[.bool (negB (rt)),.string (bs (numB (rt))),.string (bs (a0a (rt)))],.agg #[.bool (negB (dk)),.string (bs (numB (dk))),.string (bs (a0a (dk)))]] rfl (by kernel_rfl) (by kernel_rfl) (by kernel_rfl) ?_ ?_
      refine⟨?_,?_,?_,?_,?_,?_,trivial⟩<;>(intro xx af wv hbx hev hev0 hd;have H:=SH.mk hev hev0 hd;clear hev hev0 hd)
      ·have e0:=H.i 0;clear H;go_wp2;exact sQ rfl
      ·have e10:=H.i 10;clear H;have hs1:=zh (HV9.out.call hbx);obtain⟨y0,y1,y2⟩:=hs1.out.k0 1 rfl rfl rfl rfl;go_wp2;exact sQ rfl
      ·have e11:=H.i 11;clear H;have hs1:=zh (HV9.out.call hbx);obtain⟨y0,y1,y2⟩:=hs1.out.k0 0 rfl rfl rfl rfl;go_wp2;exact sQ rfl
      ·have e85:=H.r 1 85;have e86:=H.r 2 86;clear H
       go_wp2_with fail
       refine(HDF.out _).mono ?_
       rintro e w8 ⟨rfl,hb8⟩;go_wp2;exact StepQ.mk _ hb8 rfl
      ·have e7:=H.i 7;clear H;have hs1:=zh (HV9.out.call hbx);obtain⟨y0,y1,y2⟩:=hs1.out.k0 2 rfl rfl rfl rfl;go_wp2;exact sQ rfl
      ·have e87:=H.r 3 87;have e88:=H.r 4 88;clear H
       go_wp2_with fail
       refine(HDK.out _).mono ?_
       rintro e w8 ⟨rfl,hb8⟩;go_wp2;exact StepQ.mk _ hb8 rfl
      intro xx w10 hb9 hv
      simp only[List.take,List.drop,a0h,Act.put]
      simp only[vQ hv 0,vQ hv 1,vQ hv 2,vQ hv 3,vQ hv 4,vQ hv 5]
      clear hv
      have HV10:=zh (HV9.out.call hb9)
      clear hb9 HV9
      go_wp2_with fail
      refine(HSK.out [⟨w5.heap.size,#[.bool (negB (kq)),.string (bs (numB (kq))),.string (bs (a0a (kq)))],39⟩,⟨w3.heap.size,#[.bool (negB (tq)),.string (bs (numB (tq))),.string (bs (a0a (tq)))],39⟩,⟨W.heap.size+1,#[.bool (negB (rt)),.string (bs (numB (rt))),.string (bs (a0a (rt)))],39⟩,⟨W.heap.size,#[.bool (negB (mn)),.string (bs (numB (mn))),.string (bs (a0a (mn)))],39⟩] _ (a6j [⟨w5.heap.size,#[.bool (negB (kq)),.string (bs (numB (kq))),.string (bs (a0a (kq)))],39⟩,⟨w3.heap.size,#[.bool (negB (tq)),.string (bs (numB (tq))),.string (bs (a0a (tq)))],39⟩,⟨W.heap.size+1,#[.bool (negB (rt)),.string (bs (numB (rt))),.string (bs (a0a (rt)))],39⟩,⟨W.heap.size,#[.bool (negB (mn)),.string (bs (numB (mn))),.string (bs (a0a (mn)))],39⟩] HV10.out)).mono ?_
      rintro e w11 ⟨rfl,ρ2,b2,HR2,hq11⟩
      have hst11:=a8k [⟨w5.heap.size,#[.bool (negB (kq)),.string (bs (numB (kq))),.string (bs (a0a (kq)))],39⟩,⟨w3.heap.size,#[.bool (negB (tq)),.string (bs (numB (tq))),.string (bs (a0a (tq)))],39⟩,⟨W.heap.size+1,#[.bool (negB (rt)),.string (bs (numB (rt))),.string (bs (a0a (rt)))],39⟩,⟨W.heap.size,#[.bool (negB (mn)),.string (bs (numB (mn))),.string (bs (a0a (mn)))],39⟩] hq11
      have HR2:=zh HR2
      clear hq11
      have HV11:Hid (St w0 (⟨w5.heap.size,#[.bool (negB (kq)),.string (bs (numB (kq))),.string (bs (a0a (kq)))],39⟩::⟨w3.heap.size,#[.bool (negB (tq)),.string (bs (numB (tq))),.string (bs (a0a (tq)))],39⟩::⟨W.heap.size+1,#[.bool (negB (rt)),.string (bs (numB (rt))),.string (bs (a0a (rt)))],39⟩::⟨W.heap.size,#[.bool (negB (mn)),.string (bs (numB (mn))),.string (bs (a0a (mn)))],39⟩::⟨g,#[.slice (some ⟨gg,0,none⟩) n n,.slice (some ⟨gs,0,none⟩) n n,.bool false,.string (bs []),.string (bs []),.bool false,.string (bs []),.string (bs []),.bool (negB (ρ2)),.string (bs (numB (ρ2))),.string (bs (a0a (ρ2))),.bool b2],87⟩::⟨gg,(rowA ((D2.map encT))),39⟩::⟨gs,(rowA ((E2.map encT))),39⟩::R) w11):=zh hst11
      clear hst11 HV10
      go_wp2
      go_roundw
      case rel=>exact⟨t+1,false,mn,ρ2,b2,D2,E2,by omega,rfl,by go_num,HPN.out,HMN.out,⟨HZ2.out.dl,HZ2.out.el,(HZ2.out.mono (by have:=LP.out;omega)).ds,(HZ2.out.mono (by have:=LP.out;omega)).es,HR2.out⟩,HV11.out.sub (List.Sublist.cons _ (List.Sublist.cons _ (List.Sublist.refl _)))⟩
      case measure=>simp[intOf];omega
     have hke:k=P.length:=by omega
     rw[hke]at HD2 HZ2 ⊢
     have j2:decide (((P.length:Nat):Int)<(P.length:Int))=false:=decide_eq_false (by omega)
     have HPN:Hid (a1u (L.drop (t+1)) mn D2=a1u L m D):=zh (by rw[HMNE.out];exact c0c (kq:=kq) (D2:=D2) HQ.out HPD.out (by rw[<- HTQ.out];exact HQ0.out) (by rw[<- HTQ.out];exact HKQ.out) (by rw[<- HTQ.out];exact HD2.out))
     clear hke hk hkn
     obtain⟨x20,x21,x22⟩:=HV2.out.k0 3 rfl rfl rfl rfl
     obtain⟨x23,x24,x25⟩:=HV2.out.k0 0 rfl rfl rfl rfl
     have x26:=HXT.out _ (HV2.out.rds (fun r hr=>List.mem_cons_of_mem _ (List.mem_cons_of_mem _ (List.mem_cons_of_mem _ (List.mem_cons_of_mem _ (List.mem_cons_of_mem _ (List.mem_cons_of_mem _ (List.mem_cons_of_mem _ (hr))))))))) 0 _ rfl
     rw[Nat.add_zero]at x26
     go_wp2_with fail
     refine(HMI.out _).mono ?_
     rintro e w8 ⟨rfl,hb8⟩
     have HV8:=zh (HV2.out.call hb8)
     clear hb8 HV2 x20 x21 x22 x23 x24 x25 x26
     obtain⟨x27,x28,x29⟩:=HV8.out.k0 3 rfl rfl rfl rfl
     have x30:=cC HV8 2 1
     obtain⟨x31,x32,x33⟩:=HV8.out.f0 3 rfl
     have x34:=cN HV8 3 0
     have x35:=cN HV8 0 3
     have x36:=cN HV8 3 1
     have x37:=cN HV8 1 3
     have x38:=cN HV8 3 2
     have x39:=cN HV8 2 3
     have x40:=cN HV8 3 4
     have x41:=cN HV8 4 3
     have x42:=cN HV8 3 5
     have x43:=cN HV8 5 3
     have x44:=cN HV8 3 6
     have x45:=cN HV8 6 3
     go_wp2
     have HV9:Hid (St w0 (⟨w5.heap.size,#[.bool (negB (kq)),.string (bs (numB (kq))),.string (bs (a0a (kq)))],39⟩::⟨w3.heap.size,#[.bool (negB (tq)),.string (bs (numB (tq))),.string (bs (a0a (tq)))],39⟩::⟨W.heap.size+1,#[.bool (negB (rt)),.string (bs (numB (rt))),.string (bs (a0a (rt)))],39⟩::⟨W.heap.size,#[.bool (negB (mn)),.string (bs (numB (mn))),.string (bs (a0a (mn)))],39⟩::⟨g,#[.slice (some ⟨gg,0,none⟩) n n,.slice (some ⟨gs,0,none⟩) n n,.bool false,.string (bs []),.string (bs []),.bool false,.string (bs []),.string (bs []),.bool (negB (ρ1)),.string (bs (numB (ρ1))),.string (bs (a0a (ρ1))),.bool b1],87⟩::⟨gg,(rowA ((D2.map encT))),39⟩::⟨gs,(rowA ((E2.map encT))),39⟩::R) _):=zh (St.set ((St.set ((St.set (HV8.out) 3 rfl 0 _)) 3 rfl 1 _)) 3 rfl 2 _)
     go_roundw
     case rel=>exact⟨t+1,false,mn,ρ1,b1,D2,E2,by omega,rfl,by go_num,HPN.out,HMN.out,HZ2.out.mono (by have:=LP.out;omega),HV9.out.sub (List.Sublist.cons _ (List.Sublist.cons _ (List.Sublist.refl _)))⟩
     case measure=>simp[intOf];omega
   have x1:=HXT.out _ (HS.out.rds (fun r hr=>List.mem_cons_of_mem _ (List.mem_cons_of_mem _ (List.mem_cons_of_mem _ (List.mem_cons_of_mem _ (List.mem_cons_of_mem _ (hr))))))) 0 _ rfl
   rw[Nat.add_zero]at x1
   go_wp2_with fail
   refine cL (HSM.out _ (HS.out.rds (fun r hr=>List.mem_cons_of_mem _ (List.mem_cons_of_mem _ (List.mem_cons_of_mem _ (List.mem_cons_of_mem _ (List.mem_cons_of_mem _ (hr)))))))) HS fun w3 HS3=>?_
   clear HS x1
   go_wp2
   have HS4:=aL HS3 #[.bool (negB (tq)),.string (bs (numB (tq))),.string (bs (a0a (tq)))] 39 w3.heap.size
   go_roundw
   case rel=>exact⟨t+1,mar,m1,ρ1,b1,D1,E1,by omega,rfl,by go_num,d0m HQ.out HPD.out (by rw[<- HTQ.out];exact of_decide_eq_true HZ.out.symm),HMZ.out.mono (by rw[Nat.succ_mul];omega),HPZ.out.mono (by omega),HS4.out.sub (List.sublist_cons_self ..)⟩
   case measure=>simp[intOf];omega
  have hte:t=L.length:=by omega
  rw[hte]at HPD HPZ
  have e2:decide (((L.length:Nat):Int)<(L.length:Int))=false:=decide_eq_false (by omega)
  clear htn
  rw[hte]
  clear hte ht
  go_wp2
  refine bodyPost_end (results_none rfl _ _ _) rfl ?_
  have hD:D1=a1u L m D:=by have:=HPD.out;rwa[List.drop_length]at this
  rw[<- hD]
  exact⟨rfl,ρ1,b1,E1,HPZ.out.mono (by have:=LN.out;omega),HS.out.sub (List.Sublist.cons _ (List.sublist_cons_self ..))⟩
end Go.Proofs.YtjmiicjialkpiaaGreatDoor
