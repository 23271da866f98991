/-
Part 9 of the base.
-/
import Derived.Test.YtjmiicjialkpiaaGreatDoorRf3
import Derived.Deep.RegionWith
set_option maxRecDepth 100000
set_option maxHeartbeats 4000000
namespace Go.Proofs.YtjmiicjialkpiaaGreatDoor
open Go.RowKit
theorem c9s{t s s':Nat}(h:t*2^s<4294967296)(hlt:s'<s):t*2^s'<2147483648:=by
 have e:2^s=2^(s-s'-1)*(2*2^s'):=by
  rw[<- Nat.mul_assoc,<-Nat.pow_succ,<-Nat.pow_add,show s-s'-1+1+s'=s by omega]
 have hp:1<=2^(s-s'-1):=Nat.pow_pos (by decide)
 have h2:t*(2*2^s')<=t*2^s:=Nat.mul_le_mul_left t (by rw[e];exact Nat.le_mul_of_pos_left _ hp)
 rw[Nat.mul_left_comm]at h2
 omega
theorem and_low(t:Nat)(ht:t<18446744073709551616):bits .and .u64 (t:Int) 4294967295=((t%4294967296:Nat):Int):=by
 have h:=u64_and_nat t 4294967295 ht (by decide)
 have h2:=Nat.and_two_pow_sub_one_eq_mod t 32
 have e:(2:Nat)^32-1=4294967295:=by decide
 have e2:(2:Nat)^32=4294967296:=by decide
 rw[e,e2]at h2
 rw[h2]at h
 exact h
theorem Row.cellI{w:World}{g i:Nat}{pre zs:List Nat}(h:Row w g (pre++zs))(hp:pre.length=i){j:Nat}(hj:j<zs.length):w.cell? ⟨g,i+j,none⟩=some (.int .u32 (zs.getD j 0:Nat)):=by
 subst hp;exact h.cellP hj
theorem Row.setI{w:World}{g i:Nat}{pre zs:List Nat}(h:Row w g (pre++zs))(hp:pre.length=i)(j x:Nat):Row (w.setCell ⟨g,i+j,none⟩ (.int .u32 (x:Nat))) g (pre++zs.set j x):=by
 subst hp;exact h.setP j x
theorem ref_long(va vb:Value)(xs ys:List Nat)(w:World)(ha:Limbs w va xs)(hb:Limbs w vb ys)(hn2:2<=ys.length)(hlen:ys.length<=xs.length)(htop:0<ys.getD (ys.length-1) 0)(hsz:xs.length<=137438953472) :
  Calls Tryz.prog 137 #[va,vb] w fun e w'=>∃v1 v2,e=.returned (.tuple #[v1,v2])/\Limbs w' v1 (limbsOf (lv xs/lv ys))/\Limbs w' v2 (limbsOf (lv xs%lv ys))/\Below w.heap.size w w':=by
 have hsx:=ha.small
 have hsy:=hb.small
 obtain⟨n,hn⟩:∃n,n=ys.length:=⟨_,rfl⟩
 obtain⟨m,hm⟩:∃m,m=xs.length:=⟨_,rfl⟩
 rw[<- hn]at hn2 hlen htop
 rw[<- hm]at hlen hsz
 obtain⟨t,ht⟩:∃t,t=ys.getD (n-1) 0:=⟨_,rfl⟩
 have htb:t<4294967296:=by rw[ht];exact hsy.get _
 rw[<- ht]at htop
 obtain⟨s,hs,_,hs3,hs4⟩:=b8q htop htb
 have hfit:lv ys*2^s<4294967296^n:=by
  obtain⟨n',rfl⟩:∃n',n=n'+1:=⟨n-1,by omega⟩
  exact b7y ys s n' hsy hn.symm (by rw[Nat.add_sub_cancel]at ht;rw[<- ht];exact hs4) hs
 have hy0:0<lv ys:=by
  have h3:=b1r ys (n-1) (by omega)
  rw[<- ht]at h3
  have:=Nat.mul_pos (show 0<4294967296^(n-1)from Nat.pow_pos (by decide)) htop
  omega
 obtain⟨A,ca,rfl,hca,hca'⟩:=ha.slice
 obtain⟨B,cb,rfl,hcb,hcb'⟩:=hb.slice
 obtain⟨bb,ob,y0,rfl,hbb,hy,hyb,hyc⟩:=hb.at_ (j:=ys.length-1) (by omega)
 rw[<- hn,<-ht]at hy
 subst hy
 rw[<- hn]at hyc hcb
 rw[<- hm]at hca
 have ha:=show Limbs w (.slice A m ca) xs by rw[hm];exact ha
 have hb:=show Limbs w (.slice (some ⟨bb,ob,none⟩) n cb) ys by rw[hn];exact hb
 rw[<- hn,<-hm]
 have hmk:=a1s 121 Tryz.underlying121 ((m:Int)-n+1) (m-n+1) (by omega) (by omega)
 have hmk2:=a1s 121 Tryz.underlying121 (n:Int) n rfl (by omega)
 have hyc0:=hyc w (Below.refl _ _)
 have HA:=zh ha
 have HB:=zh hb
 have HT:=zh ht
 have HM:=zh hm
 have HN:=zh hn
 have HS3:=zh hs3
 have HS4:=zh hs4
 have HFIT:=zh hfit
 have HY0:=zh hy0
 clear ha hb ht hs3 hs4 hfit hm hn hy0 hyc
 go_enter Tryz.func137,Tryz.ntmps137
 go_wp2
 go_loopw [7] (fun v wr=>∃k:Nat,k<=s/\v=.int .u64 k/\w=wr) (fun v _=>s-(intOf v).toNat)
 case atStart=>exact⟨0,Nat.zero_le _,rfl,rfl⟩
 case round =>
  obtain⟨k,hk,rfl,rfl⟩:=hrel
  by_cases hlt:k<s
  ·have hlow:=c9s HS4.out hlt
   obtain⟨z,hz⟩:∃z,z=y0*2^k:=⟨_,rfl⟩
   have hw:IntKind.u32.wrap ((y0:Int)*2^k)=(z:Int):=by
    have e:(y0:Int)*2^k=(z:Int):=by rw[hz,Int.natCast_mul,Int.natCast_pow];rfl
    rw[e,IntKind.wrap_u32];omega
   have hzb:z<2147483648:=by omega
   have i1:(z:Int)<2147483648:=by omega
   clear hz hlow hzb
   go_wp2
   exact⟨⟨k+1,by omega,by go_num,trivial⟩,by simp[intOf];omega⟩
  obtain rfl:s=k:=by omega
  obtain⟨z,hz⟩:∃z,z=y0*2^s:=⟨_,rfl⟩
  have hz1:=HS4.out
  have hz2:=HS3.out
  have hw:IntKind.u32.wrap ((y0:Int)*2^s)=(z:Int):=by
   have e:(y0:Int)*2^s=(z:Int):=by rw[hz,Int.natCast_mul,Int.natCast_pow];rfl
   rw[e,IntKind.wrap_u32];omega
  have hzb:2147483648<=z:=by omega
  have i1:¬ (z:Int)<2147483648:=by omega
  clear hz hz1 hz2 hzb
  go_wp2_with fail
  clear hw i1
  refine(b5g _ xs s _ HA.out hs (by rw[<- HM.out];omega)).mono ?_
  rintro e w2 ⟨us,rfl,hul,hus,huv,hur,hb2⟩
  rw[<- HM.out]at hul ⊢
  have hst:=zh (b8p (n:=n-1) hsx HM.out.symm (by rw[<- HN.out];omega) (by omega) (by rw[hul.out]) hs (by rw[<- HT.out];exact HS3.out) huv.out)
  have hgu2:w.heap.size<w2.heap.size:=hur.lt
  go_wp2_with fail
  refine(b5g _ ys s _ (HB.out.below hb2) hs (by rw[<- HN.out];omega)).mono ?_
  rintro e w3 ⟨ds',rfl,hdl',hds',hdv',hdr',hb3⟩
  rw[<- HN.out]at hdl' ⊢
  have hgd2:w2.heap.size<w3.heap.size:=hdr'.lt
  have hur3:=hur.below hb3 hgu2
  have hb13:=Ext.trans hb2 hb3
  obtain⟨ds,hds⟩:∃ds,ds=ds'.take n:=⟨_,rfl⟩
  have hdl:Hid (ds.length=n):=by show _=_;rw[hds,List.length_take,hdl'.out];omega
  have hdsm:Small ds:=by rw[hds];exact hds'.take _
  have hdv:Hid (lv ds=lv ys*2^s):=by
   show _=_
   have h1:=a0n ds' n
   rw[a0x (by rw[hdl'.out];exact Nat.le_refl _),hdv'.out]at h1
   rcases Nat.eq_zero_or_pos (ds'.getD n 0)with h | h
   ·rw[h,Nat.mul_zero,Nat.add_zero]at h1;rw[hds];exact h1.symm
   have:=Nat.mul_le_mul_left (4294967296^n) h
   have h3:=HFIT.out
   rw[Nat.mul_one]at this
   omega
  have HDS:=zh hds
  clear hds hur
  go_wp2
  go_loopw [11] (fun i wr=>∃ (j:Nat) (zs qs:List Nat),j<=m-n+1/\i=.int .i64 ((j:Int)-1)/\Hid (zs.length=m+1)/\Small zs/\Row wr w.heap.size zs/\Hid (qs.length=m-n+1)/\Small qs/\Row wr w3.heap.size qs /\
    Row wr w2.heap.size ds'/\Hid (lv (zs.drop j)<lv ys*2^s)/\Hid (∀k,k<j->qs.getD k 0=0)/\Hid (lv zs+lv ys*2^s*lv qs=lv xs*2^s)/\Below w.heap.size w wr) (fun i _=>(intOf i+1).toNat)
  case atStart =>
   refine⟨m-n+1,us,List.replicate (m-n+1) 0,Nat.le_refl _,by congr 1;omega,hul,hus,hur3.alloc _,by simp[Hid],a1h _,Row.made _ _,hdr'.alloc _,?_,?_,?_,Ext.alloc hb13 _⟩
   ·show _<_
    have:=hst.out
    rwa[show m-(n-1)=m-n+1 by omega]at this
   ·intro k hk
    rw[List.getD_eq_getElem?_getD,List.getElem?_replicate,if_pos hk];rfl
   show _=_
   rw[a5m,Nat.mul_zero,Nat.add_zero];exact huv.out
  case round =>
   obtain⟨j,zs,qs,hj,rfl,hzl,hzs,hzr,hql,hqs,hqr,hdr,hlt,hq0,hinv,hbw⟩:=hrel
   by_cases hp:0<j
   ·obtain⟨i,rfl⟩:∃i,j=i+1:=⟨j-1,by omega⟩
    have hi2:i+n<=m:=by omega
    have hwin:(zs.drop i).length=m+1-i:=by rw[List.length_drop,hzl.out]
    have hD0:0<lv ys*2^s:=Nat.mul_pos HY0.out (Nat.pow_pos (by decide))
    obtain⟨hsm1,hsm2⟩:=b2u (zs:=zs) (D:=lv ys*2^s) (n:=n) (i:=i) hzs (by rw[hzl.out];omega) HFIT.out hlt.out (by rw[hzl.out];omega)
    have hd1p:0<ds.getD (n-1) 0:=by
     rcases Nat.eq_zero_or_pos (ds.getD (n-1) 0)with h | h
     ·exfalso
      have h1:=a0n ds (n-1)
      rw[show n-1+1=n by omega,a0x (by rw[hdl.out];exact Nat.le_refl _),h,Nat.mul_zero,Nat.add_zero]at h1
      have h2:=a5h _ (hdsm.take (n-1))
      rw[List.length_take,Nat.min_eq_left (by rw[hdl.out];omega),<-h1,hdv.out]at h2
      have h3:=b1r ys (n-1) (by rw[<- HN.out];omega)
      rw[<- HT.out]at h3
      have h4:=Nat.mul_le_mul_right (2^s) h3
      rw[Nat.mul_assoc]at h4
      have h5:=Nat.mul_le_mul_left (4294967296^(n-1)) (show 1<=y0*2^s by have:=HS3.out;omega)
      rw[Nat.mul_one]at h5
      omega
     exact h
    have hlead:=d1r (zs:=zs.drop i) (ds:=ds) (n:=n) (hzs.drop _) hdsm hn2 hdl.out (by rw[hwin];omega) hd1p (by rw[hdv.out,hsm1];exact hsm2)
    have hdg:∀k,(zs.drop i).getD k 0=zs.getD (i+k) 0:=fun k=>by
     rw[List.getD_eq_getElem?_getD,List.getD_eq_getElem?_getD,List.getElem?_drop]
    rw[hdg,hdg,hdg]at hlead
    obtain⟨un,hun⟩:∃un,un=zs.getD (i+n) 0:=⟨_,rfl⟩
    obtain⟨um,hum⟩:∃um,um=zs.getD (i+(n-1)) 0:=⟨_,rfl⟩
    obtain⟨ul,hul⟩:∃ul,ul=zs.getD (i+(n-2)) 0:=⟨_,rfl⟩
    obtain⟨d1,hd1⟩:∃d1,d1=ds.getD (n-1) 0:=⟨_,rfl⟩
    obtain⟨d2,hd2⟩:∃d2,d2=ds.getD (n-2) 0:=⟨_,rfl⟩
    rw[<- hun,<-hum,<-hul,<-hd1,<-hd2]at hlead
    have hunb:un<4294967296:=by rw[hun];exact hzs.get _
    have humb:um<4294967296:=by rw[hum];exact hzs.get _
    have hulb:ul<4294967296:=by rw[hul];exact hzs.get _
    have hd1b:d1<4294967296:=by rw[hd1];exact hdsm.get _
    have hd2b:d2<4294967296:=by rw[hd2];exact hdsm.get _
    rw[<- hd1]at hd1p
    have hcn:=hzr.cell (i:=i+n) (by rw[hzl.out];omega)
    have hcm:=hzr.cell (i:=i+(n-1)) (by rw[hzl.out];omega)
    have hcl:=hzr.cell (i:=i+(n-2)) (by rw[hzl.out];omega)
    rw[<- hun]at hcn
    rw[<- hum,show i+(n-1)=i+n-1 by omega]at hcm
    rw[<- hul,show i+(n-2)=i+n-2 by omega]at hcl
    have hc1:=hdr.cell (i:=n-1) (by rw[hdl'.out];omega)
    have hc2:=hdr.cell (i:=n-2) (by rw[hdl'.out];omega)
    rw[show ds'.getD (n-1) 0=d1 by rw[hd1,HDS.out,a7e (by omega)]]at hc1
    rw[show ds'.getD (n-2) 0=d2 by rw[hd2,HDS.out,a7e (by omega)]]at hc2
    obtain⟨top,htp⟩:∃top,top=un*4294967296+um:=⟨_,rfl⟩
    rw[<- htp]at hlead
    have hor:bits .or .u64 ((un:Int)*4294967296) (um:Int)=(top:Int):=by
     rw[htp,<-a6n humb,<-u64_or_nat _ _ (by omega) (by omega)]
     simp
    obtain⟨U,hU⟩:∃U,U=lv ((zs.drop i).take (n+1)):=⟨_,rfl⟩
    obtain⟨D,hD⟩:∃D,D=lv ds:=⟨_,rfl⟩
    rw[<- hU,<-hD]at hlead
    obtain⟨g0,hg0⟩:∃g0,g0=top/d1:=⟨_,rfl⟩
    obtain⟨r0,hr0⟩:∃r0,r0=top%d1:=⟨_,rfl⟩
    have htopb:top<18446744073709551616:=by omega
    have hquo:IntKind.u64.wrap ((top:Int)/d1)=(g0:Int):=by
     have:g0<=top:=by rw[hg0];exact Nat.div_le_self _ _
     have e:(top:Int)/d1=(g0:Int):=by rw[hg0];simp
     rw[e,IntKind.wrap_u64];omega
    have hrem:(top:Int)%d1=(r0:Int):=by rw[hr0];simp
    have hst0:U/D<=g0:=by rw[hg0];exact hlead.start
    have htg:top=g0*d1+r0:=by rw[hg0,hr0,Nat.mul_comm];exact(Nat.div_add_mod _ _).symm
    have hg0b:g0<=8589934592:=by
     have:=hlead.top_le
     rw[hg0]
     have h2:top/d1<=(d1*4294967296+d2)/d1:=Nat.div_le_div_right this
     rw[Nat.mul_add_div hd1p]at h2
     have:=Nat.div_le_self d2 d1
     omega
    have hr0b:r0<4294967296:=by rw[hr0];exact Nat.lt_of_lt_of_le (Nat.mod_lt _ hd1p) (by omega)
    have HST:=zh hst0
    have HTG:=zh htg
    have HL:=zh hlead
    have HU:=zh hU
    have HDD:=zh hD
    have HSM1:=zh hsm1
    have HSM2:=zh hsm2
    have HWIN:=zh hwin
    have HDG:=zh hdg
    have i0:(0:Int)<=(i:Int):=by omega
    clear hst0 htg hlead hU hD hd1 hd2 hun hum hul htp htopb hg0 hr0 hsm1 hsm2 hwin hD0 hdg
    go_wp2
    go_quiet (fail)
    go_upto_block 4 with (fail)
    go_cut [13,14] (fun vg vr wx=>∃q:Nat,vg=.int .u64 q/\q<4294967296/\Hid (U/D<=q)/\Hid (q*D<U+D)/\∃nq,wx=wr.drewN nq)
    case first =>
     go_wp2
     go_loopw [13,14] (fun vg vr wx=>∃q r nq:Nat,vg=.int .u64 q/\vr=.int .u64 r/\r<4294967296/\q<=8589934592/\Hid (top=q*d1+r)/\Hid (U/D<=q)/\wx=wr.drewN nq) (fun vg _ _=>(intOf vg).toNat)
     case atStart=>exact⟨g0,r0,_,rfl,by rw[hrem],hr0b,hg0b,HTG,HST,rfl⟩
     case round =>
      obtain⟨q,r,nq',rfl,rfl,hrb,hqb,htq,hqU,rfl⟩:=hrel
      have hor2:bits .or .u64 ((r:Int)*4294967296) (ul:Int)=((r*4294967296+ul:Nat):Int):=by
       rw[<- a6n hulb,<-u64_or_nat _ _ (by omega) (by omega)]
       simp
      obtain⟨m2,hm2⟩:∃m2,m2=r*4294967296+ul:=⟨_,rfl⟩
      rw[<- hm2]at hor2
      have HM2:=zh hm2
      by_cases hge:4294967296<=q
      ·have i1:(4294967296:Int)<=(q:Int):=by omega
       obtain⟨f1,f2,f3⟩:=HL.out.down htq.out hqU.out (.inl hge)
       have i2:(1:Int)<=(q:Int):=by omega
       have F2:=zh f2
       have F3:=zh f3
       clear hm2 f2 f3 hor hquo hrem
       by_cases hbr:4294967296<=r+d1
       ·have i3:(4294967296:Int)<=(r:Int)+d1:=by omega
        have i4:decide ((4294967296:Int)<=(r:Int)+d1)=true:=decide_eq_true i3
        obtain⟨f4,f5⟩:=HL.out.broke F3.out hbr
        have F4:=zh f4
        have F5:=zh f5
        clear hbr f4 f5
        go_wp2
        go_quiet (fail)
        go_wp2
        go_meet
        case rel=>exact⟨q-1,by congr 1;omega,F4.out,F2,F5,_,rfl⟩
       have i3:(r:Int)+d1<(4294967296:Int):=by omega
       have i4:decide ((4294967296:Int)<=(r:Int)+d1)=false:=decide_eq_false (by omega)
       have HBR:=zh hbr
       clear hbr
       go_wp2
       go_quiet (fail)
       go_wp2
       go_roundw
       case rel=>exact⟨q-1,r+d1,_,by congr 1;omega,by go_num,by have:=HBR.out;omega,by omega,F3,F2,rfl⟩
       case measure=>simp[intOf];omega
      have i1:decide ((4294967296:Int)<=(q:Int))=false:=decide_eq_false (by omega)
      have hpb:=(a4w (u:=q) (v:=d2) (o:=0) (c:=0) (by omega) hd2b (by decide) (by decide)).1
      have hpb0:(0:Int)<=(q:Int)*d2:=by rw[<- Int.natCast_mul];omega
      have hpb1:(q:Int)*d2<=18446744065119617025:=by rw[<- Int.natCast_mul];omega
      have hcast:(q:Int)*d2=((q*d2:Nat):Int):=by simp
      by_cases hgt:m2<q*d2
      ·have i5:(m2:Int)<(q:Int)*d2:=by omega
       have i6:decide ((m2:Int)<(q:Int)*d2)=true:=decide_eq_true i5
       obtain⟨f1,f2,f3⟩:=HL.out.down htq.out hqU.out (.inr (by rw[<- hm2];exact hgt))
       have i2:(1:Int)<=(q:Int):=by omega
       have F2:=zh f2
       have F3:=zh f3
       clear hm2 f2 f3 hor hquo hrem hcast hpb hgt hge
       by_cases hbr:4294967296<=r+d1
       ·have i3:(4294967296:Int)<=(r:Int)+d1:=by omega
        have i4:decide ((4294967296:Int)<=(r:Int)+d1)=true:=decide_eq_true i3
        obtain⟨f4,f5⟩:=HL.out.broke F3.out hbr
        have F4:=zh f4
        have F5:=zh f5
        clear hbr f4 f5
        go_wp2
        go_quiet (fail)
        go_wp2
        go_meet
        case rel=>exact⟨q-1,by congr 1;omega,F4.out,F2,F5,_,rfl⟩
       have i3:(r:Int)+d1<(4294967296:Int):=by omega
       have i4:decide ((4294967296:Int)<=(r:Int)+d1)=false:=decide_eq_false (by omega)
       have HBR:=zh hbr
       clear hbr
       go_wp2
       go_quiet (fail)
       go_wp2
       go_roundw
       case rel=>exact⟨q-1,r+d1,_,by congr 1;omega,by go_num,by have:=HBR.out;omega,by omega,F3,F2,rfl⟩
       case measure=>simp[intOf];omega
      have i6:decide ((m2:Int)<(q:Int)*d2)=false:=decide_eq_false (by omega)
      have F5:=zh (HL.out.stop htq.out (by omega) (by rw[<- hm2];exact hgt))
      have F6:Hid (q<4294967296):=by show _<_;omega
      clear hm2 hor hquo hrem hcast hpb hgt hge
      go_wp2
      go_quiet (fail)
      go_wp2
      go_meet
      case rel=>exact⟨q,rfl,F6.out,hqU,F5,_,World.drewN_drewN _ _ _⟩
    case rest =>
     obtain⟨q,rfl,hq,hq1,hq2,nq',rfl⟩:=hcut
     clear hor hquo hrem hcn hcm hcl hc1 hc2
     have hpre:(zs.take i).length=i:=by rw[List.length_take,hzl.out];omega
     have HP:=zh hpre
     clear hpre
     have FIN:Hid (∀ (wx:World) (win:List Nat) (Q:Nat),Row wx w.heap.size (zs.take i++win)->Row wx w2.heap.size ds'->Row wx w3.heap.size qs->Below w.heap.size w wx->Small win->win.length=m+1-i->win.drop (n+1)=(zs.drop i).drop (n+1) ->
       lv (win.take (n+1))=U%D->Q=U/D ->
       ∃ (j:Nat) (zs qs:List Nat),j<=m-n+1/\Value.int .i64 ((i:Int)-1)=.int .i64 ((j:Int)-1)/\Hid (zs.length=m+1)/\Small zs/\Row (wx.setCell ⟨w3.heap.size,i,none⟩ (.int .u32 (Q:Nat))) w.heap.size zs/\Hid (qs.length=m-n+1)/\Small qs /\
        Row (wx.setCell ⟨w3.heap.size,i,none⟩ (.int .u32 (Q:Nat))) w3.heap.size qs/\Row (wx.setCell ⟨w3.heap.size,i,none⟩ (.int .u32 (Q:Nat))) w2.heap.size ds'/\Hid (lv (zs.drop j)<lv ys*2^s)/\Hid (∀k,k<j->qs.getD k 0=0)/\Hid (lv zs+lv ys*2^s*lv qs=lv xs*2^s) /\
        Below w.heap.size w (wx.setCell ⟨w3.heap.size,i,none⟩ (.int .u32 (Q:Nat)))):=by
      intro wx win Q h1 h2 h3 h4 h5 h6 h7 h8 h9
      have hDv:D=lv ys*2^s:=by rw[HDD.out,hdv.out]
      have hD0:0<lv ys*2^s:=Nat.mul_pos HY0.out (Nat.pow_pos (by decide))
      obtain⟨g1,g2⟩:=c3b (U:=lv xs*2^s) (win':=win) (qs:=qs) (D:=lv ys*2^s) (n:=n) (i:=i) hzs (by rw[hzl.out];omega) hD0 HFIT.out hlt.out (by rw[hzl.out];omega) (by rw[h6,HWIN.out]) h7 (by rw[h8,hDv,HU.out]) (by rw[hql.out];omega) (hq0.out _ (by omega)) hinv.out
      have hQb:Q<4294967296:=by
       rw[h9,HU.out,hDv,HSM1.out,Nat.div_lt_iff_lt_mul hD0,Nat.mul_comm];exact HSM2.out
      refine⟨i,zs.take i++win,qs.set i Q,by omega,rfl,?_,small_append.2 ⟨hzs.take _,h5⟩,h1.far (Nat.ne_of_lt (Nat.lt_trans hgu2 hgd2)) _,by show _=_;rw[List.length_set];exact hql.out,a0m hqs _ hQb,h3.set_ _ _,h2.far (Nat.ne_of_lt hgd2) _,?_,?_,?_,h4.setCell (Nat.le_of_lt (Nat.lt_trans hgu2 hgd2)) _⟩
      ·show _=_
       rw[List.length_append,HP.out,h6];omega
      ·show _<_
       rw[List.drop_append_of_le_length (by rw[HP.out];exact Nat.le_refl _),List.drop_of_length_le (by rw[HP.out];exact Nat.le_refl _),List.nil_append]
       exact g1
      ·intro k hk
       rw[List.getD_eq_getElem?_getD,List.getElem?_set_ne (by omega),<-List.getD_eq_getElem?_getD]
       exact hq0.out k (by omega)
      show _=_
      rw[h9,HU.out,hDv]
      exact g2
     go_wp2
     go_loopw [15,16,17] (fun vc vb vi wx=>∃ (k c' b':Nat) (wk:List Nat),k<=n/\vi=.int .i64 k/\vc=.int .u64 c'/\c'<4294967296/\vb=.int .u64 b'/\b'<=1/\Hid (wk.length=m+1-i)/\Hid (wk.drop k=(zs.drop i).drop k)/\Small wk /\
       Row wx w.heap.size (zs.take i++wk)/\Hid (lv (wk.take k)+q*lv (ds.take k)=lv ((zs.drop i).take k)+4294967296^k*(c'+b'))/\Row wx w2.heap.size ds'/\Row wx w3.heap.size qs/\Below w.heap.size w wx) (fun _ _ vi _=>n-(intOf vi).toNat)
     case atStart=>exact⟨0,0,0,zs.drop i,Nat.zero_le _,rfl,rfl,by decide,rfl,by decide,HWIN,rfl,hzs.drop _,by rw[List.take_append_drop];exact hzr,by simp[Hid,a2q],hdr,hqr,a0j hbw _⟩
     case round =>
      obtain⟨k,cc,bb2,wk,hk,rfl,rfl,hcc,rfl,hbb2,hwl,hwd,hws,hrow,hinv2,hdr2,hqr2,hbw2⟩:=hrel
      by_cases hlk:k<n
      ·obtain⟨v,hv⟩:∃v,v=ds.getD k 0:=⟨_,rfl⟩
       have hvb:v<4294967296:=by rw[hv];exact hdsm.get _
       have hvc:=hdr2.cell (i:=k) (by rw[hdl'.out];omega)
       rw[show ds'.getD k 0=v by rw[hv,HDS.out,a7e hlk]]at hvc
       have hcur:=hrow.cellI HP.out (j:=k) (by rw[hwl.out];omega)
       have hfr:=hrow.frozen (i+k)
       obtain⟨z,hz⟩:∃z,z=wk.getD k 0:=⟨_,rfl⟩
       have hzb:z<4294967296:=by rw[hz];exact hws.get _
       rw[<- hz]at hcur
       have hpb:=a4w (u:=q) (v:=v) (o:=0) (c:=cc) hq hvb (by decide) hcc
       obtain⟨t,ht⟩:∃t,t=q*v+cc:=⟨_,rfl⟩
       have htb:t<18446744073709551616:=by have:=hpb.1;omega
       have E0:(cc:Int)+(q:Int)*v=(t:Int):=by rw[ht];simp;omega
       have hpb0:(0:Int)<=(q:Int)*v:=by rw[<- Int.natCast_mul];omega
       have hpb1:(q:Int)*v<=18446744065119617025:=by have:=hpb.1;rw[<- Int.natCast_mul];omega
       obtain⟨x,hx⟩:∃x,x=t%4294967296:=⟨_,rfl⟩
       obtain⟨y,hy⟩:∃y,y=t/4294967296:=⟨_,rfl⟩
       have hxb:x<4294967296:=by rw[hx];exact Nat.mod_lt _ (by decide)
       have hyb2:y<4294967296:=by have:=hpb.2;rw[hy,ht];exact this
       have E1:=and_low t htb
       rw[<- hx]at E1
       have E2:(t:Int)/4294967296=(y:Int):=by rw[hy];simp
       have HX:=zh hx
       have HYY:=zh hy
       have HV:=zh hv
       have HZ:=zh hz
       have HTT:=zh ht
       by_cases hless:z<x+bb2
       ·have j0:(z:Int)<(x:Int)+bb2:=by omega
        obtain⟨r,hr⟩:∃r,r=z+4294967296-(x+bb2):=⟨_,rfl⟩
        have HE:Hid ((z:Int)+4294967296-((x:Int)+bb2)=(r:Int)):=by show _=_;omega
        have hrb:r<4294967296:=by omega
        have hre:Hid (r+x+bb2=z+4294967296*1):=by show _=_;omega
        clear hr hless hx hy hv hz hpb ht
        go_wp2
        rw[HE.out]
        refine⟨⟨k+1,y,1,wk.set k r,by omega,by go_num,rfl,hyb2,rfl,by omega,by show _=_;rw[List.length_set];exact hwl.out,a1p hwd.out,a0m hws _ hrb,hrow.setI HP.out k r,?_,hdr2.far (Nat.ne_of_gt hgu2) _,hqr2.far (Nat.ne_of_gt (Nat.lt_trans hgu2 hgd2)) _,hbw2.setCell (Nat.le_refl _) _⟩,by simp[intOf];omega⟩
        show _=_
        rw[HYY.out]
        exact b5v (by rw[hwl.out];omega) (a1x hwd.out) (by rw[HTT.out,HV.out]) (by rw[<- HX.out,<-HZ.out];exact hre.out) hinv2.out
       have j0:(x:Int)+bb2<=(z:Int):=by omega
       obtain⟨r,hr⟩:∃r,r=z-(x+bb2):=⟨_,rfl⟩
       have HE:Hid ((z:Int)-((x:Int)+bb2)=(r:Int)):=by show _=_;omega
       have hrb:r<4294967296:=by omega
       have hre:Hid (r+x+bb2=z+4294967296*0):=by show _=_;omega
       clear hr hless hx hy hv hz hpb ht
       go_wp2
       rw[HE.out]
       refine⟨⟨k+1,y,0,wk.set k r,by omega,by go_num,rfl,hyb2,rfl,by omega,by show _=_;rw[List.length_set];exact hwl.out,a1p hwd.out,a0m hws _ hrb,hrow.setI HP.out k r,?_,hdr2.far (Nat.ne_of_gt hgu2) _,hqr2.far (Nat.ne_of_gt (Nat.lt_trans hgu2 hgd2)) _,hbw2.setCell (Nat.le_refl _) _⟩,by simp[intOf];omega⟩
       show _=_
       rw[HYY.out]
       exact b5v (by rw[hwl.out];omega) (a1x hwd.out) (by rw[HTT.out,HV.out]) (by rw[<- HX.out,<-HZ.out];exact hre.out) hinv2.out
      obtain rfl:n=k:=by omega
      have hcur:=hrow.cellI HP.out (j:=n) (by rw[hwl.out];omega)
      have hfr:=hrow.frozen (i+n)
      obtain⟨z,hz⟩:∃z,z=wk.getD n 0:=⟨_,rfl⟩
      have hzb:z<4294967296:=by rw[hz];exact hws.get _
      rw[<- hz]at hcur
      have HZ:=zh hz
      have hqcur:=hqr2.cell (i:=i) (by rw[hql.out];omega)
      have hqfr:=hqr2.frozen i
      clear hz
      by_cases hless:z<cc+bb2
      ·have j0:(z:Int)<(cc:Int)+bb2:=by omega
       have j1:decide ((z:Int)<(cc:Int)+bb2)=true:=decide_eq_true j0
       obtain⟨r,hr⟩:∃r,r=z+4294967296-(cc+bb2):=⟨_,rfl⟩
       have hrb:r<4294967296:=by omega
       have hre:Hid (r+cc+bb2=z+4294967296*1):=by show _=_;omega
       have hwr:IntKind.u64.wrap ((z:Int)-((cc:Int)+bb2))=(r:Int)+18446744069414584320:=by rw[IntKind.wrap_u64];omega
       have hmr:((r:Int)+18446744069414584320)%4294967296=(r:Int):=by omega
       clear hr hless
       go_wp2_with fail
       have hfin:=b1p (n:=n) (ds:=ds) (zs:=wk) (by rw[hwl.out];omega) (a1x hwd.out) (by rw[<- HZ.out];exact hre.out) hinv2.out
       rw[a0x (i:=n) (by rw[hdl.out];exact Nat.le_refl _),<-HU.out,<-HDD.out]at hfin
       have hrow1:=hrow.setI HP.out n r
       have hsm1:=a0m hws n hrb
       have hlen1:Hid ((wk.set n r).length=m+1-i):=by show _=_;rw[List.length_set];exact hwl.out
       have hdrp1:Hid ((wk.set n r).drop (n+1)=(zs.drop i).drop (n+1)):=a1p hwd.out
       have hdr1:=hdr2.far (Nat.ne_of_gt hgu2) (p:=⟨w.heap.size,i+n,none⟩) (.int .u32 (r:Nat))
       have hqr1:=hqr2.far (Nat.ne_of_gt (Nat.lt_trans hgu2 hgd2)) (p:=⟨w.heap.size,i+n,none⟩) (.int .u32 (r:Nat))
       have hbw1:=hbw2.setCell (p:=⟨w.heap.size,i+n,none⟩) (Nat.le_refl _) (.int .u32 (r:Nat))
       obtain⟨z1,hz1⟩:∃z1,z1=wk.set n r:=⟨_,rfl⟩
       rw[<- hz1]at hfin hrow1 hsm1 hlen1 hdrp1
       have hP:lv (z1.take (n+1))<4294967296^(n+1):=by
        have h:=a5h _ (hsm1.take (n+1))
        rwa[List.length_take,Nat.min_eq_left (by rw[hlen1.out];omega)]at h
       obtain⟨s1,s2,s3⟩:=c1r HL.out.Dpos hq1.out hq2.out hP hfin
       have S1:=zh s1
       have S3:=zh s3
       have k2:(1:Int)<=(q:Int):=by omega
       clear hfin hP s1 s3 hz1 hcur hfr hrow hre HZ hws hwl hwd hinv2 hqcur hqfr hdr2 hqr2 hbw2 j0 j1 hwr hmr
       go_loopw [15,23] (fun vc vi wx=>∃ (k c':Nat) (wk:List Nat),k<=n/\vi=.int .i64 k/\vc=.int .u64 c'/\c'<=1/\Hid (wk.length=m+1-i)/\Hid (wk.drop k=z1.drop k)/\Small wk /\
         Row wx w.heap.size (zs.take i++wk)/\Hid (lv (wk.take k)+4294967296^k*c'=lv (z1.take k)+lv (ds.take k))/\Row wx w2.heap.size ds'/\Row wx w3.heap.size qs/\Below w.heap.size w wx) (fun _ vi _=>n-(intOf vi).toNat)
       case atStart=>exact⟨0,0,z1,Nat.zero_le _,rfl,rfl,by decide,hlen1,rfl,hsm1,hrow1,by simp[Hid,a2q],hdr1,hqr1,hbw1⟩
       case round =>
        obtain⟨k,cc,wk,hk,rfl,rfl,hcc,hwl,hwd,hws,hrow,hinv2,hdr2,hqr2,hbw2⟩:=hrel
        by_cases hlk:k<n
        ·obtain⟨v,hv⟩:∃v,v=ds.getD k 0:=⟨_,rfl⟩
         have hvb:v<4294967296:=by rw[hv];exact hdsm.get _
         have hvc:=hdr2.cell (i:=k) (by rw[hdl'.out];omega)
         rw[show ds'.getD k 0=v by rw[hv,HDS.out,a7e hlk]]at hvc
         have hcur:=hrow.cellI HP.out (j:=k) (by rw[hwl.out];omega)
         have hfr:=hrow.frozen (i+k)
         obtain⟨z,hz⟩:∃z,z=wk.getD k 0:=⟨_,rfl⟩
         have hzb:z<4294967296:=by rw[hz];exact hws.get _
         rw[<- hz]at hcur
         obtain⟨t,ht⟩:∃t,t=z+v+cc:=⟨_,rfl⟩
         have htb:t<=8589934591:=by omega
         have E0:(cc:Int)+z+v=(t:Int):=by omega
         obtain⟨x,hx⟩:∃x,x=t%4294967296:=⟨_,rfl⟩
         obtain⟨y,hy⟩:∃y,y=t/4294967296:=⟨_,rfl⟩
         have hxb:x<4294967296:=by omega
         have hyb2:y<=1:=by omega
         have E1:(t:Int)%4294967296=(x:Int):=by omega
         have E2:(t:Int)/4294967296=(y:Int):=by omega
         have HX:=zh hx
         have HYY:=zh hy
         have HV:=zh hv
         have HZ:=zh hz
         have HTT:=zh ht
         clear hx hy hv hz ht
         go_wp2
         go_quiet (fail)
         go_wp2
         refine⟨⟨k+1,y,wk.set k x,by omega,by go_num,rfl,hyb2,by show _=_;rw[List.length_set];exact hwl.out,a1p hwd.out,a0m hws _ hxb,hrow.setI HP.out k x,?_,hdr2.far (Nat.ne_of_gt hgu2) _,hqr2.far (Nat.ne_of_gt (Nat.lt_trans hgu2 hgd2)) _,(a0j hbw2 _).setCell (Nat.le_refl _) _⟩,by simp[intOf];omega⟩
         show _=_
         rw[HX.out,HYY.out]
         exact b4r (by rw[hwl.out];omega) hinv2.out (by rw[HTT.out,HV.out,HZ.out,a1x hwd.out])
        obtain rfl:n=k:=by omega
        have hcur:=hrow.cellI HP.out (j:=n) (by rw[hwl.out];omega)
        have hfr:=hrow.frozen (i+n)
        obtain⟨z,hz⟩:∃z,z=wk.getD n 0:=⟨_,rfl⟩
        have hzb:z<4294967296:=by rw[hz];exact hws.get _
        rw[<- hz]at hcur
        have HZ:=zh hz
        have hqcur:=hqr2.cell (i:=i) (by rw[hql.out];omega)
        have hqfr:=hqr2.frozen i
        have hcm:(cc:Int)%4294967296=(cc:Int):=by omega
        obtain⟨x,hx⟩:∃x,x=(z+cc)%4294967296:=⟨_,rfl⟩
        have hwrap:IntKind.u32.wrap ((z:Int)+cc)=(x:Int):=by rw[IntKind.wrap_u32];omega
        have hxb:x<4294967296:=by rw[hx];exact Nat.mod_lt _ (by decide)
        have HX:=zh hx
        clear hz hx
        go_wp2
        have e:((q:Int)-1)=((q-1:Nat):Int):=by omega
        rw[e]
        refine⟨FIN.out _ (wk.set n x) (q-1) (hrow.setI HP.out n x) (hdr2.far (Nat.ne_of_gt hgu2) _) (hqr2.far (Nat.ne_of_gt (Nat.lt_trans hgu2 hgd2)) _) (hbw2.setCell (Nat.le_refl _) _) (a0m hws _ hxb) (by rw[List.length_set];exact hwl.out) ((a1p hwd.out).trans hdrp1.out) ?_ S1.out,by simp[intOf]⟩
        rw[HX.out,HZ.out]
        refine b3n (ds:=ds) (z1:=z1) (D:=D) (by rw[hwl.out];omega) (a1x hwd.out) (hws.take _) ?_ hinv2.out (by rw[a0x (by rw[hdl.out];exact Nat.le_refl _),<-HDD.out]) S3.out
        have hd:D<4294967296^n:=by
         have h:=a5h _ hdsm
         rw[hdl.out]at h
         rw[HDD.out];exact h
        have hm2:=Nat.mod_lt U HL.out.Dpos
        have hp2:=Nat.pow_le_pow_right (show 0<4294967296 by decide) (Nat.le_succ n)
        exact Nat.lt_of_lt_of_le (Nat.lt_trans hm2 hd) hp2
      have j0:(cc:Int)+bb2<=(z:Int):=by omega
      have j1:decide ((z:Int)<(cc:Int)+bb2)=false:=decide_eq_false (by omega)
      obtain⟨r,hr⟩:∃r,r=z-(cc+bb2):=⟨_,rfl⟩
      have HE:Hid ((z:Int)-((cc:Int)+bb2)=(r:Int)):=by show _=_;omega
      have hrb:r<4294967296:=by omega
      have hre:Hid (r+cc+bb2=z+4294967296*0):=by show _=_;omega
      clear hr hless
      go_wp2
      rw[HE.out]
      have hfin:=b1p (n:=n) (ds:=ds) (zs:=wk) (by rw[hwl.out];omega) (a1x hwd.out) (by rw[<- HZ.out];exact hre.out) hinv2.out
      rw[a0x (i:=n) (by rw[hdl.out];exact Nat.le_refl _),<-HU.out,<-HDD.out]at hfin
      obtain⟨s1,s2⟩:=b7s HL.out.Dpos hq1.out hfin
      exact⟨FIN.out _ (wk.set n r) q (hrow.setI HP.out n r) (hdr2.far (Nat.ne_of_gt hgu2) _) (hqr2.far (Nat.ne_of_gt (Nat.lt_trans hgu2 hgd2)) _) (hbw2.setCell (Nat.le_refl _) _) (a0m hws _ hrb) (by rw[List.length_set];exact hwl.out) (a1p hwd.out) s2 s1,by simp[intOf]⟩
   obtain rfl:j=0:=by omega
   obtain⟨f1,f2⟩:=c7a (a:=lv xs) (b:=lv ys) (n:=n) (s:=s) (zs:=zs) (qs:=qs) (by rw[hzl.out];omega) HY0.out HFIT.out (by have:=hlt.out;rwa[List.drop_zero]at this) hinv.out
   have F1:=zh f1
   have hzn:lv (zs.take n)=lv zs:=by
    have h2:=a5n zs n (by rw[hzl.out];omega)
    have h3:=hlt.out
    have h4:=HFIT.out
    rw[List.drop_zero]at h3
    rcases Nat.eq_zero_or_pos (lv (zs.drop n))with h0 | h0
    ·rw[h0,Nat.mul_zero]at h2;omega
    have:=Nat.mul_le_mul_left (4294967296^n) h0
    rw[Nat.mul_one]at this;omega
   have F2:Hid (lv zs/2^s%4294967296^n=lv xs%lv ys):=by
    show _=_
    rw[<- f2,hzn,Nat.mod_eq_of_lt]
    have h3:=hlt.out
    rw[List.drop_zero]at h3
    exact Nat.lt_of_le_of_lt (Nat.div_le_self _ _) (Nat.lt_trans h3 HFIT.out)
   obtain⟨wo,hwo⟩:∃wo:World,wo=wr:=⟨_,rfl⟩
   subst hwo
   have hgz:w.heap.size<wo.heap.size:=hzr.lt
   have hgq:w3.heap.size<wo.heap.size:=hqr.lt
   clear f1 f2 hzn
   go_wp2
   go_loopw [25] (fun vi wx=>∃ (k:Nat) (outs:List Nat),k<=n/\vi=.int .i64 k/\Hid (outs.length=n)/\Small outs/\Row wx wo.heap.size outs/\Hid (lv (outs.take k)=lv zs/2^s%4294967296^k)/\Row wx w.heap.size zs/\Row wx w3.heap.size qs/\Below w.heap.size w wx) (fun vi _=>n-(intOf vi).toNat)
   case atStart=>exact⟨0,_,Nat.zero_le _,rfl,by simp[Hid],a1h _,Row.made _ _,by simp[Hid,a2q,Nat.mod_one],hzr.alloc _,hqr.alloc _,Ext.alloc hbw _⟩
   case round =>
    rename_i wx
    obtain⟨k,outs,hk,rfl,hol,hos,hor0,hv,hzr2,hqr2,hbw2⟩:=hrel
    by_cases hlk:k<n
    ·obtain⟨x,hx⟩:∃x,x=zs.getD k 0:=⟨_,rfl⟩
     obtain⟨y,hy⟩:∃y,y=zs.getD (k+1) 0:=⟨_,rfl⟩
     have hxb:x<4294967296:=by rw[hx];exact hzs.get _
     have hyb2:y<4294967296:=by rw[hy];exact hzs.get _
     have hxc:=hzr2.cell (i:=k) (by rw[hzl.out];omega)
     have hyc2:=hzr2.cell (i:=k+1) (by rw[hzl.out];omega)
     rw[<- hx]at hxc
     rw[<- hy]at hyc2
     have hcur:=hor0.cell (i:=k) (by rw[hol.out];omega)
     have hfr:=hor0.frozen k
     obtain⟨t,ht⟩:∃t,t=x+4294967296*y:=⟨_,rfl⟩
     have htb:t<18446744073709551616:=by omega
     have hor:bits .or .u64 ((y:Int)*4294967296) (x:Int)=(t:Int):=by
      have e:y*4294967296+x=t:=by omega
      rw[<- e,<-a6n hxb,<-u64_or_nat _ _ (by omega) (by omega)]
      simp
     obtain⟨p,hp2⟩:∃p,p=t/2^s%4294967296:=⟨_,rfl⟩
     have hpb:p<4294967296:=by rw[hp2];exact Nat.mod_lt _ (by decide)
     have hpp:(t:Int)/2^s%4294967296=(p:Int):=by rw[hp2];simp
     have H:=zh (c6d hzs (Nat.le_of_lt hs) (show k<outs.length by rw[hol.out];exact hlk) hv.out)
     have HPQ:Hid (p=(zs.getD k 0+4294967296*zs.getD (k+1) 0)/2^s%4294967296):=by show _=_;rw[hp2,ht,hx,hy]
     clear hx hy ht hp2
     go_wp2
     refine a4c 19 (by kernel_rfl) (by kernel_rfl) ?_
     simp only[List.take_succ_cons,List.take_zero,List.drop_succ_cons,List.drop_zero]
     repeat (go_big_quiet_step (fail))
     refine wpQuiet_nil ?_
     intro nq
     go_wp2
     refine⟨⟨k+1,outs.set k p,by omega,by go_num,by show _=_;rw[List.length_set];exact hol.out,a0m hos _ hpb,hor0.set_ k p,?_,hzr2.far (Nat.ne_of_lt hgz) _,hqr2.far (Nat.ne_of_lt hgq) _,(a0j hbw2 nq).setCell (Nat.le_of_lt hgz) _⟩,by simp[intOf];omega⟩
     show _=_
     rw[HPQ.out]
     exact H.out
    obtain rfl:n=k:=by omega
    have hvf:=hv.out
    rw[a0x (by rw[hol.out];exact Nat.le_refl _),F2.out]at hvf
    have HVF:=zh hvf
    have hQ:=fun W (h:Row W w3.heap.size qs)=>a5w _ qs W (h.limbsN hqs hql.out (by omega))
    have hO:=fun W (h:Row W wo.heap.size outs)=>a5w _ outs W (h.limbsN hos hol.out (by omega))
    rw[F1.out]at hQ
    rw[hvf]at hO
    have HQQ:=zh hQ
    have HOO:=zh hO
    clear hvf hQ hO
    go_wp2_with fail
    refine(HQQ.out _ hqr2).mono ?_
    rintro e w6 ⟨⟨v1,rfl,h1⟩,hw6⟩
    subst w6
    have H1:=zh h1
    clear h1
    go_wp2_with fail
    refine(HOO.out _ hor0).mono ?_
    rintro e w7 ⟨⟨v2,rfl,h2⟩,hw7⟩
    subst w7
    have H2:=zh h2
    clear h2
    go_wp2
    go_ret2
    exact⟨_,_,rfl,H1.out,H2.out,hbw2⟩
theorem b2j(va vb:Value)(a b:Nat)(w:World)(ha:Limbs w va (limbsOf a))(hb:Limbs w vb (limbsOf b))(hb0:0<b)(hsz:(limbsOf a).length<=137438953472) :
   Calls Tryz.prog 115 #[va,vb] w fun e w'=>∃v1 v2,e=.returned (.tuple #[v1,v2])/\Limbs w' v1 (limbsOf (a/b))/\Limbs w' v2 (limbsOf (a%b))/\Below w.heap.size w w':=by
 obtain⟨xs,hxs⟩:∃xs,xs=limbsOf a:=⟨_,rfl⟩
 obtain⟨ys,hys⟩:∃ys,ys=limbsOf b:=⟨_,rfl⟩
 have hax:a=lv xs:=by rw[hxs,a0k]
 have hby:b=lv ys:=by rw[hys,a0k]
 by_cases hab:a<b
 have hsg:sgn ((a:Int)-b)<0:=by rw[a1y (by omega)];decide
 have HA:=zh ha
 have HB:=zh hb
 have HAB:=zh hab
 clear ha hb hxs hys hax hby hab
 rotate_left
 have hsg:¬sgn ((a:Int)-b)<0:=by
   rcases Nat.lt_or_ge b a with h | h
   · rw[a2y (by omega)];decide
   rw[show(a:Int)-b=0 by omega,b1c];decide
 have hlen:ys.length<=xs.length:=by
   rcases Nat.lt_or_ge xs.length ys.length with h | h
   · rw[hxs,hys]at h;have:=a1j h;omega
   exact h
 have hy0:0<ys.length:=by
   rcases Nat.eq_zero_or_pos ys.length with h | h
   · rw[List.length_eq_zero_iff]at h;rw[h]at hby;rw[a2q]at hby;omega
   exact h
 have htop:0<ys.getD (ys.length-1) 0:=by
   have h1:=a8d b
   rw[<- hys]at h1
   rcases Nat.eq_zero_or_pos (ys.getD (ys.length-1) 0)with h | h
   · refine absurd ?_ h1
     rw[List.getLast?_eq_getElem?,List.getElem?_eq_getElem (by omega)]
     rw[List.getD_eq_getElem?_getD,List.getElem?_eq_getElem (by omega)]at h
     exact congrArg some h
   exact h
 have hsx:=ha.small
 have hsy:=hb.small
 rw[<- hxs]at ha hsx hsz
 rw[<- hys]at hb hsy
 by_cases hone:ys.length=1
 have hone':((ys.length:Int)==1)=true:=by rw[hone];rfl
 obtain⟨d,hd⟩:∃d,d=ys.getD 0 0:=⟨_,rfl⟩
 have hbd:b=d:=by
   match ys,hone with
   | [y],_=>rw[hby,hd];simp[a1w,a2q]
 obtain⟨B,cb,rfl,hcb,hcb'⟩:=hb.slice
 obtain⟨bb,ob,y0,rfl,hbb,hy,hyb,hyc⟩:=hb.at_ (j:=0) (by omega)
 rw[<- hd]at hy
 subst hy
 have hdp:0<y0:=by omega
 have HA:=zh ha
 have HB:=zh hb
 have HAX:=zh hax
 have HBD:=zh hbd
 have HN:=zh hone
 have HXS:=zh hxs
 have HYS:=zh hys
 have HYC:=zh hyc
 clear ha hb hax hby hbd hxs hys hone hyc htop hd hab
 rotate_left
 have hone':((ys.length:Int)==1)=false:=by rw[beq_eq_false_iff_ne];omega
 have HL:=fun W (h:Below w.heap.size w W)=>ref_long _ _ xs ys W (ha.below h) (hb.below h) (by omega) hlen htop (by omega)
 obtain⟨A,ca,rfl,hca,hca'⟩:=ha.slice
 obtain⟨B,cb,rfl,hcb,hcb'⟩:=hb.slice
 rw[<- hax,<-hby]at HL
 have HLL:=zh HL
 have HA:=zh ha
 have HB:=zh hb
 have HXS:=zh hxs
 have HYS:=zh hys
 clear HL ha hb hax hby hxs hys hone htop hab
 rotate_left
 all_goals
   go_enter Tryz.func115,Tryz.ntmps115
   go_wp2_with fail
 ·refine(b1g _ _ _ _ _ HA.out HB.out).mono ?_
  rintro e w1 ⟨rfl,hb1⟩
  go_wp2
  go_ret2
  refine⟨_,_,rfl,?_,?_,hb1⟩
  · rw[Nat.div_eq_of_lt HAB.out,a0u];exact Limbs.nil_ _ _ _ (by decide)
  rw[Nat.mod_eq_of_lt HAB.out];exact HA.out.below hb1
 all_goals
   refine(b1g _ _ a b _ (by rw[<- HXS.out];exact HA.out) (by rw[<- HYS.out];exact HB.out)).mono ?_
   rintro e w1 ⟨rfl,hb1⟩
 ·have hyc:=HYC.out w1 hb1
  rw[Nat.add_zero]at hyc
  go_wp2_with fail
  refine(c9z _ xs y0 _ (HA.out.below hb1) hdp hyb (by omega)).mono ?_
  rintro e w2 ⟨v2,rfl,h2,hb2⟩
  have hr:lv xs%y0<4294967296:=Nat.lt_of_lt_of_le (Nat.mod_lt _ hdp) (by omega)
  obtain⟨r,hr2⟩:∃r,r=lv xs%y0:=⟨_,rfl⟩
  rw[<- hr2]at hr
  rw[<- hr2]
  have HR:=zh hr2
  have H2:=zh h2
  clear hr2 h2
  go_wp2_with fail
  have hrow:Row (w2.alloc (Obj.cells #[Value.int IntKind.u32 ((r:Nat):Int)] 124)) w2.heap.size [r]:=by
    unfold Row
    rw[heap_alloc_new]
    simp
  refine(a5w _ [r] _ (hrow.limbsN (by rw[small_cons];exact⟨hr,a3m⟩) rfl (by show 1<=_;decide))).mono ?_
  rintro e w3 ⟨⟨v3,rfl,h3⟩,rfl⟩
  have hbw:=(Below.refl w2.heap.size w2).alloc (Nat.le_refl _) (Obj.cells #[Value.int IntKind.u32 ((r:Nat):Int)] 124)
  have H3:=zh h3
  clear h3
  go_wp2
  go_ret2
  refine⟨_,_,rfl,?_,?_,Ext.trans hb1 (Ext.trans hb2 hbw)⟩
  · rw[HAX.out,HBD.out];exact H2.out.below hbw
  have:=H3.out
  rw[a1w,a2q,Nat.mul_zero,Nat.add_zero]at this
  have hr':=HR.out
  rw[<- HAX.out,<-HBD.out]at hr'
  rw[<- hr']
  exact this
 go_wp2_with fail
 refine(HLL.out _ hb1).mono ?_
 rintro e w2 ⟨v1,v2,rfl,h1,h2,hb2⟩
 have H1:=zh h1
 have H2:=zh h2
 clear h1 h2
 go_wp2
 go_ret2
 exact⟨_,_,rfl,H1.out,H2.out,Ext.trans hb1 hb2⟩
theorem b8c(va vb:Value)(a b:Nat)(w:World)(ha:Limbs w va (limbsOf a))(hb:Limbs w vb (limbsOf b))(la:(limbsOf a).length<=137438953472)(lb:(limbsOf b).length<=137438953472) :
  Calls Tryz.prog 114 #[va,vb] w fun e w'=>∃v',e=.returned v'/\Limbs w' v' (limbsOf (Nat.gcd a b))/\Below w.heap.size w w':=by
 go_enter Tryz.func114,Tryz.ntmps114
 go_wp2
 go_loopw [0,1] (fun x y wr=>∃ (p q:Nat),Limbs wr x (limbsOf p)/\Limbs wr y (limbsOf q)/\(limbsOf p).length<=137438953472/\(limbsOf q).length<=137438953472/\Hid (Nat.gcd p q=Nat.gcd a b)/\Below w.heap.size w wr) (fun _ y wr=>c1g wr y)
 case atStart=>exact⟨a,b,ha,hb,la,lb,rfl,Below.refl _ _⟩
 case round =>
  obtain⟨p,q,hp,hq,lp,lq,hg,hbw⟩:=hrel
  obtain⟨B,cb,rfl,hcb,hcb'⟩:=hq.slice
  have HPP:=zh hp
  have HQQ:=zh hq
  clear hp hq ha hb
  by_cases h0:0<(limbsOf q).length
  ·have hq0:0<q:=by
    rcases Nat.eq_zero_or_pos q with h | h
    ·subst h;rw[a0u]at h0;simp at h0
    exact h
   have HQ0:=zh hq0
   clear hq0
   go_wp2_with fail
   refine(b2j _ _ p q _ HPP.out HQQ.out HQ0.out (by omega)).mono ?_
   rintro e w3 ⟨vq,vr,rfl,hq3,hr3,hb3⟩
   have HR3:=zh hr3
   clear hq3 hr3
   have lr:=a5q (Nat.mod_le p q) lp
   have hgg:Hid (Nat.gcd q (p%q)=Nat.gcd a b):=by
    show _=_
    rw[<- hg.out,Nat.gcd_comm p q,Nat.gcd_rec q p,Nat.gcd_comm]
   have hm:=Nat.mod_lt p HQ0.out
   go_wp2
   refine⟨⟨q,p%q,HQQ.out.below hb3,HR3.out,lq,lr,hgg,Ext.trans hbw hb3⟩,?_⟩
   have e1:=b4d HR3.out
   have e2:=b4d HQQ.out
   show c1g _ _<c1g _ _
   rw[e1,e2]
   exact hm
  have hq0:q=0:=by
   have:limbsOf q=[]:=by rw[<- List.length_eq_zero_iff];omega
   exact limbsOf_eq_nil.1 this
  subst hq0
  have hgp:=hg.out
  rw[Nat.gcd_zero_right]at hgp
  have HGP:=zh hgp
  clear hgp
  go_wp2
  go_ret
  exact⟨_,rfl,by rw[<- HGP.out];exact HPP.out,hbw⟩
theorem ref_GCD(s t:List UInt8)(w:World)(hs:s.length<=68719476736)(ht:t.length<=68719476736) :
  Calls Tryz.prog 103 #[.string (bs s),.string (bs t)] w fun e w'=>e=.returned (.string (bs (bytesOf (Nat.gcd (bv s) (bv t)))))/\Below w.heap.size w w':=by
 have ls:=a1c s
 have lt:=a1c t
 have hP:=fun W=>a2d (bs s) W (by rw[a2u];omega)
 have hQ:=fun W=>a2d (bs t) W (by rw[a2u];omega)
 rw[a3w]at hP hQ
 have HP:=zh hP
 have HQ:=zh hQ
 clear hP hQ
 generalize bv s=a at *
 generalize bv t=b at *
 have hg:(limbsOf (Nat.gcd a b)).length<=137438953472:=by
  rcases Nat.eq_zero_or_pos a with h | h
  ·subst h;rw[Nat.gcd_zero_left];omega
  exact a5q (Nat.le_of_dvd h (Nat.gcd_dvd_left a b)) (by omega)
 go_enter Tryz.func103,Tryz.ntmps103
 go_wp2_with fail
 refine(HP.out _).mono ?_
 rintro e w1 ⟨v1,rfl,h1,hb1⟩
 have H1:=zh h1
 clear h1
 go_wp2_with fail
 refine(HQ.out _).mono ?_
 rintro e w2 ⟨v2,rfl,h2,hb2⟩
 have H2:=zh h2
 clear h2
 go_wp2_with fail
 refine(b8c _ _ a b _ (H1.out.below hb2) H2.out (by omega) (by omega)).mono ?_
 rintro e w3 ⟨v3,rfl,h3,hb3⟩
 have H3:=zh h3
 clear h3
 go_wp2_with fail
 refine(b9p _ _ _ H3.out (by omega)).mono ?_
 rintro e w4 ⟨rfl,hb4⟩
 go_wp2
 go_ret
 exact⟨by rw[a0k];rfl,Ext.trans hb1 (Ext.trans hb2 (Ext.trans hb3 hb4))⟩
end Go.Proofs.YtjmiicjialkpiaaGreatDoor
