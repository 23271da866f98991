/-
Part 39 of the base.
-/
import Derived.Test.YtjmiicjialkpiaaGreatDoorRf35
import Derived.Test.YtjmiicjialkpiaaGreatDoorRf38
set_option maxRecDepth 100000
set_option maxHeartbeats 4000000
namespace Go.Proofs.YtjmiicjialkpiaaGreatDoor
open Go.RowKit
structure AppI(w0:World)(cl:List Nmd)(l:List Cls)(i:Nat)(C:CCo):Prop where
 full:Full w0 l C
 rk:Ranks cl l i C.R
 pr:∀x y,x<cl.length->y<cl.length->(C.P x y=true↔Rel cl l i x y)
 bf:∀x y,x<cl.length->y<cl.length->(C.B x y=true↔Way (Rel cl l i) x y)
 lim:Lim cl l i C.Sl C.fl
 nl:C.nl<=i
 circ:¬Circ cl l i
theorem b6s{cl:List Nmd}{l:List Cls}{i:Nat}{x:Cls}(hi:l[i]? =some x)(hk:x.kind≠2):Circ cl l (i+1)↔Circ cl l i:=by unfold Circ;rw[a7m hi hk]
theorem AppI.sub{w0:World}{cl:List Nmd}{l:List Cls}{i:Nat}{x:Cls}{C:CCo}{D:List Nat}{R':List Int}(h:AppI w0 cl l i C)(hi:l[i]? =some x)(k4:x.kind=4)(hD:∀k,k∈D↔Den cl l x.name k)(hR:RnkJ C.R D D.length R'):AppI w0 cl l (i+1) {C with R:=R'} :=
 ⟨⟨h.full.has,h.full.val⟩,h.rk.sub hi k4 hD hR,by rw[a7m hi (by omega)];exact h.pr,by rw[a7m hi (by omega)];exact h.bf,h.lim.skip hi (by omega),Nat.le_succ_of_le h.nl,fun hc=>h.circ ((b6s hi (by omega)).1 hc)⟩
theorem AppI.skip{w0:World}{cl:List Nmd}{l:List Cls}{i:Nat}{x:Cls}{C:CCo}(h:AppI w0 cl l i C)(hi:l[i]? =some x)(k2:x.kind≠2)(k3:x.kind≠3)(k4:x.kind≠4):AppI w0 cl l (i+1) C :=
 ⟨h.full,h.rk.skip hi k4,by rw[a7m hi k2];exact h.pr,by rw[a7m hi k2];exact h.bf,h.lim.skip hi k3,Nat.le_succ_of_le h.nl,fun hc=>h.circ ((b6s hi k2).1 hc)⟩
def AppR(w0:World)(cl:List Nmd)(l:List Cls)(A:CAd)(i:Nat)(x:Cls)(e:Ending)(w':World):Prop:=∃ (er:Int) (C':CCo),e=.returned (.int .i64 er)/\Cst w0 cl l A C' w'/\Err4 cl l i x er/\(er=0->AppI w0 cl l (i+1) C')
theorem b6m{w0:World}{cl:List Nmd}{l:List Cls}{A:CAd}{C:CCo}(i:Nat)(x:Cls)(u:Value)(w:World)(h:Cst w0 cl l A C w)(hI:AppI w0 cl l i C)(hi:l[i]? =some x)(hu:b0b w0 u x.list)(hlen:∀x∈allN l,x.length<=maxLen)(hbig:a6h l (fun _=>false)<=1000000)(hcl:cl.length<=1000)(k4:x.kind=4)(hs:x.name.length<=maxLen)(hne:∃k,Den cl l x.name k) :
  Calls Tryz.prog 21 #[.pointer (some ⟨A.g,0,none⟩),.agg #[.int .i64 4,.string (bs x.name),.string (bs x.other),u,.bool x.am.n,.string (bs x.am.a),.string (bs x.am.b),.int .i64 x.at_]] w (AppR w0 cl l A i x):=by
 have hdn:=fun W (hb:Below w.heap.size w W)=>a4b x.name W (h.below hb) hI.full hlen hbig hs hne hcl
 have hpr:=fun W (hb:Below w.heap.size w W)=>a6s x.name W (h.below hb) hI.full hlen hbig hs hne hcl
 have hmx:=@c9u Tryz.prog
 have hpos:0<cl.length:=by obtain⟨k,hk⟩:=hne;have:=b6f hk;omega
 obtain⟨gr,cr,hvr,hgr1,hgr2,_⟩:=h.formR hpos
 have hU:=h.under
 obtain⟨A5,c5,rfl,_,_⟩:=hu.slice
 obtain⟨g,v1,v2,mc,mk,ml,nc,vb,vp,vr,gsb,gsp,ex⟩:=A
 dsimp only at hvr hU
 subst hvr
 have HC:=zh h
 have HD:=zh (show ∀w',Below w.heap.size w w'->∀ (j:Nat) (v:Value),[v1,v2,.map (some mc),.map (some mk),vb,vp,.map (some ml),.slice (some ⟨gr,0,none⟩) cl.length cr][j]? =some v->w'.cell? ⟨g,j,none⟩=some v from fun w' hb=>Cst.rd (Cst.below h hb))
 have HI:=zh hI
 have HX:=zh hi
 have HDN:=zh hdn
 have HPR:=zh hpr
 have HK4:=zh k4
 have HNE:=zh hne
 have LN:=zh hcl
 clear h hI hi hu hlen hbig hs hne hcl hdn hpr k4 hU
 dsimp only at HDN HPR ⊢
 go_enter Tryz.func21,Tryz.ntmps21
 have HS:=zh (St.start w)
 go_wp2_with fail
 have HS2:=aL HS #[.int .i64 4,.string (bs x.name),.string (bs x.other),.slice A5 x.list.length c5,.bool x.am.n,.string (bs x.am.a),.string (bs x.am.b),.int .i64 x.at_] 51 w.heap.size
 refine(HPR.out _ HS2.out.below).mono ?_
 rintro e w3 ⟨q3,rfl,hq3,hb3⟩
 have HS3:=zh (HS2.out.call hb3)
 have HQ3:=zh hq3
 clear hq3 hb3 HS HS2
 go_upto_if 22 with fail
 cases q3
 ·have x1:=cC HS3 0 1
  go_wp2_with fail
  refine(HDN.out _ HS3.out.below).mono ?_
  rintro e w4 ⟨v4,D4,rfl,ho4,hd4,hb4⟩
  have HWB:=zh HS3.out.below.size
  have HS4:=zh (HS3.out.call hb4)
  have hpd:0<D4.length:=by obtain⟨k,hk⟩:=HNE.out;exact List.length_pos_of_mem ((hd4 k).2 hk)
  obtain⟨g6,c6,rfl,hg6,hg6b⟩:=World.ownsRow.form ho4 hpd
  have HO4:=zh ho4
  have HDD4:=zh hd4
  have L6:=zh (show D4.length<=9223372036854775807 from by obtain⟨_,_,hv6,h61,h62⟩:=(Slc.of_own a2h ho4 rfl).slice;exact Nat.le_trans h61 h62)
  clear ho4 hd4 hpd hb4 HS3 x1
  go_wp2
  have HST:Hid (St w0 [] w4):=zh ((HC.out.below HS4.out.below).st.sub (List.nil_sublist _))
  go_loopw [28] (fun k_ wr=>∃ (k:Nat) (R2:List Int),k<=D4.length/\k_=.int .i64 k/\Hid (RnkJ C.R D4 k R2)/\Hid (Cst w0 cl l ⟨g,v1,v2,mc,mk,ml,nc,vb,vp,.slice (some ⟨gr,0,none⟩) cl.length cr,gsb,gsp,ex⟩ {C with R:=R2} wr)/\Hid (Kp w.heap.size w4 wr)) (fun k_ _=>D4.length-(intOf k_).toNat)
  case atStart=>exact⟨0,C.R,Nat.zero_le _,rfl,RnkJ.start _ _,HC.out.below HS4.out.below,Kp.refl _ _⟩
  case round =>
   clear HD HST
   have HB2:=zh HS4.out.below
   clear HS4
   obtain⟨k,R2,hk,rfl,HJ,HC2,HK⟩:=hrel
   have HS:Hid (St w0 [] wr):=zh (HC2.out.st.sub (List.nil_sublist _))
   have hD2:=(show ∀w',Below wr.heap.size wr w'->∀ (j:Nat) (v:Value),[v1,v2,.map (some mc),.map (some mk),vb,vp,.map (some ml),.slice (some ⟨gr,0,none⟩) cl.length cr][j]? =some v->w'.cell? ⟨g,j,none⟩=some v from fun w' hb=>Cst.rd (Cst.below HC2.out hb))
   have HD:=zh hD2
   clear hD2
   by_cases hkd:k<D4.length
   ·obtain⟨i7,hi7⟩:∃i,D4[k]? =some i:=⟨_,List.getElem?_eq_getElem hkd⟩
    have hil:i7<cl.length:=b6f ((HDD4.out i7).1 (List.mem_of_getElem? hi7))
    have hrl:R2.length=cl.length:=HC2.out.lenR
    obtain⟨a,ha⟩:∃a,R2[i7]? =some a:=⟨_,List.getElem?_eq_getElem (by omega)⟩
    have hoD:=HK.out.own HWB.out HO4.out
    have HE:=zh (a2z (show wr.cell? ⟨g6,k,none⟩=some (.int .i64 (i7:Nat)) by rw[World.ownsRow.cellAt hoD k (by omega)];have:=a4a a2h D4 k i7 hi7 0 _ rfl;rwa[Nat.mul_one,Nat.add_zero]at this) (World.ownsRow.lt hoD g6 rfl).2)
    have hor:=HC2.out.or_
    dsimp only at hor
    have hgr9:=(World.ownsRow.lt hor gr rfl).2
    have HRC:=zh (a2z (show wr.cell? ⟨gr,i7,none⟩=some (.int .i64 a) by rw[World.ownsRow.cellAt hor i7 (by omega),List.getElem?_map,ha];rfl) hgr9)
    have HRA:=zh ha
    have HI7:=zh hi7
    have e1:(0:Int)<=((k:Nat):Int):=by omega
    have e2:((k:Nat):Int)<(D4.length:Int):=by omega
    have e3:decide (((k:Nat):Int)<(D4.length:Int))=true:=decide_eq_true e2
    have i5:IntKind.i64.wrap ((k:Int)+1)=((k+1:Nat):Int):=by have:=L6.out;rw[IntWalk.i64_in _ (by omega)];rfl
    have m1:(0:Int)<=((i7:Nat):Int):=by omega
    have m2:((i7:Nat):Int)<(cl.length:Int):=by omega
    clear ha hi7 hoD hor hrl
    have x2:=HE.out _ (Below.refl _ _) 0 _ rfl
    rw[Nat.add_zero]at x2
    go_wp2
    clear x2
    refine a0e 14 [.pointer (some ⟨g,0,none⟩),.pointer (some ⟨g,0,none⟩),.pointer (some ⟨g,7,none⟩),.slice (some ⟨gr,0,none⟩) cl.length cr,.int .i64 (i7:Nat),.pointer (some ⟨g,0,none⟩),.pointer (some ⟨g,0,none⟩),.pointer (some ⟨g,7,none⟩),.slice (some ⟨gr,0,none⟩) cl.length cr,.int .i64 (i7:Nat),.pointer (some ⟨gr,i7,none⟩),.int .i64 a,.int .i64 (max a 4),.pointer (some ⟨gr,i7,none⟩)] rfl (by kernel_rfl) (by kernel_rfl) (by kernel_rfl) ?_ ?_
    refine⟨?_,?_,?_,?_,?_,?_,?_,?_,?_,?_,?_,?_,?_,?_,trivial⟩<;>(intro xx af wv hbx hev hev0 hd;have H:=SH.mk hev hev0 hd;clear hev hev0 hd)
    ·have e0:=H.i 0;clear H;go_wp2;exact sQ rfl
    ·have e32:=H.r 0 32;clear H;go_wp2;exact sQ rfl
    ·have e33:=H.r 1 33;clear H;go_wp2;exact sQ rfl
    ·have e34:=H.r 2 34;clear H;have hs1:=zh (HS.out.call hbx);have y0:=HD.out _ hbx 7 _ rfl;go_wp2;exact sQ rfl
    ·have e6:=H.i 6;clear H;go_wp2;exact sQ rfl
    ·have e0:=H.i 0;clear H;go_wp2;exact sQ rfl
    ·have e37:=H.r 5 37;clear H;go_wp2;exact sQ rfl
    ·have e38:=H.r 6 38;clear H;go_wp2;exact sQ rfl
    ·have e39:=H.r 7 39;clear H;have hs1:=zh (HS.out.call hbx);have y0:=HD.out _ hbx 7 _ rfl;go_wp2;exact sQ rfl
    ·have e6:=H.i 6;clear H;go_wp2;exact sQ rfl
    ·have e40:=H.r 8 40;have e41:=H.r 9 41;clear H;go_wp2;exact sQ rfl
    ·have e42:=H.r 10 42;clear H;have hs1:=zh (HS.out.call hbx);have y0:=HRC.out _ hbx 0 _ rfl;rw[Nat.add_zero]at y0;go_wp2;exact sQ rfl
    ·have e43:=H.r 11 43;clear H;go_wp2;exact sQ rfl
    ·have e35:=H.r 3 35;have e36:=H.r 4 36;clear H;go_wp2;exact sQ rfl
    intro xx w5 hb9 hv
    have HB29:=zh hb9
    simp only[List.take,List.drop,a0h,Act.put]
    simp only[vQ hv 0,vQ hv 1,vQ hv 2,vQ hv 3,vQ hv 4,vQ hv 5,vQ hv 6,vQ hv 7,vQ hv 8,vQ hv 9,vQ hv 10,vQ hv 11,vQ hv 12,vQ hv 13]
    clear hv
    have HS5:=zh (HS.out.call hb9)
    clear hb9 HS
    have hC9:=HC2.out.below HB29.out
    have hor:=hC9.or_
    dsimp only at hor
    have y1:=World.ownsRow.frozenAt hor i7
    have y2:w5.cell? ⟨gr,i7,none⟩=some (.int .i64 a):=by rw[World.ownsRow.cellAt hor i7 (by have:=hC9.lenR;omega),List.getElem?_map,HRA.out];rfl
    have HC9:=zh (hC9.setR rfl (max a 4) (i:=i7))
    have HK9:=zh ((HK.out.trans (Kp.below HB29.out)).set (o:=i7) hgr2 (.int .i64 (max a 4)))
    clear hC9 hor
    go_wp2
    go_roundw
    case rel=>exact⟨k+1,R2.set i7 (max a 4),by omega,by go_num,HJ.out.step HI7.out HRA.out,HC9.out,HK9.out⟩
    case measure=>simp[intOf];omega
   have hke:k=D4.length:=by omega
   rw[hke]at HJ ⊢
   have e3:decide (((D4.length:Nat):Int)<(D4.length:Int))=false:=decide_eq_false (by omega)
   clear hke hk hkd
   go_wp2
   go_ret
   exact⟨0,_,rfl,HC2.out,er4_sub0 HK4.out (fun hst=>by have:=HQ3.out.2 hst;cases this),fun _=>HI.out.sub HX.out HK4.out HDD4.out HJ.out⟩
 go_wp2
 go_ret
 exact⟨18,C,rfl,HC.out.below HS3.out.below,er4_sub1 HK4.out (HQ3.out.1 (by simp)),fun h=>absurd h (by decide)⟩
theorem b6q{w0:World}{cl:List Nmd}{l:List Cls}{A:CAd}{C:CCo}(i:Nat)(x:Cls)(u:Value)(w:World)(h:Cst w0 cl l A C w)(hI:AppI w0 cl l i C)(hi:l[i]? =some x)(hu:b0b w0 u x.list)(k2:x.kind≠2)(k3:x.kind≠3)(k4:x.kind≠4) :
  Calls Tryz.prog 21 #[.pointer (some ⟨A.g,0,none⟩),.agg #[.int .i64 x.kind,.string (bs x.name),.string (bs x.other),u,.bool x.am.n,.string (bs x.am.a),.string (bs x.am.b),.int .i64 x.at_]] w (AppR w0 cl l A i x):=by
 obtain⟨A5,c5,rfl,_,_⟩:=hu.slice
 have HC:=zh h
 have R:=zh (er4_no (cl:=cl) (l:=l) (i:=i) k2 k3 k4)
 have HI:=zh (hI.skip hi k2 k3 k4)
 obtain⟨k,hk⟩:∃k,k=x.kind:=⟨_,rfl⟩
 rw[<- hk]at k2 k3 k4 ⊢
 have d2:(k==2)=false:=beq_eq_false_iff_ne.2 k2
 have d3:(k==3)=false:=beq_eq_false_iff_ne.2 k3
 have d4:(k==4)=false:=beq_eq_false_iff_ne.2 k4
 have f2:¬k=2:=k2
 have f3:¬k=3:=k3
 have f4:¬k=4:=k4
 obtain⟨g,v1,v2,mc,mk,ml,nc,vb,vp,vr,gsb,gsp,ex⟩:=A
 clear h hI hi hu hk k2 k3 k4
 dsimp only
 go_enter Tryz.func21,Tryz.ntmps21
 have HS:=zh (St.start w)
 go_wp2
 have HS2:=aL HS #[.int .i64 k,.string (bs x.name),.string (bs x.other),.slice A5 x.list.length c5,.bool x.am.n,.string (bs x.am.a),.string (bs x.am.b),.int .i64 x.at_] 51 w.heap.size
 go_ret
 exact⟨0,C,rfl,HC.out.below HS2.out.below,R.out,fun _=>HI.out⟩
theorem St.one{w0 w:World}{g:Nat}{cs:Array Value}{t:TypeId}(hb:Below w0.heap.size w0 w)(hB:Blk w g cs t)(hg:w0.heap.size<=g):St w0 [⟨g,cs,t⟩] w :=
 ⟨hb,fun r hr=>by rw[List.mem_singleton.1 hr];exact⟨hB,hg⟩,List.pairwise_singleton _ _⟩
def rowR(cl:List Nmd)(l:List Cls)(o:List UInt8)(r:Nat->Nat->Prop)(D:List Nat)(p x y:Nat):Prop:=r x y\/∃i,i<p/\D[i]? =some x/\Den cl l o y
theorem c4b{cl:List Nmd}{l:List Cls}{o:List UInt8}{r:Nat->Nat->Prop}{D E:List Nat}(hE:∀i,i∈E↔Den cl l o i)(p:Nat):prsR r D E p 0=rowR cl l o r D p:=by
 funext x y
 refine propext (or_congr Iff.rfl ⟨?_,?_⟩)
 ·rintro⟨i,j,h1,h2,h3⟩
  exact⟨i,by omega,h1,(hE y).1 (List.mem_of_getElem? h2)⟩
 rintro⟨i,h1,h2,h3⟩
 obtain⟨j,hj⟩:=List.mem_iff_getElem?.1 ((hE y).2 h3)
 exact⟨i,j,h2,hj,.inl h1⟩
theorem c9w{cl:List Nmd}{l:List Cls}{o:List UInt8}{r:Nat->Nat->Prop}{D:List Nat}:rowR cl l o r D 0=r:=by
 funext x y
 exact propext ⟨fun h=>h.elim id fun⟨i,h,_⟩=>absurd h (Nat.not_lt_zero _),.inl⟩
theorem row_all{cl:List Nmd}{l:List Cls}{k:Nat}{c:Cls}{D:List Nat}(hc:l[k]? =some c)(hk:c.kind=2)(hD:∀i,i∈D↔Den cl l c.name i):rowR cl l c.other (Rel cl l k) D D.length=Rel cl l (k+1):=by
 classical
 have hE:∀i,i∈(List.range cl.length).filter (fun i=>decide (Den cl l c.other i))↔Den cl l c.other i:=fun i=>by
  rw[List.mem_filter,List.mem_range,decide_eq_true_eq]
  exact⟨fun h=>h.2,fun h=>⟨b6f h,h⟩⟩
 rw[<- c4b hE,prs_all hc hk hD hE]
structure BefI(n:Nat)(r:Nat->Nat->Prop)(B P:Nat->Nat->Bool)(cq:Bool):Prop where
 pr:∀x y,x<n->y<n->(P x y=true↔r x y)
 bf:∀x y,x<n->y<n->(B x y=true↔Way r x y)
 cq:cq=true↔∃x,Way r x x
theorem BefI.step{n a b:Nat}{r:Nat->Nat->Prop}{B B' P:Nat->Nat->Bool}{cq q:Bool}(h:BefI n r B P cq)(hB:∀x y,x<n->y<n->(B' x y=true↔Way (addR r a b) x y))(hq:q=true↔Way (addR r a b) a a\/a=b):BefI n (addR r a b) B' (putM P a b true) (cq||q):=by
 refine⟨fun x y hx hy=>?_,hB,?_⟩
 ·unfold putM addR
  by_cases hxy:x=a/\y=b
  ·rw[if_pos hxy];exact⟨fun _=>.inr hxy,fun _=>rfl⟩
  rw[if_neg hxy,h.pr x y hx hy];exact⟨.inl,fun h=>h.elim id fun h=>absurd h hxy⟩
 rw[Bool.or_eq_true,h.cq,hq,c5q]
theorem BefI.start{w0:World}{cl:List Nmd}{l:List Cls}{i:Nat}{C:CCo}(h:AppI w0 cl l i C):BefI cl.length (Rel cl l i) C.B C.P false:=⟨h.pr,h.bf,⟨fun h=>(by cases h),fun hc=>absurd hc h.circ⟩⟩
theorem AppI.bef{w0:World}{cl:List Nmd}{l:List Cls}{i:Nat}{x:Cls}{C:CCo}{B P:Nat->Nat->Bool}(h:AppI w0 cl l i C)(hi:l[i]? =some x)(k2:x.kind=2)(hR:BefI cl.length (Rel cl l (i+1)) B P false):AppI w0 cl l (i+1) {C with B:=B,P:=P} :=
 ⟨⟨h.full.has,h.full.val⟩,h.rk.skip hi (by omega),hR.pr,hR.bf,h.lim.skip hi (by omega),Nat.le_succ_of_le h.nl,fun hc=>by have:=hR.cq.2 hc;cases this⟩
theorem b6p{w0:World}{cl:List Nmd}{l:List Cls}{A:CAd}{C:CCo}(i:Nat)(x:Cls)(u:Value)(w:World)(h:Cst w0 cl l A C w)(hI:AppI w0 cl l i C)(hi:l[i]? =some x)(hu:b0b w0 u x.list)(hlen:∀x∈allN l,x.length<=maxLen)(hbig:a6h l (fun _=>false)<=1000000)(hcl:cl.length<=1000)(k2:x.kind=2)(hs:x.name.length<=maxLen)(hs2:x.other.length<=maxLen)(hne:∃k,Den cl l x.name k)(hne2:∃k,Den cl l x.other k) :
  Calls Tryz.prog 21 #[.pointer (some ⟨A.g,0,none⟩),.agg #[.int .i64 2,.string (bs x.name),.string (bs x.other),u,.bool x.am.n,.string (bs x.am.a),.string (bs x.am.b),.int .i64 x.at_]] w (AppR w0 cl l A i x):=by
 have hdn:=fun W (hb:Below w.heap.size w W)=>a4b x.name W (h.below hb) hI.full hlen hbig hs hne hcl
 have hdo:=fun B P W (hc:Cst w0 cl l A {C with B:=B,P:=P} W)=>a4b x.other W hc ⟨hI.full.has,hI.full.val⟩ hlen hbig hs2 hne2 hcl
 have hpr:=fun W (hb:Below w.heap.size w W)=>a6s x.other W (h.below hb) hI.full hlen hbig hs2 hne2 hcl
 have hU:=h.under
 have hcn:=fun r a b B P W (hc:Cst w0 cl l A {C with B:=B,P:=P} W) ha hb hB=>b4b r a b w.heap.size W hc ha hb hB hcl hU
 obtain⟨A5,c5,rfl,_,_⟩:=hu.slice
 obtain⟨g,v1,v2,mc,mk,ml,nc,vb,vp,vr,gsb,gsp,ex⟩:=A
 have HC:=zh h
 have HI:=zh hI
 have HX:=zh hi
 have HDN:=zh hdn
 have HDO:=zh hdo
 have HPR:=zh hpr
 have HCN:=zh hcn
 have HK2:=zh k2
 have HNE:=zh hne
 have HNE2:=zh hne2
 have LN:=zh hcl
 clear h hI hi hu hlen hbig hs hs2 hne hne2 hcl hdn hdo hpr hcn k2 hU
 dsimp only at HDN HDO HPR HCN ⊢
 go_enter Tryz.func21,Tryz.ntmps21
 have HS:=zh (St.start w)
 go_wp2_with fail
 have HS2:=aL HS #[.int .i64 2,.string (bs x.name),.string (bs x.other),.slice A5 x.list.length c5,.bool x.am.n,.string (bs x.am.a),.string (bs x.am.b),.int .i64 x.at_] 51 w.heap.size
 refine(HPR.out _ HS2.out.below).mono ?_
 rintro e w3 ⟨q3,rfl,hq3,hb3⟩
 have HS3:=zh (HS2.out.call hb3)
 have HQ3:=zh hq3
 clear hq3 hb3 HS HS2
 go_upto_if 52 with fail
 cases q3
 ·have x1:=cC HS3 0 1
  go_wp2_with fail
  refine(HDN.out _ HS3.out.below).mono ?_
  rintro e w4 ⟨v4,D4,rfl,ho4,hd4,hb4⟩
  have HWB:=zh HS3.out.below.size
  have HS4:=zh (HS3.out.call hb4)
  have hpd:0<D4.length:=by obtain⟨k,hk⟩:=HNE.out;exact List.length_pos_of_mem ((hd4 k).2 hk)
  obtain⟨g6,c6,rfl,hg6,hg6b⟩:=World.ownsRow.form ho4 hpd
  have HO4:=zh ho4
  have HDD4:=zh hd4
  have L6:=zh (show D4.length<=9223372036854775807 from by obtain⟨_,_,hv6,h61,h62⟩:=(Slc.of_own a2h ho4 rfl).slice;exact Nat.le_trans h61 h62)
  clear ho4 hd4 hpd hb4 HS3 x1
  go_wp2
  have HBX:Hid (Blk w4 w.heap.size #[.int .i64 2,.string (bs x.name),.string (bs x.other),.slice A5 x.list.length c5,.bool x.am.n,.string (bs x.am.a),.string (bs x.am.b),.int .i64 x.at_] 51):=zh (HS4.out.blk 0 rfl)
  have HWS:=zh HC.out.size
  go_loopw [7,58] (fun c_ k_ wr=>∃ (k:Nat) (B P:Nat->Nat->Bool) (cq:Bool),k<=D4.length/\c_=.bool cq/\k_=.int .i64 k/\Hid (BefI cl.length (rowR cl l x.other (Rel cl l i) D4 k) B P cq)/\Hid (Cst w0 cl l ⟨g,v1,v2,mc,mk,ml,nc,vb,vp,vr,gsb,gsp,ex⟩ {C with B:=B,P:=P} wr)/\Hid (Kp w.heap.size w4 wr)) (fun _ k_ _=>D4.length-(intOf k_).toNat)
  case atStart=>exact⟨0,C.B,C.P,false,Nat.zero_le _,rfl,rfl,by rw[c9w];exact BefI.start HI.out,HC.out.below HS4.out.below,Kp.refl _ _⟩
  case round =>
   have HB2:=zh HS4.out.below
   clear HS4
   obtain⟨k,B,P,cq,hk,rfl,rfl,HJ,HC2,HK⟩:=hrel
   have HS:Hid (St w0 [⟨w.heap.size,#[.int .i64 2,.string (bs x.name),.string (bs x.other),.slice A5 x.list.length c5,.bool x.am.n,.string (bs x.am.a),.string (bs x.am.b),.int .i64 x.at_],51⟩] wr):=zh (St.one HC2.out.st.below (HK.out _ _ _ (Nat.le_refl _) HBX.out) HWS.out)
   by_cases hkd:k<D4.length
   ·obtain⟨a,ha⟩:∃i,D4[k]? =some i:=⟨_,List.getElem?_eq_getElem hkd⟩
    have hal:a<cl.length:=b6f ((HDD4.out a).1 (List.mem_of_getElem? ha))
    have hoD:=HK.out.own HWB.out HO4.out
    have HE:=zh (a2z (show wr.cell? ⟨g6,k,none⟩=some (.int .i64 (a:Nat)) by rw[World.ownsRow.cellAt hoD k (by omega)];have:=a4a a2h D4 k a ha 0 _ rfl;rwa[Nat.mul_one,Nat.add_zero]at this) (World.ownsRow.lt hoD g6 rfl).2)
    have HA:=zh ha
    have HAL:=zh hal
    have e1:(0:Int)<=((k:Nat):Int):=by omega
    have e2:((k:Nat):Int)<(D4.length:Int):=by omega
    have e3:decide (((k:Nat):Int)<(D4.length:Int))=true:=decide_eq_true e2
    have i5:IntKind.i64.wrap ((k:Int)+1)=((k+1:Nat):Int):=by have:=L6.out;rw[IntWalk.i64_in _ (by omega)];rfl
    clear ha hoD hal
    have x2:=cC HS 0 2
    have x3:=HE.out _ (Below.refl _ _) 0 _ rfl
    rw[Nat.add_zero]at x3
    go_wp2_with fail
    refine(HDO.out B P _ HC2.out).mono ?_
    rintro e w5 ⟨v5,D5,rfl,ho5,hd5,hb5⟩
    have HB8:=zh hb5
    have HS5:=zh (HS.out.call hb5)
    have hpd:0<D5.length:=by obtain⟨k,hk⟩:=HNE2.out;exact List.length_pos_of_mem ((hd5 k).2 hk)
    obtain⟨g7,c7,rfl,hg7,hg7b⟩:=World.ownsRow.form ho5 hpd
    have HO5:=zh ho5
    have HDD5:=zh hd5
    have L7:=zh (show D5.length<=9223372036854775807 from by obtain⟨_,_,hv6,h61,h62⟩:=(Slc.of_own a2h ho5 rfl).slice;exact Nat.le_trans h61 h62)
    clear ho5 hd5 hpd
    have C_5:=zh (HC2.out.below hb5)
    clear HC2 hb5 HS x2 x3
    go_wp2
    have HKW:=zh (HK.out.trans (Kp.below HB8.out))
    skip
    have HBX3:Hid (Blk w5 w.heap.size #[.int .i64 2,.string (bs x.name),.string (bs x.other),.slice A5 x.list.length c5,.bool x.am.n,.string (bs x.am.a),.string (bs x.am.b),.int .i64 x.at_] 51):=zh (HS5.out.blk 0 rfl)
    have HSZ:=zh (Nat.le_of_lt (show w.heap.size<wr.heap.size from(HK.out _ _ _ (Nat.le_refl _) HBX.out).lt))
    go_loopw [7,67] (fun c_ k_ wr=>∃ (q:Nat) (B P:Nat->Nat->Bool) (cq:Bool),q<=D5.length/\c_=.bool cq/\k_=.int .i64 q/\Hid (BefI cl.length (prsR (Rel cl l i) D4 D5 k q) B P cq)/\Hid (Cst w0 cl l ⟨g,v1,v2,mc,mk,ml,nc,vb,vp,vr,gsb,gsp,ex⟩ {C with B:=B,P:=P} wr)/\Hid (Kp w.heap.size w5 wr)) (fun _ k_ _=>D5.length-(intOf k_).toNat)
    case atStart=>exact⟨0,B,P,cq,Nat.zero_le _,rfl,rfl,by rw[c4b HDD5.out];exact HJ.out,C_5.out,Kp.refl _ _⟩
    case round =>
     clear HS5 C_5 HJ HE
     obtain⟨q,B2,P2,cq2,hq,rfl,rfl,HJ,HC2,HKE⟩:=hrel
     have HS:Hid (St w0 [⟨w.heap.size,#[.int .i64 2,.string (bs x.name),.string (bs x.other),.slice A5 x.list.length c5,.bool x.am.n,.string (bs x.am.a),.string (bs x.am.b),.int .i64 x.at_],51⟩] wr):=zh (St.one HC2.out.st.below (HKE.out _ _ _ (Nat.le_refl _) HBX3.out) HWS.out)
     by_cases hqe:q<D5.length
     ·obtain⟨b,hb⟩:∃i,D5[q]? =some i:=⟨_,List.getElem?_eq_getElem hqe⟩
      have hbl:b<cl.length:=b6f ((HDD5.out b).1 (List.mem_of_getElem? hb))
      have hoE:=HKE.out.own HSZ.out HO5.out
      have HE:=zh (a2z (show wr.cell? ⟨g7,q,none⟩=some (.int .i64 (b:Nat)) by rw[World.ownsRow.cellAt hoE q (by omega)];have:=a4a a2h D5 q b hb 0 _ rfl;rwa[Nat.mul_one,Nat.add_zero]at this) (World.ownsRow.lt hoE g7 rfl).2)
      have HB:=zh hb
      have HBL:=zh hbl
      have f1:(0:Int)<=((q:Nat):Int):=by omega
      have f2:((q:Nat):Int)<(D5.length:Int):=by omega
      have f3:decide (((q:Nat):Int)<(D5.length:Int))=true:=decide_eq_true f2
      have i6:IntKind.i64.wrap ((q:Int)+1)=((q+1:Nat):Int):=by have:=L7.out;rw[IntWalk.i64_in _ (by omega)];rfl
      clear hb hoE hbl
      have x4:=HE.out _ (Below.refl _ _) 0 _ rfl
      rw[Nat.add_zero]at x4
      go_wp2_with fail
      refine(HCN.out (prsR (Rel cl l i) D4 D5 k q) a b B2 P2 _ HC2.out HAL.out HBL.out HJ.out.bf).mono ?_
      rintro e w6 ⟨q6,B6,rfl,hc6,hw6,hq6,hk6⟩
      have hst6:St w0 [⟨w.heap.size,#[.int .i64 2,.string (bs x.name),.string (bs x.other),.slice A5 x.list.length c5,.bool x.am.n,.string (bs x.am.a),.string (bs x.am.b),.int .i64 x.at_],51⟩] w6:=St.one hc6.st.below (hk6 _ _ _ (Nat.le_refl _) (HKE.out _ _ _ (Nat.le_refl _) HBX3.out)) HWS.out
      have HS6:Hid (St w0 [⟨w.heap.size,#[.int .i64 2,.string (bs x.name),.string (bs x.other),.slice A5 x.list.length c5,.bool x.am.n,.string (bs x.am.a),.string (bs x.am.b),.int .i64 x.at_],51⟩] w6):=zh hst6
      clear hst6 HS
      have HC6:=zh hc6
      have HJ6:=zh (HJ.out.step hw6 hq6)
      have HK6:=zh (HKE.out.trans hk6)
      clear hc6 hw6 hq6 hk6 x4
      go_upto_if 74 with fail
      cases q6
      ·go_wp2
       go_roundw
       case rel=>exact⟨q+1,B6,_,cq2,by omega,rfl,by go_num,(by have h9:=HJ6.out;rw[c6n HA.out HB.out]at h9;rw[Bool.or_false]at h9;exact h9),HC6.out,HK6.out⟩
       case measure=>simp[intOf];omega
      go_wp2
      go_roundw
      case rel=>exact⟨q+1,B6,_,true,by omega,rfl,by go_num,(by have h9:=HJ6.out;rw[c6n HA.out HB.out]at h9;rw[Bool.or_true]at h9;exact h9),HC6.out,HK6.out⟩
      case measure=>simp[intOf];omega
     have hqe2:q=D5.length:=by omega
     rw[hqe2]at HJ ⊢
     have f3:decide (((D5.length:Nat):Int)<(D5.length:Int))=false:=decide_eq_false (by omega)
     clear hqe2 hq hqe
     go_wp2
     go_roundw
     case rel=>exact⟨k+1,B2,P2,cq2,by omega,rfl,by go_num,(by have h9:=HJ.out;rw[prs_row,c4b HDD5.out]at h9;exact h9),HC2.out,HKW.out.trans HKE.out⟩
     case measure=>simp[intOf];omega
   have hke:k=D4.length:=by omega
   have e3:decide (((D4.length:Nat):Int)<(D4.length:Int))=false:=decide_eq_false (by omega)
   have HJ9:=HJ.out
   rw[hke,row_all HX.out HK2.out HDD4.out]at HJ9
   rw[hke]
   have HJF:=zh HJ9
   clear HJ HJ9 hke hk hkd
   cases cq
   ·go_wp2
    go_ret
    exact⟨0,_,rfl,HC2.out,er4_bef0 HK2.out (fun hst=>by have:=HQ3.out.2 hst;cases this) (fun hc=>by have:=HJF.out.cq.2 hc;cases this),fun _=>HI.out.bef HX.out HK2.out HJF.out⟩
   go_wp2
   go_ret
   exact⟨17,_,rfl,HC2.out,er4_bef2 HK2.out (fun hst=>by have:=HQ3.out.2 hst;cases this) (HJF.out.cq.1 rfl),fun h=>absurd h (by decide)⟩
 go_wp2
 go_ret
 exact⟨18,C,rfl,HC.out.below HS3.out.below,er4_bef1 HK2.out (HQ3.out.1 (by simp)),fun h=>absurd h (by decide)⟩
theorem d2p:decR false [] []=0:=by decide +kernel
theorem AppI.lim3{w0:World}{cl:List Nmd}{l:List Cls}{i i7:Nat}{x:Cls}{C:CCo}(h:AppI w0 cl l i C)(hi:l[i]? =some x)(k3:x.kind=3)(hc:a0g cl x.name=some i7)(hs:C.Sl (i7:Int)=false) :
  AppI w0 cl l (i+1) {C with nl:=C.nl+1,Sl:=putK C.Sl (i7:Int),fl:=putV C.fl (i7:Int) (.agg #[.bool (enc3 x.am.val).n,.string (bs (enc3 x.am.val).a),.string (bs (enc3 x.am.val).b)])} :=
 ⟨⟨h.full.has,h.full.val⟩,h.rk.skip hi (by omega),by rw[a7m hi (by omega)];exact h.pr,by rw[a7m hi (by omega)];exact h.bf,h.lim.put hi k3 hc hs,Nat.succ_le_succ h.nl,fun hc=>h.circ ((b6s hi (by omega)).1 hc)⟩
theorem Lim.val{cl:List Nmd}{l:List Cls}{k i:Nat}{S:Int->Bool}{f:Int->Value}(h:Lim cl l k S f)(hs:S (i:Int)=true):∃y:Raw3,f (i:Int)=.agg #[.bool y.n,.string (bs y.a),.string (bs y.b)]:=by
 obtain⟨i',j,x,h1,h2,h3,h4,h5⟩:=(h.1 _).1 hs
 obtain rfl:i=i':=by omega
 exact⟨_,h.2 i j x h2 h3 h4 h5⟩
theorem d1k{n:Nat}(h:n<=1000000):(Lit.int .i64 (n:Int)).wf=true:=by
 have h1:IntKind.i64.min = -9223372036854775808:=by decide
 have h2:IntKind.i64.max=9223372036854775807:=by decide
 show(decide (IntKind.i64.min<=(n:Int))&&decide ((n:Int)<=IntKind.i64.max))=true
 rw[h1,h2,Bool.and_eq_true,decide_eq_true_eq,decide_eq_true_eq]
 omega
theorem b6n{w0:World}{cl:List Nmd}{l:List Cls}{A:CAd}{C:CCo}(i:Nat)(x:Cls)(u:Value)(w:World)(h:Cst w0 cl l A C w)(hI:AppI w0 cl l i C)(hi:l[i]? =some x)(hu:b0b w0 u x.list)(hcl:cl.length<=1000)(k3:x.kind=3)(hs:x.name.length<=maxLen)(hne:∃k,a0g cl x.name=some k)(hfit:x.am.a.length<=17179869184/\x.am.b.length<=17179869184)(hl:i<=1000000) :
  Calls Tryz.prog 21 #[.pointer (some ⟨A.g,0,none⟩),.agg #[.int .i64 3,.string (bs x.name),.string (bs x.other),u,.bool x.am.n,.string (bs x.am.a),.string (bs x.am.b),.int .i64 x.at_]] w (AppR w0 cl l A i x):=by
 obtain⟨i7,h7⟩:=hne
 have dS:=fun W=>a7p x.am.n x.am.a x.am.b W (by omega) (by omega)
 change ∀W,Calls Tryz.prog _ _ W (fun e w'=>e=.returned (.int .i64 (sgn x.am.val.num))/\_)at dS
 have dA:=fun W=>c2h x.am.n x.am.a x.am.b false [] [] W hfit.1 hfit.2 (by simp) (by simp)
 simp only[d2p,Rat.add_zero]at dA
 change ∀W,Calls Tryz.prog _ _ W (fun e w'=>e=.returned (.agg #[.bool (enc3 x.am.val).n,.string (bs (enc3 x.am.val).a),.string (bs (enc3 x.am.val).b)])/\_)at dA
 have hput:=fun hs=>hI.lim3 hi k3 h7 hs
 have hsk:C.Sl (i7:Int)=limB l i x.name:=hI.lim.seen h7
 have hval:=fun hs=>hI.lim.val (i:=i7) hs
 have r7:=fun(h:sgn x.am.val.num<0)=>c5e (cl:=cl) (l:=l) (i:=i) k3 (if_pos h).symm
 have r12:=fun(h:¬sgn x.am.val.num<0) (h2:limB l i x.name=true)=>c5e (cl:=cl) (l:=l) (i:=i) k3 ((if_neg h).trans (if_pos h2)).symm
 have r0:=fun(h:¬sgn x.am.val.num<0) (h2:¬limB l i x.name=true)=>c5e (cl:=cl) (l:=l) (i:=i) k3 ((if_neg h).trans (if_neg h2)).symm
 have hil:i7<cl.length:=a7x h7
 have hkw:=d1k (show i7<=1000000 by omega)
 have hnl:C.nl<maxLen:=by have:=hI.nl;unfold maxLen;omega
 unfold raw at dS dA
 obtain⟨sg,hsg⟩:∃z,z=sgn x.am.val.num:=⟨_,rfl⟩
 rw[<- hsg]at dS r7 r12 r0
 obtain⟨y,hy⟩:∃z,z=enc3 x.am.val:=⟨_,rfl⟩
 rw[<- hy]at dA hput
 rw[<- hsk]at r12 r0
 obtain⟨A5,c5,rfl,_,_⟩:=hu.slice
 obtain⟨g,v1,v2,mc,mk,ml,nc,vb,vp,vr,gsb,gsp,ex⟩:=A
 have HC:=zh h
 have HD:=zh (show ∀w',Below w.heap.size w w'->∀ (j:Nat) (v:Value),[v1,v2,.map (some mc),.map (some mk),vb,vp,.map (some ml),vr][j]? =some v->w'.cell? ⟨g,j,none⟩=some v from fun w' hb=>Cst.rd (Cst.below h hb))
 have HM:=zh h.mc
 have HL:=zh h.ml
 have H7:=zh h7
 have DS:=zh dS
 have DA:=zh dA
 have HPU:=zh hput
 have HVL:=zh hval
 have R7:=zh r7
 have R12:=zh r12
 have R0:=zh r0
 have HKW:=zh hkw
 have HNL:=zh hnl
 have HXL:=zh hs
 clear h hI hi hu hcl k3 hs h7 hfit hl dS dA hput hsk hval r7 r12 r0 hkw hnl hsg hy hil
 dsimp only at HM HL ⊢
 by_cases hng:sg<0
 have d1:decide (sg<0)=true:=decide_eq_true hng
 have HNG:=zh hng
 clear hng
 rotate_left
 have d1:decide (sg<0)=false:=decide_eq_false hng
 have HNG:=zh hng
 clear hng
 by_cases hsn:C.Sl ((i7:Nat):Int)=true
 have HSN:=zh hsn
 obtain⟨y2,hy2⟩:=HVL.out hsn
 have HY2:=zh hy2
 clear hsn hy2
 rotate_left
 have HSN:=zh (Bool.eq_false_iff.2 hsn)
 clear hsn
 rotate_left
 all_goals
   go_enter Tryz.func21,Tryz.ntmps21
   have HS:=zh (St.start w)
   go_wp2
   have HS2:=aL HS #[.int .i64 3,.string (bs x.name),.string (bs x.other),.slice A5 x.list.length c5,.bool x.am.n,.string (bs x.am.a),.string (bs x.am.b),.int .i64 x.at_] 51 w.heap.size
   clear HS
   have C_2:=zh (HC.out.below (Ext.alloc (Below.refl w.heap.size w) (Obj.cells #[.int .i64 3,.string (bs x.name),.string (bs x.other),.slice A5 x.list.length c5,.bool x.am.n,.string (bs x.am.a),.string (bs x.am.b),.int .i64 x.at_] 51)))
   clear HC
   have M_2:=zh (HM.out.below (Ext.alloc (Below.refl w.heap.size w) (Obj.cells #[.int .i64 3,.string (bs x.name),.string (bs x.other),.slice A5 x.list.length c5,.bool x.am.n,.string (bs x.am.a),.string (bs x.am.b),.int .i64 x.at_] 51)))
   clear HM
   have L_2:=zh (HL.out.below (Ext.alloc (Below.refl w.heap.size w) (Obj.cells #[.int .i64 3,.string (bs x.name),.string (bs x.other),.slice A5 x.list.length c5,.bool x.am.n,.string (bs x.am.a),.string (bs x.am.b),.int .i64 x.at_] 51)))
   clear HL
   refine a0e 7 [.pointer (some ⟨g,0,none⟩),.pointer (some ⟨g,0,none⟩),.pointer (some ⟨g,2,none⟩),.map (some mc),.pointer (some ⟨w.heap.size,1,none⟩),.string (bs x.name),.int .i64 (i7:Nat)] rfl (by kernel_rfl) (by kernel_rfl) (by kernel_rfl) ?_ ?_
   refine⟨?_,?_,?_,?_,?_,?_,?_,trivial⟩<;>(intro xx af wv hbx hev hev0 hd;have H:=SH.mk hev hev0 hd;clear hev hev0 hd)
   ·have e0:=H.i 0;clear H;go_wp2;exact sQ rfl
   ·have e80:=H.r 0 80;clear H;go_wp2;exact sQ rfl
   ·have e81:=H.r 1 81;clear H;go_wp2;exact sQ rfl
   ·have e82:=H.r 2 82;clear H;have hs1:=zh (HS2.out.call hbx);have y0:=HD.out _ hs1.out.below 2 _ rfl;go_wp2;exact sQ rfl
   ·have e3:=H.i 3;clear H;go_wp2;exact sQ rfl
   ·have e84:=H.r 4 84;clear H;have hs1:=zh (HS2.out.call hbx);have y0:=cC hs1 0 1;go_wp2;exact sQ rfl
   ·have e83:=H.r 3 83;have e85:=H.r 5 85;clear H
    go_wp2_with (at_lookup;refine a2b rfl _ _ 65 rfl 9 3 a2r Tryz.underlying65 (a5a _) (M_2.out.below hbx) (by simp[Act.eval];assumption) (x.name) (by simp[Act.eval,strV];assumption) HXL.out (.int .i64 (i7:Nat)) (by rw[H7.out];rfl) ?_)
    exact sQ rfl
   intro xx w4 hb9 hv
   simp only[List.take,List.drop,a0h,Act.put]
   simp only[vQ hv 0,vQ hv 1,vQ hv 2,vQ hv 3,vQ hv 4,vQ hv 5,vQ hv 6]
   clear hv
   have HS4:=zh (HS2.out.call hb9)
   have C_4:=zh (C_2.out.below hb9)
   clear C_2
   have M_4:=zh (M_2.out.below hb9)
   clear M_2
   have L_4:=zh (L_2.out.below hb9)
   clear L_2 hb9 HS2
   obtain⟨x1,x2,x3⟩:=HS4.out.k4 0 rfl rfl rfl rfl
   go_wp2_with fail
   refine(DS.out _).mono ?_
   rintro e w5 ⟨rfl,hb5⟩
   have HS5:=zh (HS4.out.call hb5)
   have C_5:=zh (C_4.out.below hb5)
   clear C_4
   have M_5:=zh (M_4.out.below hb5)
   clear M_4
   have L_5:=zh (L_4.out.below hb5)
   clear L_4 hb5 HS4 x1 x2 x3
 ·go_wp2
  go_ret
  exact⟨7,C,rfl,C_5.out,R7.out HNG.out,fun h=>absurd h (by decide)⟩
 all_goals
   have x4:=HD.out _ HS5.out.below 6 _ rfl
 ·go_wp2_with (at_lookup;refine a0t rfl _ _ 67 rfl 3 39 c7c Tryz.underlying67 (b9b _) L_5.out (by simp[Act.eval]) (((i7:Nat):Int)) (by simp[Act.eval,intV]) HKW.out (.agg #[.bool y2.n,.string (bs y2.a),.string (bs y2.b)]) true (by rw[HSN.out,if_pos rfl];exact HY2.out) (HSN.out) ?_)
  clear x4
  go_wp2
  go_ret
  exact⟨12,C,rfl,(C_5.out.below (Ext.alloc (Below.refl w5.heap.size w5) (Obj.cells #[.bool y2.n,.string (bs y2.a),.string (bs y2.b)] 39))),R12.out HNG.out HSN.out,fun h=>absurd h (by decide)⟩
 go_wp2_with (at_lookup;refine a0t rfl _ _ 67 rfl 3 39 c7c Tryz.underlying67 (b9b _) L_5.out (by simp[Act.eval]) (((i7:Nat):Int)) (by simp[Act.eval,intV]) HKW.out (.agg #[.bool false,.string (bs []),.string (bs [])]) false (by rw[HSN.out];rfl) (HSN.out) ?_)
 clear x4
 go_wp2
 have HS6:=aL HS5 #[.bool false,.string (bs []),.string (bs [])] 39 w5.heap.size
 clear HS5
 have C_6:=zh (C_5.out.below (Ext.alloc (Below.refl w5.heap.size w5) (Obj.cells #[.bool false,.string (bs []),.string (bs [])] 39)))
 clear C_5
 have M_6:=zh (M_5.out.below (Ext.alloc (Below.refl w5.heap.size w5) (Obj.cells #[.bool false,.string (bs []),.string (bs [])] 39)))
 clear M_5
 have L_6:=zh (L_5.out.below (Ext.alloc (Below.refl w5.heap.size w5) (Obj.cells #[.bool false,.string (bs []),.string (bs [])] 39)))
 clear L_5
 refine a0e 9 [.pointer (some ⟨g,0,none⟩),.pointer (some ⟨g,0,none⟩),.pointer (some ⟨g,6,none⟩),.map (some ml),.int .i64 (i7:Nat),.pointer (some ⟨w.heap.size,4,none⟩),.agg #[.bool x.am.n,.string (bs x.am.a),.string (bs x.am.b)],.agg #[.bool false,.string (bs []),.string (bs [])],.agg #[.bool y.n,.string (bs y.a),.string (bs y.b)]] rfl (by kernel_rfl) (by kernel_rfl) (by kernel_rfl) ?_ ?_
 refine⟨?_,?_,?_,?_,?_,?_,?_,?_,?_,trivial⟩<;>(intro xx af wv hbx hev hev0 hd;have H:=SH.mk hev hev0 hd;clear hev hev0 hd)
 ·have e0:=H.i 0;clear H;go_wp2;exact sQ rfl
 ·have e101:=H.r 0 101;clear H;go_wp2;exact sQ rfl
 ·have e102:=H.r 1 102;clear H;go_wp2;exact sQ rfl
 ·have e103:=H.r 2 103;clear H;have hs1:=zh (HS6.out.call hbx);have y0:=HD.out _ hs1.out.below 6 _ rfl;go_wp2;exact sQ rfl
 ·have e12:=H.i 12;clear H;go_wp2;exact sQ rfl
 ·have e3:=H.i 3;clear H;go_wp2;exact sQ rfl
 ·have e106:=H.r 5 106;clear H;have hs1:=zh (HS6.out.call hbx);obtain⟨y0,y1,y2⟩:=hs1.out.k4 1 rfl rfl rfl rfl;go_wp2;exact sQ rfl
 ·clear H;go_wp2;exact sQ rfl
 ·have e107:=H.r 6 107;have e108:=H.r 7 108;clear H
  go_wp2_with fail
  refine(DA.out _).mono ?_
  rintro e w8 ⟨rfl,hb8⟩;go_wp2;exact StepQ.mk _ hb8 rfl
 intro xx w8 hb9 hv
 simp only[List.take,List.drop,a0h,Act.put]
 simp only[vQ hv 0,vQ hv 1,vQ hv 2,vQ hv 3,vQ hv 4,vQ hv 5,vQ hv 6,vQ hv 7,vQ hv 8]
 clear hv
 have HS8:=zh (HS6.out.call hb9)
 have C_8:=zh (C_6.out.below hb9)
 clear C_6
 have M_8:=zh (M_6.out.below hb9)
 clear M_6
 have L_8:=zh (L_6.out.below hb9)
 clear L_6 hb9 HS6
 go_wp2_with (at_mapUpdate;refine a3k rfl _ _ _ 67 rfl 3 39 c7c Tryz.underlying67 L_8.out (HNL.out) (by simp[Act.eval]) (((i7:Nat):Int)) (by simp[Act.eval,intV]) HKW.out (.agg #[.bool y.n,.string (bs y.a),.string (bs y.b)]) (by simp[Act.eval]) ?_)
 intro w9 hown9 hg9
 have HC9:=zh (Cst.putLim C_8.out hown9 hg9)
 clear hown9 hg9
 go_wp2
 go_ret
 exact⟨0,_,rfl,HC9.out,R0.out HNG.out (by rw[HSN.out];exact Bool.false_ne_true),fun _=>HPU.out HSN.out⟩
end Go.Proofs.YtjmiicjialkpiaaGreatDoor
