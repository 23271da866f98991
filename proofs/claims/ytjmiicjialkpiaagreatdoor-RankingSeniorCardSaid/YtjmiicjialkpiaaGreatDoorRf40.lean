/-
Part 40 of the base.
-/
import Derived.Test.YtjmiicjialkpiaaGreatDoorRf39
set_option maxRecDepth 100000
set_option maxHeartbeats 4000000
namespace Go.Proofs.YtjmiicjialkpiaaGreatDoor
open Go.RowKit
theorem lvE_max{f:Nat->Nat}{a b:Nat}:putA (lvE f) b (max ((f b:Nat):Int) ((f a+1:Nat):Int))=lvE (lift f a b):=by
 funext x
 unfold putA lvE lift
 by_cases hx:x=b
 ·rw[if_pos hx,if_pos hx];omega
 rw[if_neg hx,if_neg hx]
def Ls(r:Nat->Nat->Prop)(n t a b:Nat)(f:Nat->Nat):Prop:=Rnd r n t a b f/\∀x,f x<=t*(n*n)+a*n+b
theorem Ls.start{r:Nat->Nat->Prop}{n:Nat}:Ls r n 0 0 0 (fun _=>0):=⟨Rnd.start,fun _=>Nat.zero_le _⟩
theorem Ls.lift{r:Nat->Nat->Prop}{n t a b:Nat}{f:Nat->Nat}(hb:∀i j,r i j->i<n/\j<n)(h:Ls r n t a b f)(hr:r a b):Ls r n t a (b+1) (lift f a b):=by
 refine⟨h.1.lift hb hr,fun x=>?_⟩
 have h1:=h.2 x
 have h2:=h.2 a
 have h3:=h.2 b
 show(if x=b then max (f b) (f a+1)else f x)<=_
 split<;>omega
theorem Ls.skip{r:Nat->Nat->Prop}{n t a b:Nat}{f:Nat->Nat}(h:Ls r n t a b f)(hr:¬r a b):Ls r n t a (b+1) f:=⟨h.1.skip hr,fun x=>by have:=h.2 x;omega⟩
theorem Ls.row{r:Nat->Nat->Prop}{n t a:Nat}{f:Nat->Nat}(hb:∀i j,r i j->i<n/\j<n)(h:Ls r n t a n f):Ls r n t (a+1) 0 f:=⟨h.1.row hb,fun x=>by have:=h.2 x;rw[Nat.add_mul];omega⟩
theorem Ls.round{r:Nat->Nat->Prop}{n t:Nat}{f:Nat->Nat}(hb:∀i j,r i j->i<n/\j<n)(h:Ls r n t n 0 f):Ls r n (t+1) 0 0 f:=⟨h.1.round hb,fun x=>by have:=h.2 x;rw[Nat.add_mul];omega⟩
def LevR(r:Nat->Nat->Prop)(n:Nat)(w:World)(e:Ending)(w':World):Prop:=∃g f,e=.returned (.slice (some ⟨g,0,none⟩) n n)/\Blk w' g (rowE (.int .i64) n (lvE f)) 3/\Lv r n f/\w.heap.size<=g/\Below w.heap.size w w'
theorem b6j{w0:World}{cl:List Nmd}{l:List Cls}{A:CAd}{C:CCo}(r:Nat->Nat->Prop)(w:World)(h:Cst w0 cl l A C w)(hP:∀x y,x<cl.length->y<cl.length->(C.P x y=true↔r x y))(hb:∀i j,r i j->i<cl.length/\j<cl.length)(hfree:¬ ∃x,Way r x x)(hcl:cl.length<=1000) :
  Calls Tryz.prog 46 #[.pointer (some ⟨A.g,0,none⟩)] w (LevR r cl.length w):=by
 have hmk:=d1h cl.length (by omega)
 have hmx:=@c9u Tryz.prog
 obtain⟨A1,c1,hv1,_,_⟩:=h.n1.slice
 have hform:=fun hn=>h.formP hn
 have hrow:=fun a (ha:a<cl.length)=>(h.blkP ha).lt
 have hcell:=fun a b (ha:a<cl.length) (hb:b<cl.length)=>h.atP ha hb
 obtain⟨g,v1,v2,mc,mk,ml,nc,vb,vp,vr,gsb,gsp,ex⟩:=A
 dsimp only at hv1 hform hrow hcell
 subst hv1
 have hD:=(show ∀w',Below w.heap.size w w'->∀ (j:Nat) (v:Value),[.slice A1 cl.length c1,v2,.map (some mc),.map (some mk),vb,vp,.map (some ml),vr][j]? =some v->w'.cell? ⟨g,j,none⟩=some v from fun w' hb=>Cst.rd (Cst.below h hb))
 have hg:=h.lt
 dsimp only at hg
 obtain⟨n,hn⟩:∃n,n=cl.length:=⟨_,rfl⟩
 rw[<- hn]at hmk hD hform hrow hcell hP hb hcl ⊢
 have HD:=zh hD
 have HF:=zh hform
 have HW:=zh hrow
 have HCE:=zh hcell
 have HM:=zh hP
 have HB:=zh hb
 have HFR:=zh hfree
 have LN:=zh hcl
 have LQ:=zh (show ∀t,t<=n->(t+1)*(n*n)<=1001000000 from fun t ht=>Nat.le_trans (Nat.mul_le_mul (show t+1<=1001 by omega) (Nat.mul_le_mul hcl hcl)) (by decide))
 clear h hD hform hrow hcell hP hb hfree hcl hn
 go_enter Tryz.func46,Tryz.ntmps46
 have HS:=zh (St.start w)
 have x1:g<w.heap.size:=Nat.lt_of_lt_of_le hg HS.out.below.size
 have x2:¬g=w.heap.size:=by omega
 have x3:=HD.out _ HS.out.below 0 _ rfl
 go_wp2
 have HS2:=aL HS (rowE (.int .i64) n (fun _=>0)) 3 w.heap.size
 go_loopw [15] (fun t_ wr=>∃ (t:Nat) (f:Nat->Nat),t<=n/\t_=.int .i64 t/\Hid (Ls r n t 0 0 f)/\Hid (St w [⟨w.heap.size,rowE (.int .i64) n (lvE f),3⟩] wr)) (fun t_ _=>n-(intOf t_).toNat)
 case atStart=>exact⟨0,fun _=>0,Nat.zero_le _,rfl,Ls.start,HS2.out⟩
 case round =>
  obtain⟨t,f,ht,rfl,HR,HS⟩:=hrel
  clear HS2
  by_cases htn:t<n
  ·have t1:(0:Int)<=((t:Nat):Int):=by omega
   have t2:((t:Nat):Int)<(n:Int):=by omega
   have t3:decide (((t:Nat):Int)<(n:Int))=true:=decide_eq_true t2
   have t5:IntKind.i64.wrap ((t:Int)+1)=((t+1:Nat):Int):=by have:=LN.out;rw[IntWalk.i64_in _ (by omega)];rfl
   go_wp2
   go_loopw [19] (fun a_ wr=>∃ (a:Nat) (f:Nat->Nat),a<=n/\a_=.int .i64 a/\Hid (Ls r n t a 0 f)/\Hid (St w [⟨w.heap.size,rowE (.int .i64) n (lvE f),3⟩] wr)) (fun a_ _=>n-(intOf a_).toNat)
   case atStart=>exact⟨0,f,Nat.zero_le _,rfl,HR.out,HS.out⟩
   case round =>
    clear HS HR
    obtain⟨a,f2,ha,rfl,HR,HS⟩:=hrel
    by_cases han:a<n
    ·obtain⟨gp,cp,hvp,_,hgp,_,fp⟩:=HF.out (by omega)
     subst hvp
     obtain⟨gr,hgr⟩:∃x,x=gsp.getD a 0:=⟨_,rfl⟩
     have fpa:=fp a han
     have hgrl:=HW.out a han
     have hce:=fun b hb=>HCE.out a b han hb
     rw[<- hgr]at fpa hgrl hce
     have HX:=zh (a2z fpa hgp)
     have HY:=zh (fun b hb=>a2z (hce b hb) hgrl)
     clear fp fpa hce hgr
     have a1:(0:Int)<=((a:Nat):Int):=by omega
     have a2:((a:Nat):Int)<(n:Int):=by omega
     have a3:decide (((a:Nat):Int)<(n:Int))=true:=decide_eq_true a2
     have a5:IntKind.i64.wrap ((a:Int)+1)=((a+1:Nat):Int):=by have:=LN.out;rw[IntWalk.i64_in _ (by omega)];rfl
     have x4:=HD.out _ HS.out.below 5 _ rfl
     have x5:=HX.out _ HS.out.below 0 _ rfl
     rw[Nat.add_zero]at x5
     go_wp2
     go_loopw [30] (fun b_ wr=>∃ (b:Nat) (f:Nat->Nat),b<=n/\b_=.int .i64 b/\Hid (Ls r n t a b f)/\Hid (St w [⟨w.heap.size,rowE (.int .i64) n (lvE f),3⟩] wr)) (fun b_ _=>n-(intOf b_).toNat)
     case atStart=>exact⟨0,f2,Nat.zero_le _,rfl,HR.out,HS.out⟩
     case round =>
      clear HS HR
      obtain⟨b,f3,hb,rfl,HR,HS⟩:=hrel
      by_cases hbn:b<n
      ·have HYB:=zh (HY.out b hbn)
       have HMM:=zh (HM.out a b han hbn)
       have b1:(0:Int)<=((b:Nat):Int):=by omega
       have b2:((b:Nat):Int)<(n:Int):=by omega
       have b3:decide (((b:Nat):Int)<(n:Int))=true:=decide_eq_true b2
       have b5:IntKind.i64.wrap ((b:Int)+1)=((b+1:Nat):Int):=by have:=LN.out;rw[IntWalk.i64_in _ (by omega)];rfl
       cases hm:C.P a b
       ·rw[hm]at HYB HMM
        clear hm
        have x6:=HYB.out _ HS.out.below 0 _ rfl
        rw[Nat.add_zero]at x6
        go_wp2
        go_roundw
        case rel=>exact⟨b+1,f3,by omega,by go_num,HR.out.skip (fun hr=>by have:=HMM.out.2 hr;cases this),HS.out⟩
        case measure=>simp[intOf];omega
       rw[hm]at HYB HMM
       clear hm
       have i4:IntKind.i64.wrap (((f3 a:Nat):Int)+1)=((f3 a+1:Nat):Int):=by have h1:=HR.out.2 a;have h2:=LQ.out t (by omega);have h3:a*n+b<=n*n:=(by have:=Nat.mul_le_mul_right n (show a+1<=n by omega);rw[Nat.add_mul]at this;omega);rw[Nat.add_mul]at h2;rw[IntWalk.i64_in _ (by omega)];rfl
       have x6:=HYB.out _ HS.out.below 0 _ rfl
       rw[Nat.add_zero]at x6
       go_wp2
       clear x6
       refine a0e 13 [.slice (some ⟨w.heap.size,0,none⟩) n n,.int .i64 (b:Nat),.slice (some ⟨w.heap.size,0,none⟩) n n,.int .i64 (b:Nat),.pointer (some ⟨w.heap.size,b,none⟩),.int .i64 (f3 b:Nat),.slice (some ⟨w.heap.size,0,none⟩) n n,.int .i64 (a:Nat),.pointer (some ⟨w.heap.size,a,none⟩),.int .i64 (f3 a:Nat),.int .i64 (f3 a+1:Nat),.int .i64 (max ((f3 b:Nat):Int) ((f3 a+1:Nat):Int)),.pointer (some ⟨w.heap.size,b,none⟩)] rfl (by kernel_rfl) (by kernel_rfl) (by kernel_rfl) ?_ ?_
       refine⟨?_,?_,?_,?_,?_,?_,?_,?_,?_,?_,?_,?_,?_,trivial⟩<;>(intro xx af wv hbx hev hev0 hd;have H:=SH.mk hev hev0 hd;clear hev hev0 hd)
       ·have e3:=H.i 3;clear H;go_wp2;exact sQ rfl
       ·have e5:=H.i 5;clear H;go_wp2;exact sQ rfl
       ·have e3:=H.i 3;clear H;go_wp2;exact sQ rfl
       ·have e5:=H.i 5;clear H;go_wp2;exact sQ rfl
       ·have e38:=H.r 2 38;have e39:=H.r 3 39;clear H;go_wp2;exact sQ rfl
       ·have e40:=H.r 4 40;clear H;have hs1:=zh (HS.out.call hbx);have yf0:=hs1.out.cellE 0 rfl hbn;rw[lvE]at yf0;go_wp2;exact sQ rfl
       ·have e3:=H.i 3;clear H;go_wp2;exact sQ rfl
       ·have e4:=H.i 4;clear H;go_wp2;exact sQ rfl
       ·have e42:=H.r 6 42;have e43:=H.r 7 43;clear H;go_wp2;exact sQ rfl
       ·have e44:=H.r 8 44;clear H;have hs1:=zh (HS.out.call hbx);have yf0:=hs1.out.cellE 0 rfl han;rw[lvE]at yf0;go_wp2;exact sQ rfl
       ·have e45:=H.r 9 45;clear H;go_wp2;exact sQ rfl
       ·have e41:=H.r 5 41;have e46:=H.r 10 46;clear H;go_wp2;exact sQ rfl
       ·have e36:=H.r 0 36;have e37:=H.r 1 37;clear H;go_wp2;exact sQ rfl
       intro xx w3 hb9 hv
       simp only[List.take,List.drop,a0h,Act.put]
       simp only[vQ hv 0,vQ hv 1,vQ hv 2,vQ hv 3,vQ hv 4,vQ hv 5,vQ hv 6,vQ hv 7,vQ hv 8,vQ hv 9,vQ hv 10,vQ hv 11,vQ hv 12]
       clear hv
       have HS3:=zh (HS.out.call hb9)
       clear hb9 HS
       have x7:=HS3.out.cellE 0 rfl hbn
       rw[lvE]at x7
       have x8:=HS3.out.frozen 0 rfl b
       go_wp2
       have HS4:Hid (St w [⟨w.heap.size,(rowE (.int .i64) n (putA (lvE f3) b (max ((f3 b:Nat):Int) ((f3 a+1:Nat):Int)))),3⟩] _):=zh (St.setE (HS3.out) 0 rfl b ((max ((f3 b:Nat):Int) ((f3 a+1:Nat):Int))))
       go_roundw
       case rel=>exact⟨b+1,lift f3 a b,by omega,by go_num,HR.out.lift HB.out (HMM.out.1 (by simp)),by rw[<- lvE_max];exact HS4.out⟩
       case measure=>simp[intOf];omega
      have hbe:b=n:=by omega
      rw[hbe]at HR ⊢
      have e9:decide (((n:Nat):Int)<(n:Int))=false:=decide_eq_false (by omega)
      clear hbe hb hbn
      go_wp2
      go_roundw
      case rel=>exact⟨a+1,f3,by omega,by go_num,HR.out.row HB.out,HS.out⟩
      case measure=>simp[intOf];omega
    have hae:a=n:=by omega
    rw[hae]at HR ⊢
    have e9:decide (((n:Nat):Int)<(n:Int))=false:=decide_eq_false (by omega)
    clear hae ha han
    go_wp2
    go_roundw
    case rel=>exact⟨t+1,f2,by omega,by go_num,HR.out.round HB.out,HS.out⟩
    case measure=>simp[intOf];omega
  have hte:t=n:=by omega
  rw[hte]at HR ⊢
  have e9:decide (((n:Nat):Int)<(n:Int))=false:=decide_eq_false (by omega)
  clear hte ht htn
  go_wp2
  go_ret
  exact⟨w.heap.size,f,rfl,HS.out.blk 0 rfl,HR.out.1.stands HB.out (fun i hw=>HFR.out ⟨i,hw⟩) (Nat.le_refl _),Nat.le_refl _,HS.out.below⟩
def CopR(r:Nat->Nat->Prop)(n a:Nat)(w:World)(e:Ending)(w':World):Prop:=∃ (v:Value) (inn:Nat->Bool),e=.returned v/\Grows w' w.heap.size 3 1 v ((List.range n).filter inn).length (flat intE ((List.range n).filter inn))/\(∀u,inn u=true↔Conn r a u)/\Below w.heap.size w w'
theorem b1x{w0:World}{cl:List Nmd}{l:List Cls}{A:CAd}{C:CCo}(r:Nat->Nat->Prop)(a:Nat)(w:World)(h:Cst w0 cl l A C w)(hP:∀x y,x<cl.length->y<cl.length->(C.P x y=true↔r x y))(hb:∀i j,r i j->i<cl.length/\j<cl.length)(ha:a<cl.length)(hcl:cl.length<=1000) :
  Calls Tryz.prog 47 #[.pointer (some ⟨A.g,0,none⟩),.int .i64 (a:Nat)] w (CopR r cl.length a w):=by
 have hmk:=a5u cl.length (by omega)
 obtain⟨ii,hii,hiz,hi1,hi8⟩:=c0n
 obtain⟨A1,c1,hv1,_,_⟩:=h.n1.slice
 obtain⟨gp,cp,hvp,_,hgp,_,fp⟩:=h.formP (by omega)
 have hrow:=fun a (ha:a<cl.length)=>(h.blkP ha).lt
 have hcell:=fun a b (ha:a<cl.length) (hb:b<cl.length)=>h.atP ha hb
 obtain⟨g,v1,v2,mc,mk,ml,nc,vb,vp,vr,gsb,gsp,ex⟩:=A
 dsimp only at hv1 hvp hrow hcell
 subst hv1 hvp
 have hD:=(show ∀w',Below w.heap.size w w'->∀ (j:Nat) (v:Value),[.slice A1 cl.length c1,v2,.map (some mc),.map (some mk),vb,.slice (some ⟨gp,0,none⟩) cl.length cp,.map (some ml),vr][j]? =some v->w'.cell? ⟨g,j,none⟩=some v from fun w' hb=>Cst.rd (Cst.below h hb))
 have hg:=h.lt
 dsimp only at hg
 obtain⟨n,hn⟩:∃n,n=cl.length:=⟨_,rfl⟩
 rw[<- hn]at hmk hD hrow hcell fp hP hb ha hcl ⊢
 have HD:=zh hD
 have HF:=zh fp
 have HW:=zh hrow
 have HCE:=zh hcell
 have HM:=zh hP
 have HB:=zh hb
 have HIZ:=zh hiz
 have LN:=zh hcl
 have a1:(0:Int)<=((a:Nat):Int):=by omega
 have a2:((a:Nat):Int)<(n:Int):=by omega
 have HA:=zh ha
 clear h hD fp hrow hcell hP hb hcl hn hiz
 go_enter Tryz.func47,Tryz.ntmps47
 have HS:=zh (St.start w)
 have x1:g<w.heap.size:=Nat.lt_of_lt_of_le hg HS.out.below.size
 have x2:¬g=w.heap.size:=by omega
 have x3:=HD.out _ HS.out.below 0 _ rfl
 go_upto_region 2 with fail
 clear x1 x2 x3
 refine a4m (aL HS (rowE (.bool) n (fun _=>false)) 4 w.heap.size).out ?_
 intro wg2 hb
 have HS2:=zh hb
 clear hb HS
 have x4:=HS2.out.cellE 0 rfl ha
 have x5:=HS2.out.frozen 0 rfl a
 go_upto_region 3 with fail
 clear x4 x5
 refine a4m (R:=[⟨w.heap.size,(rowE (.bool) n (putA (fun _=>false) a true)),4⟩]) (St.setE (HS2.out) 0 rfl a (true)) ?_
 intro wg3 hb
 have HS3:=zh hb
 clear hb HS2
 go_wp2
 have HS4:=aL HS3 #[.int .i64 (a:Nat)] 3 wg3.heap.size
 have HQ0:Hid (Que intE 1 w.heap.size (wg3.heap.size) _ _ [a]):=zh (Que.of_blk (n:=1) (c:=1) a2h (HS4.out.blk 0 rfl) (by have:=HS3.out.below.size;exact this) rfl rfl rfl (by decide))
 have hne0:wg3.heap.size≠w.heap.size:=by have:=HS3.out.lt 0 rfl;omega
 have HS9:Hid (St w [⟨w.heap.size,rowE .bool n (putI (fun _=>false) a),4⟩] _):=zh (by rw[<- a8s];exact HS4.out.sub (List.sublist_cons_self ..))
 go_loopg [6] (n+1) (fun gk v6 wr=>∃ (todo:List Nat) (gq:Nat) (inn:Nat->Bool),Hid (Srch0 r a inn todo)/\todo.length+outN inn n<=gk/\gk<=n+1/\Hid (Que intE 1 w.heap.size gq wr v6 todo)/\Hid (gq≠w.heap.size)/\Hid (St w [⟨w.heap.size,rowE .bool n inn,4⟩] wr))
 case atStart=>exact⟨[a],wg3.heap.size,putI (fun _=>false) a,Srch0.start r a,by have:=outN_le (putI (fun _=>false) a) n;simp only[List.length_singleton];omega,Nat.le_refl _,HQ0.out,hne0,HS9.out⟩
 case round =>
  obtain⟨todo,gq,inn,HL,hm,hgk,HQ,HN,HS⟩:=hrel
  clear HQ0 HS4 HS9 hne0 HS3
  obtain⟨W1,rfl⟩:∃W1,W1=wr:=⟨_,rfl⟩
  obtain⟨G1,rfl⟩:∃G1,G1=gk:=⟨_,rfl⟩
  cases todo with
 | cons x0 t =>
  have hx0:x0<n:=(HL.out.2.1 x0 (HL.out.2.2.1 x0 (List.mem_cons_self ..))).lt HB.out HA.out
  have HL1:=zh HL.out.pop
  obtain⟨p,cap,rfl,hpc,hcm,hp,_⟩:=HQ.out.pop a2h
  have hgq:=HQ.out.lt.2
  have HP:=zh (fun(w':World) (hb:Below W1.heap.size W1 w') (q:Nat) (z:Value) hz=>(hb.cell (p:=⟨gq,p+q,none⟩) hgq).trans (hp q z hz))
  unfold intE at HP
  have HMS:=zh hm
  have HGK:=zh hgk
  have e2:decide ((0:Int)<((t.length+1:Nat):Int))=true:=decide_eq_true (by omega)
  have e3:(0:Int)<((t.length+1:Nat):Int):=by omega
  clear hm hp HL hgk
  have x6:=HP.out _ (Below.refl _ _) 0 _ rfl
  rw[Nat.add_zero]at x6
  go_wp2_with (refine a6z _ rfl _ _ _ rfl w.heap.size 3 ii 1 Tryz.underlying29 hii hi1 a2h (by simp[Act.eval]) (by simp[Act.eval]) HQ.out ?_)
  intro v7 hq7
  have HQ7:=zh hq7
  clear hq7 HQ x6
  go_wp2
  go_loopg [6,33] n (fun g2 v6 kk w2=>∃ (y:Nat) (todo:List Nat) (gq:Nat) (inn:Nat->Bool),kk=.int .i64 y/\y<=n/\n-y<=g2/\Hid (Srch r a inn todo x0 y)/\Hid (todo.length+outN inn n+1<=G1)/\Hid (Que intE 1 w.heap.size gq w2 v6 todo)/\Hid (gq≠w.heap.size)/\Hid (St w [⟨w.heap.size,rowE .bool n inn,4⟩] w2))
  case atStart=>exact⟨0,t,gq,inn,rfl,Nat.zero_le _,Nat.le_refl _,HL1.out,(by have:=HMS.out;rw[List.length_cons]at this;show _<=_;omega),HQ7.out,HN.out,HS.out⟩
  case round =>
   obtain⟨y,todo,gr,inn2,rfl,hy,hm2,HL2,HM2,HQ2,HN2,HS2⟩:=hrel
   clear HL1 HMS HQ7 HN HP HS
   by_cases hyn:y<n
   ·obtain⟨gx,hgx⟩:∃q,q=gsp.getD x0 0:=⟨_,rfl⟩
    obtain⟨gy,hgy⟩:∃q,q=gsp.getD y 0:=⟨_,rfl⟩
    have f1:=HF.out x0 hx0
    have f2:=HF.out y hyn
    have f3:=HCE.out x0 y hx0 hyn
    have f4:=HCE.out y x0 hyn hx0
    have f5:=HW.out x0 hx0
    have f6:=HW.out y hyn
    rw[<- hgx]at f1 f3 f5
    rw[<- hgy]at f2 f4 f6
    have HX1:=zh (a2z f1 hgp)
    have HX2:=zh (a2z f3 f5)
    have HX3:=zh (a2z f2 hgp)
    have HX4:=zh (a2z f4 f6)
    clear f1 f2 f3 f4 hgx hgy
    have e4:(0:Int)<=((y:Nat):Int):=by omega
    have e5:((y:Nat):Int)<(n:Int):=by omega
    have e6:decide (((y:Nat):Int)<(n:Int))=true:=decide_eq_true e5
    have e7:(0:Int)<=((x0:Nat):Int):=by omega
    have e8:((x0:Nat):Int)<(n:Int):=by omega
    have i5:IntKind.i64.wrap ((y:Int)+1)=((y+1:Nat):Int):=by have:=LN.out;rw[IntWalk.i64_in _ (by omega)];rfl
    have HE1:=zh (HM.out x0 y hx0 hyn)
    have HE2:=zh (HM.out y x0 hyn hx0)
    cases hin:inn2 y
    ·cases hm1:C.P x0 y
     ·cases hm4:C.P y x0
      ·rw[hm1]at HX2 HE1
       rw[hm4]at HX4 HE2
       clear hm1 hm4
       have x7:=HS2.out.cellE 0 rfl hyn
       rw[hin]at x7
       have x8:=HD.out _ HS2.out.below 5 _ rfl
       have x9:=HX1.out _ HS2.out.below 0 _ rfl
       rw[Nat.add_zero]at x9
       have x10:=HX2.out _ HS2.out.below 0 _ rfl
       rw[Nat.add_zero]at x10
       have x11:=HX3.out _ HS2.out.below 0 _ rfl
       rw[Nat.add_zero]at x11
       have x12:=HX4.out _ HS2.out.below 0 _ rfl
       rw[Nat.add_zero]at x12
       go_wp2
       go_roundg (n-(y+1))
       case measure=>omega
       case rel=>exact⟨y+1,todo,gr,inn2,by go_num,by omega,Nat.le_refl _,HL2.out.old (fun h=>by rcases h with h | h;(have:=HE1.out.2 h;cases this);(have:=HE2.out.2 h;cases this)),HM2.out,HQ2.out,HN2.out,HS2.out⟩
      rw[hm1]at HX2 HE1
      rw[hm4]at HX4 HE2
      clear hm1 hm4
      have x7:=HS2.out.cellE 0 rfl hyn
      rw[hin]at x7
      have x8:=HS2.out.frozen 0 rfl y
      have x9:=HS2.out.lt 0 rfl
      have x10:¬w.heap.size=wr.heap.size:=by omega
      have x11:¬wr.heap.size=w.heap.size:=by omega
      have x12:g<wr.heap.size:=Nat.lt_of_lt_of_le hg HS2.out.below.size
      have x13:¬g=wr.heap.size:=by omega
      have x14:gp<wr.heap.size:=Nat.lt_of_lt_of_le hgp HS2.out.below.size
      have x15:¬gp=wr.heap.size:=by omega
      have x16:gx<wr.heap.size:=Nat.lt_of_lt_of_le f5 HS2.out.below.size
      have x17:¬gx=wr.heap.size:=by omega
      have x18:gy<wr.heap.size:=Nat.lt_of_lt_of_le f6 HS2.out.below.size
      have x19:¬gy=wr.heap.size:=by omega
      have x20:=HD.out _ HS2.out.below 5 _ rfl
      have x21:=HX1.out _ HS2.out.below 0 _ rfl
      rw[Nat.add_zero]at x21
      have x22:=HX2.out _ HS2.out.below 0 _ rfl
      rw[Nat.add_zero]at x22
      have x23:=HX3.out _ HS2.out.below 0 _ rfl
      rw[Nat.add_zero]at x23
      have x24:=HX4.out _ HS2.out.below 0 _ rfl
      rw[Nat.add_zero]at x24
      have HS5:Hid (St w [⟨wr.heap.size,#[.int .i64 (y:Nat)],3⟩,⟨w.heap.size,(rowE (.bool) n (putA inn2 y true)),4⟩] _):=zh (St.alloc ((St.setE (HS2.out) 0 rfl y (true))) #[.int .i64 (y:Nat)] 3 (wr.heap.size) (by simp))
      have HQ5:Hid (Que intE 1 w.heap.size gr ((wr.setCell ⟨w.heap.size,y,none⟩ (.bool true)).alloc (.cells #[.int .i64 (y:Nat)] 3)) _ todo):=zh ((Que.far HQ2.out (a:=⟨w.heap.size,y,none⟩) HN2.out (.bool (true))).below (Ext.alloc (Below.refl _ _) _))
      have HO5:=zh (c6q hyn hin)
      go_wp2_with (refine a9j _ rfl _ _ _ rfl w.heap.size 3 ii _ 1 8 Tryz.underlying29 hii HIZ.out hi1 hi8 rfl a2h (by simp[Act.eval]) HQ5.out _ [y] (by simp[Act.eval]) (Src.of_slc Tryz.underlying29 a2h (Slc.of_blk (n:=1) (c:=1) a2h (xs:=[y]) (HS5.out.blk 0 rfl) rfl rfl (Nat.le_refl _) (by decide)) (Below.refl _ _) (c7d _)) (by have:=HM2.out;have:=HGK.out;have:=LN.out;unfold maxLen;simp only[List.length_singleton];omega) (by have:=HM2.out;have:=HGK.out;have:=LN.out;simp only[List.length_singleton];omega) HS5.out.below.size ?_)
      intro v8 w8 g8 hq8 hgr8 hg8
      have hge8:=HQ5.out.lt.1
      have hw8:(((wr.setCell ⟨w.heap.size,y,none⟩ (.bool true)).alloc (.cells #[.int .i64 (y:Nat)] 3))).heap.size=wr.heap.size+1:=by rw[size_alloc,a9m]
      have h8a:=HS5.out.lt 1 rfl
      have HQ8:=zh hq8
      have HN8:=zh (show g8≠w.heap.size from fun e=>by rcases hg8 with h9 | h9;exact HN2.out (h9.symm.trans e);omega)
      have HS8:=zh ((HS5.out.sub (List.sublist_cons_self ..)).turnedR hgr8 hge8 (by intro z hz;rcases List.mem_cons.1 hz with rfl | hz;exact HN2.out;cases hz))
      clear hq8 hgr8 hg8 hge8 hw8 h8a HQ5 HS5 HS2 HQ2 x7 x8 x9 x10 x11 x12 x13 x14 x15 x16 x17 x18 x19 x20 x21 x22 x23 x24
      go_wp2
      go_roundg (n-(y+1))
      case measure=>omega
      case rel=>exact⟨y+1,todo++[y],g8,putA inn2 y true,by go_num,by omega,Nat.le_refl _,(by rw[a8s];exact HL2.out.new (.inr (HE2.out.1 (by simp)))),(by have:=HO5.out;have:=HM2.out;show _<=_;rw[List.length_append,List.length_singleton];omega),HQ8.out,HN8.out,HS8.out⟩
     rw[hm1]at HX2 HE1
     clear hm1
     have x7:=HS2.out.cellE 0 rfl hyn
     rw[hin]at x7
     have x8:=HS2.out.frozen 0 rfl y
     have x9:=HS2.out.lt 0 rfl
     have x10:¬w.heap.size=wr.heap.size:=by omega
     have x11:¬wr.heap.size=w.heap.size:=by omega
     have x12:g<wr.heap.size:=Nat.lt_of_lt_of_le hg HS2.out.below.size
     have x13:¬g=wr.heap.size:=by omega
     have x14:gp<wr.heap.size:=Nat.lt_of_lt_of_le hgp HS2.out.below.size
     have x15:¬gp=wr.heap.size:=by omega
     have x16:gx<wr.heap.size:=Nat.lt_of_lt_of_le f5 HS2.out.below.size
     have x17:¬gx=wr.heap.size:=by omega
     have x18:=HD.out _ HS2.out.below 5 _ rfl
     have x19:=HX1.out _ HS2.out.below 0 _ rfl
     rw[Nat.add_zero]at x19
     have x20:=HX2.out _ HS2.out.below 0 _ rfl
     rw[Nat.add_zero]at x20
     have HS5:Hid (St w [⟨wr.heap.size,#[.int .i64 (y:Nat)],3⟩,⟨w.heap.size,(rowE (.bool) n (putA inn2 y true)),4⟩] _):=zh (St.alloc ((St.setE (HS2.out) 0 rfl y (true))) #[.int .i64 (y:Nat)] 3 (wr.heap.size) (by simp))
     have HQ5:Hid (Que intE 1 w.heap.size gr ((wr.setCell ⟨w.heap.size,y,none⟩ (.bool true)).alloc (.cells #[.int .i64 (y:Nat)] 3)) _ todo):=zh ((Que.far HQ2.out (a:=⟨w.heap.size,y,none⟩) HN2.out (.bool (true))).below (Ext.alloc (Below.refl _ _) _))
     have HO5:=zh (c6q hyn hin)
     go_wp2_with (refine a9j _ rfl _ _ _ rfl w.heap.size 3 ii _ 1 8 Tryz.underlying29 hii HIZ.out hi1 hi8 rfl a2h (by simp[Act.eval]) HQ5.out _ [y] (by simp[Act.eval]) (Src.of_slc Tryz.underlying29 a2h (Slc.of_blk (n:=1) (c:=1) a2h (xs:=[y]) (HS5.out.blk 0 rfl) rfl rfl (Nat.le_refl _) (by decide)) (Below.refl _ _) (c7d _)) (by have:=HM2.out;have:=HGK.out;have:=LN.out;unfold maxLen;simp only[List.length_singleton];omega) (by have:=HM2.out;have:=HGK.out;have:=LN.out;simp only[List.length_singleton];omega) HS5.out.below.size ?_)
     intro v8 w8 g8 hq8 hgr8 hg8
     have hge8:=HQ5.out.lt.1
     have hw8:(((wr.setCell ⟨w.heap.size,y,none⟩ (.bool true)).alloc (.cells #[.int .i64 (y:Nat)] 3))).heap.size=wr.heap.size+1:=by rw[size_alloc,a9m]
     have h8a:=HS5.out.lt 1 rfl
     have HQ8:=zh hq8
     have HN8:=zh (show g8≠w.heap.size from fun e=>by rcases hg8 with h9 | h9;exact HN2.out (h9.symm.trans e);omega)
     have HS8:=zh ((HS5.out.sub (List.sublist_cons_self ..)).turnedR hgr8 hge8 (by intro z hz;rcases List.mem_cons.1 hz with rfl | hz;exact HN2.out;cases hz))
     clear hq8 hgr8 hg8 hge8 hw8 h8a HQ5 HS5 HS2 HQ2 x7 x8 x9 x10 x11 x12 x13 x14 x15 x16 x17 x18 x19 x20
     go_wp2
     go_roundg (n-(y+1))
     case measure=>omega
     case rel=>exact⟨y+1,todo++[y],g8,putA inn2 y true,by go_num,by omega,Nat.le_refl _,(by rw[a8s];exact HL2.out.new (.inl (HE1.out.1 (by simp)))),(by have:=HO5.out;have:=HM2.out;show _<=_;rw[List.length_append,List.length_singleton];omega),HQ8.out,HN8.out,HS8.out⟩
    have HIN:=zh hin
    have x7:=HS2.out.cellE 0 rfl hyn
    rw[hin]at x7
    go_wp2
    go_roundg (n-(y+1))
    case measure=>omega
    case rel=>exact⟨y+1,todo,gr,inn2,by go_num,by omega,Nat.le_refl _,HL2.out.old (fun _=>HIN.out),HM2.out,HQ2.out,HN2.out,HS2.out⟩
   have hye:y=n:=by omega
   rw[hye]at HL2 ⊢
   have e4:decide (((n:Nat):Int)<(n:Int))=false:=decide_eq_false (by omega)
   clear hye hy hyn hm2
   go_wp2
   go_roundg (G1-1)
   case measure=>have:=HM2.out;omega
   case rel=>exact⟨todo,gr,inn2,HL2.out.done HB.out,(by have:=HM2.out;show _<=_;omega),(by have:=HGK.out;omega),HQ2.out,HN2.out,HS2.out⟩
 | nil =>
  obtain⟨p,cap,rfl,_,_⟩:=HQ.out.len
  dsimp only[List.length_nil]
  clear HQ HN hm hgk
  go_wp2
  go_loopw [9,75] (fun v_ k_ wr=>∃k:Nat,k<=n/\k_=.int .i64 k/\Hid (Grows wr w.heap.size 3 1 v_ ((List.range k).filter inn).length (flat intE ((List.range k).filter inn)))/\Hid (St w [⟨w.heap.size,rowE .bool n inn,4⟩] wr)) (fun _ k_ _=>n-(intOf k_).toNat)
  case atStart=>exact⟨0,Nat.zero_le _,rfl,World.ownsRow_nil _ _ _ _,HS.out⟩
  case round =>
   clear HS
   obtain⟨k,hk,rfl,HO,HS⟩:=hrel
   rename_i u9
   by_cases hkn:k<n
   ·have hfs:=a0v inn k
    obtain⟨DL,hDL⟩:∃DL,DL=(List.range k).filter inn:=⟨_,rfl⟩
    rw[<- hDL]at HO hfs
    have LD:=zh (show DL.length<=1000 from by have h8:=List.length_filter_le inn (List.range k);rw[<- hDL,List.length_range]at h8;have:=LN.out;omega)
    have e4:(0:Int)<=((k:Nat):Int):=by omega
    have e5:((k:Nat):Int)<(n:Int):=by omega
    have e6:decide (((k:Nat):Int)<(n:Int))=true:=decide_eq_true e5
    have i5:IntKind.i64.wrap ((k:Int)+1)=((k+1:Nat):Int):=by have:=LN.out;rw[IntWalk.i64_in _ (by omega)];rfl
    cases hin:inn k
    ·rw[hin,if_neg (by decide),List.append_nil]at hfs
     have HFS:=zh hfs
     clear hfs
     have x6:=HS.out.cellE 0 rfl hkn
     rw[hin]at x6
     go_wp2
     go_roundw
     case rel=>exact⟨k+1,by omega,by go_num,by rw[HFS.out];exact HO.out,HS.out⟩
     case measure=>simp[intOf];omega
    rw[hin,if_pos rfl]at hfs
    have HFS:=zh hfs
    clear hfs
    have x6:=HS.out.cellE 0 rfl hkn
    rw[hin]at x6
    have x7:=HS.out.lt 0 rfl
    have x8:¬w.heap.size=wr.heap.size:=by omega
    have x9:¬wr.heap.size=w.heap.size:=by omega
    have HS5:=aL HS #[.int .i64 (k:Nat)] 3 wr.heap.size
    have hsz:=HS5.out.below.size
    have hblk:=HS5.out.blk 0 rfl
    have hgr:World.ownsRow _ w.heap.size 3 1 u9 DL.length (flat intE DL):=(HO.out.below (Ext.alloc (Below.refl wr.heap.size wr) (Obj.cells #[.int .i64 (k:Nat)] 3)))
    go_wp2_with (at_builtin;refine wpList_append_own _ rfl _ _ 29 rfl w.heap.size 3 ii _ 1 8 Tryz.underlying29 hii HIZ.out hi1 hi8 rfl (by decide) u9 DL.length (flat intE DL) (by simp[Act.eval]) hgr ⟨wr.heap.size,0,none⟩ 1 1 (intE k) (by simp[Act.eval]) rfl (a6t hblk rfl) (fun u hu=>by rw[List.mem_singleton.1 hu];rfl) (by have:=LD.out;unfold maxLen;omega) (by have:=LD.out;omega) hsz ?_;intro v9 w9 hown9 hg9 _)
    have HSA:=zh ((HS5.out.sub (List.sublist_cons_self ..)).turnedO hg9 (fun q hq=>(World.ownsRow.lt hgr q hq).1) (fun x hx=>by rw[List.mem_singleton.1 hx];exact a1m hgr (HS5.out.blk 1 rfl) (by decide)))
    have HOA:=zh (show Grows w9 w.heap.size 3 1 v9 (DL++[k]).length (flat intE (DL++[k]))from by rw[a2s,List.length_append];exact hown9)
    clear hown9 hg9 hgr hblk hsz HS5 x6 x7 x8 x9
    go_wp2
    go_roundw
    case rel=>exact⟨k+1,by omega,by go_num,by rw[HFS.out];exact HOA.out,HSA.out⟩
    case measure=>simp[intOf];omega
   have hke:k=n:=by omega
   rw[hke]at HO ⊢
   have e4:decide (((n:Nat):Int)<(n:Int))=false:=decide_eq_false (by omega)
   clear hke hk hkn
   go_wp2
   go_ret
   exact⟨_,inn,rfl,HO.out,HL.out.all,HS.out.below⟩
end Go.Proofs.YtjmiicjialkpiaaGreatDoor
