/-
Part 8 of the base.
-/
import Derived.Test.YtjmiicjialkpiaaGreatDoorRf7
import Derived.Test.YtjmiicjialkpiaaGreatDoorRf10
set_option maxRecDepth 100000
set_option maxHeartbeats 1000000
namespace Go.Proofs.YtjmiicjialkpiaaGreatDoor
open Go.RowKit
theorem c2h(n1:Bool)(a1 b1:List UInt8)(n2:Bool)(a2 b2:List UInt8)(w:World)(la1:a1.length<=17179869184)(lb1:b1.length<=17179869184)(la2:a2.length<=17179869184)(lb2:b2.length<=17179869184) :
  Calls Tryz.prog 45 #[raw n1 a1 b1,raw n2 a2 b2] w fun e w'=>e=.returned (rat (decR n1 a1 b1+decR n2 a2 b2))/\Below w.heap.size w w':=by
 have c1:=fun W=>a3e n1 a1 b1 W (by omega) (by omega)
 have c2:=fun W=>a3e n2 a2 b2 W (by omega) (by omega)
 have sp:=b1a (neg:=n1) la1 lb1 (by decide)
 have sq:=b1a (neg:=n2) la2 lb2 (by decide)
 generalize decR n1 a1 b1=p at *
 generalize decR n2 a2 b2=q at *
 clear la1 lb1 la2 lb2
 have ad:=fun W=>b3d p q W sp sq
 clear sp sq
 generalize p+q=r at *
 unfold rat raw at *
 generalize negB p=np at *
 generalize numB p=bp at *
 generalize a0a p=dp at *
 generalize negB q=nq at *
 generalize numB q=bq at *
 generalize a0a q=dq at *
 generalize negB r=nr at *
 generalize numB r=br at *
 generalize a0a r=dr at *
 have C1:=zh c1
 have C2:=zh c2
 have AD:=zh ad
 clear c1 c2 ad
 go_enter Tryz.func45,Tryz.ntmps45
 have HS:=zh (St.start w)
 go_wp2
 have HS2:=aL (aL (aL HS #[.bool n1,.string (bs a1),.string (bs b1)] 39 w.heap.size) #[.bool n2,.string (bs a2),.string (bs b2)] 39 (w.heap.size+1)) #[.bool false,.string (bs []),.string (bs [])] 39 (w.heap.size+1+1)
 clear HS
 refine a0d 5 [fun _ vv=>vv=.agg #[.bool n1,.string (bs a1),.string (bs b1)],fun _ vv=>vv=.agg #[.bool np,.string (bs bp),.string (bs dp)],fun _ vv=>vv=.agg #[.bool n2,.string (bs a2),.string (bs b2)],fun _ vv=>vv=.agg #[.bool nq,.string (bs bq),.string (bs dq)],fun _ vv=>vv=.agg #[.bool nr,.string (bs br),.string (bs dr)]] rfl (by kernel_rfl) (by kernel_rfl) (by kernel_rfl) ⟨pP,pP,pP,pP,pP,trivial⟩ ?_ ?_
 refine⟨?_,?_,?_,?_,?_,trivial⟩<;>(intro xx af wv hbx hev hev0 hd;have H:=SH.mk hev hev0 hd;clear hev hev0 hd)
 ·have e2:=H.i 2;clear H;have hs1:=zh (HS2.out.call hbx);have y0:=cC hs1 2 0;have y1:=cC hs1 2 1;have y2:=cC hs1 2 2;go_wp2;exact sR rfl
 ·have e5:=H.r 0 5;clear H
  go_wp2_with fail
  refine(C1.out _).mono ?_
  rintro e w8 ⟨rfl,hb8⟩;go_wp2;exact StepQ.mk _ hb8 rfl
 ·have e3:=H.i 3;clear H;have hs1:=zh (HS2.out.call hbx);have y0:=cC hs1 1 0;have y1:=cC hs1 1 1;have y2:=cC hs1 1 2;go_wp2;exact sR rfl
 ·have e7:=H.r 2 7;clear H
  go_wp2_with fail
  refine(C2.out _).mono ?_
  rintro e w8 ⟨rfl,hb8⟩;go_wp2;exact StepQ.mk _ hb8 rfl
 ·have e6:=H.r 1 6;have e8:=H.r 3 8;clear H
  go_wp2_with fail
  refine(AD.out _).mono ?_
  rintro e w8 ⟨rfl,hb8⟩;go_wp2;exact StepQ.mk _ hb8 rfl
 intro xx w6 hb9 hv
 simp only[List.take,List.drop,a0h,Act.put]
 simp only[vQ hv 0,vQ hv 1,vQ hv 2,vQ hv 3,vQ hv 4]
 clear hv
 have HS6:=zh (HS2.out.call hb9)
 clear hb9 HS2
 have x1:=cC HS6 0 0
 have x2:=cC HS6 0 1
 have x3:=cC HS6 0 2
 have x4:=cF HS6 0 0
 have x5:=cF HS6 0 1
 have x6:=cF HS6 0 2
 have x7:=cN HS6 0 1
 have x8:=cN HS6 1 0
 have x9:=cN HS6 0 2
 have x10:=cN HS6 2 0
 go_wp2
 have HS7:Hid (St w [⟨w.heap.size+1+1,#[.bool nr,.string (bs br),.string (bs dr)],39⟩,_,_] _):=zh (St.set (St.set (St.set (HS6.out) 0 rfl 0 _) 0 rfl 1 _) 0 rfl 2 _)
 exact bodyPost_ret (a0f rfl _ _ _ _ _ _ rfl (HS7.out.blk 0 rfl)) rfl ⟨rfl,HS7.out.below⟩
theorem b3q(n1:Bool)(a1 b1:List UInt8)(n2:Bool)(a2 b2:List UInt8)(w:World)(la1:a1.length<=17179869184)(lb1:b1.length<=17179869184)(la2:a2.length<=17179869184)(lb2:b2.length<=17179869184) :
  Calls Tryz.prog 13 #[raw n1 a1 b1,raw n2 a2 b2] w fun e w'=>e=.returned (.int .i64 (sgn (decR n1 a1 b1-decR n2 a2 b2).num))/\Below w.heap.size w w':=by
 have c1:=fun W=>a3e n1 a1 b1 W (by omega) (by omega)
 have c2:=fun W=>a3e n2 a2 b2 W (by omega) (by omega)
 have sp:=b1a (neg:=n1) la1 lb1 (by decide)
 have sq:=b1a (neg:=n2) la2 lb2 (by decide)
 generalize decR n1 a1 b1=p at *
 generalize decR n2 a2 b2=q at *
 clear la1 lb1 la2 lb2
 have g1:=fun W=>a5x (negB p) (numB p) (a0a p) W
 have g2:=fun W=>a5x (negB q) (numB q) (a0a q) W
 have d1:=fun W=>a0z p W
 have d2:=fun W=>a0z q W
 have lp:=sp.num
 have lq:=sq.num
 have lpd:=sp.2
 have lqd:=sq.2
 have m1:=fun W=>a6a (numB p) (bytesOf q.den) W (by omega) (by omega)
 have m2:=fun W=>a6a (numB q) (bytesOf p.den) W (by omega) (by omega)
 rw[a7y,a0c]at m1 m2
 have lx:=a0w sp.1 sq.2
 have ly:=a0w sq.1 sp.2
 have cm:=fun W=>nat_cmp (bytesOf (p.num.natAbs*q.den)) (bytesOf (q.num.natAbs*p.den)) W (by omega) (by omega)
 rw[a0c,a0c]at cm
 rw[c6f]at g1 g2
 have k1:=@cmp_less p q
 have k2:=@cmp_more p q
 have k3:=@cmp_neg p q
 have k4:=@cmp_pos p q
 have kb:=c7u (((p.num.natAbs*q.den:Nat):Int)-(q.num.natAbs*p.den:Nat))
 generalize sgn (((p.num.natAbs*q.den:Nat):Int)-(q.num.natAbs*p.den:Nat))=c at *
 generalize sgn (p-q).num=r at *
 generalize sgn p.num=u at *
 generalize sgn q.num=v at *
 obtain⟨kb1,kb2⟩:=kb
 clear sp sq lp lq lpd lqd lx ly
 unfold rat raw at *
 generalize hnp:negB p=np at *
 generalize numB p=bp at *
 generalize a0a p=dp at *
 generalize negB q=nq at *
 generalize numB q=bq at *
 generalize a0a q=dq at *
 generalize bytesOf (p.num.natAbs*q.den)=ex at *
 generalize bytesOf (q.num.natAbs*p.den)=ey at *
 generalize bytesOf p.den=ep at *
 generalize bytesOf q.den=eq at *
 clear hnp
 have C1:=zh c1
 have C2:=zh c2
 have G1:=zh g1
 have G2:=zh g2
 have D1:=zh d1
 have D2:=zh d2
 have M1:=zh m1
 have M2:=zh m2
 have CM:=zh cm
 clear c1 c2 g1 g2 d1 d2 m1 m2 cm
 by_cases hlt:u<v
 have hu:(u==v)=false:=by rw[beq_eq_false_iff_ne];omega
 have hu2:(u != v)=true:=by rw[bne,hu];rfl
 have hl:decide (u<v)=true:=decide_eq_true hlt
 have K:=zh (k1 hlt)
 clear k1 k2 k3 k4 hlt
 rotate_left
 by_cases hgt:v<u
 have hu:(u==v)=false:=by rw[beq_eq_false_iff_ne];omega
 have hu2:(u != v)=true:=by rw[bne,hu];rfl
 have hl:decide (u<v)=false:=decide_eq_false (by omega)
 have K:=zh (k2 hgt)
 clear k1 k2 k3 k4 hlt hgt
 rotate_left
 have huv:u=v:=by omega
 subst huv
 cases np
 have hu:(u==u)=true:=by simp
 have hu2:(u != u)=false:=by simp
 have K:=zh (k4 rfl rfl)
 clear k1 k2 k3 k4 hlt hgt
 rotate_left
 have hu:(u==u)=true:=by simp
 have hu2:(u != u)=false:=by simp
 have K:=zh (k3 rfl rfl)
 clear k1 k2 k3 k4 hlt hgt
 rotate_left
 all_goals
   go_enter Tryz.func13,Tryz.ntmps13
   have HS:=zh (St.start w)
   go_wp2
   have HS2:=aL (aL HS #[.bool n1,.string (bs a1),.string (bs b1)] 39 w.heap.size) #[.bool n2,.string (bs a2),.string (bs b2)] 39 (w.heap.size+1)
   clear HS
 ·refine a0d 4 [fun _ vv=>vv=.agg #[.bool n1,.string (bs a1),.string (bs b1)],fun _ vv=>vv=.agg #[.bool np,.string (bs bp),.string (bs dp)],fun _ vv=>vv=.agg #[.bool n2,.string (bs a2),.string (bs b2)],fun _ vv=>vv=.agg #[.bool nq,.string (bs bq),.string (bs dq)]] rfl (by kernel_rfl) (by kernel_rfl) (by kernel_rfl) ⟨pP,pP,pP,pP,trivial⟩ ?_ ?_
  refine⟨?_,?_,?_,?_,trivial⟩<;>(intro xx af wv hbx hev hev0 hd;have H:=SH.mk hev hev0 hd;clear hev hev0 hd)
  ·have e2:=H.i 2;clear H;have hs1:=zh (HS2.out.call hbx);have y0:=cC hs1 1 0;have y1:=cC hs1 1 1;have y2:=cC hs1 1 2;go_wp2;exact sR rfl
  ·have e8:=H.r 0 8;clear H
   go_wp2_with fail
   refine(C1.out _).mono ?_
   rintro e w8 ⟨rfl,hb8⟩;go_wp2;exact StepQ.mk _ hb8 rfl
  ·have e3:=H.i 3;clear H;have hs1:=zh (HS2.out.call hbx);have y0:=cC hs1 0 0;have y1:=cC hs1 0 1;have y2:=cC hs1 0 2;go_wp2;exact sR rfl
  ·have e10:=H.r 2 10;clear H
   go_wp2_with fail
   refine(C2.out _).mono ?_
   rintro e w8 ⟨rfl,hb8⟩;go_wp2;exact StepQ.mk _ hb8 rfl
  intro xx w5 hb9 hv
  simp only[List.take,List.drop,a0h,Act.put]
  simp only[vQ hv 0,vQ hv 1,vQ hv 2,vQ hv 3]
  clear hv
  have HS5:=zh (HS2.out.call hb9)
  clear hb9 HS2
  have x1:=cC HS5 1 0
  have x2:=cC HS5 1 1
  have x3:=cC HS5 1 2
  have x4:=cC HS5 0 0
  have x5:=cC HS5 0 1
  have x6:=cC HS5 0 2
  have x7:=cF HS5 1 0
  have x8:=cF HS5 1 1
  have x9:=cF HS5 1 2
  have x10:=cF HS5 0 0
  have x11:=cF HS5 0 1
  have x12:=cF HS5 0 2
  have x13:=cN HS5 1 0
  have x14:=cN HS5 0 1
  have x15:=cN HS5 0 1
  have x16:=cN HS5 1 0
  go_wp2
  clear x1 x2 x3 x4 x5 x6 x7 x8 x9 x10 x11 x12 x13 x14 x15 x16
  have HS6:Hid (St w [⟨w.heap.size+1,#[.bool nq,.string (bs bq),.string (bs dq)],39⟩,⟨w.heap.size,#[.bool np,.string (bs bp),.string (bs dp)],39⟩] _):=zh (St.set (St.set (St.set (St.set (St.set (St.set (HS5.out) 1 rfl 0 _) 1 rfl 1 _) 1 rfl 2 _) 0 rfl 0 _) 0 rfl 1 _) 0 rfl 2 _)
  clear HS5
  refine a0d 5 [fun _ vv=>vv=.agg #[.bool np,.string (bs bp),.string (bs dp)],fun _ vv=>vv=.int .i64 u,fun _ vv=>vv=.agg #[.bool nq,.string (bs bq),.string (bs dq)],fun _ vv=>vv=.int .i64 v,fun _ vv=>vv=.int .i64 u] rfl (by kernel_rfl) (by kernel_rfl) (by kernel_rfl) ⟨pP,pP,pP,pP,pP,trivial⟩ ?_ ?_
  refine⟨?_,?_,?_,?_,?_,trivial⟩<;>(intro xx af wv hbx hev hev0 hd;have H:=SH.mk hev hev0 hd;clear hev hev0 hd)
  ·have e2:=H.i 2;clear H;have hs1:=zh (HS6.out.call hbx);have y0:=cC hs1 1 0;have y1:=cC hs1 1 1;have y2:=cC hs1 1 2;go_wp2;exact sR rfl
  ·have e12:=H.r 0 12;clear H
   go_wp2_with fail
   refine(G1.out _).mono ?_
   rintro e w8 ⟨rfl,hb8⟩;go_wp2;exact StepQ.mk _ hb8 rfl
  ·have e3:=H.i 3;clear H;have hs1:=zh (HS6.out.call hbx);have y0:=cC hs1 0 0;have y1:=cC hs1 0 1;have y2:=cC hs1 0 2;go_wp2;exact sR rfl
  ·have e14:=H.r 2 14;clear H
   go_wp2_with fail
   refine(G2.out _).mono ?_
   rintro e w8 ⟨rfl,hb8⟩;go_wp2;exact StepQ.mk _ hb8 rfl
  ·have e13:=H.r 1 13;clear H;go_wp2;exact sR rfl
  intro xx w7 hb9 hv
  simp only[List.take,List.drop,a0h,Act.put]
  simp only[vQ hv 0,vQ hv 1,vQ hv 2,vQ hv 3,vQ hv 4]
  clear hv
  have HS7:=zh (HS6.out.call hb9)
  clear hb9 HS6
  go_wp2
  go_ret
  have HS8:=zh HS7.out
  exact⟨by rw[K.out];rfl,HS8.out.below⟩
 ·refine a0d 4 [fun _ vv=>vv=.agg #[.bool n1,.string (bs a1),.string (bs b1)],fun _ vv=>vv=.agg #[.bool np,.string (bs bp),.string (bs dp)],fun _ vv=>vv=.agg #[.bool n2,.string (bs a2),.string (bs b2)],fun _ vv=>vv=.agg #[.bool nq,.string (bs bq),.string (bs dq)]] rfl (by kernel_rfl) (by kernel_rfl) (by kernel_rfl) ⟨pP,pP,pP,pP,trivial⟩ ?_ ?_
  refine⟨?_,?_,?_,?_,trivial⟩<;>(intro xx af wv hbx hev hev0 hd;have H:=SH.mk hev hev0 hd;clear hev hev0 hd)
  ·have e2:=H.i 2;clear H;have hs1:=zh (HS2.out.call hbx);have y0:=cC hs1 1 0;have y1:=cC hs1 1 1;have y2:=cC hs1 1 2;go_wp2;exact sR rfl
  ·have e8:=H.r 0 8;clear H
   go_wp2_with fail
   refine(C1.out _).mono ?_
   rintro e w8 ⟨rfl,hb8⟩;go_wp2;exact StepQ.mk _ hb8 rfl
  ·have e3:=H.i 3;clear H;have hs1:=zh (HS2.out.call hbx);have y0:=cC hs1 0 0;have y1:=cC hs1 0 1;have y2:=cC hs1 0 2;go_wp2;exact sR rfl
  ·have e10:=H.r 2 10;clear H
   go_wp2_with fail
   refine(C2.out _).mono ?_
   rintro e w8 ⟨rfl,hb8⟩;go_wp2;exact StepQ.mk _ hb8 rfl
  intro xx w5 hb9 hv
  simp only[List.take,List.drop,a0h,Act.put]
  simp only[vQ hv 0,vQ hv 1,vQ hv 2,vQ hv 3]
  clear hv
  have HS5:=zh (HS2.out.call hb9)
  clear hb9 HS2
  have x1:=cC HS5 1 0
  have x2:=cC HS5 1 1
  have x3:=cC HS5 1 2
  have x4:=cC HS5 0 0
  have x5:=cC HS5 0 1
  have x6:=cC HS5 0 2
  have x7:=cF HS5 1 0
  have x8:=cF HS5 1 1
  have x9:=cF HS5 1 2
  have x10:=cF HS5 0 0
  have x11:=cF HS5 0 1
  have x12:=cF HS5 0 2
  have x13:=cN HS5 1 0
  have x14:=cN HS5 0 1
  have x15:=cN HS5 0 1
  have x16:=cN HS5 1 0
  go_wp2
  clear x1 x2 x3 x4 x5 x6 x7 x8 x9 x10 x11 x12 x13 x14 x15 x16
  have HS6:Hid (St w [⟨w.heap.size+1,#[.bool nq,.string (bs bq),.string (bs dq)],39⟩,⟨w.heap.size,#[.bool np,.string (bs bp),.string (bs dp)],39⟩] _):=zh (St.set (St.set (St.set (St.set (St.set (St.set (HS5.out) 1 rfl 0 _) 1 rfl 1 _) 1 rfl 2 _) 0 rfl 0 _) 0 rfl 1 _) 0 rfl 2 _)
  clear HS5
  refine a0d 5 [fun _ vv=>vv=.agg #[.bool np,.string (bs bp),.string (bs dp)],fun _ vv=>vv=.int .i64 u,fun _ vv=>vv=.agg #[.bool nq,.string (bs bq),.string (bs dq)],fun _ vv=>vv=.int .i64 v,fun _ vv=>vv=.int .i64 u] rfl (by kernel_rfl) (by kernel_rfl) (by kernel_rfl) ⟨pP,pP,pP,pP,pP,trivial⟩ ?_ ?_
  refine⟨?_,?_,?_,?_,?_,trivial⟩<;>(intro xx af wv hbx hev hev0 hd;have H:=SH.mk hev hev0 hd;clear hev hev0 hd)
  ·have e2:=H.i 2;clear H;have hs1:=zh (HS6.out.call hbx);have y0:=cC hs1 1 0;have y1:=cC hs1 1 1;have y2:=cC hs1 1 2;go_wp2;exact sR rfl
  ·have e12:=H.r 0 12;clear H
   go_wp2_with fail
   refine(G1.out _).mono ?_
   rintro e w8 ⟨rfl,hb8⟩;go_wp2;exact StepQ.mk _ hb8 rfl
  ·have e3:=H.i 3;clear H;have hs1:=zh (HS6.out.call hbx);have y0:=cC hs1 0 0;have y1:=cC hs1 0 1;have y2:=cC hs1 0 2;go_wp2;exact sR rfl
  ·have e14:=H.r 2 14;clear H
   go_wp2_with fail
   refine(G2.out _).mono ?_
   rintro e w8 ⟨rfl,hb8⟩;go_wp2;exact StepQ.mk _ hb8 rfl
  ·have e13:=H.r 1 13;clear H;go_wp2;exact sR rfl
  intro xx w7 hb9 hv
  simp only[List.take,List.drop,a0h,Act.put]
  simp only[vQ hv 0,vQ hv 1,vQ hv 2,vQ hv 3,vQ hv 4]
  clear hv
  have HS7:=zh (HS6.out.call hb9)
  clear hb9 HS6
  go_wp2
  go_ret
  have HS8:=zh HS7.out
  exact⟨by rw[K.out];rfl,HS8.out.below⟩
 ·refine a0d 4 [fun _ vv=>vv=.agg #[.bool n1,.string (bs a1),.string (bs b1)],fun _ vv=>vv=.agg #[.bool false,.string (bs bp),.string (bs dp)],fun _ vv=>vv=.agg #[.bool n2,.string (bs a2),.string (bs b2)],fun _ vv=>vv=.agg #[.bool nq,.string (bs bq),.string (bs dq)]] rfl (by kernel_rfl) (by kernel_rfl) (by kernel_rfl) ⟨pP,pP,pP,pP,trivial⟩ ?_ ?_
  refine⟨?_,?_,?_,?_,trivial⟩<;>(intro xx af wv hbx hev hev0 hd;have H:=SH.mk hev hev0 hd;clear hev hev0 hd)
  ·have e2:=H.i 2;clear H;have hs1:=zh (HS2.out.call hbx);have y0:=cC hs1 1 0;have y1:=cC hs1 1 1;have y2:=cC hs1 1 2;go_wp2;exact sR rfl
  ·have e8:=H.r 0 8;clear H
   go_wp2_with fail
   refine(C1.out _).mono ?_
   rintro e w8 ⟨rfl,hb8⟩;go_wp2;exact StepQ.mk _ hb8 rfl
  ·have e3:=H.i 3;clear H;have hs1:=zh (HS2.out.call hbx);have y0:=cC hs1 0 0;have y1:=cC hs1 0 1;have y2:=cC hs1 0 2;go_wp2;exact sR rfl
  ·have e10:=H.r 2 10;clear H
   go_wp2_with fail
   refine(C2.out _).mono ?_
   rintro e w8 ⟨rfl,hb8⟩;go_wp2;exact StepQ.mk _ hb8 rfl
  intro xx w5 hb9 hv
  simp only[List.take,List.drop,a0h,Act.put]
  simp only[vQ hv 0,vQ hv 1,vQ hv 2,vQ hv 3]
  clear hv
  have HS5:=zh (HS2.out.call hb9)
  clear hb9 HS2
  have x1:=cC HS5 1 0
  have x2:=cC HS5 1 1
  have x3:=cC HS5 1 2
  have x4:=cC HS5 0 0
  have x5:=cC HS5 0 1
  have x6:=cC HS5 0 2
  have x7:=cF HS5 1 0
  have x8:=cF HS5 1 1
  have x9:=cF HS5 1 2
  have x10:=cF HS5 0 0
  have x11:=cF HS5 0 1
  have x12:=cF HS5 0 2
  have x13:=cN HS5 1 0
  have x14:=cN HS5 0 1
  have x15:=cN HS5 0 1
  have x16:=cN HS5 1 0
  go_wp2
  clear x1 x2 x3 x4 x5 x6 x7 x8 x9 x10 x11 x12 x13 x14 x15 x16
  have HS6:Hid (St w [⟨w.heap.size+1,#[.bool nq,.string (bs bq),.string (bs dq)],39⟩,⟨w.heap.size,#[.bool false,.string (bs bp),.string (bs dp)],39⟩] _):=zh (St.set (St.set (St.set (St.set (St.set (St.set (HS5.out) 1 rfl 0 _) 1 rfl 1 _) 1 rfl 2 _) 0 rfl 0 _) 0 rfl 1 _) 0 rfl 2 _)
  clear HS5
  refine a0d 5 [fun _ vv=>vv=.agg #[.bool false,.string (bs bp),.string (bs dp)],fun _ vv=>vv=.int .i64 u,fun _ vv=>vv=.agg #[.bool nq,.string (bs bq),.string (bs dq)],fun _ vv=>vv=.int .i64 u,fun _ vv=>vv=.int .i64 u] rfl (by kernel_rfl) (by kernel_rfl) (by kernel_rfl) ⟨pP,pP,pP,pP,pP,trivial⟩ ?_ ?_
  refine⟨?_,?_,?_,?_,?_,trivial⟩<;>(intro xx af wv hbx hev hev0 hd;have H:=SH.mk hev hev0 hd;clear hev hev0 hd)
  ·have e2:=H.i 2;clear H;have hs1:=zh (HS6.out.call hbx);have y0:=cC hs1 1 0;have y1:=cC hs1 1 1;have y2:=cC hs1 1 2;go_wp2;exact sR rfl
  ·have e12:=H.r 0 12;clear H
   go_wp2_with fail
   refine(G1.out _).mono ?_
   rintro e w8 ⟨rfl,hb8⟩;go_wp2;exact StepQ.mk _ hb8 rfl
  ·have e3:=H.i 3;clear H;have hs1:=zh (HS6.out.call hbx);have y0:=cC hs1 0 0;have y1:=cC hs1 0 1;have y2:=cC hs1 0 2;go_wp2;exact sR rfl
  ·have e14:=H.r 2 14;clear H
   go_wp2_with fail
   refine(G2.out _).mono ?_
   rintro e w8 ⟨rfl,hb8⟩;go_wp2;exact StepQ.mk _ hb8 rfl
  ·have e13:=H.r 1 13;clear H;go_wp2;exact sR rfl
  intro xx w7 hb9 hv
  simp only[List.take,List.drop,a0h,Act.put]
  simp only[vQ hv 0,vQ hv 1,vQ hv 2,vQ hv 3,vQ hv 4]
  clear hv
  have HS7:=zh (HS6.out.call hb9)
  clear hb9 HS6
  go_wp2
  refine a0d 11 [fun _ vv=>vv=.pointer (some ⟨w.heap.size,1,none⟩),fun _ vv=>vv=.string (bs bp),fun _ vv=>vv=.agg #[.bool nq,.string (bs bq),.string (bs dq)],fun _ vv=>vv=.string (bs eq),fun _ vv=>vv=.string (bs ex),fun _ vv=>vv=.pointer (some ⟨w.heap.size+1,1,none⟩),fun _ vv=>vv=.string (bs bq),fun _ vv=>vv=.agg #[.bool false,.string (bs bp),.string (bs dp)],fun _ vv=>vv=.string (bs ep),fun _ vv=>vv=.string (bs ey),fun _ vv=>vv=.int .i64 c] rfl (by kernel_rfl) (by kernel_rfl) (by kernel_rfl) ⟨pP,pP,pP,pP,pP,pP,pP,pP,pP,pP,pP,trivial⟩ ?_ ?_
  refine⟨?_,?_,?_,?_,?_,?_,?_,?_,?_,?_,?_,trivial⟩<;>(intro xx af wv hbx hev hev0 hd;have H:=SH.mk hev hev0 hd;clear hev hev0 hd)
  ·have e2:=H.i 2;clear H;go_wp2;exact sR rfl
  ·have e22:=H.r 0 22;clear H;have hs1:=zh (HS7.out.call hbx);have y0:=cC hs1 1 1;go_wp2;exact sR rfl
  ·have e3:=H.i 3;clear H;have hs1:=zh (HS7.out.call hbx);have y0:=cC hs1 0 0;have y1:=cC hs1 0 1;have y2:=cC hs1 0 2;go_wp2;exact sR rfl
  ·have e24:=H.r 2 24;clear H
   go_wp2_with fail
   refine(D2.out _).mono ?_
   rintro e w8 ⟨rfl,hb8⟩;go_wp2;exact StepQ.mk _ hb8 rfl
  ·have e23:=H.r 1 23;have e25:=H.r 3 25;clear H
   go_wp2_with fail
   refine(M1.out _).mono ?_
   rintro e w8 ⟨rfl,hb8⟩;go_wp2;exact StepQ.mk _ hb8 rfl
  ·have e3:=H.i 3;clear H;go_wp2;exact sR rfl
  ·have e27:=H.r 5 27;clear H;have hs1:=zh (HS7.out.call hbx);have y0:=cC hs1 0 1;go_wp2;exact sR rfl
  ·have e2:=H.i 2;clear H;have hs1:=zh (HS7.out.call hbx);have y0:=cC hs1 1 0;have y1:=cC hs1 1 1;have y2:=cC hs1 1 2;go_wp2;exact sR rfl
  ·have e29:=H.r 7 29;clear H
   go_wp2_with fail
   refine(D1.out _).mono ?_
   rintro e w8 ⟨rfl,hb8⟩;go_wp2;exact StepQ.mk _ hb8 rfl
  ·have e28:=H.r 6 28;have e30:=H.r 8 30;clear H
   go_wp2_with fail
   refine(M2.out _).mono ?_
   rintro e w8 ⟨rfl,hb8⟩;go_wp2;exact StepQ.mk _ hb8 rfl
  ·have e26:=H.r 4 26;have e31:=H.r 9 31;clear H
   go_wp2_with fail
   refine(CM.out _).mono ?_
   rintro e w8 ⟨rfl,rfl⟩;go_wp2;exact sR rfl
  intro xx w8 hb9 hv
  simp only[List.take,List.drop,a0h,Act.put]
  simp only[vQ hv 0,vQ hv 1,vQ hv 2,vQ hv 3,vQ hv 4,vQ hv 5,vQ hv 6,vQ hv 7,vQ hv 8,vQ hv 9,vQ hv 10]
  clear hv
  have HS8:=zh (HS7.out.call hb9)
  clear hb9 HS7
  have x17:=cC HS8 1 0
  go_wp2
  go_ret
  have HS9:=zh HS8.out
  exact⟨by rw[K.out];rfl,HS9.out.below⟩
 refine a0d 4 [fun _ vv=>vv=.agg #[.bool n1,.string (bs a1),.string (bs b1)],fun _ vv=>vv=.agg #[.bool true,.string (bs bp),.string (bs dp)],fun _ vv=>vv=.agg #[.bool n2,.string (bs a2),.string (bs b2)],fun _ vv=>vv=.agg #[.bool nq,.string (bs bq),.string (bs dq)]] rfl (by kernel_rfl) (by kernel_rfl) (by kernel_rfl) ⟨pP,pP,pP,pP,trivial⟩ ?_ ?_
 refine⟨?_,?_,?_,?_,trivial⟩<;>(intro xx af wv hbx hev hev0 hd;have H:=SH.mk hev hev0 hd;clear hev hev0 hd)
 ·have e2:=H.i 2;clear H;have hs1:=zh (HS2.out.call hbx);have y0:=cC hs1 1 0;have y1:=cC hs1 1 1;have y2:=cC hs1 1 2;go_wp2;exact sR rfl
 ·have e8:=H.r 0 8;clear H
  go_wp2_with fail
  refine(C1.out _).mono ?_
  rintro e w8 ⟨rfl,hb8⟩;go_wp2;exact StepQ.mk _ hb8 rfl
 ·have e3:=H.i 3;clear H;have hs1:=zh (HS2.out.call hbx);have y0:=cC hs1 0 0;have y1:=cC hs1 0 1;have y2:=cC hs1 0 2;go_wp2;exact sR rfl
 ·have e10:=H.r 2 10;clear H
  go_wp2_with fail
  refine(C2.out _).mono ?_
  rintro e w8 ⟨rfl,hb8⟩;go_wp2;exact StepQ.mk _ hb8 rfl
 intro xx w5 hb9 hv
 simp only[List.take,List.drop,a0h,Act.put]
 simp only[vQ hv 0,vQ hv 1,vQ hv 2,vQ hv 3]
 clear hv
 have HS5:=zh (HS2.out.call hb9)
 clear hb9 HS2
 have x1:=cC HS5 1 0
 have x2:=cC HS5 1 1
 have x3:=cC HS5 1 2
 have x4:=cC HS5 0 0
 have x5:=cC HS5 0 1
 have x6:=cC HS5 0 2
 have x7:=cF HS5 1 0
 have x8:=cF HS5 1 1
 have x9:=cF HS5 1 2
 have x10:=cF HS5 0 0
 have x11:=cF HS5 0 1
 have x12:=cF HS5 0 2
 have x13:=cN HS5 1 0
 have x14:=cN HS5 0 1
 have x15:=cN HS5 0 1
 have x16:=cN HS5 1 0
 go_wp2
 clear x1 x2 x3 x4 x5 x6 x7 x8 x9 x10 x11 x12 x13 x14 x15 x16
 have HS6:Hid (St w [⟨w.heap.size+1,#[.bool nq,.string (bs bq),.string (bs dq)],39⟩,⟨w.heap.size,#[.bool true,.string (bs bp),.string (bs dp)],39⟩] _):=zh (St.set (St.set (St.set (St.set (St.set (St.set (HS5.out) 1 rfl 0 _) 1 rfl 1 _) 1 rfl 2 _) 0 rfl 0 _) 0 rfl 1 _) 0 rfl 2 _)
 clear HS5
 refine a0d 5 [fun _ vv=>vv=.agg #[.bool true,.string (bs bp),.string (bs dp)],fun _ vv=>vv=.int .i64 u,fun _ vv=>vv=.agg #[.bool nq,.string (bs bq),.string (bs dq)],fun _ vv=>vv=.int .i64 u,fun _ vv=>vv=.int .i64 u] rfl (by kernel_rfl) (by kernel_rfl) (by kernel_rfl) ⟨pP,pP,pP,pP,pP,trivial⟩ ?_ ?_
 refine⟨?_,?_,?_,?_,?_,trivial⟩<;>(intro xx af wv hbx hev hev0 hd;have H:=SH.mk hev hev0 hd;clear hev hev0 hd)
 ·have e2:=H.i 2;clear H;have hs1:=zh (HS6.out.call hbx);have y0:=cC hs1 1 0;have y1:=cC hs1 1 1;have y2:=cC hs1 1 2;go_wp2;exact sR rfl
 ·have e12:=H.r 0 12;clear H
  go_wp2_with fail
  refine(G1.out _).mono ?_
  rintro e w8 ⟨rfl,hb8⟩;go_wp2;exact StepQ.mk _ hb8 rfl
 ·have e3:=H.i 3;clear H;have hs1:=zh (HS6.out.call hbx);have y0:=cC hs1 0 0;have y1:=cC hs1 0 1;have y2:=cC hs1 0 2;go_wp2;exact sR rfl
 ·have e14:=H.r 2 14;clear H
  go_wp2_with fail
  refine(G2.out _).mono ?_
  rintro e w8 ⟨rfl,hb8⟩;go_wp2;exact StepQ.mk _ hb8 rfl
 ·have e13:=H.r 1 13;clear H;go_wp2;exact sR rfl
 intro xx w7 hb9 hv
 simp only[List.take,List.drop,a0h,Act.put]
 simp only[vQ hv 0,vQ hv 1,vQ hv 2,vQ hv 3,vQ hv 4]
 clear hv
 have HS7:=zh (HS6.out.call hb9)
 clear hb9 HS6
 go_wp2
 refine a0d 11 [fun _ vv=>vv=.pointer (some ⟨w.heap.size,1,none⟩),fun _ vv=>vv=.string (bs bp),fun _ vv=>vv=.agg #[.bool nq,.string (bs bq),.string (bs dq)],fun _ vv=>vv=.string (bs eq),fun _ vv=>vv=.string (bs ex),fun _ vv=>vv=.pointer (some ⟨w.heap.size+1,1,none⟩),fun _ vv=>vv=.string (bs bq),fun _ vv=>vv=.agg #[.bool true,.string (bs bp),.string (bs dp)],fun _ vv=>vv=.string (bs ep),fun _ vv=>vv=.string (bs ey),fun _ vv=>vv=.int .i64 c] rfl (by kernel_rfl) (by kernel_rfl) (by kernel_rfl) ⟨pP,pP,pP,pP,pP,pP,pP,pP,pP,pP,pP,trivial⟩ ?_ ?_
 refine⟨?_,?_,?_,?_,?_,?_,?_,?_,?_,?_,?_,trivial⟩<;>(intro xx af wv hbx hev hev0 hd;have H:=SH.mk hev hev0 hd;clear hev hev0 hd)
 ·have e2:=H.i 2;clear H;go_wp2;exact sR rfl
 ·have e22:=H.r 0 22;clear H;have hs1:=zh (HS7.out.call hbx);have y0:=cC hs1 1 1;go_wp2;exact sR rfl
 ·have e3:=H.i 3;clear H;have hs1:=zh (HS7.out.call hbx);have y0:=cC hs1 0 0;have y1:=cC hs1 0 1;have y2:=cC hs1 0 2;go_wp2;exact sR rfl
 ·have e24:=H.r 2 24;clear H
  go_wp2_with fail
  refine(D2.out _).mono ?_
  rintro e w8 ⟨rfl,hb8⟩;go_wp2;exact StepQ.mk _ hb8 rfl
 ·have e23:=H.r 1 23;have e25:=H.r 3 25;clear H
  go_wp2_with fail
  refine(M1.out _).mono ?_
  rintro e w8 ⟨rfl,hb8⟩;go_wp2;exact StepQ.mk _ hb8 rfl
 ·have e3:=H.i 3;clear H;go_wp2;exact sR rfl
 ·have e27:=H.r 5 27;clear H;have hs1:=zh (HS7.out.call hbx);have y0:=cC hs1 0 1;go_wp2;exact sR rfl
 ·have e2:=H.i 2;clear H;have hs1:=zh (HS7.out.call hbx);have y0:=cC hs1 1 0;have y1:=cC hs1 1 1;have y2:=cC hs1 1 2;go_wp2;exact sR rfl
 ·have e29:=H.r 7 29;clear H
  go_wp2_with fail
  refine(D1.out _).mono ?_
  rintro e w8 ⟨rfl,hb8⟩;go_wp2;exact StepQ.mk _ hb8 rfl
 ·have e28:=H.r 6 28;have e30:=H.r 8 30;clear H
  go_wp2_with fail
  refine(M2.out _).mono ?_
  rintro e w8 ⟨rfl,hb8⟩;go_wp2;exact StepQ.mk _ hb8 rfl
 ·have e26:=H.r 4 26;have e31:=H.r 9 31;clear H
  go_wp2_with fail
  refine(CM.out _).mono ?_
  rintro e w8 ⟨rfl,rfl⟩;go_wp2;exact sR rfl
 intro xx w8 hb9 hv
 simp only[List.take,List.drop,a0h,Act.put]
 simp only[vQ hv 0,vQ hv 1,vQ hv 2,vQ hv 3,vQ hv 4,vQ hv 5,vQ hv 6,vQ hv 7,vQ hv 8,vQ hv 9,vQ hv 10]
 clear hv
 have HS8:=zh (HS7.out.call hb9)
 clear hb9 HS7
 have x17:=cC HS8 1 0
 go_wp2
 go_ret
 have HS9:=zh HS8.out
 exact⟨by rw[K.out];rfl,HS9.out.below⟩
theorem b8b(va vb:Value)(a b:Nat)(w:World)(ha:Limbs w va (limbsOf a))(hb:Limbs w vb (limbsOf b))(hab:b<=a)(hsz:(limbsOf a).length<=274877906944) :
  Calls Tryz.prog 87 #[va,vb] w fun e w'=>∃v',e=.returned v'/\Limbs w' v' (limbsOf (a-b))/\Below w.heap.size w w':=by
 have:=d0a va vb (limbsOf a) (limbsOf b) w ha hb (by rw[a6b,a6b];have:=a3f hab (Nat.le_refl _);omega) (by rw[a0k,a0k];exact hab) hsz
 rwa[a0k,a0k]at this
theorem d1m{a b n:Nat}(ha:(bytesOf a).length<=n)(hb:(bytesOf b).length<=n):(limbsOf (a+b)).length<=(n+4)/4:=by
 rw[a6b]
 have:=b1z ha hb
 omega
theorem a1b{a n:Nat}(ha:(bytesOf a).length<=n):(limbsOf a).length<=(n+3)/4:=by
 rw[a6b];omega
theorem c8a(p q:Rat)(w:World)(hp:p=0) :
  Calls Tryz.prog 54 #[rat p,rat q] w fun e w'=>e=.returned (rat (p+q))/\Below w.heap.size w w':=by
 have f1:=a2j (numB_nil'.2 hp)
 rw[show p+q=q by rw[hp,Rat.zero_add]]
 unfold rat raw
 clear hp
 generalize negB p=np at *
 generalize numB p=bp at *
 generalize a0a p=dp at *
 generalize negB q=nq at *
 generalize numB q=bq at *
 generalize a0a q=dq at *
 go_enter Tryz.func54,Tryz.ntmps54
 have HS:=zh (St.start w)
 go_wp2
 have HS2:=aL (aL (aL HS #[.bool np,.string (bs bp),.string (bs dp)] 39 w.heap.size) #[.bool nq,.string (bs bq),.string (bs dq)] 39 (w.heap.size+1)) #[.bool nq,.string (bs bq),.string (bs dq)] 39 (w.heap.size+1+1)
 exact bodyPost_ret (a0f rfl _ _ _ _ _ _ rfl (HS2.out.blk 0 rfl)) rfl ⟨rfl,HS2.out.below⟩
theorem c7z(p q:Rat)(w:World)(hp:p≠0)(hq:q=0) :
  Calls Tryz.prog 54 #[rat p,rat q] w fun e w'=>e=.returned (rat (p+q))/\Below w.heap.size w w':=by
 have f1:=a0r (mt numB_nil'.1 hp)
 have f2:=a2j (numB_nil'.2 hq)
 rw[show p+q=p by rw[hq,Rat.add_zero]]
 unfold rat raw
 clear hp hq
 generalize negB p=np at *
 generalize numB p=bp at *
 generalize a0a p=dp at *
 generalize negB q=nq at *
 generalize numB q=bq at *
 generalize a0a q=dq at *
 go_enter Tryz.func54,Tryz.ntmps54
 have HS:=zh (St.start w)
 go_wp2
 have HS2:=aL (aL (aL HS #[.bool np,.string (bs bp),.string (bs dp)] 39 w.heap.size) #[.bool nq,.string (bs bq),.string (bs dq)] 39 (w.heap.size+1)) #[.bool np,.string (bs bp),.string (bs dp)] 39 (w.heap.size+1+1)
 exact bodyPost_ret (a0f rfl _ _ _ _ _ _ rfl (HS2.out.blk 0 rfl)) rfl ⟨rfl,HS2.out.below⟩
theorem c7y(p q:Rat)(w:World)(sp:Sized 17179869184 p)(sq:Sized 17179869184 q)(hp:p≠0)(hq:q≠0)(hs:negB p=negB q) :
  Calls Tryz.prog 54 #[rat p,rat q] w fun e w'=>e=.returned (rat (p+q))/\Below w.heap.size w w':=by
 have f1:=a0r (mt numB_nil'.1 hp)
 have f2:=a0r (mt numB_nil'.1 hq)
 obtain⟨x,hx⟩:∃x,x=p.num.natAbs*q.den:=⟨_,rfl⟩
 obtain⟨y,hy⟩:∃y,y=q.num.natAbs*p.den:=⟨_,rfl⟩
 obtain⟨d,hdd⟩:∃d,d=p.den*q.den:=⟨_,rfl⟩
 have hd0:d≠0:=by rw[hdd];exact Nat.mul_ne_zero p.den_nz q.den_nz
 have bx:(bytesOf x).length<=34359738368:=by rw[hx];exact a0w sp.1 sq.2
 have byy:(bytesOf y).length<=34359738368:=by rw[hy];exact a0w sq.1 sp.2
 have bd:(bytesOf d).length<=34359738368:=by rw[hdd];exact a0w sp.2 sq.2
 have lx:=a1b bx
 have ly:=a1b byy
 have ld:=a1b bd
 have hr:mkRat (signed (negB p) (x+y)) d=p+q:=by
  rw[hdd,b2h,hx,hy]
  have:=a9y p q
  rw[<- hs]at this
  exact this
 have lz:(limbsOf (x+y)).length<=8589934593:=Nat.le_trans (d1m bx byy) (by decide)
 have np1:=sp.num
 have np2:=sp.denom
 have nq1:=sq.num
 have nq2:=sq.denom
 have lpn:=a1b sp.1
 have lqn:=a1b sq.1
 have lpd:=a1b sp.2
 have lqd:=a1b sq.2
 have dp:=fun W=>a6x (negB p) (numB p) (a0a p) W (by omega)
 have dq:=fun W=>a6x (negB q) (numB q) (a0a q) W (by omega)
 have lp:=fun W=>a2d (bs (numB p)) W (by rw[a2u];omega)
 have lq:=fun W=>a2d (bs (numB q)) W (by rw[a2u];omega)
 simp only[a3w,b6u,a7f]at lp lq dp dq
 have rd:=fun(v1 v2:Value) W (h1:Limbs W v1 (limbsOf (x+y))) (h2:Limbs W v2 (limbsOf d))=>a4v (negB p) v1 v2 _ _ W h1 h2 hd0 (by omega) (by omega)
 rw[hr]at rd
 have fs:(negB p==negB q)=true:=by simpa using hs
 have hl2:True:=trivial
 unfold rat raw at *
 clear hr sp sq hs hp hq bx byy bd
 generalize p+q=r at *
 generalize negB r=nr at *
 generalize numB r=br at *
 generalize a0a r=dr at *
 generalize p.num.natAbs=pn at *
 generalize q.num.natAbs=qn at *
 generalize p.den=pd at *
 generalize q.den=qd at *
 generalize negB p=np at *
 generalize numB p=bp at *
 generalize a0a p=dp at *
 generalize negB q=nq at *
 generalize numB q=bq at *
 generalize a0a q=dq at *
 have HX:=zh hx
 have HY:=zh hy
 have HD:=zh hdd
 clear hx hy hdd
 have DP:=zh dp
 have DQ:=zh dq
 have LP:=zh lp
 have LQ:=zh lq
 have RD:=zh rd
 clear dp dq lp lq rd
 go_enter Tryz.func54,Tryz.ntmps54
 have HS:=zh (St.start w)
 go_wp2_with fail
 have HS2:=aL (aL (aL HS #[.bool np,.string (bs bp),.string (bs dp)] 39 w.heap.size) #[.bool nq,.string (bs bq),.string (bs dq)] 39 (w.heap.size+1)) #[.bool false,.string (bs []),.string (bs [])] 39 (w.heap.size+1+1)
 refine(DP.out _).mono ?_
 rintro e w3 ⟨v3,rfl,hl3,hb3⟩
 have HS3:=zh (HS2.out.call hb3)
 have L5_3:=zh hl3
 clear hl3 hb3 HS HS2
 have x1:=cC HS3 1 0
 have x2:=cC HS3 1 1
 have x3:=cC HS3 1 2
 go_wp2_with fail
 refine(DQ.out _).mono ?_
 rintro e w4 ⟨v4,rfl,hl4,hb4⟩
 have HS4:=zh (HS3.out.call hb4)
 have L5_4:=zh (L5_3.out.below hb4)
 clear L5_3
 have L6_4:=zh hl4
 clear hl4 hb4 HS3 x1 x2 x3
 have x4:=cC HS4 2 1
 go_wp2_with fail
 refine(LP.out _).mono ?_
 rintro e w5 ⟨v5,rfl,hl5,hb5⟩
 have HS5:=zh (HS4.out.call hb5)
 have L5_5:=zh (L5_4.out.below hb5)
 clear L5_4
 have L6_5:=zh (L6_4.out.below hb5)
 clear L6_4
 have LA_5:=zh hl5
 clear hl5 hb5 HS4 x4
 go_wp2_with fail
 refine(a2a _ _ pn qd _ LA_5.out L6_5.out (by omega) (by omega)).mono ?_
 rintro e w6 ⟨v6,rfl,hl6,hb6⟩
 have HS6:=zh (HS5.out.call hb6)
 have L5_6:=zh (L5_5.out.below hb6)
 clear L5_5
 have L6_6:=zh (L6_5.out.below hb6)
 clear L6_5
 have LA_6:=zh (LA_5.out.below hb6)
 clear LA_5
 have LX_6:=zh hl6
 clear hl6 hb6 HS5
 have LX_6:=LX_6.out
 rw[<- HX.out]at LX_6
 have LX_6:=zh LX_6
 have x5:=cC HS6 1 1
 go_wp2_with fail
 refine(LQ.out _).mono ?_
 rintro e w7 ⟨v7,rfl,hl7,hb7⟩
 have HS7:=zh (HS6.out.call hb7)
 have L5_7:=zh (L5_6.out.below hb7)
 clear L5_6
 have L6_7:=zh (L6_6.out.below hb7)
 clear L6_6
 have LA_7:=zh (LA_6.out.below hb7)
 clear LA_6
 have LX_7:=zh (LX_6.out.below hb7)
 clear LX_6
 have LB_7:=zh hl7
 clear hl7 hb7 HS6 x5
 go_wp2_with fail
 refine(a2a _ _ qn pd _ LB_7.out L5_7.out (by omega) (by omega)).mono ?_
 rintro e w8 ⟨v8,rfl,hl8,hb8⟩
 have HS8:=zh (HS7.out.call hb8)
 have L5_8:=zh (L5_7.out.below hb8)
 clear L5_7
 have L6_8:=zh (L6_7.out.below hb8)
 clear L6_7
 have LA_8:=zh (LA_7.out.below hb8)
 clear LA_7
 have LX_8:=zh (LX_7.out.below hb8)
 clear LX_7
 have LB_8:=zh (LB_7.out.below hb8)
 clear LB_7
 have LY_8:=zh hl8
 clear hl8 hb8 HS7
 have LY_8:=LY_8.out
 rw[<- HY.out]at LY_8
 have LY_8:=zh LY_8
 go_wp2_with fail
 refine(a2a _ _ pd qd _ L5_8.out L6_8.out (by omega) (by omega)).mono ?_
 rintro e w9 ⟨v9,rfl,hl9,hb9⟩
 have HS9:=zh (HS8.out.call hb9)
 have L5_9:=zh (L5_8.out.below hb9)
 clear L5_8
 have L6_9:=zh (L6_8.out.below hb9)
 clear L6_8
 have LA_9:=zh (LA_8.out.below hb9)
 clear LA_8
 have LX_9:=zh (LX_8.out.below hb9)
 clear LX_8
 have LB_9:=zh (LB_8.out.below hb9)
 clear LB_8
 have LY_9:=zh (LY_8.out.below hb9)
 clear LY_8
 have LD_9:=zh hl9
 clear hl9 hb9 HS8
 have LD_9:=LD_9.out
 rw[<- HD.out]at LD_9
 have LD_9:=zh LD_9
 have x6:=cC HS9 2 0
 have x7:=cC HS9 1 0
 go_wp2
 clear x6 x7
 refine a0d 7 [fun _ vv=>vv=.pointer (some ⟨w.heap.size,0,none⟩),fun _ vv=>vv=.bool np,fun _ vv=>vv=v6,fun _ vv=>vv=v8,fun ww vv=>Limbs ww vv (limbsOf (x+y)),fun _ vv=>vv=v9,fun _ vv=>vv=.agg #[.bool nr,.string (bs br),.string (bs dr)]] rfl (by kernel_rfl) (by kernel_rfl) (by kernel_rfl) ⟨pP,pP,pP,pP,fun _ _ _ h hb=>h.below hb,pP,pP,trivial⟩ ?_ ?_
 refine⟨?_,?_,?_,?_,?_,?_,?_,trivial⟩<;>(intro xx af wv hbx hev hev0 hd;have H:=SH.mk hev hev0 hd;clear hev hev0 hd)
 ·have e2:=H.i 2;clear H;go_wp2;exact sR rfl
 ·have e40:=H.r 0 40;clear H;have hs1:=zh (HS9.out.call hbx);have y0:=cC hs1 2 0;go_wp2;exact sR rfl
 ·have e7:=H.i 7;clear H;go_wp2;exact sR rfl
 ·have e8:=H.i 8;clear H;go_wp2;exact sR rfl
 ·have e42:=H.r 2 42;have e43:=H.r 3 43;clear H
  go_wp2_with fail
  refine(ref_plus _ _ x y _ (LX_9.out.below hbx) (LY_9.out.below hbx) (by omega) (by omega)).mono ?_
  rintro e w8 ⟨v8,rfl,hl8,hb8⟩;go_wp2;exact StepQ.mk _ hb8 hl8
 ·have e9:=H.i 9;clear H;go_wp2;exact sR rfl
 ·have e41:=H.r 1 41;have e44:=H.ev 4 _ 44 rfl rfl;have d4:Limbs wv (xx 4) (limbsOf (x+y)):=H.hd ⟨4,.data⟩ (by simp) rfl;have e45:=H.r 5 45;clear H
  go_wp2_with fail
  refine(RD.out _ _ _ d4 (LD_9.out.below hbx)).mono ?_
  rintro e w8 ⟨rfl,hb8⟩;go_wp2;exact StepQ.mk _ hb8 rfl
 intro xx w10 hb9 hv
 obtain⟨v10_4,hx4⟩:∃v,v=xx 4:=⟨_,rfl⟩
 have hl4:Limbs w10 (xx 4) (limbsOf (x+y)):=hv 4 (by decide)
 rw[<- hx4]at hl4
 simp only[List.take,List.drop,a0h,Act.put]
 simp only[vQ hv 0,vQ hv 1,vQ hv 2,vQ hv 3,vQ hv 5,vQ hv 6,<-hx4]
 clear hv hx4
 have HS10:=zh (HS9.out.call hb9)
 have L5_10:=zh (L5_9.out.below hb9)
 clear L5_9
 have L6_10:=zh (L6_9.out.below hb9)
 clear L6_9
 have LA_10:=zh (LA_9.out.below hb9)
 clear LA_9
 have LX_10:=zh (LX_9.out.below hb9)
 clear LX_9
 have LB_10:=zh (LB_9.out.below hb9)
 clear LB_9
 have LY_10:=zh (LY_9.out.below hb9)
 clear LY_9
 have LD_10:=zh (LD_9.out.below hb9)
 clear LD_9
 have LZ_10:=zh hl4
 clear hl4 hb9 HS9
 have x8:=cC HS10 0 0
 have x9:=cC HS10 0 1
 have x10:=cC HS10 0 2
 have x11:=cF HS10 0 0
 have x12:=cF HS10 0 1
 have x13:=cF HS10 0 2
 have x14:=cN HS10 0 1
 have x15:=cN HS10 1 0
 have x16:=cN HS10 0 2
 have x17:=cN HS10 2 0
 go_wp2
 have HS11:Hid (St w [⟨w.heap.size+1+1,#[.bool nr,.string (bs br),.string (bs dr)],39⟩,_,_] _):=zh (St.set (St.set (St.set (HS10.out) 0 rfl 0 _) 0 rfl 1 _) 0 rfl 2 _)
 exact bodyPost_ret (a0f rfl _ _ _ _ _ _ rfl (HS11.out.blk 0 rfl)) rfl ⟨rfl,HS11.out.below⟩
theorem c7x(p q:Rat)(w:World)(sp:Sized 17179869184 p)(sq:Sized 17179869184 q)(hp:p≠0)(hq:q≠0)(hs:negB p≠negB q)(hl:p.num.natAbs*q.den<q.num.natAbs*p.den) :
  Calls Tryz.prog 54 #[rat p,rat q] w fun e w'=>e=.returned (rat (p+q))/\Below w.heap.size w w':=by
 have f1:=a0r (mt numB_nil'.1 hp)
 have f2:=a0r (mt numB_nil'.1 hq)
 obtain⟨x,hx⟩:∃x,x=p.num.natAbs*q.den:=⟨_,rfl⟩
 obtain⟨y,hy⟩:∃y,y=q.num.natAbs*p.den:=⟨_,rfl⟩
 obtain⟨d,hdd⟩:∃d,d=p.den*q.den:=⟨_,rfl⟩
 have hd0:d≠0:=by rw[hdd];exact Nat.mul_ne_zero p.den_nz q.den_nz
 have bx:(bytesOf x).length<=34359738368:=by rw[hx];exact a0w sp.1 sq.2
 have byy:(bytesOf y).length<=34359738368:=by rw[hy];exact a0w sq.1 sp.2
 have bd:(bytesOf d).length<=34359738368:=by rw[hdd];exact a0w sp.2 sq.2
 have lx:=a1b bx
 have ly:=a1b byy
 have ld:=a1b bd
 have hr:mkRat (signed (negB q) (y-x)) d=p+q:=by
  rw[hdd,b0j hs (by rw[hx,hy];exact Nat.le_of_lt hl),hx,hy]
  exact a9y p q
 have lz:(limbsOf (y-x)).length<=8589934593:=Nat.le_trans (a1b (a3f (Nat.sub_le _ _) byy)) (by decide)
 have np1:=sp.num
 have np2:=sp.denom
 have nq1:=sq.num
 have nq2:=sq.denom
 have lpn:=a1b sp.1
 have lqn:=a1b sq.1
 have lpd:=a1b sp.2
 have lqd:=a1b sq.2
 have dp:=fun W=>a6x (negB p) (numB p) (a0a p) W (by omega)
 have dq:=fun W=>a6x (negB q) (numB q) (a0a q) W (by omega)
 have lp:=fun W=>a2d (bs (numB p)) W (by rw[a2u];omega)
 have lq:=fun W=>a2d (bs (numB q)) W (by rw[a2u];omega)
 simp only[a3w,b6u,a7f]at lp lq dp dq
 have rd:=fun(v1 v2:Value) W (h1:Limbs W v1 (limbsOf (y-x))) (h2:Limbs W v2 (limbsOf d))=>a4v (negB q) v1 v2 _ _ W h1 h2 hd0 (by omega) (by omega)
 rw[hr]at rd
 have fs:(negB p==negB q)=false:=by simpa using hs
 have hl2:x<y:=by rw[hx,hy];exact hl
 have ho:sgn ((x:Int)-y)<0:=by rw[a1y (by omega)];decide
 have hoo:=fun(v1 v2:Value) W (h1:Limbs W v1 (limbsOf x)) (h2:Limbs W v2 (limbsOf y))=>b1g v1 v2 x y W h1 h2
 generalize sgn ((x:Int)-y)=sg at *
 have ho2:decide (sg<0)=true:=decide_eq_true ho
 unfold rat raw at *
 clear hr sp sq hs hp hq hl ho bx byy bd
 generalize p+q=r at *
 generalize negB r=nr at *
 generalize numB r=br at *
 generalize a0a r=dr at *
 generalize p.num.natAbs=pn at *
 generalize q.num.natAbs=qn at *
 generalize p.den=pd at *
 generalize q.den=qd at *
 generalize negB p=np at *
 generalize numB p=bp at *
 generalize a0a p=dp at *
 generalize negB q=nq at *
 generalize numB q=bq at *
 generalize a0a q=dq at *
 have HX:=zh hx
 have HY:=zh hy
 have HD:=zh hdd
 clear hx hy hdd
 have DP:=zh dp
 have DQ:=zh dq
 have LP:=zh lp
 have LQ:=zh lq
 have RD:=zh rd
 clear dp dq lp lq rd
 have HOO:=zh hoo
 clear hoo
 go_enter Tryz.func54,Tryz.ntmps54
 have HS:=zh (St.start w)
 go_wp2_with fail
 have HS2:=aL (aL (aL HS #[.bool np,.string (bs bp),.string (bs dp)] 39 w.heap.size) #[.bool nq,.string (bs bq),.string (bs dq)] 39 (w.heap.size+1)) #[.bool false,.string (bs []),.string (bs [])] 39 (w.heap.size+1+1)
 refine(DP.out _).mono ?_
 rintro e w3 ⟨v3,rfl,hl3,hb3⟩
 have HS3:=zh (HS2.out.call hb3)
 have L5_3:=zh hl3
 clear hl3 hb3 HS HS2
 have x1:=cC HS3 1 0
 have x2:=cC HS3 1 1
 have x3:=cC HS3 1 2
 go_wp2_with fail
 refine(DQ.out _).mono ?_
 rintro e w4 ⟨v4,rfl,hl4,hb4⟩
 have HS4:=zh (HS3.out.call hb4)
 have L5_4:=zh (L5_3.out.below hb4)
 clear L5_3
 have L6_4:=zh hl4
 clear hl4 hb4 HS3 x1 x2 x3
 have x4:=cC HS4 2 1
 go_wp2_with fail
 refine(LP.out _).mono ?_
 rintro e w5 ⟨v5,rfl,hl5,hb5⟩
 have HS5:=zh (HS4.out.call hb5)
 have L5_5:=zh (L5_4.out.below hb5)
 clear L5_4
 have L6_5:=zh (L6_4.out.below hb5)
 clear L6_4
 have LA_5:=zh hl5
 clear hl5 hb5 HS4 x4
 go_wp2_with fail
 refine(a2a _ _ pn qd _ LA_5.out L6_5.out (by omega) (by omega)).mono ?_
 rintro e w6 ⟨v6,rfl,hl6,hb6⟩
 have HS6:=zh (HS5.out.call hb6)
 have L5_6:=zh (L5_5.out.below hb6)
 clear L5_5
 have L6_6:=zh (L6_5.out.below hb6)
 clear L6_5
 have LA_6:=zh (LA_5.out.below hb6)
 clear LA_5
 have LX_6:=zh hl6
 clear hl6 hb6 HS5
 have LX_6:=LX_6.out
 rw[<- HX.out]at LX_6
 have LX_6:=zh LX_6
 have x5:=cC HS6 1 1
 go_wp2_with fail
 refine(LQ.out _).mono ?_
 rintro e w7 ⟨v7,rfl,hl7,hb7⟩
 have HS7:=zh (HS6.out.call hb7)
 have L5_7:=zh (L5_6.out.below hb7)
 clear L5_6
 have L6_7:=zh (L6_6.out.below hb7)
 clear L6_6
 have LA_7:=zh (LA_6.out.below hb7)
 clear LA_6
 have LX_7:=zh (LX_6.out.below hb7)
 clear LX_6
 have LB_7:=zh hl7
 clear hl7 hb7 HS6 x5
 go_wp2_with fail
 refine(a2a _ _ qn pd _ LB_7.out L5_7.out (by omega) (by omega)).mono ?_
 rintro e w8 ⟨v8,rfl,hl8,hb8⟩
 have HS8:=zh (HS7.out.call hb8)
 have L5_8:=zh (L5_7.out.below hb8)
 clear L5_7
 have L6_8:=zh (L6_7.out.below hb8)
 clear L6_7
 have LA_8:=zh (LA_7.out.below hb8)
 clear LA_7
 have LX_8:=zh (LX_7.out.below hb8)
 clear LX_7
 have LB_8:=zh (LB_7.out.below hb8)
 clear LB_7
 have LY_8:=zh hl8
 clear hl8 hb8 HS7
 have LY_8:=LY_8.out
 rw[<- HY.out]at LY_8
 have LY_8:=zh LY_8
 go_wp2_with fail
 refine(a2a _ _ pd qd _ L5_8.out L6_8.out (by omega) (by omega)).mono ?_
 rintro e w9 ⟨v9,rfl,hl9,hb9⟩
 have HS9:=zh (HS8.out.call hb9)
 have L5_9:=zh (L5_8.out.below hb9)
 clear L5_8
 have L6_9:=zh (L6_8.out.below hb9)
 clear L6_8
 have LA_9:=zh (LA_8.out.below hb9)
 clear LA_8
 have LX_9:=zh (LX_8.out.below hb9)
 clear LX_8
 have LB_9:=zh (LB_8.out.below hb9)
 clear LB_8
 have LY_9:=zh (LY_8.out.below hb9)
 clear LY_8
 have LD_9:=zh hl9
 clear hl9 hb9 HS8
 have LD_9:=LD_9.out
 rw[<- HD.out]at LD_9
 have LD_9:=zh LD_9
 have x6:=cC HS9 2 0
 have x7:=cC HS9 1 0
 go_wp2_with fail
 refine(HOO.out _ _ _ LX_9.out LY_9.out).mono ?_
 rintro e w10 ⟨rfl,hb10⟩
 have HS10:=zh (HS9.out.call hb10)
 have L5_10:=zh (L5_9.out.below hb10)
 clear L5_9
 have L6_10:=zh (L6_9.out.below hb10)
 clear L6_9
 have LA_10:=zh (LA_9.out.below hb10)
 clear LA_9
 have LX_10:=zh (LX_9.out.below hb10)
 clear LX_9
 have LB_10:=zh (LB_9.out.below hb10)
 clear LB_9
 have LY_10:=zh (LY_9.out.below hb10)
 clear LY_9
 have LD_10:=zh (LD_9.out.below hb10)
 clear LD_9 hb10 HS9 x6 x7
 go_wp2
 refine a0d 7 [fun _ vv=>vv=.pointer (some ⟨w.heap.size+1,0,none⟩),fun _ vv=>vv=.bool nq,fun _ vv=>vv=v8,fun _ vv=>vv=v6,fun ww vv=>Limbs ww vv (limbsOf (y-x)),fun _ vv=>vv=v9,fun _ vv=>vv=.agg #[.bool nr,.string (bs br),.string (bs dr)]] rfl (by kernel_rfl) (by kernel_rfl) (by kernel_rfl) ⟨pP,pP,pP,pP,fun _ _ _ h hb=>h.below hb,pP,pP,trivial⟩ ?_ ?_
 refine⟨?_,?_,?_,?_,?_,?_,?_,trivial⟩<;>(intro xx af wv hbx hev hev0 hd;have H:=SH.mk hev hev0 hd;clear hev hev0 hd)
 ·have e3:=H.i 3;clear H;go_wp2;exact sR rfl
 ·have e51:=H.r 0 51;clear H;have hs1:=zh (HS10.out.call hbx);have y0:=cC hs1 1 0;go_wp2;exact sR rfl
 ·have e8:=H.i 8;clear H;go_wp2;exact sR rfl
 ·have e7:=H.i 7;clear H;go_wp2;exact sR rfl
 ·have e53:=H.r 2 53;have e54:=H.r 3 54;clear H
  go_wp2_with fail
  refine(b8b _ _ y x _ (LY_10.out.below hbx) (LX_10.out.below hbx) (Nat.le_of_lt hl2) (by omega)).mono ?_
  rintro e w8 ⟨v8,rfl,hl8,hb8⟩;go_wp2;exact StepQ.mk _ hb8 hl8
 ·have e9:=H.i 9;clear H;go_wp2;exact sR rfl
 ·have e52:=H.r 1 52;have e55:=H.ev 4 _ 55 rfl rfl;have d4:Limbs wv (xx 4) (limbsOf (y-x)):=H.hd ⟨4,.data⟩ (by simp) rfl;have e56:=H.r 5 56;clear H
  go_wp2_with fail
  refine(RD.out _ _ _ d4 (LD_10.out.below hbx)).mono ?_
  rintro e w8 ⟨rfl,hb8⟩;go_wp2;exact StepQ.mk _ hb8 rfl
 intro xx w11 hb9 hv
 obtain⟨v11_4,hx4⟩:∃v,v=xx 4:=⟨_,rfl⟩
 have hl4:Limbs w11 (xx 4) (limbsOf (y-x)):=hv 4 (by decide)
 rw[<- hx4]at hl4
 simp only[List.take,List.drop,a0h,Act.put]
 simp only[vQ hv 0,vQ hv 1,vQ hv 2,vQ hv 3,vQ hv 5,vQ hv 6,<-hx4]
 clear hv hx4
 have HS11:=zh (HS10.out.call hb9)
 have L5_11:=zh (L5_10.out.below hb9)
 clear L5_10
 have L6_11:=zh (L6_10.out.below hb9)
 clear L6_10
 have LA_11:=zh (LA_10.out.below hb9)
 clear LA_10
 have LX_11:=zh (LX_10.out.below hb9)
 clear LX_10
 have LB_11:=zh (LB_10.out.below hb9)
 clear LB_10
 have LY_11:=zh (LY_10.out.below hb9)
 clear LY_10
 have LD_11:=zh (LD_10.out.below hb9)
 clear LD_10
 have LZ_11:=zh hl4
 clear hl4 hb9 HS10
 have x8:=cC HS11 0 0
 have x9:=cC HS11 0 1
 have x10:=cC HS11 0 2
 have x11:=cF HS11 0 0
 have x12:=cF HS11 0 1
 have x13:=cF HS11 0 2
 have x14:=cN HS11 0 1
 have x15:=cN HS11 1 0
 have x16:=cN HS11 0 2
 have x17:=cN HS11 2 0
 go_wp2
 have HS12:Hid (St w [⟨w.heap.size+1+1,#[.bool nr,.string (bs br),.string (bs dr)],39⟩,_,_] _):=zh (St.set (St.set (St.set (HS11.out) 0 rfl 0 _) 0 rfl 1 _) 0 rfl 2 _)
 exact bodyPost_ret (a0f rfl _ _ _ _ _ _ rfl (HS12.out.blk 0 rfl)) rfl ⟨rfl,HS12.out.below⟩
theorem c7w(p q:Rat)(w:World)(sp:Sized 17179869184 p)(sq:Sized 17179869184 q)(hp:p≠0)(hq:q≠0)(hs:negB p≠negB q)(hl:q.num.natAbs*p.den<=p.num.natAbs*q.den) :
  Calls Tryz.prog 54 #[rat p,rat q] w fun e w'=>e=.returned (rat (p+q))/\Below w.heap.size w w':=by
 have f1:=a0r (mt numB_nil'.1 hp)
 have f2:=a0r (mt numB_nil'.1 hq)
 obtain⟨x,hx⟩:∃x,x=p.num.natAbs*q.den:=⟨_,rfl⟩
 obtain⟨y,hy⟩:∃y,y=q.num.natAbs*p.den:=⟨_,rfl⟩
 obtain⟨d,hdd⟩:∃d,d=p.den*q.den:=⟨_,rfl⟩
 have hd0:d≠0:=by rw[hdd];exact Nat.mul_ne_zero p.den_nz q.den_nz
 have bx:(bytesOf x).length<=34359738368:=by rw[hx];exact a0w sp.1 sq.2
 have byy:(bytesOf y).length<=34359738368:=by rw[hy];exact a0w sq.1 sp.2
 have bd:(bytesOf d).length<=34359738368:=by rw[hdd];exact a0w sp.2 sq.2
 have lx:=a1b bx
 have ly:=a1b byy
 have ld:=a1b bd
 have hr:mkRat (signed (negB p) (x-y)) d=p+q:=by
  rw[hdd,a7j hs (by rw[hx,hy];exact hl),hx,hy]
  exact a9y p q
 have lz:(limbsOf (x-y)).length<=8589934593:=Nat.le_trans (a1b (a3f (Nat.sub_le _ _) bx)) (by decide)
 have np1:=sp.num
 have np2:=sp.denom
 have nq1:=sq.num
 have nq2:=sq.denom
 have lpn:=a1b sp.1
 have lqn:=a1b sq.1
 have lpd:=a1b sp.2
 have lqd:=a1b sq.2
 have dp:=fun W=>a6x (negB p) (numB p) (a0a p) W (by omega)
 have dq:=fun W=>a6x (negB q) (numB q) (a0a q) W (by omega)
 have lp:=fun W=>a2d (bs (numB p)) W (by rw[a2u];omega)
 have lq:=fun W=>a2d (bs (numB q)) W (by rw[a2u];omega)
 simp only[a3w,b6u,a7f]at lp lq dp dq
 have rd:=fun(v1 v2:Value) W (h1:Limbs W v1 (limbsOf (x-y))) (h2:Limbs W v2 (limbsOf d))=>a4v (negB p) v1 v2 _ _ W h1 h2 hd0 (by omega) (by omega)
 rw[hr]at rd
 have fs:(negB p==negB q)=false:=by simpa using hs
 have hl2:y<=x:=by rw[hx,hy];exact hl
 have ho:sgn ((x:Int)-y)≥0:=by rcases a3c ((x:Int)-y)with ⟨h,e⟩ | ⟨h,e⟩ | ⟨h,e⟩<;>rw[e]<;>omega
 have hoo:=fun(v1 v2:Value) W (h1:Limbs W v1 (limbsOf x)) (h2:Limbs W v2 (limbsOf y))=>b1g v1 v2 x y W h1 h2
 generalize sgn ((x:Int)-y)=sg at *
 have ho2:decide (sg<0)=false:=decide_eq_false (by omega)
 unfold rat raw at *
 clear hr sp sq hs hp hq hl ho bx byy bd
 generalize p+q=r at *
 generalize negB r=nr at *
 generalize numB r=br at *
 generalize a0a r=dr at *
 generalize p.num.natAbs=pn at *
 generalize q.num.natAbs=qn at *
 generalize p.den=pd at *
 generalize q.den=qd at *
 generalize negB p=np at *
 generalize numB p=bp at *
 generalize a0a p=dp at *
 generalize negB q=nq at *
 generalize numB q=bq at *
 generalize a0a q=dq at *
 have HX:=zh hx
 have HY:=zh hy
 have HD:=zh hdd
 clear hx hy hdd
 have DP:=zh dp
 have DQ:=zh dq
 have LP:=zh lp
 have LQ:=zh lq
 have RD:=zh rd
 clear dp dq lp lq rd
 have HOO:=zh hoo
 clear hoo
 go_enter Tryz.func54,Tryz.ntmps54
 have HS:=zh (St.start w)
 go_wp2_with fail
 have HS2:=aL (aL (aL HS #[.bool np,.string (bs bp),.string (bs dp)] 39 w.heap.size) #[.bool nq,.string (bs bq),.string (bs dq)] 39 (w.heap.size+1)) #[.bool false,.string (bs []),.string (bs [])] 39 (w.heap.size+1+1)
 refine(DP.out _).mono ?_
 rintro e w3 ⟨v3,rfl,hl3,hb3⟩
 have HS3:=zh (HS2.out.call hb3)
 have L5_3:=zh hl3
 clear hl3 hb3 HS HS2
 have x1:=cC HS3 1 0
 have x2:=cC HS3 1 1
 have x3:=cC HS3 1 2
 go_wp2_with fail
 refine(DQ.out _).mono ?_
 rintro e w4 ⟨v4,rfl,hl4,hb4⟩
 have HS4:=zh (HS3.out.call hb4)
 have L5_4:=zh (L5_3.out.below hb4)
 clear L5_3
 have L6_4:=zh hl4
 clear hl4 hb4 HS3 x1 x2 x3
 have x4:=cC HS4 2 1
 go_wp2_with fail
 refine(LP.out _).mono ?_
 rintro e w5 ⟨v5,rfl,hl5,hb5⟩
 have HS5:=zh (HS4.out.call hb5)
 have L5_5:=zh (L5_4.out.below hb5)
 clear L5_4
 have L6_5:=zh (L6_4.out.below hb5)
 clear L6_4
 have LA_5:=zh hl5
 clear hl5 hb5 HS4 x4
 go_wp2_with fail
 refine(a2a _ _ pn qd _ LA_5.out L6_5.out (by omega) (by omega)).mono ?_
 rintro e w6 ⟨v6,rfl,hl6,hb6⟩
 have HS6:=zh (HS5.out.call hb6)
 have L5_6:=zh (L5_5.out.below hb6)
 clear L5_5
 have L6_6:=zh (L6_5.out.below hb6)
 clear L6_5
 have LA_6:=zh (LA_5.out.below hb6)
 clear LA_5
 have LX_6:=zh hl6
 clear hl6 hb6 HS5
 have LX_6:=LX_6.out
 rw[<- HX.out]at LX_6
 have LX_6:=zh LX_6
 have x5:=cC HS6 1 1
 go_wp2_with fail
 refine(LQ.out _).mono ?_
 rintro e w7 ⟨v7,rfl,hl7,hb7⟩
 have HS7:=zh (HS6.out.call hb7)
 have L5_7:=zh (L5_6.out.below hb7)
 clear L5_6
 have L6_7:=zh (L6_6.out.below hb7)
 clear L6_6
 have LA_7:=zh (LA_6.out.below hb7)
 clear LA_6
 have LX_7:=zh (LX_6.out.below hb7)
 clear LX_6
 have LB_7:=zh hl7
 clear hl7 hb7 HS6 x5
 go_wp2_with fail
 refine(a2a _ _ qn pd _ LB_7.out L5_7.out (by omega) (by omega)).mono ?_
 rintro e w8 ⟨v8,rfl,hl8,hb8⟩
 have HS8:=zh (HS7.out.call hb8)
 have L5_8:=zh (L5_7.out.below hb8)
 clear L5_7
 have L6_8:=zh (L6_7.out.below hb8)
 clear L6_7
 have LA_8:=zh (LA_7.out.below hb8)
 clear LA_7
 have LX_8:=zh (LX_7.out.below hb8)
 clear LX_7
 have LB_8:=zh (LB_7.out.below hb8)
 clear LB_7
 have LY_8:=zh hl8
 clear hl8 hb8 HS7
 have LY_8:=LY_8.out
 rw[<- HY.out]at LY_8
 have LY_8:=zh LY_8
 go_wp2_with fail
 refine(a2a _ _ pd qd _ L5_8.out L6_8.out (by omega) (by omega)).mono ?_
 rintro e w9 ⟨v9,rfl,hl9,hb9⟩
 have HS9:=zh (HS8.out.call hb9)
 have L5_9:=zh (L5_8.out.below hb9)
 clear L5_8
 have L6_9:=zh (L6_8.out.below hb9)
 clear L6_8
 have LA_9:=zh (LA_8.out.below hb9)
 clear LA_8
 have LX_9:=zh (LX_8.out.below hb9)
 clear LX_8
 have LB_9:=zh (LB_8.out.below hb9)
 clear LB_8
 have LY_9:=zh (LY_8.out.below hb9)
 clear LY_8
 have LD_9:=zh hl9
 clear hl9 hb9 HS8
 have LD_9:=LD_9.out
 rw[<- HD.out]at LD_9
 have LD_9:=zh LD_9
 have x6:=cC HS9 2 0
 have x7:=cC HS9 1 0
 go_wp2_with fail
 refine(HOO.out _ _ _ LX_9.out LY_9.out).mono ?_
 rintro e w10 ⟨rfl,hb10⟩
 have HS10:=zh (HS9.out.call hb10)
 have L5_10:=zh (L5_9.out.below hb10)
 clear L5_9
 have L6_10:=zh (L6_9.out.below hb10)
 clear L6_9
 have LA_10:=zh (LA_9.out.below hb10)
 clear LA_9
 have LX_10:=zh (LX_9.out.below hb10)
 clear LX_9
 have LB_10:=zh (LB_9.out.below hb10)
 clear LB_9
 have LY_10:=zh (LY_9.out.below hb10)
 clear LY_9
 have LD_10:=zh (LD_9.out.below hb10)
 clear LD_9 hb10 HS9 x6 x7
 go_wp2
 refine a0d 7 [fun _ vv=>vv=.pointer (some ⟨w.heap.size,0,none⟩),fun _ vv=>vv=.bool np,fun _ vv=>vv=v6,fun _ vv=>vv=v8,fun ww vv=>Limbs ww vv (limbsOf (x-y)),fun _ vv=>vv=v9,fun _ vv=>vv=.agg #[.bool nr,.string (bs br),.string (bs dr)]] rfl (by kernel_rfl) (by kernel_rfl) (by kernel_rfl) ⟨pP,pP,pP,pP,fun _ _ _ h hb=>h.below hb,pP,pP,trivial⟩ ?_ ?_
 refine⟨?_,?_,?_,?_,?_,?_,?_,trivial⟩<;>(intro xx af wv hbx hev hev0 hd;have H:=SH.mk hev hev0 hd;clear hev hev0 hd)
 ·have e2:=H.i 2;clear H;go_wp2;exact sR rfl
 ·have e58:=H.r 0 58;clear H;have hs1:=zh (HS10.out.call hbx);have y0:=cC hs1 2 0;go_wp2;exact sR rfl
 ·have e7:=H.i 7;clear H;go_wp2;exact sR rfl
 ·have e8:=H.i 8;clear H;go_wp2;exact sR rfl
 ·have e60:=H.r 2 60;have e61:=H.r 3 61;clear H
  go_wp2_with fail
  refine(b8b _ _ x y _ (LX_10.out.below hbx) (LY_10.out.below hbx) hl2 (by omega)).mono ?_
  rintro e w8 ⟨v8,rfl,hl8,hb8⟩;go_wp2;exact StepQ.mk _ hb8 hl8
 ·have e9:=H.i 9;clear H;go_wp2;exact sR rfl
 ·have e59:=H.r 1 59;have e62:=H.ev 4 _ 62 rfl rfl;have d4:Limbs wv (xx 4) (limbsOf (x-y)):=H.hd ⟨4,.data⟩ (by simp) rfl;have e63:=H.r 5 63;clear H
  go_wp2_with fail
  refine(RD.out _ _ _ d4 (LD_10.out.below hbx)).mono ?_
  rintro e w8 ⟨rfl,hb8⟩;go_wp2;exact StepQ.mk _ hb8 rfl
 intro xx w11 hb9 hv
 obtain⟨v11_4,hx4⟩:∃v,v=xx 4:=⟨_,rfl⟩
 have hl4:Limbs w11 (xx 4) (limbsOf (x-y)):=hv 4 (by decide)
 rw[<- hx4]at hl4
 simp only[List.take,List.drop,a0h,Act.put]
 simp only[vQ hv 0,vQ hv 1,vQ hv 2,vQ hv 3,vQ hv 5,vQ hv 6,<-hx4]
 clear hv hx4
 have HS11:=zh (HS10.out.call hb9)
 have L5_11:=zh (L5_10.out.below hb9)
 clear L5_10
 have L6_11:=zh (L6_10.out.below hb9)
 clear L6_10
 have LA_11:=zh (LA_10.out.below hb9)
 clear LA_10
 have LX_11:=zh (LX_10.out.below hb9)
 clear LX_10
 have LB_11:=zh (LB_10.out.below hb9)
 clear LB_10
 have LY_11:=zh (LY_10.out.below hb9)
 clear LY_10
 have LD_11:=zh (LD_10.out.below hb9)
 clear LD_10
 have LZ_11:=zh hl4
 clear hl4 hb9 HS10
 have x8:=cC HS11 0 0
 have x9:=cC HS11 0 1
 have x10:=cC HS11 0 2
 have x11:=cF HS11 0 0
 have x12:=cF HS11 0 1
 have x13:=cF HS11 0 2
 have x14:=cN HS11 0 1
 have x15:=cN HS11 1 0
 have x16:=cN HS11 0 2
 have x17:=cN HS11 2 0
 go_wp2
 have HS12:Hid (St w [⟨w.heap.size+1+1,#[.bool nr,.string (bs br),.string (bs dr)],39⟩,_,_] _):=zh (St.set (St.set (St.set (HS11.out) 0 rfl 0 _) 0 rfl 1 _) 0 rfl 2 _)
 exact bodyPost_ret (a0f rfl _ _ _ _ _ _ rfl (HS12.out.blk 0 rfl)) rfl ⟨rfl,HS12.out.below⟩
theorem a6k(p q:Rat)(w:World)(sp:Sized 17179869184 p)(sq:Sized 17179869184 q) :
  Calls Tryz.prog 54 #[rat p,rat q] w fun e w'=>e=.returned (rat (p+q))/\Below w.heap.size w w':=by
 by_cases hp:p=0
 ·exact c8a p q w hp
 by_cases hq:q=0
 ·exact c7z p q w hp hq
 by_cases hs:negB p=negB q
 ·exact c7y p q w sp sq hp hq hs
 by_cases hl:p.num.natAbs*q.den<q.num.natAbs*p.den
 ·exact c7x p q w sp sq hp hq hs hl
 exact c7w p q w sp sq hp hq hs (by omega)
end Go.Proofs.YtjmiicjialkpiaaGreatDoor
