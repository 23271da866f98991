/-
Part 7 of the base.
-/
import Derived.Test.YtjmiicjialkpiaaGreatDoorRf4
import Derived.Test.YtjmiicjialkpiaaGreatDoorRf6
set_option maxRecDepth 100000
set_option maxHeartbeats 4000000
namespace Go.Proofs.YtjmiicjialkpiaaGreatDoor
open Go.RowKit
theorem b7d(p q:Rat)(w:World)(sp:Sized 17179869184 p)(sq:Sized 17179869184 q)(hd:p.den=q.den)(hs:negB p=negB q) :
  Calls Tryz.prog 38 #[rat p,rat q] w fun e w'=>e=.returned (rat (p+q))/\Below w.heap.size w w':=by
 obtain⟨x,hx⟩:∃x,x=p.num.natAbs:=⟨_,rfl⟩
 obtain⟨y,hy⟩:∃y,y=q.num.natAbs:=⟨_,rfl⟩
 obtain⟨d,hdd⟩:∃d,d=p.den:=⟨_,rfl⟩
 have hd0:d≠0:=by rw[hdd];exact p.den_nz
 have lx:(bytesOf x).length<=34359738368:=by rw[hx];exact Nat.le_trans sp.1 (by decide)
 have ly:(bytesOf y).length<=34359738368:=by rw[hy];exact Nat.le_trans sq.1 (by decide)
 have ld:(bytesOf d).length<=34359738368:=by rw[hdd];exact Nat.le_trans sp.2 (by decide)
 have hr:mkRat (signed (negB p) (x+y)) d=p+q:=by
  rw[hdd,b2h,hx,hy]
  have:=c1f hd
  rw[<- hs]at this
  exact this
 have lz:(bytesOf (x+y)).length<=34359738369:=b1z lx ly
 have rd:=fun W=>a2m (negB p) (bytesOf (x+y)) (bytesOf d) W (by omega) (by omega) (by rw[a0c];exact hd0)
 rw[a0c,a0c,hr]at rd
 have sx:=fun W=>d1c (bytesOf x) (bytesOf y) W (by omega) (by omega)
 rw[a0c,a0c]at sx
 have dp:=fun W=>a0z p W
 have dq:=fun W=>a0z q W
 have ft:((bs (a0a p)).toList==(bs (a0a q)).toList)=true:=b0t (denom_same.2 hd)
 have ex:numB p=bytesOf x:=by rw[hx];rfl
 have ey:numB q=bytesOf y:=by rw[hy];rfl
 rw[<- hdd]at dp
 have fs:(negB p==negB q)=true:=by simpa using hs
 unfold rat raw at *
 rw[ex]at dp
 rw[ey]at dq
 rw[ex,ey]
 clear hx hy hdd hd0 hr lx ly ld lz sp sq hd hs ex ey
 generalize p+q=r at *
 generalize negB p=np at *
 generalize a0a p=dp at *
 generalize negB q=nq at *
 generalize a0a q=dq at *
 generalize negB r=nr at *
 generalize numB r=br at *
 generalize a0a r=dr at *
 generalize bytesOf (x+y)=es at *
 generalize bytesOf x=bp at *
 generalize bytesOf y=bq at *
 generalize bytesOf d=ed at *
 clear dq
 have RD:=zh rd
 have SX:=zh sx
 have DP:=zh dp
 clear rd sx dp
 go_enter Tryz.func38,Tryz.ntmps38
 have HS:=zh (St.start w)
 go_wp2
 have HS2:Hid (St w [⟨w.heap.size+1+1,#[.bool false,.string (bs []),.string (bs [])],39⟩,⟨w.heap.size+1,#[.bool nq,.string (bs bq),.string (bs dq)],39⟩,⟨w.heap.size,#[.bool np,.string (bs bp),.string (bs dp)],39⟩] _):=zh (St.alloc (St.alloc (St.alloc (HS.out) _ _ _ (by simp)) _ _ _ (by simp)) _ _ _ (by simp))
 clear HS
 refine a0d 6 [fun _ v=>v=.pointer (some ⟨w.heap.size,1,none⟩),fun _ v=>v=.string (bs bp),fun _ v=>v=.pointer (some ⟨w.heap.size+1,1,none⟩),fun _ v=>v=.string (bs bq),fun _ v=>v=.string (bs bp),fun _ v=>v=.string (bs bq)] rfl (by kernel_rfl) (by kernel_rfl) (by kernel_rfl) ⟨pP,pP,pP,pP,pP,pP,trivial⟩ ?_ ?_
 refine⟨?_,?_,?_,?_,?_,?_,trivial⟩<;>(intro x a1 w1 hbx hev hev0 hd;have H:=SH.mk hev hev0 hd;clear hev hev0 hd)
 ·have e2:=H.i 2;clear H;go_wp2;exact sR rfl
 ·have e12:=H.r 0 12;clear H;have hs1:=zh (HS2.out.call hbx);have y0:=cC hs1 2 1;go_wp2;exact sR rfl
 ·have e3:=H.i 3;clear H;go_wp2;exact sR rfl
 ·have e14:=H.r 2 14;clear H;have hs1:=zh (HS2.out.call hbx);have y0:=cC hs1 1 1;go_wp2;exact sR rfl
 ·have e13:=H.r 1 13;clear H;go_wp2;exact sR rfl
 ·have e15:=H.r 3 15;clear H;go_wp2;exact sR rfl
 intro x w6 hb9 hv
 have hv0:=vQ hv 0
 have hv1:=vQ hv 1
 have hv2:=vQ hv 2
 have hv3:=vQ hv 3
 have hv4:=vQ hv 4
 have hv5:=vQ hv 5
 clear hv
 simp only[List.take,List.drop,a0h,Act.put]
 simp only[hv0,hv1,hv2,hv3,hv4,hv5]
 clear hv0 hv1 hv2 hv3 hv4 hv5
 have HS6:=zh (HS2.out.call hb9)
 clear hb9 HS2
 have x1:=cC HS6 2 2
 have x2:=cC HS6 1 2
 have x3:=cC HS6 2 0
 have x4:=cC HS6 2 1
 go_wp2_with fail
 refine cL (DP.out _) HS6 fun w7 HS7=>?_
 clear HS6 x1 x2 x3 x4
 have x5:=cC HS7 2 0
 have x6:=cC HS7 1 0
 go_wp2
 clear x5 x6
 refine a0d 7 [fun _ v=>v=.pointer (some ⟨w.heap.size,0,none⟩),fun _ v=>v=.bool np,fun _ v=>v=.string (bs bp),fun _ v=>v=.string (bs bq),fun _ v=>v=.string (bs es),fun _ v=>v=.string (bs ed),fun _ v=>v=.agg #[.bool nr,.string (bs br),.string (bs dr)]] rfl (by kernel_rfl) (by kernel_rfl) (by kernel_rfl) ⟨pP,pP,pP,pP,pP,pP,pP,trivial⟩ ?_ ?_
 refine⟨?_,?_,?_,?_,?_,?_,?_,trivial⟩<;>(intro x a1 w1 hbx hev hev0 hd;have H:=SH.mk hev hev0 hd;clear hev hev0 hd)
 ·have e2:=H.i 2;clear H;go_wp2;exact sR rfl
 ·have e41:=H.r 0 41;clear H;have hs1:=zh (HS7.out.call hbx);have y0:=cC hs1 2 0;go_wp2;exact sR rfl
 ·have e5:=H.i 5;clear H;go_wp2;exact sR rfl
 ·have e6:=H.i 6;clear H;go_wp2;exact sR rfl
 ·have e43:=H.r 2 43;have e44:=H.r 3 44;clear H
  go_wp2_with fail
  refine(SX.out _).mono ?_
  rintro e w8 ⟨rfl,hb8⟩;go_wp2;exact StepQ.mk _ hb8 rfl
 ·have e7:=H.i 7;clear H;go_wp2;exact sR rfl
 ·have e42:=H.r 1 42;have e45:=H.r 4 45;have e46:=H.r 5 46;clear H
  go_wp2_with fail
  refine(RD.out _).mono ?_
  rintro e w8 ⟨rfl,hb8⟩;go_wp2;exact StepQ.mk _ hb8 rfl
 intro x w8 hb9 hv
 have hv0:=vQ hv 0
 have hv1:=vQ hv 1
 have hv2:=vQ hv 2
 have hv3:=vQ hv 3
 have hv4:=vQ hv 4
 have hv5:=vQ hv 5
 have hv6:=vQ hv 6
 clear hv
 simp only[List.take,List.drop,a0h,Act.put]
 simp only[hv0,hv1,hv2,hv3,hv4,hv5,hv6]
 clear hv0 hv1 hv2 hv3 hv4 hv5 hv6
 have HS8:=zh (HS7.out.call hb9)
 clear hb9 HS7
 have x7:=cC HS8 0 0
 have x8:=cC HS8 0 1
 have x9:=cC HS8 0 2
 have x10:=cF HS8 0 0
 have x11:=cF HS8 0 1
 have x12:=cF HS8 0 2
 have x13:=cN HS8 0 1
 have x14:=cN HS8 1 0
 have x15:=cN HS8 0 2
 have x16:=cN HS8 2 0
 go_wp2
 have HS9:Hid (St w [⟨w.heap.size+1+1,#[.bool nr,.string (bs br),.string (bs dr)],39⟩,_,_] _):=zh (St.set (St.set (St.set (HS8.out) 0 rfl 0 _) 0 rfl 1 _) 0 rfl 2 _)
 exact bodyPost_ret (a0f rfl _ _ _ _ _ _ rfl (HS9.out.blk 0 rfl)) rfl ⟨rfl,HS9.out.below⟩
theorem b7c(p q:Rat)(w:World)(sp:Sized 17179869184 p)(sq:Sized 17179869184 q)(hd:p.den=q.den)(hs:negB p≠negB q)(hl:q.num.natAbs<=p.num.natAbs) :
  Calls Tryz.prog 38 #[rat p,rat q] w fun e w'=>e=.returned (rat (p+q))/\Below w.heap.size w w':=by
 obtain⟨x,hx⟩:∃x,x=p.num.natAbs:=⟨_,rfl⟩
 obtain⟨y,hy⟩:∃y,y=q.num.natAbs:=⟨_,rfl⟩
 obtain⟨d,hdd⟩:∃d,d=p.den:=⟨_,rfl⟩
 have hd0:d≠0:=by rw[hdd];exact p.den_nz
 have lx:(bytesOf x).length<=34359738368:=by rw[hx];exact Nat.le_trans sp.1 (by decide)
 have ly:(bytesOf y).length<=34359738368:=by rw[hy];exact Nat.le_trans sq.1 (by decide)
 have ld:(bytesOf d).length<=34359738368:=by rw[hdd];exact Nat.le_trans sp.2 (by decide)
 have hr:mkRat (signed (negB p) (x-y)) d=p+q:=by
  rw[hdd,a7j hs (by rw[hx,hy];exact hl),hx,hy]
  exact c1f hd
 have lz:(bytesOf (x-y)).length<=34359738369:=Nat.le_trans (a3f (Nat.sub_le _ _) lx) (by decide)
 have rd:=fun W=>a2m (negB p) (bytesOf (x-y)) (bytesOf d) W (by omega) (by omega) (by rw[a0c];exact hd0)
 rw[a0c,a0c,hr]at rd
 have sx:=fun W=>c0f (bytesOf x) (bytesOf y) W (by omega) (by omega) (by rw[a0c,a0c,hx,hy];exact hl)
 rw[a0c,a0c]at sx
 have dp:=fun W=>a0z p W
 have dq:=fun W=>a0z q W
 have ft:((bs (a0a p)).toList==(bs (a0a q)).toList)=true:=b0t (denom_same.2 hd)
 have ex:numB p=bytesOf x:=by rw[hx];rfl
 have ey:numB q=bytesOf y:=by rw[hy];rfl
 rw[<- hdd]at dp
 have fs:(negB p==negB q)=false:=by simpa using hs
 unfold rat raw at *
 rw[ex]at dp
 rw[ey]at dq
 rw[ex,ey]
 clear hx hy hdd hd0 hr lx ly ld lz sp sq hd hs ex ey hl
 generalize p+q=r at *
 generalize negB p=np at *
 generalize a0a p=dp at *
 generalize negB q=nq at *
 generalize a0a q=dq at *
 generalize negB r=nr at *
 generalize numB r=br at *
 generalize a0a r=dr at *
 generalize bytesOf (x-y)=es at *
 generalize bytesOf x=bp at *
 generalize bytesOf y=bq at *
 generalize bytesOf d=ed at *
 clear dq
 have RD:=zh rd
 have SX:=zh sx
 have DP:=zh dp
 clear rd sx dp
 go_enter Tryz.func38,Tryz.ntmps38
 have HS:=zh (St.start w)
 go_wp2
 have HS2:Hid (St w [⟨w.heap.size+1+1,#[.bool false,.string (bs []),.string (bs [])],39⟩,⟨w.heap.size+1,#[.bool nq,.string (bs bq),.string (bs dq)],39⟩,⟨w.heap.size,#[.bool np,.string (bs bp),.string (bs dp)],39⟩] _):=zh (St.alloc (St.alloc (St.alloc (HS.out) _ _ _ (by simp)) _ _ _ (by simp)) _ _ _ (by simp))
 clear HS
 refine a0d 6 [fun _ v=>v=.pointer (some ⟨w.heap.size,1,none⟩),fun _ v=>v=.string (bs bp),fun _ v=>v=.pointer (some ⟨w.heap.size+1,1,none⟩),fun _ v=>v=.string (bs bq),fun _ v=>v=.string (bs bp),fun _ v=>v=.string (bs bq)] rfl (by kernel_rfl) (by kernel_rfl) (by kernel_rfl) ⟨pP,pP,pP,pP,pP,pP,trivial⟩ ?_ ?_
 refine⟨?_,?_,?_,?_,?_,?_,trivial⟩<;>(intro x a1 w1 hbx hev hev0 hd;have H:=SH.mk hev hev0 hd;clear hev hev0 hd)
 ·have e2:=H.i 2;clear H;go_wp2;exact sR rfl
 ·have e12:=H.r 0 12;clear H;have hs1:=zh (HS2.out.call hbx);have y0:=cC hs1 2 1;go_wp2;exact sR rfl
 ·have e3:=H.i 3;clear H;go_wp2;exact sR rfl
 ·have e14:=H.r 2 14;clear H;have hs1:=zh (HS2.out.call hbx);have y0:=cC hs1 1 1;go_wp2;exact sR rfl
 ·have e13:=H.r 1 13;clear H;go_wp2;exact sR rfl
 ·have e15:=H.r 3 15;clear H;go_wp2;exact sR rfl
 intro x w6 hb9 hv
 have hv0:=vQ hv 0
 have hv1:=vQ hv 1
 have hv2:=vQ hv 2
 have hv3:=vQ hv 3
 have hv4:=vQ hv 4
 have hv5:=vQ hv 5
 clear hv
 simp only[List.take,List.drop,a0h,Act.put]
 simp only[hv0,hv1,hv2,hv3,hv4,hv5]
 clear hv0 hv1 hv2 hv3 hv4 hv5
 have HS6:=zh (HS2.out.call hb9)
 clear hb9 HS2
 have x1:=cC HS6 2 2
 have x2:=cC HS6 1 2
 have x3:=cC HS6 2 0
 have x4:=cC HS6 2 1
 go_wp2_with fail
 refine cL (DP.out _) HS6 fun w7 HS7=>?_
 clear HS6 x1 x2 x3 x4
 have x5:=cC HS7 2 0
 have x6:=cC HS7 1 0
 go_wp2_with fail
 refine cL (SX.out _) HS7 fun w8 HS8=>?_
 clear HS7 x5 x6
 have x7:=cC HS8 2 0
 go_wp2_with fail
 refine cL (RD.out _) HS8 fun w9 HS9=>?_
 clear HS8 x7
 have x8:=cC HS9 0 0
 have x9:=cC HS9 0 1
 have x10:=cC HS9 0 2
 have x11:=cF HS9 0 0
 have x12:=cF HS9 0 1
 have x13:=cF HS9 0 2
 have x14:=cN HS9 0 1
 have x15:=cN HS9 1 0
 have x16:=cN HS9 0 2
 have x17:=cN HS9 2 0
 go_wp2
 have HS10:Hid (St w [⟨w.heap.size+1+1,#[.bool nr,.string (bs br),.string (bs dr)],39⟩,_,_] _):=zh (St.set (St.set (St.set (HS9.out) 0 rfl 0 _) 0 rfl 1 _) 0 rfl 2 _)
 exact bodyPost_ret (a0f rfl _ _ _ _ _ _ rfl (HS10.out.blk 0 rfl)) rfl ⟨rfl,HS10.out.below⟩
theorem b7b(p q:Rat)(w:World)(sp:Sized 17179869184 p)(sq:Sized 17179869184 q)(hd:p.den=q.den)(hs:negB p≠negB q)(hl:p.num.natAbs<q.num.natAbs) :
  Calls Tryz.prog 38 #[rat p,rat q] w fun e w'=>e=.returned (rat (p+q))/\Below w.heap.size w w':=by
 obtain⟨x,hx⟩:∃x,x=p.num.natAbs:=⟨_,rfl⟩
 obtain⟨y,hy⟩:∃y,y=q.num.natAbs:=⟨_,rfl⟩
 obtain⟨d,hdd⟩:∃d,d=p.den:=⟨_,rfl⟩
 have hd0:d≠0:=by rw[hdd];exact p.den_nz
 have lx:(bytesOf x).length<=34359738368:=by rw[hx];exact Nat.le_trans sp.1 (by decide)
 have ly:(bytesOf y).length<=34359738368:=by rw[hy];exact Nat.le_trans sq.1 (by decide)
 have ld:(bytesOf d).length<=34359738368:=by rw[hdd];exact Nat.le_trans sp.2 (by decide)
 have hr:mkRat (signed (negB q) (y-x)) d=p+q:=by
  rw[hdd,b0j hs (by rw[hx,hy];exact Nat.le_of_lt hl),hx,hy]
  exact c1f hd
 have lz:(bytesOf (y-x)).length<=34359738369:=Nat.le_trans (a3f (Nat.sub_le _ _) ly) (by decide)
 have rd:=fun W=>a2m (negB q) (bytesOf (y-x)) (bytesOf d) W (by omega) (by omega) (by rw[a0c];exact hd0)
 rw[a0c,a0c,hr]at rd
 have sx:=fun W=>b3g (bytesOf x) (bytesOf y) W (by omega) (by omega) (by rw[a0c,a0c,hx,hy];exact hl)
 have sy:=fun W=>c0f (bytesOf y) (bytesOf x) W (by omega) (by omega) (by rw[a0c,a0c,hx,hy];exact Nat.le_of_lt hl)
 rw[a0c,a0c]at sy
 have dp:=fun W=>a0z p W
 have dq:=fun W=>a0z q W
 have ft:((bs (a0a p)).toList==(bs (a0a q)).toList)=true:=b0t (denom_same.2 hd)
 have ex:numB p=bytesOf x:=by rw[hx];rfl
 have ey:numB q=bytesOf y:=by rw[hy];rfl
 rw[<- hdd]at dp
 have fs:(negB p==negB q)=false:=by simpa using hs
 unfold rat raw at *
 rw[ex]at dp
 rw[ey]at dq
 rw[ex,ey]
 clear hx hy hdd hd0 hr lx ly ld lz sp sq hd hs ex ey hl
 generalize p+q=r at *
 generalize negB p=np at *
 generalize a0a p=dp at *
 generalize negB q=nq at *
 generalize a0a q=dq at *
 generalize negB r=nr at *
 generalize numB r=br at *
 generalize a0a r=dr at *
 generalize bytesOf (y-x)=es at *
 generalize bytesOf x=bp at *
 generalize bytesOf y=bq at *
 generalize bytesOf d=ed at *
 clear dq
 have RD:=zh rd
 have SX:=zh sx
 have DP:=zh dp
 clear rd sx dp
 have SY:=zh sy
 clear sy
 go_enter Tryz.func38,Tryz.ntmps38
 have HS:=zh (St.start w)
 go_wp2
 have HS2:Hid (St w [⟨w.heap.size+1+1,#[.bool false,.string (bs []),.string (bs [])],39⟩,⟨w.heap.size+1,#[.bool nq,.string (bs bq),.string (bs dq)],39⟩,⟨w.heap.size,#[.bool np,.string (bs bp),.string (bs dp)],39⟩] _):=zh (St.alloc (St.alloc (St.alloc (HS.out) _ _ _ (by simp)) _ _ _ (by simp)) _ _ _ (by simp))
 clear HS
 refine a0d 6 [fun _ v=>v=.pointer (some ⟨w.heap.size,1,none⟩),fun _ v=>v=.string (bs bp),fun _ v=>v=.pointer (some ⟨w.heap.size+1,1,none⟩),fun _ v=>v=.string (bs bq),fun _ v=>v=.string (bs bp),fun _ v=>v=.string (bs bq)] rfl (by kernel_rfl) (by kernel_rfl) (by kernel_rfl) ⟨pP,pP,pP,pP,pP,pP,trivial⟩ ?_ ?_
 refine⟨?_,?_,?_,?_,?_,?_,trivial⟩<;>(intro x a1 w1 hbx hev hev0 hd;have H:=SH.mk hev hev0 hd;clear hev hev0 hd)
 ·have e2:=H.i 2;clear H;go_wp2;exact sR rfl
 ·have e12:=H.r 0 12;clear H;have hs1:=zh (HS2.out.call hbx);have y0:=cC hs1 2 1;go_wp2;exact sR rfl
 ·have e3:=H.i 3;clear H;go_wp2;exact sR rfl
 ·have e14:=H.r 2 14;clear H;have hs1:=zh (HS2.out.call hbx);have y0:=cC hs1 1 1;go_wp2;exact sR rfl
 ·have e13:=H.r 1 13;clear H;go_wp2;exact sR rfl
 ·have e15:=H.r 3 15;clear H;go_wp2;exact sR rfl
 intro x w6 hb9 hv
 have hv0:=vQ hv 0
 have hv1:=vQ hv 1
 have hv2:=vQ hv 2
 have hv3:=vQ hv 3
 have hv4:=vQ hv 4
 have hv5:=vQ hv 5
 clear hv
 simp only[List.take,List.drop,a0h,Act.put]
 simp only[hv0,hv1,hv2,hv3,hv4,hv5]
 clear hv0 hv1 hv2 hv3 hv4 hv5
 have HS6:=zh (HS2.out.call hb9)
 clear hb9 HS2
 have x1:=cC HS6 2 2
 have x2:=cC HS6 1 2
 have x3:=cC HS6 2 0
 have x4:=cC HS6 2 1
 go_wp2_with fail
 refine cL (DP.out _) HS6 fun w7 HS7=>?_
 clear HS6 x1 x2 x3 x4
 have x5:=cC HS7 2 0
 have x6:=cC HS7 1 0
 go_wp2_with fail
 refine cL (SX.out _) HS7 fun w8 HS8=>?_
 clear HS7 x5 x6
 go_wp2_with fail
 refine cL (SY.out _) HS8 fun w9 HS9=>?_
 clear HS8
 have x7:=cC HS9 1 0
 go_wp2_with fail
 refine cL (RD.out _) HS9 fun w10 HS10=>?_
 clear HS9 x7
 have x8:=cC HS10 0 0
 have x9:=cC HS10 0 1
 have x10:=cC HS10 0 2
 have x11:=cF HS10 0 0
 have x12:=cF HS10 0 1
 have x13:=cF HS10 0 2
 have x14:=cN HS10 0 1
 have x15:=cN HS10 1 0
 have x16:=cN HS10 0 2
 have x17:=cN HS10 2 0
 go_wp2
 have HS11:Hid (St w [⟨w.heap.size+1+1,#[.bool nr,.string (bs br),.string (bs dr)],39⟩,_,_] _):=zh (St.set (St.set (St.set (HS10.out) 0 rfl 0 _) 0 rfl 1 _) 0 rfl 2 _)
 exact bodyPost_ret (a0f rfl _ _ _ _ _ _ rfl (HS11.out.blk 0 rfl)) rfl ⟨rfl,HS11.out.below⟩
theorem b7a(p q:Rat)(w:World)(sp:Sized 17179869184 p)(sq:Sized 17179869184 q)(hd:p.den≠q.den)(hs:negB p=negB q) :
  Calls Tryz.prog 38 #[rat p,rat q] w fun e w'=>e=.returned (rat (p+q))/\Below w.heap.size w w':=by
 obtain⟨x,hx⟩:∃x,x=p.num.natAbs*q.den:=⟨_,rfl⟩
 obtain⟨y,hy⟩:∃y,y=q.num.natAbs*p.den:=⟨_,rfl⟩
 obtain⟨d,hdd⟩:∃d,d=p.den*q.den:=⟨_,rfl⟩
 have hd0:d≠0:=by rw[hdd];exact Nat.mul_ne_zero p.den_nz q.den_nz
 have lx:(bytesOf x).length<=34359738368:=by rw[hx];exact a0w sp.1 sq.2
 have ly:(bytesOf y).length<=34359738368:=by rw[hy];exact a0w sq.1 sp.2
 have ld:(bytesOf d).length<=34359738368:=by rw[hdd];exact a0w sp.2 sq.2
 have hr:mkRat (signed (negB p) (x+y)) d=p+q:=by
  rw[hdd,b2h,hx,hy]
  have:=a9y p q
  rw[<- hs]at this
  exact this
 have lz:(bytesOf (x+y)).length<=34359738369:=b1z lx ly
 have rd:=fun W=>a2m (negB p) (bytesOf (x+y)) (bytesOf d) W (by omega) (by omega) (by rw[a0c];exact hd0)
 rw[a0c,a0c,hr]at rd
 have sx:=fun W=>d1c (bytesOf x) (bytesOf y) W (by omega) (by omega)
 rw[a0c,a0c]at sx
 have dp:=fun W=>a0z p W
 have dq:=fun W=>a0z q W
 have lp:=sp.num
 have lq:=sq.num
 have lpd:=sp.2
 have lqd:=sq.2
 have mx:=fun W=>a6a (numB p) (bytesOf q.den) W (by omega) (by omega)
 have my:=fun W=>a6a (numB q) (bytesOf p.den) W (by omega) (by omega)
 have md:=fun W=>a6a (bytesOf p.den) (bytesOf q.den) W (by omega) (by omega)
 rw[a7y,a0c,<-hx]at mx
 rw[a7y,a0c,<-hy]at my
 rw[a0c,a0c,<-hdd]at md
 have ft:((bs (a0a p)).toList==(bs (a0a q)).toList)=false:=a6g (mt denom_same.1 hd)
 have fs:(negB p==negB q)=true:=by simpa using hs
 unfold rat raw at *
 clear hx hy hdd hd0 hr lx ly ld lz sp sq hd hs lp lq lpd lqd
 generalize p+q=r at *
 generalize negB p=np at *
 generalize numB p=bp at *
 generalize a0a p=dp at *
 generalize negB q=nq at *
 generalize numB q=bq at *
 generalize a0a q=dq at *
 generalize negB r=nr at *
 generalize numB r=br at *
 generalize a0a r=dr at *
 generalize bytesOf (x+y)=es at *
 generalize bytesOf x=ex at *
 generalize bytesOf y=ey at *
 generalize bytesOf d=ed at *
 generalize bytesOf p.den=ep at *
 generalize bytesOf q.den=eq at *
 have RD:=zh rd
 have SX:=zh sx
 have DP:=zh dp
 clear rd sx dp
 have DQ:=zh dq
 have MX:=zh mx
 have MY:=zh my
 have MD:=zh md
 clear dq mx my md
 go_enter Tryz.func38,Tryz.ntmps38
 have HS:=zh (St.start w)
 go_wp2
 have HS2:Hid (St w [⟨w.heap.size+1+1,#[.bool false,.string (bs []),.string (bs [])],39⟩,⟨w.heap.size+1,#[.bool nq,.string (bs bq),.string (bs dq)],39⟩,⟨w.heap.size,#[.bool np,.string (bs bp),.string (bs dp)],39⟩] _):=zh (St.alloc (St.alloc (St.alloc (HS.out) _ _ _ (by simp)) _ _ _ (by simp)) _ _ _ (by simp))
 clear HS
 refine a0d 6 [fun _ v=>v=.pointer (some ⟨w.heap.size,1,none⟩),fun _ v=>v=.string (bs bp),fun _ v=>v=.pointer (some ⟨w.heap.size+1,1,none⟩),fun _ v=>v=.string (bs bq),fun _ v=>v=.string (bs bp),fun _ v=>v=.string (bs bq)] rfl (by kernel_rfl) (by kernel_rfl) (by kernel_rfl) ⟨pP,pP,pP,pP,pP,pP,trivial⟩ ?_ ?_
 refine⟨?_,?_,?_,?_,?_,?_,trivial⟩<;>(intro x a1 w1 hbx hev hev0 hd;have H:=SH.mk hev hev0 hd;clear hev hev0 hd)
 ·have e2:=H.i 2;clear H;go_wp2;exact sR rfl
 ·have e12:=H.r 0 12;clear H;have hs1:=zh (HS2.out.call hbx);have y0:=cC hs1 2 1;go_wp2;exact sR rfl
 ·have e3:=H.i 3;clear H;go_wp2;exact sR rfl
 ·have e14:=H.r 2 14;clear H;have hs1:=zh (HS2.out.call hbx);have y0:=cC hs1 1 1;go_wp2;exact sR rfl
 ·have e13:=H.r 1 13;clear H;go_wp2;exact sR rfl
 ·have e15:=H.r 3 15;clear H;go_wp2;exact sR rfl
 intro x w6 hb9 hv
 have hv0:=vQ hv 0
 have hv1:=vQ hv 1
 have hv2:=vQ hv 2
 have hv3:=vQ hv 3
 have hv4:=vQ hv 4
 have hv5:=vQ hv 5
 clear hv
 simp only[List.take,List.drop,a0h,Act.put]
 simp only[hv0,hv1,hv2,hv3,hv4,hv5]
 clear hv0 hv1 hv2 hv3 hv4 hv5
 have HS6:=zh (HS2.out.call hb9)
 clear hb9 HS2
 have x1:=cC HS6 2 2
 have x2:=cC HS6 1 2
 go_wp2
 clear x1 x2
 refine a0d 8 [fun _ v=>v=.string (bs bp),fun _ v=>v=.agg #[.bool nq,.string (bs bq),.string (bs dq)],fun _ v=>v=.string (bs eq),fun _ v=>v=.string (bs ex),fun _ v=>v=.string (bs bq),fun _ v=>v=.agg #[.bool np,.string (bs bp),.string (bs dp)],fun _ v=>v=.string (bs ep),fun _ v=>v=.string (bs ey)] rfl (by kernel_rfl) (by kernel_rfl) (by kernel_rfl) ⟨pP,pP,pP,pP,pP,pP,pP,pP,trivial⟩ ?_ ?_
 refine⟨?_,?_,?_,?_,?_,?_,?_,?_,trivial⟩<;>(intro x a1 w1 hbx hev hev0 hd;have H:=SH.mk hev hev0 hd;clear hev hev0 hd)
 ·have e5:=H.i 5;clear H;go_wp2;exact sR rfl
 ·have e3:=H.i 3;clear H;have hs1:=zh (HS6.out.call hbx);have y0:=cC hs1 1 0;have y1:=cC hs1 1 1;have y2:=cC hs1 1 2;go_wp2;exact sR rfl
 ·have e22:=H.r 1 22;clear H
  go_wp2_with fail
  refine(DQ.out _).mono ?_
  rintro e w8 ⟨rfl,hb8⟩;go_wp2;exact StepQ.mk _ hb8 rfl
 ·have e21:=H.r 0 21;have e23:=H.r 2 23;clear H
  go_wp2_with fail
  refine(MX.out _).mono ?_
  rintro e w8 ⟨rfl,hb8⟩;go_wp2;exact StepQ.mk _ hb8 rfl
 ·have e6:=H.i 6;clear H;go_wp2;exact sR rfl
 ·have e2:=H.i 2;clear H;have hs1:=zh (HS6.out.call hbx);have y0:=cC hs1 2 0;have y1:=cC hs1 2 1;have y2:=cC hs1 2 2;go_wp2;exact sR rfl
 ·have e26:=H.r 5 26;clear H
  go_wp2_with fail
  refine(DP.out _).mono ?_
  rintro e w8 ⟨rfl,hb8⟩;go_wp2;exact StepQ.mk _ hb8 rfl
 ·have e25:=H.r 4 25;have e27:=H.r 6 27;clear H
  go_wp2_with fail
  refine(MY.out _).mono ?_
  rintro e w8 ⟨rfl,hb8⟩;go_wp2;exact StepQ.mk _ hb8 rfl
 intro x w7 hb9 hv
 have hv0:=vQ hv 0
 have hv1:=vQ hv 1
 have hv2:=vQ hv 2
 have hv3:=vQ hv 3
 have hv4:=vQ hv 4
 have hv5:=vQ hv 5
 have hv6:=vQ hv 6
 have hv7:=vQ hv 7
 clear hv
 simp only[List.take,List.drop,a0h,Act.put]
 simp only[hv0,hv1,hv2,hv3,hv4,hv5,hv6,hv7]
 clear hv0 hv1 hv2 hv3 hv4 hv5 hv6 hv7
 have HS7:=zh (HS6.out.call hb9)
 clear hb9 HS6
 go_wp2
 refine a0d 5 [fun _ v=>v=.agg #[.bool np,.string (bs bp),.string (bs dp)],fun _ v=>v=.string (bs ep),fun _ v=>v=.agg #[.bool nq,.string (bs bq),.string (bs dq)],fun _ v=>v=.string (bs eq),fun _ v=>v=.string (bs ed)] rfl (by kernel_rfl) (by kernel_rfl) (by kernel_rfl) ⟨pP,pP,pP,pP,pP,trivial⟩ ?_ ?_
 refine⟨?_,?_,?_,?_,?_,trivial⟩<;>(intro x a1 w1 hbx hev hev0 hd;have H:=SH.mk hev hev0 hd;clear hev hev0 hd)
 ·have e2:=H.i 2;clear H;have hs1:=zh (HS7.out.call hbx);have y0:=cC hs1 2 0;have y1:=cC hs1 2 1;have y2:=cC hs1 2 2;go_wp2;exact sR rfl
 ·have e29:=H.r 0 29;clear H
  go_wp2_with fail
  refine(DP.out _).mono ?_
  rintro e w8 ⟨rfl,hb8⟩;go_wp2;exact StepQ.mk _ hb8 rfl
 ·have e3:=H.i 3;clear H;have hs1:=zh (HS7.out.call hbx);have y0:=cC hs1 1 0;have y1:=cC hs1 1 1;have y2:=cC hs1 1 2;go_wp2;exact sR rfl
 ·have e31:=H.r 2 31;clear H
  go_wp2_with fail
  refine(DQ.out _).mono ?_
  rintro e w8 ⟨rfl,hb8⟩;go_wp2;exact StepQ.mk _ hb8 rfl
 ·have e30:=H.r 1 30;have e32:=H.r 3 32;clear H
  go_wp2_with fail
  refine(MD.out _).mono ?_
  rintro e w8 ⟨rfl,hb8⟩;go_wp2;exact StepQ.mk _ hb8 rfl
 intro x w8 hb9 hv
 have hv0:=vQ hv 0
 have hv1:=vQ hv 1
 have hv2:=vQ hv 2
 have hv3:=vQ hv 3
 have hv4:=vQ hv 4
 clear hv
 simp only[List.take,List.drop,a0h,Act.put]
 simp only[hv0,hv1,hv2,hv3,hv4]
 clear hv0 hv1 hv2 hv3 hv4
 have HS8:=zh (HS7.out.call hb9)
 clear hb9 HS7
 have x3:=cC HS8 2 0
 have x4:=cC HS8 1 0
 go_wp2
 clear x3 x4
 refine a0d 7 [fun _ v=>v=.pointer (some ⟨w.heap.size,0,none⟩),fun _ v=>v=.bool np,fun _ v=>v=.string (bs ex),fun _ v=>v=.string (bs ey),fun _ v=>v=.string (bs es),fun _ v=>v=.string (bs ed),fun _ v=>v=.agg #[.bool nr,.string (bs br),.string (bs dr)]] rfl (by kernel_rfl) (by kernel_rfl) (by kernel_rfl) ⟨pP,pP,pP,pP,pP,pP,pP,trivial⟩ ?_ ?_
 refine⟨?_,?_,?_,?_,?_,?_,?_,trivial⟩<;>(intro x a1 w1 hbx hev hev0 hd;have H:=SH.mk hev hev0 hd;clear hev hev0 hd)
 ·have e2:=H.i 2;clear H;go_wp2;exact sR rfl
 ·have e41:=H.r 0 41;clear H;have hs1:=zh (HS8.out.call hbx);have y0:=cC hs1 2 0;go_wp2;exact sR rfl
 ·have e5:=H.i 5;clear H;go_wp2;exact sR rfl
 ·have e6:=H.i 6;clear H;go_wp2;exact sR rfl
 ·have e43:=H.r 2 43;have e44:=H.r 3 44;clear H
  go_wp2_with fail
  refine(SX.out _).mono ?_
  rintro e w8 ⟨rfl,hb8⟩;go_wp2;exact StepQ.mk _ hb8 rfl
 ·have e7:=H.i 7;clear H;go_wp2;exact sR rfl
 ·have e42:=H.r 1 42;have e45:=H.r 4 45;have e46:=H.r 5 46;clear H
  go_wp2_with fail
  refine(RD.out _).mono ?_
  rintro e w8 ⟨rfl,hb8⟩;go_wp2;exact StepQ.mk _ hb8 rfl
 intro x w9 hb9 hv
 have hv0:=vQ hv 0
 have hv1:=vQ hv 1
 have hv2:=vQ hv 2
 have hv3:=vQ hv 3
 have hv4:=vQ hv 4
 have hv5:=vQ hv 5
 have hv6:=vQ hv 6
 clear hv
 simp only[List.take,List.drop,a0h,Act.put]
 simp only[hv0,hv1,hv2,hv3,hv4,hv5,hv6]
 clear hv0 hv1 hv2 hv3 hv4 hv5 hv6
 have HS9:=zh (HS8.out.call hb9)
 clear hb9 HS8
 have x5:=cC HS9 0 0
 have x6:=cC HS9 0 1
 have x7:=cC HS9 0 2
 have x8:=cF HS9 0 0
 have x9:=cF HS9 0 1
 have x10:=cF HS9 0 2
 have x11:=cN HS9 0 1
 have x12:=cN HS9 1 0
 have x13:=cN HS9 0 2
 have x14:=cN HS9 2 0
 go_wp2
 have HS10:Hid (St w [⟨w.heap.size+1+1,#[.bool nr,.string (bs br),.string (bs dr)],39⟩,_,_] _):=zh (St.set (St.set (St.set (HS9.out) 0 rfl 0 _) 0 rfl 1 _) 0 rfl 2 _)
 exact bodyPost_ret (a0f rfl _ _ _ _ _ _ rfl (HS10.out.blk 0 rfl)) rfl ⟨rfl,HS10.out.below⟩
theorem b6z(p q:Rat)(w:World)(sp:Sized 17179869184 p)(sq:Sized 17179869184 q)(hd:p.den≠q.den)(hs:negB p≠negB q)(hl:q.num.natAbs*p.den<=p.num.natAbs*q.den) :
  Calls Tryz.prog 38 #[rat p,rat q] w fun e w'=>e=.returned (rat (p+q))/\Below w.heap.size w w':=by
 obtain⟨x,hx⟩:∃x,x=p.num.natAbs*q.den:=⟨_,rfl⟩
 obtain⟨y,hy⟩:∃y,y=q.num.natAbs*p.den:=⟨_,rfl⟩
 obtain⟨d,hdd⟩:∃d,d=p.den*q.den:=⟨_,rfl⟩
 have hd0:d≠0:=by rw[hdd];exact Nat.mul_ne_zero p.den_nz q.den_nz
 have lx:(bytesOf x).length<=34359738368:=by rw[hx];exact a0w sp.1 sq.2
 have ly:(bytesOf y).length<=34359738368:=by rw[hy];exact a0w sq.1 sp.2
 have ld:(bytesOf d).length<=34359738368:=by rw[hdd];exact a0w sp.2 sq.2
 have hr:mkRat (signed (negB p) (x-y)) d=p+q:=by
  rw[hdd,a7j hs (by rw[hx,hy];exact hl),hx,hy]
  exact a9y p q
 have lz:(bytesOf (x-y)).length<=34359738369:=Nat.le_trans (a3f (Nat.sub_le _ _) lx) (by decide)
 have rd:=fun W=>a2m (negB p) (bytesOf (x-y)) (bytesOf d) W (by omega) (by omega) (by rw[a0c];exact hd0)
 rw[a0c,a0c,hr]at rd
 have sx:=fun W=>c0f (bytesOf x) (bytesOf y) W (by omega) (by omega) (by rw[a0c,a0c,hx,hy];exact hl)
 rw[a0c,a0c]at sx
 have dp:=fun W=>a0z p W
 have dq:=fun W=>a0z q W
 have lp:=sp.num
 have lq:=sq.num
 have lpd:=sp.2
 have lqd:=sq.2
 have mx:=fun W=>a6a (numB p) (bytesOf q.den) W (by omega) (by omega)
 have my:=fun W=>a6a (numB q) (bytesOf p.den) W (by omega) (by omega)
 have md:=fun W=>a6a (bytesOf p.den) (bytesOf q.den) W (by omega) (by omega)
 rw[a7y,a0c,<-hx]at mx
 rw[a7y,a0c,<-hy]at my
 rw[a0c,a0c,<-hdd]at md
 have ft:((bs (a0a p)).toList==(bs (a0a q)).toList)=false:=a6g (mt denom_same.1 hd)
 have fs:(negB p==negB q)=false:=by simpa using hs
 unfold rat raw at *
 clear hx hy hdd hd0 hr lx ly ld lz sp sq hd hs lp lq lpd lqd hl
 generalize p+q=r at *
 generalize negB p=np at *
 generalize numB p=bp at *
 generalize a0a p=dp at *
 generalize negB q=nq at *
 generalize numB q=bq at *
 generalize a0a q=dq at *
 generalize negB r=nr at *
 generalize numB r=br at *
 generalize a0a r=dr at *
 generalize bytesOf (x-y)=es at *
 generalize bytesOf x=ex at *
 generalize bytesOf y=ey at *
 generalize bytesOf d=ed at *
 generalize bytesOf p.den=ep at *
 generalize bytesOf q.den=eq at *
 have RD:=zh rd
 have SX:=zh sx
 have DP:=zh dp
 clear rd sx dp
 have DQ:=zh dq
 have MX:=zh mx
 have MY:=zh my
 have MD:=zh md
 clear dq mx my md
 go_enter Tryz.func38,Tryz.ntmps38
 have HS:=zh (St.start w)
 go_wp2
 have HS2:Hid (St w [⟨w.heap.size+1+1,#[.bool false,.string (bs []),.string (bs [])],39⟩,⟨w.heap.size+1,#[.bool nq,.string (bs bq),.string (bs dq)],39⟩,⟨w.heap.size,#[.bool np,.string (bs bp),.string (bs dp)],39⟩] _):=zh (St.alloc (St.alloc (St.alloc (HS.out) _ _ _ (by simp)) _ _ _ (by simp)) _ _ _ (by simp))
 clear HS
 refine a0d 6 [fun _ v=>v=.pointer (some ⟨w.heap.size,1,none⟩),fun _ v=>v=.string (bs bp),fun _ v=>v=.pointer (some ⟨w.heap.size+1,1,none⟩),fun _ v=>v=.string (bs bq),fun _ v=>v=.string (bs bp),fun _ v=>v=.string (bs bq)] rfl (by kernel_rfl) (by kernel_rfl) (by kernel_rfl) ⟨pP,pP,pP,pP,pP,pP,trivial⟩ ?_ ?_
 refine⟨?_,?_,?_,?_,?_,?_,trivial⟩<;>(intro x a1 w1 hbx hev hev0 hd;have H:=SH.mk hev hev0 hd;clear hev hev0 hd)
 ·have e2:=H.i 2;clear H;go_wp2;exact sR rfl
 ·have e12:=H.r 0 12;clear H;have hs1:=zh (HS2.out.call hbx);have y0:=cC hs1 2 1;go_wp2;exact sR rfl
 ·have e3:=H.i 3;clear H;go_wp2;exact sR rfl
 ·have e14:=H.r 2 14;clear H;have hs1:=zh (HS2.out.call hbx);have y0:=cC hs1 1 1;go_wp2;exact sR rfl
 ·have e13:=H.r 1 13;clear H;go_wp2;exact sR rfl
 ·have e15:=H.r 3 15;clear H;go_wp2;exact sR rfl
 intro x w6 hb9 hv
 have hv0:=vQ hv 0
 have hv1:=vQ hv 1
 have hv2:=vQ hv 2
 have hv3:=vQ hv 3
 have hv4:=vQ hv 4
 have hv5:=vQ hv 5
 clear hv
 simp only[List.take,List.drop,a0h,Act.put]
 simp only[hv0,hv1,hv2,hv3,hv4,hv5]
 clear hv0 hv1 hv2 hv3 hv4 hv5
 have HS6:=zh (HS2.out.call hb9)
 clear hb9 HS2
 have x1:=cC HS6 2 2
 have x2:=cC HS6 1 2
 go_wp2
 clear x1 x2
 refine a0d 8 [fun _ v=>v=.string (bs bp),fun _ v=>v=.agg #[.bool nq,.string (bs bq),.string (bs dq)],fun _ v=>v=.string (bs eq),fun _ v=>v=.string (bs ex),fun _ v=>v=.string (bs bq),fun _ v=>v=.agg #[.bool np,.string (bs bp),.string (bs dp)],fun _ v=>v=.string (bs ep),fun _ v=>v=.string (bs ey)] rfl (by kernel_rfl) (by kernel_rfl) (by kernel_rfl) ⟨pP,pP,pP,pP,pP,pP,pP,pP,trivial⟩ ?_ ?_
 refine⟨?_,?_,?_,?_,?_,?_,?_,?_,trivial⟩<;>(intro x a1 w1 hbx hev hev0 hd;have H:=SH.mk hev hev0 hd;clear hev hev0 hd)
 ·have e5:=H.i 5;clear H;go_wp2;exact sR rfl
 ·have e3:=H.i 3;clear H;have hs1:=zh (HS6.out.call hbx);have y0:=cC hs1 1 0;have y1:=cC hs1 1 1;have y2:=cC hs1 1 2;go_wp2;exact sR rfl
 ·have e22:=H.r 1 22;clear H
  go_wp2_with fail
  refine(DQ.out _).mono ?_
  rintro e w8 ⟨rfl,hb8⟩;go_wp2;exact StepQ.mk _ hb8 rfl
 ·have e21:=H.r 0 21;have e23:=H.r 2 23;clear H
  go_wp2_with fail
  refine(MX.out _).mono ?_
  rintro e w8 ⟨rfl,hb8⟩;go_wp2;exact StepQ.mk _ hb8 rfl
 ·have e6:=H.i 6;clear H;go_wp2;exact sR rfl
 ·have e2:=H.i 2;clear H;have hs1:=zh (HS6.out.call hbx);have y0:=cC hs1 2 0;have y1:=cC hs1 2 1;have y2:=cC hs1 2 2;go_wp2;exact sR rfl
 ·have e26:=H.r 5 26;clear H
  go_wp2_with fail
  refine(DP.out _).mono ?_
  rintro e w8 ⟨rfl,hb8⟩;go_wp2;exact StepQ.mk _ hb8 rfl
 ·have e25:=H.r 4 25;have e27:=H.r 6 27;clear H
  go_wp2_with fail
  refine(MY.out _).mono ?_
  rintro e w8 ⟨rfl,hb8⟩;go_wp2;exact StepQ.mk _ hb8 rfl
 intro x w7 hb9 hv
 have hv0:=vQ hv 0
 have hv1:=vQ hv 1
 have hv2:=vQ hv 2
 have hv3:=vQ hv 3
 have hv4:=vQ hv 4
 have hv5:=vQ hv 5
 have hv6:=vQ hv 6
 have hv7:=vQ hv 7
 clear hv
 simp only[List.take,List.drop,a0h,Act.put]
 simp only[hv0,hv1,hv2,hv3,hv4,hv5,hv6,hv7]
 clear hv0 hv1 hv2 hv3 hv4 hv5 hv6 hv7
 have HS7:=zh (HS6.out.call hb9)
 clear hb9 HS6
 go_wp2
 refine a0d 5 [fun _ v=>v=.agg #[.bool np,.string (bs bp),.string (bs dp)],fun _ v=>v=.string (bs ep),fun _ v=>v=.agg #[.bool nq,.string (bs bq),.string (bs dq)],fun _ v=>v=.string (bs eq),fun _ v=>v=.string (bs ed)] rfl (by kernel_rfl) (by kernel_rfl) (by kernel_rfl) ⟨pP,pP,pP,pP,pP,trivial⟩ ?_ ?_
 refine⟨?_,?_,?_,?_,?_,trivial⟩<;>(intro x a1 w1 hbx hev hev0 hd;have H:=SH.mk hev hev0 hd;clear hev hev0 hd)
 ·have e2:=H.i 2;clear H;have hs1:=zh (HS7.out.call hbx);have y0:=cC hs1 2 0;have y1:=cC hs1 2 1;have y2:=cC hs1 2 2;go_wp2;exact sR rfl
 ·have e29:=H.r 0 29;clear H
  go_wp2_with fail
  refine(DP.out _).mono ?_
  rintro e w8 ⟨rfl,hb8⟩;go_wp2;exact StepQ.mk _ hb8 rfl
 ·have e3:=H.i 3;clear H;have hs1:=zh (HS7.out.call hbx);have y0:=cC hs1 1 0;have y1:=cC hs1 1 1;have y2:=cC hs1 1 2;go_wp2;exact sR rfl
 ·have e31:=H.r 2 31;clear H
  go_wp2_with fail
  refine(DQ.out _).mono ?_
  rintro e w8 ⟨rfl,hb8⟩;go_wp2;exact StepQ.mk _ hb8 rfl
 ·have e30:=H.r 1 30;have e32:=H.r 3 32;clear H
  go_wp2_with fail
  refine(MD.out _).mono ?_
  rintro e w8 ⟨rfl,hb8⟩;go_wp2;exact StepQ.mk _ hb8 rfl
 intro x w8 hb9 hv
 have hv0:=vQ hv 0
 have hv1:=vQ hv 1
 have hv2:=vQ hv 2
 have hv3:=vQ hv 3
 have hv4:=vQ hv 4
 clear hv
 simp only[List.take,List.drop,a0h,Act.put]
 simp only[hv0,hv1,hv2,hv3,hv4]
 clear hv0 hv1 hv2 hv3 hv4
 have HS8:=zh (HS7.out.call hb9)
 clear hb9 HS7
 have x3:=cC HS8 2 0
 have x4:=cC HS8 1 0
 go_wp2_with fail
 refine cL (SX.out _) HS8 fun w9 HS9=>?_
 clear HS8 x3 x4
 have x5:=cC HS9 2 0
 go_wp2_with fail
 refine cL (RD.out _) HS9 fun w10 HS10=>?_
 clear HS9 x5
 have x6:=cC HS10 0 0
 have x7:=cC HS10 0 1
 have x8:=cC HS10 0 2
 have x9:=cF HS10 0 0
 have x10:=cF HS10 0 1
 have x11:=cF HS10 0 2
 have x12:=cN HS10 0 1
 have x13:=cN HS10 1 0
 have x14:=cN HS10 0 2
 have x15:=cN HS10 2 0
 go_wp2
 have HS11:Hid (St w [⟨w.heap.size+1+1,#[.bool nr,.string (bs br),.string (bs dr)],39⟩,_,_] _):=zh (St.set (St.set (St.set (HS10.out) 0 rfl 0 _) 0 rfl 1 _) 0 rfl 2 _)
 exact bodyPost_ret (a0f rfl _ _ _ _ _ _ rfl (HS11.out.blk 0 rfl)) rfl ⟨rfl,HS11.out.below⟩
theorem b6y(p q:Rat)(w:World)(sp:Sized 17179869184 p)(sq:Sized 17179869184 q)(hd:p.den≠q.den)(hs:negB p≠negB q)(hl:p.num.natAbs*q.den<q.num.natAbs*p.den) :
  Calls Tryz.prog 38 #[rat p,rat q] w fun e w'=>e=.returned (rat (p+q))/\Below w.heap.size w w':=by
 obtain⟨x,hx⟩:∃x,x=p.num.natAbs*q.den:=⟨_,rfl⟩
 obtain⟨y,hy⟩:∃y,y=q.num.natAbs*p.den:=⟨_,rfl⟩
 obtain⟨d,hdd⟩:∃d,d=p.den*q.den:=⟨_,rfl⟩
 have hd0:d≠0:=by rw[hdd];exact Nat.mul_ne_zero p.den_nz q.den_nz
 have lx:(bytesOf x).length<=34359738368:=by rw[hx];exact a0w sp.1 sq.2
 have ly:(bytesOf y).length<=34359738368:=by rw[hy];exact a0w sq.1 sp.2
 have ld:(bytesOf d).length<=34359738368:=by rw[hdd];exact a0w sp.2 sq.2
 have hr:mkRat (signed (negB q) (y-x)) d=p+q:=by
  rw[hdd,b0j hs (by rw[hx,hy];exact Nat.le_of_lt hl),hx,hy]
  exact a9y p q
 have lz:(bytesOf (y-x)).length<=34359738369:=Nat.le_trans (a3f (Nat.sub_le _ _) ly) (by decide)
 have rd:=fun W=>a2m (negB q) (bytesOf (y-x)) (bytesOf d) W (by omega) (by omega) (by rw[a0c];exact hd0)
 rw[a0c,a0c,hr]at rd
 have sx:=fun W=>b3g (bytesOf x) (bytesOf y) W (by omega) (by omega) (by rw[a0c,a0c,hx,hy];exact hl)
 have sy:=fun W=>c0f (bytesOf y) (bytesOf x) W (by omega) (by omega) (by rw[a0c,a0c,hx,hy];exact Nat.le_of_lt hl)
 rw[a0c,a0c]at sy
 have dp:=fun W=>a0z p W
 have dq:=fun W=>a0z q W
 have lp:=sp.num
 have lq:=sq.num
 have lpd:=sp.2
 have lqd:=sq.2
 have mx:=fun W=>a6a (numB p) (bytesOf q.den) W (by omega) (by omega)
 have my:=fun W=>a6a (numB q) (bytesOf p.den) W (by omega) (by omega)
 have md:=fun W=>a6a (bytesOf p.den) (bytesOf q.den) W (by omega) (by omega)
 rw[a7y,a0c,<-hx]at mx
 rw[a7y,a0c,<-hy]at my
 rw[a0c,a0c,<-hdd]at md
 have ft:((bs (a0a p)).toList==(bs (a0a q)).toList)=false:=a6g (mt denom_same.1 hd)
 have fs:(negB p==negB q)=false:=by simpa using hs
 unfold rat raw at *
 clear hx hy hdd hd0 hr lx ly ld lz sp sq hd hs lp lq lpd lqd hl
 generalize p+q=r at *
 generalize negB p=np at *
 generalize numB p=bp at *
 generalize a0a p=dp at *
 generalize negB q=nq at *
 generalize numB q=bq at *
 generalize a0a q=dq at *
 generalize negB r=nr at *
 generalize numB r=br at *
 generalize a0a r=dr at *
 generalize bytesOf (y-x)=es at *
 generalize bytesOf x=ex at *
 generalize bytesOf y=ey at *
 generalize bytesOf d=ed at *
 generalize bytesOf p.den=ep at *
 generalize bytesOf q.den=eq at *
 have RD:=zh rd
 have SX:=zh sx
 have DP:=zh dp
 clear rd sx dp
 have SY:=zh sy
 clear sy
 have DQ:=zh dq
 have MX:=zh mx
 have MY:=zh my
 have MD:=zh md
 clear dq mx my md
 go_enter Tryz.func38,Tryz.ntmps38
 have HS:=zh (St.start w)
 go_wp2
 have HS2:Hid (St w [⟨w.heap.size+1+1,#[.bool false,.string (bs []),.string (bs [])],39⟩,⟨w.heap.size+1,#[.bool nq,.string (bs bq),.string (bs dq)],39⟩,⟨w.heap.size,#[.bool np,.string (bs bp),.string (bs dp)],39⟩] _):=zh (St.alloc (St.alloc (St.alloc (HS.out) _ _ _ (by simp)) _ _ _ (by simp)) _ _ _ (by simp))
 clear HS
 refine a0d 6 [fun _ v=>v=.pointer (some ⟨w.heap.size,1,none⟩),fun _ v=>v=.string (bs bp),fun _ v=>v=.pointer (some ⟨w.heap.size+1,1,none⟩),fun _ v=>v=.string (bs bq),fun _ v=>v=.string (bs bp),fun _ v=>v=.string (bs bq)] rfl (by kernel_rfl) (by kernel_rfl) (by kernel_rfl) ⟨pP,pP,pP,pP,pP,pP,trivial⟩ ?_ ?_
 refine⟨?_,?_,?_,?_,?_,?_,trivial⟩<;>(intro x a1 w1 hbx hev hev0 hd;have H:=SH.mk hev hev0 hd;clear hev hev0 hd)
 ·have e2:=H.i 2;clear H;go_wp2;exact sR rfl
 ·have e12:=H.r 0 12;clear H;have hs1:=zh (HS2.out.call hbx);have y0:=cC hs1 2 1;go_wp2;exact sR rfl
 ·have e3:=H.i 3;clear H;go_wp2;exact sR rfl
 ·have e14:=H.r 2 14;clear H;have hs1:=zh (HS2.out.call hbx);have y0:=cC hs1 1 1;go_wp2;exact sR rfl
 ·have e13:=H.r 1 13;clear H;go_wp2;exact sR rfl
 ·have e15:=H.r 3 15;clear H;go_wp2;exact sR rfl
 intro x w6 hb9 hv
 have hv0:=vQ hv 0
 have hv1:=vQ hv 1
 have hv2:=vQ hv 2
 have hv3:=vQ hv 3
 have hv4:=vQ hv 4
 have hv5:=vQ hv 5
 clear hv
 simp only[List.take,List.drop,a0h,Act.put]
 simp only[hv0,hv1,hv2,hv3,hv4,hv5]
 clear hv0 hv1 hv2 hv3 hv4 hv5
 have HS6:=zh (HS2.out.call hb9)
 clear hb9 HS2
 have x1:=cC HS6 2 2
 have x2:=cC HS6 1 2
 go_wp2
 clear x1 x2
 refine a0d 8 [fun _ v=>v=.string (bs bp),fun _ v=>v=.agg #[.bool nq,.string (bs bq),.string (bs dq)],fun _ v=>v=.string (bs eq),fun _ v=>v=.string (bs ex),fun _ v=>v=.string (bs bq),fun _ v=>v=.agg #[.bool np,.string (bs bp),.string (bs dp)],fun _ v=>v=.string (bs ep),fun _ v=>v=.string (bs ey)] rfl (by kernel_rfl) (by kernel_rfl) (by kernel_rfl) ⟨pP,pP,pP,pP,pP,pP,pP,pP,trivial⟩ ?_ ?_
 refine⟨?_,?_,?_,?_,?_,?_,?_,?_,trivial⟩<;>(intro x a1 w1 hbx hev hev0 hd;have H:=SH.mk hev hev0 hd;clear hev hev0 hd)
 ·have e5:=H.i 5;clear H;go_wp2;exact sR rfl
 ·have e3:=H.i 3;clear H;have hs1:=zh (HS6.out.call hbx);have y0:=cC hs1 1 0;have y1:=cC hs1 1 1;have y2:=cC hs1 1 2;go_wp2;exact sR rfl
 ·have e22:=H.r 1 22;clear H
  go_wp2_with fail
  refine(DQ.out _).mono ?_
  rintro e w8 ⟨rfl,hb8⟩;go_wp2;exact StepQ.mk _ hb8 rfl
 ·have e21:=H.r 0 21;have e23:=H.r 2 23;clear H
  go_wp2_with fail
  refine(MX.out _).mono ?_
  rintro e w8 ⟨rfl,hb8⟩;go_wp2;exact StepQ.mk _ hb8 rfl
 ·have e6:=H.i 6;clear H;go_wp2;exact sR rfl
 ·have e2:=H.i 2;clear H;have hs1:=zh (HS6.out.call hbx);have y0:=cC hs1 2 0;have y1:=cC hs1 2 1;have y2:=cC hs1 2 2;go_wp2;exact sR rfl
 ·have e26:=H.r 5 26;clear H
  go_wp2_with fail
  refine(DP.out _).mono ?_
  rintro e w8 ⟨rfl,hb8⟩;go_wp2;exact StepQ.mk _ hb8 rfl
 ·have e25:=H.r 4 25;have e27:=H.r 6 27;clear H
  go_wp2_with fail
  refine(MY.out _).mono ?_
  rintro e w8 ⟨rfl,hb8⟩;go_wp2;exact StepQ.mk _ hb8 rfl
 intro x w7 hb9 hv
 have hv0:=vQ hv 0
 have hv1:=vQ hv 1
 have hv2:=vQ hv 2
 have hv3:=vQ hv 3
 have hv4:=vQ hv 4
 have hv5:=vQ hv 5
 have hv6:=vQ hv 6
 have hv7:=vQ hv 7
 clear hv
 simp only[List.take,List.drop,a0h,Act.put]
 simp only[hv0,hv1,hv2,hv3,hv4,hv5,hv6,hv7]
 clear hv0 hv1 hv2 hv3 hv4 hv5 hv6 hv7
 have HS7:=zh (HS6.out.call hb9)
 clear hb9 HS6
 go_wp2
 refine a0d 5 [fun _ v=>v=.agg #[.bool np,.string (bs bp),.string (bs dp)],fun _ v=>v=.string (bs ep),fun _ v=>v=.agg #[.bool nq,.string (bs bq),.string (bs dq)],fun _ v=>v=.string (bs eq),fun _ v=>v=.string (bs ed)] rfl (by kernel_rfl) (by kernel_rfl) (by kernel_rfl) ⟨pP,pP,pP,pP,pP,trivial⟩ ?_ ?_
 refine⟨?_,?_,?_,?_,?_,trivial⟩<;>(intro x a1 w1 hbx hev hev0 hd;have H:=SH.mk hev hev0 hd;clear hev hev0 hd)
 ·have e2:=H.i 2;clear H;have hs1:=zh (HS7.out.call hbx);have y0:=cC hs1 2 0;have y1:=cC hs1 2 1;have y2:=cC hs1 2 2;go_wp2;exact sR rfl
 ·have e29:=H.r 0 29;clear H
  go_wp2_with fail
  refine(DP.out _).mono ?_
  rintro e w8 ⟨rfl,hb8⟩;go_wp2;exact StepQ.mk _ hb8 rfl
 ·have e3:=H.i 3;clear H;have hs1:=zh (HS7.out.call hbx);have y0:=cC hs1 1 0;have y1:=cC hs1 1 1;have y2:=cC hs1 1 2;go_wp2;exact sR rfl
 ·have e31:=H.r 2 31;clear H
  go_wp2_with fail
  refine(DQ.out _).mono ?_
  rintro e w8 ⟨rfl,hb8⟩;go_wp2;exact StepQ.mk _ hb8 rfl
 ·have e30:=H.r 1 30;have e32:=H.r 3 32;clear H
  go_wp2_with fail
  refine(MD.out _).mono ?_
  rintro e w8 ⟨rfl,hb8⟩;go_wp2;exact StepQ.mk _ hb8 rfl
 intro x w8 hb9 hv
 have hv0:=vQ hv 0
 have hv1:=vQ hv 1
 have hv2:=vQ hv 2
 have hv3:=vQ hv 3
 have hv4:=vQ hv 4
 clear hv
 simp only[List.take,List.drop,a0h,Act.put]
 simp only[hv0,hv1,hv2,hv3,hv4]
 clear hv0 hv1 hv2 hv3 hv4
 have HS8:=zh (HS7.out.call hb9)
 clear hb9 HS7
 have x3:=cC HS8 2 0
 have x4:=cC HS8 1 0
 go_wp2_with fail
 refine cL (SX.out _) HS8 fun w9 HS9=>?_
 clear HS8 x3 x4
 go_wp2_with fail
 refine cL (SY.out _) HS9 fun w10 HS10=>?_
 clear HS9
 have x5:=cC HS10 1 0
 go_wp2_with fail
 refine cL (RD.out _) HS10 fun w11 HS11=>?_
 clear HS10 x5
 have x6:=cC HS11 0 0
 have x7:=cC HS11 0 1
 have x8:=cC HS11 0 2
 have x9:=cF HS11 0 0
 have x10:=cF HS11 0 1
 have x11:=cF HS11 0 2
 have x12:=cN HS11 0 1
 have x13:=cN HS11 1 0
 have x14:=cN HS11 0 2
 have x15:=cN HS11 2 0
 go_wp2
 have HS12:Hid (St w [⟨w.heap.size+1+1,#[.bool nr,.string (bs br),.string (bs dr)],39⟩,_,_] _):=zh (St.set (St.set (St.set (HS11.out) 0 rfl 0 _) 0 rfl 1 _) 0 rfl 2 _)
 exact bodyPost_ret (a0f rfl _ _ _ _ _ _ rfl (HS12.out.blk 0 rfl)) rfl ⟨rfl,HS12.out.below⟩
theorem b3d(p q:Rat)(w:World)(sp:Sized 17179869184 p)(sq:Sized 17179869184 q) :
  Calls Tryz.prog 38 #[rat p,rat q] w fun e w'=>e=.returned (rat (p+q))/\Below w.heap.size w w':=by
 by_cases hd:p.den=q.den
 ·by_cases hs:negB p=negB q
  ·exact b7d p q w sp sq hd hs
  by_cases hl:q.num.natAbs<=p.num.natAbs
  ·exact b7c p q w sp sq hd hs hl
  exact b7b p q w sp sq hd hs (by omega)
 by_cases hs:negB p=negB q
 ·exact b7a p q w sp sq hd hs
 by_cases hl:q.num.natAbs*p.den<=p.num.natAbs*q.den
 ·exact b6z p q w sp sq hd hs hl
 exact b6y p q w sp sq hd hs (by omega)
end Go.Proofs.YtjmiicjialkpiaaGreatDoor
