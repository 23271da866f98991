/-
Part 27 of the base.
-/
import Derived.Test.YtjmiicjialkpiaaGreatDoorRf13
set_option maxRecDepth 100000
set_option maxHeartbeats 4000000
namespace Go.Proofs.YtjmiicjialkpiaaGreatDoor
open Go.RowKit
theorem St.join{w0 W w':World}{R R':List Own}(h:St w0 R W)(h':St W R' w'):St w0 (R'++R) w':=by
 refine⟨h.below.trans (h'.below.mono h.below.size),fun r hr=>?_,List.pairwise_append.2 ⟨h'.apart,h.apart,fun a ha b hb=>?_⟩⟩
 ·rcases List.mem_append.1 hr with hr | hr
  ·exact⟨(h'.ok r hr).1,Nat.le_trans h.below.size (h'.ok r hr).2⟩
  exact⟨(h.ok r hr).1.below h'.below (h.ok r hr).1.lt,(h.ok r hr).2⟩
 have h1:=(h'.ok a ha).2
 have h2:=(h.ok b hb).1.lt
 omega
def encT(q:Rat):Rtr:=⟨negB q,numB q,a0a q⟩
def stC(gg gs n:Nat)(ρ:Rat)(b:Bool):Array Value:=#[.slice (some ⟨gg,0,none⟩) n n,.slice (some ⟨gs,0,none⟩) n n,.bool false,.string (bs []),.string (bs []),.bool false,.string (bs []),.string (bs []),.bool (negB ρ),.string (bs (numB ρ)),.string (bs (a0a ρ)),.bool b]
def sB(g gg gs n:Nat)(ρ:Rat)(b:Bool)(D E:List Rat)(R:List Own):List Own:=⟨g,stC gg gs n ρ b,87⟩::⟨gg,rowA (D.map encT),39⟩::⟨gs,rowA (E.map encT),39⟩::R
theorem c2z{D:List Rat}{c:Nat}{d q:Rat}(h:D[c]? =some d):(D.map encT).set c ⟨negB (d+q),numB (d+q),a0a (d+q)⟩=(a2k D c q).map encT:=by
 unfold a2k
 rw[a4q h,List.map_set];rfl
theorem a5j{D:List Rat}{c:Nat}{d:Rat}(h:D[c]? =some d):(D.map encT)[c]? =some ⟨negB d,numB d,a0a d⟩:=by rw[List.getElem?_map,h];rfl
theorem a8c(n:Nat):rowA (List.replicate n rtr0)=rowA ((List.replicate n (0:Rat)).map encT):=by
 rw[List.map_replicate]
 congr 2
 show rtr0=(⟨negB 0,numB 0,a0a 0⟩:Rtr)
 rw[enc0q3.1,enc0q3.2.1,enc0q3.2.2];rfl
theorem b4f(gg gs n:Nat):stC gg gs n 0 false=#[.slice (some ⟨gg,0,none⟩) n n,.slice (some ⟨gs,0,none⟩) n n,.bool false,.string (bs []),.string (bs []),.bool false,.string (bs []),.string (bs []),.bool false,.string (bs []),.string (bs []),.bool false]:=by
 unfold stC
 rw[enc0q3.1,enc0q3.2.1,enc0q3.2.2]
theorem a8h{w0:World}{R:List Own}(g gg gs n:Nat)(ρ:Rat)(b:Bool)(D E:List Rat)(c:Nat)(q s:Rat)(W:World)(h:St w0 (sB g gg gs n ρ b D E R) W)(hD:D.length=n)(hE:E.length=n)(hc:c<n)(s1:∀x∈D,Sized 17179869184 x)(s2:∀x∈E,Sized 17179869184 x)(sq:Sized 17179869184 q)(ss:Sized 17179869184 s) :
  Calls Tryz.prog 57 #[.pointer (some ⟨g,0,none⟩),.int .i64 (c:Nat),rat q,rat s] W fun e w'=>e=.returned (.tuple #[])/\St w0 (sB g gg gs n ρ b (a2k D c q) (a2k E c s) R) w':=by
 obtain⟨d,hd⟩:∃d,D[c]? =some d:=⟨_,List.getElem?_eq_getElem (by omega)⟩
 obtain⟨e,he⟩:∃d,E[c]? =some d:=⟨_,List.getElem?_eq_getElem (by omega)⟩
 have p1:=fun W=>a6k d q W (s1 d (List.mem_of_getElem? hd)) sq
 have p2:=fun W=>a6k e s W (s2 e (List.mem_of_getElem? he)) ss
 have HD1:=zh (a5j hd)
 have HD2:=zh (a5j he)
 have HM1:=zh (c2z (q:=q) hd)
 have HM2:=zh (c2z (q:=s) he)
 have HL1:Hid (c<(D.map encT).length):=zh (by rw[List.length_map,hD];exact hc)
 have HL2:Hid (c<(E.map encT).length):=zh (by rw[List.length_map,hE];exact hc)
 have c0:(0:Int)<=(c:Int):=by omega
 have c1:(c:Int)<(n:Int):=by omega
 have c2:((c:Int) == -1)=false:=beq_eq_false_iff_ne.2 (by omega)
 have hst:∀w',St w0 (sB g gg gs n ρ b (a2k D c q) (a2k E c s) R) w'↔St w0 (⟨g,#[.slice (some ⟨gg,0,none⟩) n n,.slice (some ⟨gs,0,none⟩) n n,.bool false,.string (bs []),.string (bs []),.bool false,.string (bs []),.string (bs []),.bool (negB (ρ)),.string (bs (numB (ρ))),.string (bs (a0a (ρ))),.bool b],87⟩::⟨gg,rowA ((a2k D c q).map encT),39⟩::⟨gs,rowA ((a2k E c s).map encT),39⟩::R) w':=fun w'=>Iff.rfl
 have HST:=zh hst
 unfold sB stC at h
 have HS:=zh h
 clear h hD hE hc s1 s2 sq ss hd he hst
 unfold rat raw at p1 p2 ⊢
 have P1:=zh p1
 have P2:=zh p2
 clear p1 p2
 go_enter Tryz.func57,Tryz.ntmps57
 go_wp2
 refine a4m (R:=(_::_::⟨g,#[.slice (some ⟨gg,0,none⟩) n n,.slice (some ⟨gs,0,none⟩) n n,.bool false,.string (bs []),.string (bs []),.bool false,.string (bs []),.string (bs []),.bool (negB (ρ)),.string (bs (numB (ρ))),.string (bs (a0a (ρ))),.bool b],87⟩::⟨gg,(rowA ((D.map encT))),39⟩::⟨gs,(rowA ((E.map encT))),39⟩::R)) (St.alloc ((St.alloc (HS.out) #[.bool (negB (q)),.string (bs (numB (q))),.string (bs (a0a (q)))] 39 (W.heap.size) (by simp))) #[.bool (negB (s)),.string (bs (numB (s))),.string (bs (a0a (s)))] 39 (W.heap.size+1) (by simp)) ?_
 intro wg2 hb
 have HS2:=zh hb
 clear hb HS
 refine a0e 15 [.pointer (some ⟨g,0,none⟩),.pointer (some ⟨g,0,none⟩),.pointer (some ⟨g,0,none⟩),.slice (some ⟨gg,0,none⟩) n n,.int .i64 (c:Nat),.pointer (some ⟨g,0,none⟩),.pointer (some ⟨g,0,none⟩),.pointer (some ⟨g,0,none⟩),.slice (some ⟨gg,0,none⟩) n n,.int .i64 (c:Nat),.pointer (some ⟨gg,c*3,none⟩),.agg #[.bool (negB (d)),.string (bs (numB (d))),.string (bs (a0a (d)))],.agg #[.bool (negB (q)),.string (bs (numB (q))),.string (bs (a0a (q)))],.agg #[.bool (negB ((d+q))),.string (bs (numB ((d+q)))),.string (bs (a0a ((d+q))))],.pointer (some ⟨gg,c*3,none⟩)] rfl (by kernel_rfl) (by kernel_rfl) (by kernel_rfl) ?_ ?_
 refine⟨?_,?_,?_,?_,?_,?_,?_,?_,?_,?_,?_,?_,?_,?_,?_,trivial⟩<;>(intro xx af wv hbx hev hev0 hd;have H:=SH.mk hev hev0 hd;clear hev hev0 hd)
 ·have e0:=H.i 0;clear H;go_wp2;exact sQ rfl
 ·have e28:=H.r 0 28;clear H;go_wp2;exact sQ rfl
 ·have e29:=H.r 1 29;clear H;go_wp2;exact sQ rfl
 ·have e30:=H.r 2 30;clear H;have hs1:=zh (HS2.out.call hbx);have y0:=cC hs1 2 0;go_wp2;exact sQ rfl
 ·have e1:=H.i 1;clear H;go_wp2;exact sQ rfl
 ·have e0:=H.i 0;clear H;go_wp2;exact sQ rfl
 ·have e33:=H.r 5 33;clear H;go_wp2;exact sQ rfl
 ·have e34:=H.r 6 34;clear H;go_wp2;exact sQ rfl
 ·have e35:=H.r 7 35;clear H;have hs1:=zh (HS2.out.call hbx);have y0:=cC hs1 2 0;go_wp2;exact sQ rfl
 ·have e1:=H.i 1;clear H;go_wp2;exact sQ rfl
 ·have e36:=H.r 8 36;have e37:=H.r 9 37;clear H;go_wp2;exact sQ rfl
 ·have e38:=H.r 10 38;clear H;have hs1:=zh (HS2.out.call hbx);obtain⟨yr0,yr1,yr2⟩:=hs1.out.rowCells 3 rfl (HD1.out);go_wp2;exact sQ rfl
 ·have e6:=H.i 6;clear H;have hs1:=zh (HS2.out.call hbx);obtain⟨y0,y1,y2⟩:=hs1.out.k0 1 rfl rfl rfl rfl;go_wp2;exact sQ rfl
 ·have e39:=H.r 11 39;have e40:=H.r 12 40;clear H
  go_wp2_with fail
  refine(P1.out _).mono ?_
  rintro e w8 ⟨rfl,hb8⟩;go_wp2;exact StepQ.mk _ hb8 rfl
 ·have e31:=H.r 3 31;have e32:=H.r 4 32;clear H;go_wp2;exact sQ rfl
 intro xx w5 hb9 hv
 simp only[List.take,List.drop,a0h,Act.put]
 simp only[vQ hv 0,vQ hv 1,vQ hv 2,vQ hv 3,vQ hv 4,vQ hv 5,vQ hv 6,vQ hv 7,vQ hv 8,vQ hv 9,vQ hv 10,vQ hv 11,vQ hv 12,vQ hv 13,vQ hv 14]
 clear hv
 have HS5:=zh (HS2.out.call hb9)
 clear hb9 HS2
 obtain⟨x1,x2,x3⟩:=HS5.out.rowCells 3 rfl (HD1.out)
 have x4:=HS5.out.frozen 3 rfl (c*3)
 have x5:=HS5.out.frozen 3 rfl (c*3+1)
 have x6:=HS5.out.frozen 3 rfl (c*3+2)
 have x7:=cN HS5 3 0
 have x8:=cN HS5 0 3
 have x9:=cN HS5 3 1
 have x10:=cN HS5 1 3
 have x11:=cN HS5 3 2
 have x12:=cN HS5 2 3
 have x13:=cN HS5 3 4
 have x14:=cN HS5 4 3
 go_wp2
 clear x1 x2 x3 x4 x5 x6 x7 x8 x9 x10 x11 x12 x13 x14
 refine a4m (R:=(_::_::_::⟨gg,(rowA (((D.map encT)).set c ⟨(negB ((d+q))),(numB ((d+q))),(a0a ((d+q)))⟩)),39⟩::_::R)) (St.setRow (HS5.out) 3 rfl c ⟨(negB ((d+q))),(numB ((d+q))),(a0a ((d+q)))⟩ HL1.out) ?_
 intro wg6 hb
 have HS6:=zh hb
 clear hb HS5
 refine a0e 15 [.pointer (some ⟨g,0,none⟩),.pointer (some ⟨g,0,none⟩),.pointer (some ⟨g,1,none⟩),.slice (some ⟨gs,0,none⟩) n n,.int .i64 (c:Nat),.pointer (some ⟨g,0,none⟩),.pointer (some ⟨g,0,none⟩),.pointer (some ⟨g,1,none⟩),.slice (some ⟨gs,0,none⟩) n n,.int .i64 (c:Nat),.pointer (some ⟨gs,c*3,none⟩),.agg #[.bool (negB (e)),.string (bs (numB (e))),.string (bs (a0a (e)))],.agg #[.bool (negB (s)),.string (bs (numB (s))),.string (bs (a0a (s)))],.agg #[.bool (negB ((e+s))),.string (bs (numB ((e+s)))),.string (bs (a0a ((e+s))))],.pointer (some ⟨gs,c*3,none⟩)] rfl (by kernel_rfl) (by kernel_rfl) (by kernel_rfl) ?_ ?_
 refine⟨?_,?_,?_,?_,?_,?_,?_,?_,?_,?_,?_,?_,?_,?_,?_,trivial⟩<;>(intro xx af wv hbx hev hev0 hd;have H:=SH.mk hev hev0 hd;clear hev hev0 hd)
 ·have e0:=H.i 0;clear H;go_wp2;exact sQ rfl
 ·have e43:=H.r 0 43;clear H;go_wp2;exact sQ rfl
 ·have e44:=H.r 1 44;clear H;go_wp2;exact sQ rfl
 ·have e45:=H.r 2 45;clear H;have hs1:=zh (HS6.out.call hbx);have y0:=cC hs1 2 1;go_wp2;exact sQ rfl
 ·have e1:=H.i 1;clear H;go_wp2;exact sQ rfl
 ·have e0:=H.i 0;clear H;go_wp2;exact sQ rfl
 ·have e48:=H.r 5 48;clear H;go_wp2;exact sQ rfl
 ·have e49:=H.r 6 49;clear H;go_wp2;exact sQ rfl
 ·have e50:=H.r 7 50;clear H;have hs1:=zh (HS6.out.call hbx);have y0:=cC hs1 2 1;go_wp2;exact sQ rfl
 ·have e1:=H.i 1;clear H;go_wp2;exact sQ rfl
 ·have e51:=H.r 8 51;have e52:=H.r 9 52;clear H;go_wp2;exact sQ rfl
 ·have e53:=H.r 10 53;clear H;have hs1:=zh (HS6.out.call hbx);obtain⟨yr0,yr1,yr2⟩:=hs1.out.rowCells 4 rfl (HD2.out);go_wp2;exact sQ rfl
 ·have e7:=H.i 7;clear H;have hs1:=zh (HS6.out.call hbx);obtain⟨y0,y1,y2⟩:=hs1.out.k0 0 rfl rfl rfl rfl;go_wp2;exact sQ rfl
 ·have e54:=H.r 11 54;have e55:=H.r 12 55;clear H
  go_wp2_with fail
  refine(P2.out _).mono ?_
  rintro e w8 ⟨rfl,hb8⟩;go_wp2;exact StepQ.mk _ hb8 rfl
 ·have e46:=H.r 3 46;have e47:=H.r 4 47;clear H;go_wp2;exact sQ rfl
 intro xx w7 hb9 hv
 simp only[List.take,List.drop,a0h,Act.put]
 simp only[vQ hv 0,vQ hv 1,vQ hv 2,vQ hv 3,vQ hv 4,vQ hv 5,vQ hv 6,vQ hv 7,vQ hv 8,vQ hv 9,vQ hv 10,vQ hv 11,vQ hv 12,vQ hv 13,vQ hv 14]
 clear hv
 have HS7:=zh (HS6.out.call hb9)
 clear hb9 HS6
 obtain⟨x15,x16,x17⟩:=HS7.out.rowCells 4 rfl (HD2.out)
 have x18:=HS7.out.frozen 4 rfl (c*3)
 have x19:=HS7.out.frozen 4 rfl (c*3+1)
 have x20:=HS7.out.frozen 4 rfl (c*3+2)
 have x21:=cN HS7 4 0
 have x22:=cN HS7 0 4
 have x23:=cN HS7 4 1
 have x24:=cN HS7 1 4
 have x25:=cN HS7 4 2
 have x26:=cN HS7 2 4
 have x27:=cN HS7 4 3
 have x28:=cN HS7 3 4
 go_wp2
 have HS8:Hid (St w0 (⟨W.heap.size+1,#[.bool (negB (s)),.string (bs (numB (s))),.string (bs (a0a (s)))],39⟩::⟨W.heap.size,#[.bool (negB (q)),.string (bs (numB (q))),.string (bs (a0a (q)))],39⟩::⟨g,#[.slice (some ⟨gg,0,none⟩) n n,.slice (some ⟨gs,0,none⟩) n n,.bool false,.string (bs []),.string (bs []),.bool false,.string (bs []),.string (bs []),.bool (negB (ρ)),.string (bs (numB (ρ))),.string (bs (a0a (ρ))),.bool b],87⟩::⟨gg,(rowA (((D.map encT)).set c ⟨(negB ((d+q))),(numB ((d+q))),(a0a ((d+q)))⟩)),39⟩::⟨gs,(rowA (((E.map encT)).set c ⟨(negB ((e+s))),(numB ((e+s))),(a0a ((e+s)))⟩)),39⟩::R) _):=zh (St.setRow (HS7.out) 4 rfl c ⟨(negB ((e+s))),(numB ((e+s))),(a0a ((e+s)))⟩ HL2.out)
 refine bodyPost_end (results_none rfl _ _ _) rfl ?_
 refine⟨rfl,(HST.out _).2 ?_⟩
 rw[<- HM1.out,<-HM2.out]
 exact HS8.out.sub (List.Sublist.cons _ (List.sublist_cons_self ..))
theorem b7u{w0:World}{R:List Own}(g gg gs n:Nat)(ρ:Rat)(b:Bool)(D E:List Rat)(d:Rat)(W:World)(h:St w0 (sB g gg gs n ρ b D E R) W)(sr:Sized 17179869184 ρ)(sd:Sized 17179869184 d) :
  Calls Tryz.prog 52 #[.pointer (some ⟨g,0,none⟩),rat d] W fun e w'=>e=.returned (.tuple #[])/\∃ρ' b',Sized 17179869184 ρ'/\St w0 (sB g gg gs n ρ' b' D E R) w':=by
 have ls:=fun W=>b1j d ρ W sd sr
 obtain⟨lb,hlb⟩:∃lb,lb=decide (d<ρ):=⟨_,rfl⟩
 rw[<- hlb]at ls
 unfold sB stC at h
 have HS:=zh h
 have HSD:=zh sd
 have HSR:=zh sr
 unfold rat raw at ls ⊢
 have LS:=zh ls
 clear h sr sd hlb ls
 cases b
 rotate_left
 cases lb
 rotate_left
 rotate_left
 all_goals
   go_enter Tryz.func52,Tryz.ntmps52
   go_wp2
 ·refine a4m (R:=(_::⟨g,#[.slice (some ⟨gg,0,none⟩) n n,.slice (some ⟨gs,0,none⟩) n n,.bool false,.string (bs []),.string (bs []),.bool false,.string (bs []),.string (bs []),.bool (negB (ρ)),.string (bs (numB (ρ))),.string (bs (a0a (ρ))),.bool false],87⟩::⟨gg,(rowA ((D.map encT))),39⟩::⟨gs,(rowA ((E.map encT))),39⟩::R)) (St.alloc (HS.out) #[.bool (negB (d)),.string (bs (numB (d))),.string (bs (a0a (d)))] 39 (W.heap.size) (by simp)) ?_
  intro wg2 hb
  have HS2:=zh hb
  clear hb HS
  refine a0e 12 [.pointer (some ⟨g,0,none⟩),.pointer (some ⟨g,0,none⟩),.pointer (some ⟨g,11,none⟩),.bool false,.bool true,.bool true,undef,undef,undef,undef,undef,undef] rfl (by kernel_rfl) (by kernel_rfl) (by kernel_rfl) ?_ ?_
  refine⟨?_,?_,?_,?_,?_,?_,?_,?_,?_,?_,?_,?_,trivial⟩<;>(intro xx af wv hbx hev hev0 hd;have H:=SH.mk hev hev0 hd;clear hev hev0 hd)
  ·have e0:=H.i 0;clear H;go_wp2;exact sQ rfl
  ·have e4:=H.r 0 4;clear H;go_wp2;exact sQ rfl
  ·have e5:=H.r 1 5;clear H;go_wp2;exact sQ rfl
  ·have e6:=H.r 2 6;clear H;have hs1:=zh (HS2.out.call hbx);have y0:=cC hs1 1 11;go_wp2;exact sQ rfl
  ·have e7:=H.r 3 7;clear H;go_wp2;exact sQ rfl
  ·have e8:=H.r 4 8;clear H;go_wp2;exact sQ rfl
  ·have e9:=H.g 5 9;have q9:=a0b e9;clear H;go_wp2;exact sQ rfl
  ·have e9:=H.g 5 9;have q9:=a0b e9;clear H;go_wp2;exact sQ rfl
  ·have e9:=H.g 5 9;have q9:=a0b e9;clear H;go_wp2;exact sQ rfl
  ·have e9:=H.g 5 9;have q9:=a0b e9;clear H;go_wp2;exact sQ rfl
  ·have e9:=H.g 5 9;have q9:=a0b e9;clear H;go_wp2;exact sQ rfl
  ·have e9:=(H.ev 5 _ 9 rfl rfl).trans (H.hd ⟨5,.chain⟩ (by simp) rfl);have q9:=a0b e9;clear H;go_wp2;exact sQ rfl
  intro xx w4 hb9 hv
  simp only[List.take,List.drop,a0h,Act.put]
  simp only[vQ hv 0,vQ hv 1,vQ hv 2,vQ hv 3,vQ hv 4,vQ hv 5,vQ hv 6,vQ hv 7,vQ hv 8,vQ hv 9,vQ hv 10,vQ hv 11]
  clear hv
  have HS4:=zh (HS2.out.call hb9)
  clear hb9 HS2
  obtain⟨x1,x2,x3⟩:=HS4.out.k0 0 rfl rfl rfl rfl
  have x4:=cC HS4 1 8
  have x5:=cC HS4 1 9
  have x6:=cC HS4 1 10
  have x7:=cC HS4 1 11
  have x8:=cF HS4 1 8
  have x9:=cF HS4 1 9
  have x10:=cF HS4 1 10
  have x11:=cF HS4 1 11
  have x12:=cN HS4 1 0
  have x13:=cN HS4 0 1
  have x14:=cN HS4 1 2
  have x15:=cN HS4 2 1
  have x16:=cN HS4 1 3
  have x17:=cN HS4 3 1
  go_wp2
  have HS5:Hid (St w0 (⟨W.heap.size,#[.bool (negB (d)),.string (bs (numB (d))),.string (bs (a0a (d)))],39⟩::⟨g,#[.slice (some ⟨gg,0,none⟩) n n,.slice (some ⟨gs,0,none⟩) n n,.bool false,.string (bs []),.string (bs []),.bool false,.string (bs []),.string (bs []),.bool (negB (d)),.string (bs (numB (d))),.string (bs (a0a (d))),.bool true],87⟩::⟨gg,(rowA ((D.map encT))),39⟩::⟨gs,(rowA ((E.map encT))),39⟩::R) _):=zh (St.set ((St.set ((St.set ((St.set (HS4.out) 1 rfl 8 _)) 1 rfl 9 _)) 1 rfl 10 _)) 1 rfl 11 _)
  refine bodyPost_end (results_none rfl _ _ _) rfl ?_
  exact⟨rfl,d,true,HSD.out,HS5.out.sub (List.sublist_cons_self ..)⟩
 ·refine a4m (R:=(_::⟨g,#[.slice (some ⟨gg,0,none⟩) n n,.slice (some ⟨gs,0,none⟩) n n,.bool false,.string (bs []),.string (bs []),.bool false,.string (bs []),.string (bs []),.bool (negB (ρ)),.string (bs (numB (ρ))),.string (bs (a0a (ρ))),.bool true],87⟩::_::_::R)) (St.alloc (HS.out) #[.bool (negB (d)),.string (bs (numB (d))),.string (bs (a0a (d)))] 39 (W.heap.size) (by simp)) ?_
  intro wg2 hb
  have HS2:=zh hb
  clear hb HS
  refine a0e 12 [.pointer (some ⟨g,0,none⟩),.pointer (some ⟨g,0,none⟩),.pointer (some ⟨g,11,none⟩),.bool true,.bool false,.bool false,.agg #[.bool (negB (d)),.string (bs (numB (d))),.string (bs (a0a (d)))],.pointer (some ⟨g,0,none⟩),.pointer (some ⟨g,0,none⟩),.pointer (some ⟨g,8,none⟩),.agg #[.bool (negB (ρ)),.string (bs (numB (ρ))),.string (bs (a0a (ρ)))],.bool false] rfl (by kernel_rfl) (by kernel_rfl) (by kernel_rfl) ?_ ?_
  refine⟨?_,?_,?_,?_,?_,?_,?_,?_,?_,?_,?_,?_,trivial⟩<;>(intro xx af wv hbx hev hev0 hd;have H:=SH.mk hev hev0 hd;clear hev hev0 hd)
  ·have e0:=H.i 0;clear H;go_wp2;exact sQ rfl
  ·have e4:=H.r 0 4;clear H;go_wp2;exact sQ rfl
  ·have e5:=H.r 1 5;clear H;go_wp2;exact sQ rfl
  ·have e6:=H.r 2 6;clear H;have hs1:=zh (HS2.out.call hbx);have y0:=cC hs1 1 11;go_wp2;exact sQ rfl
  ·have e7:=H.r 3 7;clear H;go_wp2;exact sQ rfl
  ·have e8:=H.r 4 8;clear H;go_wp2;exact sQ rfl
  ·have e9:=H.g 5 9;have e3:=H.i 3;have q9:=a0b e9;clear H;have hs1:=zh (HS2.out.call hbx);obtain⟨y0,y1,y2⟩:=hs1.out.k0 0 rfl rfl rfl rfl;go_wp2;exact sQ rfl
  ·have e9:=H.g 5 9;have e0:=H.i 0;have q9:=a0b e9;clear H;go_wp2;exact sQ rfl
  ·have e9:=H.g 5 9;have e11:=H.r 7 11;have q9:=a0b e9;clear H;go_wp2;exact sQ rfl
  ·have e9:=H.g 5 9;have e12:=H.r 8 12;have q9:=a0b e9;clear H;go_wp2;exact sQ rfl
  ·have e9:=H.g 5 9;have e13:=H.r 9 13;have q9:=a0b e9;clear H;have hs1:=zh (HS2.out.call hbx);have y0:=cC hs1 1 8;have y1:=cC hs1 1 9;have y2:=cC hs1 1 10;go_wp2;exact sQ rfl
  ·have e9:=(H.ev 5 _ 9 rfl rfl).trans (H.hd ⟨5,.chain⟩ (by simp) rfl);have e10:=H.r 6 10;have e14:=H.r 10 14;have q9:=a0b e9;clear H
   go_wp2_with fail
   refine(LS.out _).mono ?_
   rintro e w8 ⟨rfl,hb8⟩;go_wp2;exact StepQ.mk _ hb8 rfl
  intro xx w4 hb9 hv
  simp only[List.take,List.drop,a0h,Act.put]
  simp only[vQ hv 0,vQ hv 1,vQ hv 2,vQ hv 3,vQ hv 4,vQ hv 5,vQ hv 6,vQ hv 7,vQ hv 8,vQ hv 9,vQ hv 10,vQ hv 11]
  clear hv
  have HS4:=zh (HS2.out.call hb9)
  clear hb9 HS2
  go_wp2
  refine bodyPost_end (results_none rfl _ _ _) rfl ?_
  exact⟨rfl,ρ,true,HSR.out,HS4.out.sub (List.sublist_cons_self ..)⟩
 refine a4m (R:=(_::_::_::_::R)) (St.alloc (HS.out) #[.bool (negB (d)),.string (bs (numB (d))),.string (bs (a0a (d)))] 39 (W.heap.size) (by simp)) ?_
 intro wg2 hb
 have HS2:=zh hb
 clear hb HS
 refine a0e 12 [.pointer (some ⟨g,0,none⟩),.pointer (some ⟨g,0,none⟩),.pointer (some ⟨g,11,none⟩),.bool true,.bool false,.bool false,.agg #[.bool (negB (d)),.string (bs (numB (d))),.string (bs (a0a (d)))],.pointer (some ⟨g,0,none⟩),.pointer (some ⟨g,0,none⟩),.pointer (some ⟨g,8,none⟩),.agg #[.bool (negB (ρ)),.string (bs (numB (ρ))),.string (bs (a0a (ρ)))],.bool true] rfl (by kernel_rfl) (by kernel_rfl) (by kernel_rfl) ?_ ?_
 refine⟨?_,?_,?_,?_,?_,?_,?_,?_,?_,?_,?_,?_,trivial⟩<;>(intro xx af wv hbx hev hev0 hd;have H:=SH.mk hev hev0 hd;clear hev hev0 hd)
 ·have e0:=H.i 0;clear H;go_wp2;exact sQ rfl
 ·have e4:=H.r 0 4;clear H;go_wp2;exact sQ rfl
 ·have e5:=H.r 1 5;clear H;go_wp2;exact sQ rfl
 ·have e6:=H.r 2 6;clear H;have hs1:=zh (HS2.out.call hbx);have y0:=cC hs1 1 11;go_wp2;exact sQ rfl
 ·have e7:=H.r 3 7;clear H;go_wp2;exact sQ rfl
 ·have e8:=H.r 4 8;clear H;go_wp2;exact sQ rfl
 ·have e9:=H.g 5 9;have e3:=H.i 3;have q9:=a0b e9;clear H;have hs1:=zh (HS2.out.call hbx);obtain⟨y0,y1,y2⟩:=hs1.out.k0 0 rfl rfl rfl rfl;go_wp2;exact sQ rfl
 ·have e9:=H.g 5 9;have e0:=H.i 0;have q9:=a0b e9;clear H;go_wp2;exact sQ rfl
 ·have e9:=H.g 5 9;have e11:=H.r 7 11;have q9:=a0b e9;clear H;go_wp2;exact sQ rfl
 ·have e9:=H.g 5 9;have e12:=H.r 8 12;have q9:=a0b e9;clear H;go_wp2;exact sQ rfl
 ·have e9:=H.g 5 9;have e13:=H.r 9 13;have q9:=a0b e9;clear H;have hs1:=zh (HS2.out.call hbx);have y0:=cC hs1 1 8;have y1:=cC hs1 1 9;have y2:=cC hs1 1 10;go_wp2;exact sQ rfl
 ·have e9:=(H.ev 5 _ 9 rfl rfl).trans (H.hd ⟨5,.chain⟩ (by simp) rfl);have e10:=H.r 6 10;have e14:=H.r 10 14;have q9:=a0b e9;clear H
  go_wp2_with fail
  refine(LS.out _).mono ?_
  rintro e w8 ⟨rfl,hb8⟩;go_wp2;exact StepQ.mk _ hb8 rfl
 intro xx w4 hb9 hv
 simp only[List.take,List.drop,a0h,Act.put]
 simp only[vQ hv 0,vQ hv 1,vQ hv 2,vQ hv 3,vQ hv 4,vQ hv 5,vQ hv 6,vQ hv 7,vQ hv 8,vQ hv 9,vQ hv 10,vQ hv 11]
 clear hv
 have HS4:=zh (HS2.out.call hb9)
 clear hb9 HS2
 obtain⟨x1,x2,x3⟩:=HS4.out.k0 0 rfl rfl rfl rfl
 have x4:=cC HS4 1 8
 have x5:=cC HS4 1 9
 have x6:=cC HS4 1 10
 have x7:=cC HS4 1 11
 have x8:=cF HS4 1 8
 have x9:=cF HS4 1 9
 have x10:=cF HS4 1 10
 have x11:=cF HS4 1 11
 have x12:=cN HS4 1 0
 have x13:=cN HS4 0 1
 have x14:=cN HS4 1 2
 have x15:=cN HS4 2 1
 have x16:=cN HS4 1 3
 have x17:=cN HS4 3 1
 go_wp2
 have HS5:Hid (St w0 (⟨W.heap.size,#[.bool (negB (d)),.string (bs (numB (d))),.string (bs (a0a (d)))],39⟩::⟨g,#[.slice (some ⟨gg,0,none⟩) n n,.slice (some ⟨gs,0,none⟩) n n,.bool false,.string (bs []),.string (bs []),.bool false,.string (bs []),.string (bs []),.bool (negB (d)),.string (bs (numB (d))),.string (bs (a0a (d))),.bool true],87⟩::⟨gg,(rowA ((D.map encT))),39⟩::⟨gs,(rowA ((E.map encT))),39⟩::R) _):=zh (St.set ((St.set ((St.set ((St.set (HS4.out) 1 rfl 8 _)) 1 rfl 9 _)) 1 rfl 10 _)) 1 rfl 11 _)
 refine bodyPost_end (results_none rfl _ _ _) rfl ?_
 exact⟨rfl,d,true,HSD.out,HS5.out.sub (List.sublist_cons_self ..)⟩
theorem b5j(n:Nat)(W:World)(hn:n<=1000) :
  Calls Tryz.prog 51 #[.int .i64 (n:Nat)] W fun e w'=>∃g gg gs,e=.returned (.pointer (some ⟨g,0,none⟩))/\St W (sB g gg gs n 0 false (List.replicate n 0) (List.replicate n 0) []) w':=by
 have hmk:=c3a n hn
 go_enter Tryz.func51,Tryz.ntmps51
 go_wp2
 go_region
 all_goals
  try go_wp2
 all_goals
  go_ret
  first
  | exact⟨_,W.heap.size,W.heap.size+1,rfl,by unfold sB;rw[b4f,<-a8c];exact(St.drew (St.alloc (St.alloc (St.alloc (St.start W) _ _ W.heap.size rfl) _ _ (W.heap.size+1) (by simp)) _ _ (W.heap.size+1+1) (by simp))).perm (.cons _ (.swap _ _ _))⟩
  | exact⟨_,W.heap.size+1,W.heap.size,rfl,by unfold sB;rw[b4f,<-a8c];exact St.drew (St.alloc (St.alloc (St.alloc (St.start W) _ _ W.heap.size rfl) _ _ (W.heap.size+1) (by simp)) _ _ (W.heap.size+1+1) (by simp))⟩
  | exact⟨_,W.heap.size,W.heap.size+1,rfl,by unfold sB;rw[b4f,<-a8c];exact(St.alloc (St.alloc (St.alloc (St.start W) _ _ W.heap.size rfl) _ _ (W.heap.size+1) (by simp)) _ _ (W.heap.size+1+1) (by simp)).perm (.cons _ (.swap _ _ _))⟩
  | exact⟨_,W.heap.size+1,W.heap.size,rfl,by unfold sB;rw[b4f,<-a8c];exact St.alloc (St.alloc (St.alloc (St.start W) _ _ W.heap.size rfl) _ _ (W.heap.size+1) (by simp)) _ _ (W.heap.size+1+1) (by simp)⟩
abbrev PtO(w:World)(base:Nat)(u:Value)(ps:List Pt):Prop:=World.ownsRow w base 145 4 u ps.length (flat Pt.enc ps)
structure TroU(w:World)(base:Nat)(v:Value)(us:List Value)(T:List (List Pt)):Prop where
 len:us.length=T.length
 out:World.ownsRow w base 143 1 v us.length us
 inn:∀ (t:Nat) (u:Value) (ps:List Pt),us[t]? =some u->T[t]? =some ps->PtO w base u ps
 apart:us.Pairwise b2b
def Tro(w:World)(base:Nat)(v:Value)(T:List (List Pt)):Prop:=∃us,TroU w base v us T
section
variable {w w' : World} {base : Nat} {v : Value} {us : List Value} {T : List (List Pt)}
theorem Tro.nil(w:World)(base:Nat):Tro w base (.slice none 0 0) []:=⟨[],rfl,World.ownsRow_nil _ _ _ _,fun t u ps h=>by simp at h,List.Pairwise.nil⟩
theorem TroU.at_(h:TroU w base v us T){t:Nat}(ht:t<T.length):∃u ps,us[t]? =some u/\T[t]? =some ps/\PtO w base u ps:=by
 have h1:t<us.length:=by rw[h.len];exact ht
 exact⟨_,_,List.getElem?_eq_getElem h1,List.getElem?_eq_getElem ht,h.inn t _ _ (List.getElem?_eq_getElem h1) (List.getElem?_eq_getElem ht)⟩
theorem TroU.one(h:TroU w base v us T):∀u∈us,u.oneCell'=true:=by
 intro u hu
 obtain⟨t,ht⟩:=List.mem_iff_getElem?.1 hu
 have h1:=(List.getElem?_eq_some_iff.1 ht).1
 exact c4k (h.inn t u _ ht (List.getElem?_eq_getElem (by rw[<- h.len];exact h1)))
theorem TroU.below(h:TroU w base v us T)(hb:Below w.heap.size w w'):TroU w' base v us T :=
 ⟨h.len,Grows.below h.out hb,fun t u ps h1 h2=>Grows.below (h.inn t u ps h1 h2) hb,h.apart⟩
theorem Tro.below(h:Tro w base v T)(hb:Below w.heap.size w w'):Tro w' base v T:=by
 obtain⟨us,hu⟩:=h
 exact⟨us,hu.below hb⟩
theorem TroU.mono{base':Nat}(h:TroU w base v us T)(hb:base'<=base):TroU w base' v us T:=⟨h.len,a6m h.out hb,fun t u ps h1 h2=>a6m (h.inn t u ps h1 h2) hb,h.apart⟩
theorem Tro.grown{o:Option Nat}(h:Tro w base v T)(hg:w.grownBy w' o)(ho:∀g,o=some g->∃cs t,Blk w g cs t/\t≠143/\t≠145):Tro w' base v T:=by
 obtain⟨us,h⟩:=h
 exact⟨us,h.len,a3b h.out hg (fun g e=>by obtain⟨cs,t,h1,h2,_⟩:=ho g e;exact⟨cs,t,h1,h2⟩),fun t u ps h1 h2=>a3b (h.inn t u ps h1 h2) hg (fun g e=>by obtain⟨cs,t,h1,_,h2⟩:=ho g e;exact⟨cs,t,h1,h2⟩),h.apart⟩
theorem Tro.toL(h:Tro w base v T):TrsL w v T:=by
 obtain⟨us,h⟩:=h
 exact⟨us,h.len,Slc.of_own a9q (by rw[a6r];exact h.out) rfl,fun i x u hx hu=>Slc.of_own a8t (h.inn i u x hu hx) rfl⟩
theorem TroU.put{u v':Value}{ps:List Pt}(h:TroU w base v us T)(hu:PtO w base u ps)(hnew:∀a∈us,b2b a u)(ho:World.ownsRow w' base 143 1 v' (us.length+1) (us++[u]))(hg:w.grownBy w' v.ownBlock):Tro w' base v' (T++[ps]):=by
 refine⟨us++[u],by rw[List.length_append,List.length_append,h.len];rfl,by rw[List.length_append];exact ho,fun t a qs ha hq=>?_,?_⟩
 ·have key:PtO w base a qs->PtO w' base a qs:=fun hp=>a3b hp hg (a3x h.out (by decide))
  rw[List.getElem?_append]at ha hq
  by_cases ht:t<us.length
  ·rw[if_pos ht]at ha
   rw[if_pos (by rw[<- h.len];exact ht)]at hq
   exact key (h.inn t a qs ha hq)
  rw[if_neg ht]at ha
  rw[if_neg (by rw[<- h.len];exact ht),<-h.len]at hq
  cases hd:t-us.length with
  | zero =>
   rw[hd]at ha hq
   obtain rfl:u=a:=by simpa using ha
   obtain rfl:ps=qs:=by simpa using hq
   exact key hu
  | succ m=>rw[hd]at ha;simp at ha
 rw[List.pairwise_append]
 exact⟨h.apart,List.pairwise_singleton _ _,fun a ha b hb=>by obtain rfl:=List.mem_singleton.1 hb;exact hnew a ha⟩
theorem TroU.young{base':Nat}{u:Value}{ps:List Pt}(h:TroU w base v us T)(hb:w.heap.size<=base'){w2:World}(hu:PtO w2 base' u ps):∀a∈us,b2b a u:=by
 intro a ha g hg e
 obtain⟨t,ht⟩:=List.mem_iff_getElem?.1 ha
 have h1:=(List.getElem?_eq_some_iff.1 ht).1
 have h2:=World.ownsRow.lt (h.inn t a _ ht (List.getElem?_eq_getElem (by rw[<- h.len];exact h1))) g hg
 have h3:=World.ownsRow.lt hu g e
 omega
end
theorem Tro.mono{w:World}{base base':Nat}{v:Value}{T:List (List Pt)}(h:Tro w base v T)(hb:base'<=base):Tro w base' v T:=by
 obtain⟨us,hu⟩:=h
 exact⟨us,hu.mono hb⟩
def Rds(R:List Own)(W:World):Prop:=∀r∈R,Blk W r.g r.cs r.t
theorem St.rds{w0 W:World}{R R':List Own}(h:St w0 R' W)(hs:∀r∈R,r∈R'):Rds R W:=fun r hr=>(h.ok r (hs r hr)).1
theorem Rds.sub{R R':List Own}{W:World}(h:Rds R' W)(hs:∀r∈R,r∈R'):Rds R W:=fun r hr=>h r (hs r hr)
def RdL{α:Type}(R:List Own)(enc:α->List Value)(k:Nat)(v:Value)(xs:List α):Prop:=∃A c,v=.slice A xs.length c/\xs.length<=c/\c<=9223372036854775807 /\
 (0<xs.length->∃b o,A=some ⟨b,o,none⟩/\∀W,Rds R W->b<W.heap.size/\∀j x,xs[j]? =some x->∀i u,(enc x)[i]? =some u->W.cell? ⟨b,o+j*k+i,none⟩=some u)
section
variable {α : Type} {enc : α -> List Value} {k : Nat} {R R' : List Own} {v : Value} {xs : List α} {W : World}
theorem RdL.slc(h:RdL R enc k v xs)(hr:Rds R W):Slc enc k W v xs:=by
 obtain⟨A,c,rfl,h1,h2,h3⟩:=h
 refine⟨A,c,rfl,h1,h2,fun h0=>?_⟩
 obtain⟨b,o,e,h4⟩:=h3 h0
 exact⟨b,o,e,(h4 W hr).1,(h4 W hr).2⟩
theorem RdL.slice(h:RdL R enc k v xs):∃A c,v=.slice A xs.length c/\xs.length<=c/\c<=9223372036854775807:=by
 obtain⟨A,c,h1,h2,h3,_⟩:=h
 exact⟨A,c,h1,h2,h3⟩
theorem RdL.more(h:RdL R enc k v xs)(hs:∀r∈R,r∈R'):RdL R' enc k v xs:=by
 obtain⟨A,c,h1,h2,h3,h4⟩:=h
 refine⟨A,c,h1,h2,h3,fun h0=>?_⟩
 obtain⟨b,o,e,h5⟩:=h4 h0
 exact⟨b,o,e,fun W hr=>h5 W (hr.sub hs)⟩
theorem RdL.at_{A:Option Addr}{n c:Nat}(h:RdL R enc k (.slice A n c) xs){j:Nat}(hj:j<xs.length):∃b o x,A=some ⟨b,o,none⟩/\xs[j]? =some x/\(∀W,Rds R W->b<W.heap.size)/\∀W,Rds R W->∀i u,(enc x)[i]? =some u->W.cell? ⟨b,o+j*k+i,none⟩=some u:=by
 obtain⟨A',c',e,h1,h2,h3⟩:=h
 injection e with e1 e2 e3
 subst e1
 obtain⟨b,o,e,h4⟩:=h3 (by omega)
 exact⟨b,o,xs[j],e,List.getElem?_eq_getElem hj,fun W hr=>(h4 W hr).1,fun W hr i u hu=>(h4 W hr).2 j _ (List.getElem?_eq_getElem hj) i u hu⟩
theorem c4j(hk:∀x,(enc x).length=k){w:World}{base:Nat}{e:TypeId}(h:World.ownsRow w base e k v xs.length (flat enc xs)) :
  ∃bs:List Own,(bs=[]\/∃g cur,bs=[⟨g,cur,e⟩]/\v.ownBlock=some g/\base<=g/\Blk w g cur e)/\RdL bs enc k v xs/\∀W,Rds bs W->World.ownsRow W base e k v xs.length (flat enc xs):=by
 have hlen:=h.1
 rcases h.2 with ⟨rfl,h0⟩ | ⟨g,cap,cur,rfl,hb,hg,hc,hm,hsz,ht⟩
 ·exact⟨[],.inl rfl,⟨none,0,by rw[h0],by omega,by decide,fun h1=>by omega⟩,fun W _=>⟨hlen,.inl ⟨rfl,h0⟩⟩⟩
 refine⟨[⟨g,cur,e⟩],.inr ⟨g,cur,rfl,rfl,hb,hg⟩,⟨some ⟨g,0,none⟩,cap,rfl,hc,by unfold maxLen at hm;omega,fun _=>⟨g,0,rfl,fun W hr=>?_⟩⟩,fun W hr=>⟨hlen,.inr ⟨g,cap,cur,rfl,hb,hr _ (List.mem_singleton.2 rfl),hc,hm,hsz,ht⟩⟩⟩
 have hB:=hr _ (List.mem_singleton.2 rfl)
 refine⟨Blk.lt hB,fun j x hj i u hu=>?_⟩
 rw[Nat.zero_add]
 refine Blk.cell hB _ _ ?_
 have h1:=a4a hk xs j x hj i u hu
 rw[<- ht,List.getElem?_take]at h1
 split at h1
 ·rwa[<- Array.getElem?_toList]
 cases h1
end
def TrsR(v:Value)(L:List (List Pt))(R:List Own):Prop:=∃us:List Value,us.length=L.length/\RdL R rawL 1 v us/\∀ (i:Nat) (u:Value) (P:List Pt),us[i]? =some u->L[i]? =some P->RdL R Pt.enc 4 u P
theorem TrsR.more{v:Value}{L:List (List Pt)}{R R':List Own}(h:TrsR v L R)(hs:∀r∈R,r∈R'):TrsR v L R':=by
 obtain⟨us,h1,h2,h3⟩:=h
 exact⟨us,h1,h2.more hs,fun i u P hu hP=>(h3 i u P hu hP).more hs⟩
theorem TrsR.slice{v:Value}{L:List (List Pt)}{R:List Own}(h:TrsR v L R):∃A c,v=.slice A L.length c/\L.length<=c/\c<=9223372036854775807:=by
 obtain⟨us,h1,h2,_⟩:=h
 rw[<- h1]
 exact h2.slice
theorem TrsR.at_{A:Option Addr}{n c:Nat}{L:List (List Pt)}{R:List Own}(h:TrsR (.slice A n c) L R){j:Nat}(hj:j<L.length):∃b o u P,A=some ⟨b,o,none⟩/\L[j]? =some P/\RdL R Pt.enc 4 u P/\(∀W,Rds R W->b<W.heap.size)/\∀W,Rds R W->∀ (i:Nat) (y:Value),[u][i]? =some y->W.cell? ⟨b,o+j+i,none⟩=some y:=by
 obtain⟨us,h1,h2,h3⟩:=h
 obtain⟨b,o,u,e,hu,h4,h5⟩:=h2.at_ (j:=j) (by omega)
 refine⟨b,o,u,_,e,List.getElem?_eq_getElem hj,h3 j u _ hu (List.getElem?_eq_getElem hj),h4,fun W hr i y hy=>?_⟩
 have:=h5 W hr i y hy
 rwa[Nat.mul_one]at this
theorem c7e{w:World}{base:Nat}:∀ (us:List Value) (L:List (List Pt)),us.length=L.length->(∀ (t:Nat) (u:Value) (P:List Pt),us[t]? =some u->L[t]? =some P->PtO w base u P)->us.Pairwise b2b ->
  ∃bs:List Own,(∀r∈bs,Blk w r.g r.cs r.t/\base<=r.g/\r.t=145/\∃u∈us,u.ownBlock=some r.g)/\bs.Pairwise (fun a b=>a.g≠b.g)/\∀ (i:Nat) (u:Value) (P:List Pt),us[i]? =some u->L[i]? =some P->RdL bs Pt.enc 4 u P/\∀W,Rds bs W->PtO W base u P
 | [],L,_,_,_=>⟨[],fun r hr=>(by cases hr),List.Pairwise.nil,fun i u P hu=>by simp at hu⟩
 | u::us,[],h,_,_=>by cases h
 | u::us,P::L,h,hin,hap=>by
  obtain⟨bs,h1,h2,h3⟩:=c7e us L (by simpa using h) (fun t v Q hv hQ=>hin (t+1) v Q (by simpa using hv) (by simpa using hQ)) (List.pairwise_cons.1 hap).2
  obtain⟨cs,h4,h5,h6⟩:=c4j a8t (hin 0 u P rfl rfl)
  refine⟨cs++bs,fun r hr=>?_,List.pairwise_append.2 ⟨?_,h2,fun a ha b hb=>?_⟩,fun i v Q hv hQ=>?_⟩
  ·rcases List.mem_append.1 hr with hr | hr
   ·rcases h4 with rfl | ⟨g,cur,rfl,e1,e2,e3⟩
    ·cases hr
    rw[List.mem_singleton.1 hr]
    exact⟨e3,e2,rfl,u,List.mem_cons_self ..,e1⟩
   obtain⟨a1,a2,a3,v,a4,a5⟩:=h1 r hr
   exact⟨a1,a2,a3,v,List.mem_cons_of_mem _ a4,a5⟩
  ·rcases h4 with rfl | ⟨g,cur,rfl,_⟩
   ·exact List.Pairwise.nil
   exact List.pairwise_singleton _ _
  ·rcases h4 with rfl | ⟨g,cur,rfl,e1,e2,e3⟩
   ·cases ha
   rw[List.mem_singleton.1 ha]
   obtain⟨_,_,_,v,a4,a5⟩:=h1 b hb
   intro e
   exact(List.pairwise_cons.1 hap).1 v a4 g e1 (by rw[a5,<-(show g=b.g from e)])
  cases i with
  | zero =>
   obtain rfl:u=v:=by simpa using hv
   obtain rfl:P=Q:=by simpa using hQ
   exact⟨h5.more fun r hr=>List.mem_append_left _ hr,fun W hr=>h6 W (hr.sub fun r hr=>List.mem_append_left _ hr)⟩
  | succ i =>
   obtain⟨a1,a2⟩:=h3 i v Q (by simpa using hv) (by simpa using hQ)
   exact⟨a1.more fun r hr=>List.mem_append_right _ hr,fun W hr=>a2 W (hr.sub fun r hr=>List.mem_append_right _ hr)⟩
theorem Tro.open{w:World}{base:Nat}{v:Value}{L:List (List Pt)}(h:Tro w base v L):∃ (us:List Value) (bs:List Own),TroU w base v us L/\(∀r∈bs,Blk w r.g r.cs r.t/\base<=r.g)/\bs.Pairwise (fun a b=>a.g≠b.g)/\(∀r∈bs,r.t=145\/r.t=143)/\TrsR v L bs/\∀W,Rds bs W->TroU W base v us L:=by
 obtain⟨us,h⟩:=h
 obtain⟨bs,h1,h2,h3⟩:=c7e us L h.len h.inn h.apart
 obtain⟨cs,h4,h5,h6⟩:=c4j (enc:=rawL) a9q (v:=v) (xs:=us) (by rw[a6r];exact h.out)
 refine⟨us,cs++bs,h,fun r hr=>?_,List.pairwise_append.2 ⟨?_,h2,fun a ha b hb=>?_⟩,fun r hr=>?_,⟨us,h.len,h5.more fun r hr=>List.mem_append_left _ hr,fun i u P hu hP=>(h3 i u P hu hP).1.more fun r hr=>List.mem_append_right _ hr⟩,fun W hr=>⟨h.len,?_,fun t u P hu hP=>(h3 t u P hu hP).2 W (hr.sub fun r hr=>List.mem_append_right _ hr),h.apart⟩⟩
 ·rcases List.mem_append.1 hr with hr | hr
  ·rcases h4 with rfl | ⟨g,cur,rfl,e1,e2,e3⟩
   ·cases hr
   rw[List.mem_singleton.1 hr]
   exact⟨e3,e2⟩
  exact⟨(h1 r hr).1,(h1 r hr).2.1⟩
 ·rcases h4 with rfl | ⟨g,cur,rfl,_⟩
  ·exact List.Pairwise.nil
  exact List.pairwise_singleton _ _
 ·rcases h4 with rfl | ⟨g,cur,rfl,e1,e2,e3⟩
  ·cases ha
  rw[List.mem_singleton.1 ha]
  obtain⟨a1,_,a3,_⟩:=h1 b hb
  intro e
  have e:g=b.g:=e
  rw[<- e,a3]at a1
  unfold Blk at a1 e3
  rw[e3]at a1
  injection (Option.some.inj a1)with _ h8
  exact absurd h8 (by decide)
 ·rcases List.mem_append.1 hr with hr | hr
  ·rcases h4 with rfl | ⟨g,cur,rfl,_⟩
   ·cases hr
   rw[List.mem_singleton.1 hr];exact .inr rfl
  exact .inl (h1 r hr).2.2.1
 have:=h6 W (hr.sub fun r hr=>List.mem_append_left _ hr)
 rwa[a6r]at this
theorem Tro.beside{w0 w:World}{base:Nat}{v:Value}{L:List (List Pt)}{X:List Own}(h:Tro w base v L)(hS:St w0 X w)(hb:w0.heap.size<=base)(hX:∀x∈X,x.t≠145/\x.t≠143):∃us bs,TroU w base v us L/\St w0 (X++bs) w/\TrsR v L bs/\(∀W,Rds bs W->TroU W base v us L)/\∀r∈bs,r.t=145\/r.t=143:=by
 obtain⟨us,bs,h0,h1,h2,h3,h4,h5⟩:=h.open
 refine⟨us,bs,h0,⟨hS.below,fun r hr=>?_,List.pairwise_append.2 ⟨hS.apart,h2,fun a ha b hb'=>?_⟩⟩,h4,h5,h3⟩
 ·rcases List.mem_append.1 hr with hr | hr
  ·exact hS.ok r hr
  exact⟨(h1 r hr).1,Nat.le_trans hb (h1 r hr).2⟩
 intro e
 have e1:=(hS.ok a ha).1
 have e2:=(h1 b hb').1
 rw[<- e]at e2
 unfold Blk at e1 e2
 rw[e1]at e2
 injection (Option.some.inj e2)with _ h8
 have h9:=hX a ha
 rcases h3 b hb' with h10 | h10
 ·exact h9.1 (h8.trans h10)
 exact h9.2 (h8.trans h10)
theorem a6j{w0 W:World}{g gg gs n:Nat}{ρ:Rat}{b:Bool}{D E:List Rat}(X:List Own){R:List Own}(h:St w0 (X++sB g gg gs n ρ b D E R) W):St w0 (sB g gg gs n ρ b D E (X++R)) W:=by
 refine h.perm ?_
 have e:∀Y,sB g gg gs n ρ b D E Y=sB g gg gs n ρ b D E []++Y:=fun Y=>rfl
 rw[e R,e (X++R),<-List.append_assoc,<-List.append_assoc]
 exact List.Perm.append_right _ List.perm_append_comm
theorem a8k{w0 W:World}{g gg gs n:Nat}{ρ:Rat}{b:Bool}{D E:List Rat}(X:List Own){R:List Own}(h:St w0 (sB g gg gs n ρ b D E (X++R)) W):St w0 (X++sB g gg gs n ρ b D E R) W:=by
 refine h.perm ?_
 have e:∀Y,sB g gg gs n ρ b D E Y=sB g gg gs n ρ b D E []++Y:=fun Y=>rfl
 rw[e R,e (X++R),<-List.append_assoc,<-List.append_assoc]
 exact List.Perm.append_right _ List.perm_append_comm
structure PSz(S0 x n p:Nat)(D E:List Rat)(ρ:Rat):Prop where
 dl:D.length=n
 el:E.length=n
 ds:∀y∈D,Sized (S0+p*(x+1)) y
 es:∀y∈E,Sized (S0+p*(x+1)) y
 rs:Sized 17179869184 ρ
theorem PSz.mono{S0 x n p p':Nat}{D E:List Rat}{ρ:Rat}(h:PSz S0 x n p D E ρ)(hp:p<=p'):PSz S0 x n p' D E ρ :=
 ⟨h.dl,h.el,fun y hy=>(h.ds y hy).mono (Nat.add_le_add_left (Nat.mul_le_mul_right _ hp) _),fun y hy=>(h.es y hy).mono (Nat.add_le_add_left (Nat.mul_le_mul_right _ hp) _),h.rs⟩
theorem PSz.fit{S0 x n p:Nat}{D E:List Rat}{ρ:Rat}(h:PSz S0 x n p D E ρ)(hp:p<=72)(hB:S0+72*(x+1)<=17179869184):(∀y∈D,Sized 17179869184 y)/\∀y∈E,Sized 17179869184 y:=by
 have:=Nat.mul_le_mul_right (x+1) hp
 exact⟨fun y hy=>(h.ds y hy).mono (by omega),fun y hy=>(h.es y hy).mono (by omega)⟩
theorem c3w{D:List Rat}{c:Nat}{q y:Rat}(hc:c<D.length)(h:y∈a2k D c q):y∈D\/∃d∈D,y=d+q:=by
 unfold a2k at h
 rcases List.mem_or_eq_of_mem_set h with h | h
 ·exact .inl h
 exact .inr ⟨D[c],List.getElem_mem hc,by rw[h,a4q (List.getElem?_eq_getElem hc)]⟩
theorem PSz.put{S0 x n p c:Nat}{D E:List Rat}{ρ q s:Rat}(h:PSz S0 x n p D E ρ)(hc:c<n)(hq:Sized x q)(hs:Sized x s):PSz S0 x n (p+1) (a2k D c q) (a2k E c s) ρ:=by
 refine⟨by rw[a5f];exact h.dl,by rw[a5f];exact h.el,fun y hy=>?_,fun y hy=>?_,h.rs⟩
 ·rcases c3w (by rw[h.dl];exact hc) hy with hy | ⟨d,hd,rfl⟩
  ·exact(h.ds y hy).mono (by rw[Nat.succ_mul];omega)
  exact((h.ds d hd).add hq).mono (by rw[Nat.succ_mul];omega)
 rcases c3w (by rw[h.el];exact hc) hy with hy | ⟨d,hd,rfl⟩
 ·exact(h.es y hy).mono (by rw[Nat.succ_mul];omega)
 exact((h.es d hd).add hs).mono (by rw[Nat.succ_mul];omega)
theorem c8j{a b:Nat}{p q:Rat}(hp:Sized a p)(hq:Sized b q):Sized (a+b) (minQ p q):=by
 unfold minQ
 split
 ·exact hp.mono (by omega)
 exact hq.mono (by omega)
theorem c8m{a b:Nat}{p q:Rat}(hp:Sized a p)(hq:Sized b q):Sized (a+b+1) (p-minQ p q):=by
 unfold minQ
 split
 ·rw[show p-p=0 by grind];exact sized_zero.mono (by omega)
 rw[Rat.sub_eq_add_neg];exact hp.add hq.neg
end Go.Proofs.YtjmiicjialkpiaaGreatDoor
