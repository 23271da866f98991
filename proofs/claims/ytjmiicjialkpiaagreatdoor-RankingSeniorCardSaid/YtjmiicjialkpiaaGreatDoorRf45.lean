/-
Part 45 of the base.
-/
import Derived.Test.YtjmiicjialkpiaaGreatDoorRf44
set_option maxRecDepth 100000
set_option maxHeartbeats 1000000
namespace Go.Proofs.YtjmiicjialkpiaaGreatDoor
open Go.RowKit
theorem b5y(w:World):Calls Tryz.prog 24 #[] w fun e w'=>∃v,e=.returned v/\NmdL w' v a2c/\Below w.heap.size w w':=by
 go_enter Tryz.func24,Tryz.ntmps24
 have HS:=zh (St.start w)
 go_wp2
 have HS2:=aL HS #[.string (bs [97]),.int .i64 2,.bool false,.string (bs []),.string (bs []),.string (bs [98]),.int .i64 2,.bool false,.string (bs []),.string (bs []),.string (bs [99]),.int .i64 2,.bool false,.string (bs []),.string (bs [])] 53 w.heap.size
 go_ret
 exact⟨_,rfl,Slc.of_blk (enc:=Nmd.enc) (fun _=>rfl) (xs:=a2c) (n:=3) (c:=3) (HS2.out.blk 0 rfl) rfl rfl (Nat.le_refl _) (by decide),HS2.out.below⟩
set_option maxHeartbeats 4000000
theorem fit_ex1:Fit a2c [kA,kB]:=⟨by decide,by decide,by decide +kernel,by decide +kernel⟩
theorem fit_ex2:Fit a2c [kA,kB,kC]:=⟨by decide,by decide,by decide +kernel,by decide +kernel⟩
def Ex1(w:World)(e:Ending)(w':World):Prop:=∃ (A9:Option Addr) (c9 ga oa ca gt ot ct:Nat) (Ap:Option Addr) (cp gq oq cq:Nat),e=.returned (.tuple #[.agg #[.slice A9 3 c9,.slice (some ⟨ga,oa,none⟩) 1 ca],.int .i64 0,.int .i64 0])/\ga<w'.heap.size/\gt<w'.heap.size/\gq<w'.heap.size /\
 (∀W,Below w'.heap.size w' W->W.cell? ⟨ga,oa,none⟩=some (.slice (some ⟨gt,ot,none⟩) 2 ct)/\W.cell? ⟨gt,ot,none⟩=some (.slice Ap 2 cp)/\W.cell? ⟨gt,ot+1,none⟩=some (.slice (some ⟨gq,oq,none⟩) 1 cq)/\W.cell? ⟨gq,oq,none⟩=some (.int .i64 2))/\Below w.heap.size w w'
theorem ex1_run(v v2:Value)(w:World)(h:NmdL w v a2c)(h2:ClsL w v2 [kA,kB]):Calls Tryz.prog 6 #[v,v2] w (Ex1 w):=by
 refine(a5y v v2 a2c [kA,kB] w h h2 fit_ex1).mono ?_
 rintro e w' ⟨vr,va,R,A,i,er,rfl,hR,hA,hc,hb⟩
 obtain⟨rfl,rfl,rfl,rfl⟩:=hc.one ex_comp
 obtain⟨A9,c9,rfl,_,_⟩:=Slc.slice hR
 obtain⟨Av,cv,rfl,_,_⟩:=NstL.slice hA
 obtain⟨ga,oa,u,T,rfl,hga,hT,hTL,hx⟩:=NstL.at_ hA (j:=0) (by decide)
 obtain rfl:=Option.some.inj hT
 obtain⟨At,ct,rfl,_,_⟩:=NstL.slice hTL
 obtain⟨gt,ot,u0,P0,rfl,hgt,hp0,hP0,hx0⟩:=NstL.at_ hTL (j:=0) (by decide)
 obtain rfl:=Option.some.inj hp0
 obtain⟨gt',ot',u1,P1,hA1,_,hp1,hP1,hx1⟩:=NstL.at_ hTL (j:=1) (by decide)
 obtain rfl:=Option.some.inj hp1
 injection hA1 with hA1
 injection hA1 with h3 h4 _
 subst h3 h4
 obtain⟨Ap,cp,rfl,_,_⟩:=Slc.slice hP0
 obtain⟨Aq,cq,rfl,_,_⟩:=Slc.slice hP1
 obtain⟨gq,oq,x,rfl,hgq,hq,hxq⟩:=Slc.at_ hP1 (j:=0) (by decide)
 obtain rfl:=Option.some.inj hq
 exact⟨A9,c9,ga,oa,cv,gt,ot,ct,Ap,cp,gq,oq,cq,rfl,hga,hgt,hgq,fun W hW=>⟨hx W hW 0 _ rfl,hx0 W hW 0 _ rfl,hx1 W hW 0 _ rfl,by have:=hxq W hW 0 _ rfl;simp only[Nat.zero_mul,Nat.add_zero]at this;exact this⟩,hb⟩
def Ex2(w:World)(e:Ending)(w':World):Prop:=∃ (A9:Option Addr) (c9:Nat) (A8:Option Addr) (c8:Nat),e=.returned (.tuple #[.agg #[.slice A9 0 c9,.slice A8 0 c8],.int .i64 2,.int .i64 17])/\Below w.heap.size w w'
theorem ex2_run(v v2:Value)(w:World)(h:NmdL w v a2c)(h2:ClsL w v2 [kA,kB,kC]):Calls Tryz.prog 6 #[v,v2] w (Ex2 w):=by
 refine(a5y v v2 a2c [kA,kB,kC] w h h2 fit_ex2).mono ?_
 rintro e w' ⟨vr,va,R,A,i,er,rfl,hR,hA,hc,hb⟩
 obtain⟨rfl,rfl,rfl,rfl⟩:=hc.one ex_circ
 obtain⟨A9,c9,rfl,_,_⟩:=Slc.slice hR
 obtain⟨Av,cv,rfl,_,_⟩:=NstL.slice hA
 exact⟨A9,c9,Av,cv,rfl,hb⟩
def Far(a w:World):Prop:=Below a.heap.size a w
theorem Far.below{a w w':World}(h:Far a w)(hb:Below w.heap.size w w'):Far a w':=Ext.trans h hb
theorem c7k{w:World}{v:Value}{rs:List CRow}{l:List Cls}(h:Slc CRow.enc 8 w v rs)(hl:rs.map (·.c)=l)(hs:∀r,r∈rs->b0b w r.v r.c.list):ClsL w v l:=⟨rs,h,hl,hs⟩
theorem c4w(w:World):Calls Tryz.prog 7 #[] w fun e w'=>e=.returned (.bool true)/\Below w.heap.size w w':=by
 obtain⟨ic,hic,hcz,hc1,hc8⟩:=c7m
 have HCZ:=zh hcz
 clear hcz
 go_enter Tryz.func7,Tryz.ntmps7
 have HS:=zh (St.start w)
 go_wp2_with fail
 have HS2:=aL (aL HS #[.string (bs [97]),.string (bs [98])] 9 w.heap.size) #[.int .i64 1,.string (bs [115]),.string (bs []),.slice (some ⟨w.heap.size,0,none⟩) 2 2,.bool false,.string (bs []),.string (bs []),.int .i64 0,.int .i64 2,.string (bs [115]),.string (bs [99]),.slice none 0 0,.bool false,.string (bs []),.string (bs []),.int .i64 0] 51 (w.heap.size+1)
 refine(b5y _).mono ?_
 rintro e w3 ⟨v3,rfl,hN3,hb3⟩
 have HS3:=zh (HS2.out.call hb3)
 have HN3:=zh hN3
 clear hN3
 have HL3:=zh (c7k (l:=[kA,kB]) (rs:=[⟨kA,.slice (some ⟨w.heap.size,0,none⟩) 2 2⟩,⟨kB,.slice none 0 0⟩]) (Slc.of_blk (n:=2) (c:=2) a7w (HS3.out.blk 0 rfl) rfl rfl (Nat.le_refl _) (by decide)) rfl (fun r hr=>by rcases List.mem_cons.1 hr with rfl | hr;exact Slc.of_blk (n:=2) (c:=2) a3h (xs:=[[97],[98]]) (HS3.out.blk 1 rfl) rfl rfl (Nat.le_refl _) (by decide);rw[List.mem_singleton.1 hr];exact Slc.nil_ _ _ _ none 0 (by decide)))
 clear hb3 HS HS2
 go_wp2_with fail
 refine(ex1_run _ _ _ HN3.out HL3.out).mono ?_
 rintro e w4 ⟨A9,c9,ga,oa,ca,gt,ot,ct,Ap,cp,gq,oq,cq,rfl,hga,hgt,hgq,hx4,hb4⟩
 have HS4:=zh (HS3.out.call hb4)
 have X1:=zh (fun W (hb:Below w4.heap.size w4 W)=>(hx4 W hb).1)
 have X2:=zh (fun W (hb:Below w4.heap.size w4 W)=>(hx4 W hb).2.1)
 have X3:=zh (fun W (hb:Below w4.heap.size w4 W)=>(hx4 W hb).2.2.1)
 have X4:=zh (fun W (hb:Below w4.heap.size w4 W)=>(hx4 W hb).2.2.2)
 have HL:=zh (HL3.out.below (Below.refl _ _))
 have HF4:=zh (show Far w4 w4 from Below.refl _ _)
 have HGA:=zh (show ga<w4.heap.size/\gt<w4.heap.size/\gq<w4.heap.size from⟨hga,hgt,hgq⟩)
 clear hx4 HN3 HL3 HL hga hgt hgq hb4 HS3
 go_upto_region 3 with fail
 refine b4t (R:=[⟨w4.heap.size,#[.slice A9 3 c9,.slice (some ⟨ga,oa,none⟩) 1 ca],32⟩,⟨w.heap.size+1,#[.int .i64 1,.string (bs [115]),.string (bs []),.slice (some ⟨w.heap.size,0,none⟩) 2 2,.bool false,.string (bs []),.string (bs []),.int .i64 0,.int .i64 2,.string (bs [115]),.string (bs [99]),.slice none 0 0,.bool false,.string (bs []),.string (bs []),.int .i64 0],51⟩,⟨w.heap.size,#[.string (bs [97]),.string (bs [98])],9⟩]) (X:=fun W=>Far w4 W) (St.alloc (HS4.out) #[.slice A9 3 c9,.slice (some ⟨ga,oa,none⟩) 1 ca] 32 (w4.heap.size) (by simp)) (HF4.out.below (Ext.alloc (Below.refl w4.heap.size w4) (Obj.cells #[.slice A9 3 c9,.slice (some ⟨ga,oa,none⟩) 1 ca] 32))) ?_
 intro wg hb hx
 have HSg:=zh hb
 have HFg:=zh hx
 clear hb hx HF4 HS4
 go_wp2_with fail
 refine(b5y _).mono ?_
 rintro e w5 ⟨v5,rfl,hN5,hb5⟩
 have HSg5:=zh (HSg.out.call hb5)
 have HN5:=zh hN5
 clear hN5
 have F_5:=zh (HFg.out.below hb5)
 clear HFg hb5 HSg
 have HSg6:=aL HSg5 #[.int .i64 2,.string (bs [99]),.string (bs [97]),.slice none 0 0,.bool false,.string (bs []),.string (bs []),.int .i64 0] 51 w5.heap.size
 have hN:=HN5.out.below (Ext.alloc (Below.refl w5.heap.size w5) (Obj.cells #[.int .i64 2,.string (bs [99]),.string (bs [97]),.slice none 0 0,.bool false,.string (bs []),.string (bs []),.int .i64 0] 51))
 have hF:=(F_5.out.below (Ext.alloc (Below.refl w5.heap.size w5) (Obj.cells #[.int .i64 2,.string (bs [99]),.string (bs [97]),.slice none 0 0,.bool false,.string (bs []),.string (bs []),.int .i64 0] 51)))
 go_wp2_with (refine wpList_append_grows _ rfl _ _ 27 rfl 51 ic _ 8 112 Tryz.underlying27 hic HCZ.out hc1 hc8 rfl (by decide) (some ⟨w.heap.size+1,0,none⟩) 2 2 [.int .i64 1,.string (bs [115]),.string (bs []),.slice (some ⟨w.heap.size,0,none⟩) 2 2,.bool false,.string (bs []),.string (bs []),.int .i64 0,.int .i64 2,.string (bs [115]),.string (bs [99]),.slice none 0 0,.bool false,.string (bs []),.string (bs []),.int .i64 0] (by simp[Act.eval]) (fun h=>by cases h) rfl (fun b hb j u hu=>by obtain rfl:=Option.some.inj hb;rw[Addr.add_lit,Nat.zero_add];exact HSg6.out.cell 2 rfl j (by rw[List.getElem?_toArray];exact hu)) ⟨w5.heap.size,0,none⟩ 1 1 [.int .i64 2,.string (bs [99]),.string (bs [97]),.slice none 0 0,.bool false,.string (bs []),.string (bs []),.int .i64 0] (by simp[Act.eval]) rfl (fun j u hu=>by rw[Addr.add_lit,Nat.zero_add];exact HSg6.out.cell 0 rfl j (by rw[List.getElem?_toArray];exact hu)) (fun u hu=>by simp only[List.mem_cons,List.not_mem_nil,or_false]at hu;rcases hu with rfl | rfl | rfl | rfl | rfl | rfl | rfl | rfl<;>rfl) (by decide) (by decide) (by decide) ?_)
 intro v9 w9 hown9 hg9
 have hb9:Below _ _ w9:=(Below.refl _ _).grown hg9 (Nat.le_refl _) (fun k hk=>by cases hk)
 have HSA:=zh (HSg6.out.call hb9)
 have HN9:=zh (hN.below hb9)
 have HF9:=zh (hF.below hb9)
 have HL9:=zh (c7k (l:=[kA,kB,kC]) (rs:=[⟨kA,.slice (some ⟨w.heap.size,0,none⟩) 2 2⟩,⟨kB,.slice none 0 0⟩,⟨kC,.slice none 0 0⟩]) (Slc.of_own a7w hown9 rfl) rfl (fun r hr=>by rcases List.mem_cons.1 hr with rfl | hr;exact Slc.of_blk (n:=2) (c:=2) a3h (xs:=[[97],[98]]) (HSA.out.blk 3 rfl) rfl rfl (Nat.le_refl _) (by decide);rcases List.mem_cons.1 hr with rfl | hr;exact Slc.nil_ _ _ _ none 0 (by decide);rw[List.mem_singleton.1 hr];exact Slc.nil_ _ _ _ none 0 (by decide)))
 clear hown9 hg9 hb9 hN hF HSg6 HSg5 F_5 HN5
 go_wp2_with fail
 refine(ex2_run _ _ _ HN9.out HL9.out).mono ?_
 rintro e w7 ⟨A8,c8,A7,c7,rfl,hb7⟩
 have HSA7:=zh (HSA.out.call hb7)
 have F_7:=zh (HF9.out.below hb7)
 clear HF9 hb7 HSA
 go_upto_region 4 with fail
 refine b4t (R:=[⟨w7.heap.size,#[.slice A8 0 c8,.slice A7 0 c7],32⟩,⟨w5.heap.size,#[.int .i64 2,.string (bs [99]),.string (bs [97]),.slice none 0 0,.bool false,.string (bs []),.string (bs []),.int .i64 0],51⟩,⟨w4.heap.size,#[.slice A9 3 c9,.slice (some ⟨ga,oa,none⟩) 1 ca],32⟩,⟨w.heap.size+1,#[.int .i64 1,.string (bs [115]),.string (bs []),.slice (some ⟨w.heap.size,0,none⟩) 2 2,.bool false,.string (bs []),.string (bs []),.int .i64 0,.int .i64 2,.string (bs [115]),.string (bs [99]),.slice none 0 0,.bool false,.string (bs []),.string (bs []),.int .i64 0],51⟩,⟨w.heap.size,#[.string (bs [97]),.string (bs [98])],9⟩]) (X:=fun W=>Far w4 W) (St.alloc (HSA7.out) #[.slice A8 0 c8,.slice A7 0 c7] 32 (w7.heap.size) (by simp)) ((F_7.out.below (Ext.alloc (Below.refl w7.heap.size w7) (Obj.cells #[.slice A8 0 c8,.slice A7 0 c7] 32)))) ?_
 intro wz hb hx
 have HSz:=zh hb
 have Y1:=zh (a2z (X1.out _ hx) (Nat.lt_of_lt_of_le HGA.out.1 hx.size))
 have Y2:=zh (a2z (X2.out _ hx) (Nat.lt_of_lt_of_le HGA.out.2.1 hx.size))
 have Y3:=zh (a2z (X3.out _ hx) (Nat.lt_of_lt_of_le HGA.out.2.1 hx.size))
 have Y4:=zh (a2z (X4.out _ hx) (Nat.lt_of_lt_of_le HGA.out.2.2 hx.size))
 clear hb hx X1 X2 X3 X4 HSA7 F_7
 have x1:=cC HSz 2 1
 have x2:=cC HSz 2 0
 have x3:=Y1.out _ (Below.refl _ _) 0 _ rfl
 rw[Nat.add_zero]at x3
 have x4:=Y2.out _ (Below.refl _ _) 0 _ rfl
 rw[Nat.add_zero]at x4
 have x5:=Y3.out _ (Below.refl _ _) 0 _ rfl
 rw[Nat.add_zero]at x5
 have x6:=Y4.out _ (Below.refl _ _) 0 _ rfl
 rw[Nat.add_zero]at x6
 go_wp2
 go_ret
 exact⟨rfl,HSz.out.below⟩
def PrgL(w:World)(p:Value×Value)(R:List Int)(A:List (List (List Prt))):Prop:=IntsL w p.1 R/\AgrL w p.2 A
theorem PrgL.below{w w':World}{p:Value×Value}{R:List Int}{A:List (List (List Prt))}(h:PrgL w p R A)(hb:Below w.heap.size w w'):PrgL w' p R A:=⟨Slc.below h.1 hb,AgrL.below h.2 hb⟩
def CmpS(cl:List Nmd)(l:List Cls)(w:World)(e:Ending)(w':World):Prop:=∃ (A1:Option Addr) (c1:Nat) (A2:Option Addr) (c2:Nat) (R:List Int) (A:List (List (List Prt))) (i:Nat) (er:Int),e=.returned (.tuple #[.agg #[.slice A1 R.length c1,.slice A2 A.length c2],.int .i64 (i:Nat),.int .i64 er])/\PrgL w' (.slice A1 R.length c1,.slice A2 A.length c2) R A/\Comp cl l R A i er/\Below w.heap.size w w'
theorem CmpR.open{cl:List Nmd}{l:List Cls}{w:World}{e:Ending}{w':World}(h:CmpR cl l w e w'):CmpS cl l w e w':=by
 obtain⟨vr,va,R,A,i,er,rfl,h1,h2,h3,h4⟩:=h
 obtain⟨A1,c1,rfl,_,_⟩:=Slc.slice h1
 obtain⟨A2,c2,rfl,_,_⟩:=NstL.slice h2
 exact⟨A1,c1,A2,c2,R,A,i,er,rfl,⟨h1,h2⟩,h3,h4⟩
end Go.Proofs.YtjmiicjialkpiaaGreatDoor
