/-
Part 30 of the base.
-/
import Derived.Test.YtjmiicjialkpiaaGreatDoorRf27
import Derived.Test.YtjmiicjialkpiaaGreatDoorRf29
set_option maxRecDepth 100000
set_option maxHeartbeats 4000000
namespace Go.Proofs.YtjmiicjialkpiaaGreatDoor
open Go.RowKit
theorem d1x:(Tryz.prog.info? 145).map (fun i=>(i.zero,i.size,i.bytes))=some (some (.agg #[.int .i64 0,.bool false,.string (bs []),.string (bs [])]),4,48):=by kernel_rfl
theorem c2r:∃i,Tryz.prog.info? 145=some i/\i.zero=some (.agg #[.int .i64 0,.bool false,.string (bs []),.string (bs [])])/\i.size=4/\i.bytes=48:=by
 obtain⟨i,hi,hzz⟩:=Option.map_eq_some_iff.1 d1x
 simp only[Prod.mk.injEq]at hzz
 exact⟨i,hi,hzz⟩
theorem c4z:(Tryz.prog.info? 143).map (fun i=>(i.zero,i.size,i.bytes))=some (some (.slice none 0 0),1,24):=by kernel_rfl
theorem b8f:∃i,Tryz.prog.info? 143=some i/\i.zero=some (.slice none 0 0)/\i.size=1/\i.bytes=24:=by
 obtain⟨i,hi,hzz⟩:=Option.map_eq_some_iff.1 c4z
 simp only[Prod.mk.injEq]at hzz
 exact⟨i,hi,hzz⟩
theorem b1k(p:Pt):∀u∈p.enc,u.oneCell'=true:=by
 intro u hu
 unfold Pt.enc at hu
 simp only[List.mem_cons,List.mem_nil_iff,or_false]at hu
 rcases hu with rfl | rfl | rfl | rfl<;>rfl
def amE(E:List Clm)(i:Nat):Rat:=match E[i]? with
 | some c=>c.am.val
 | none=>0
def rkE(E:List Clm)(i:Nat):Int:=match E[i]? with
 | some c=>c.rank
 | none => -1
def a5d(E:List Clm)(r k:Nat):List Pt:=((List.range k).filter fun i=>decide (rkE E i=(r:Nat))).map fun i=>⟨i,amE E i⟩
def a4t(E:List Clm):List (List Pt):=(List.range 8).map fun r=>a5d E r E.length
theorem d0e{E:List Clm}{r k:Nat}(h:rkE E k=(r:Nat)):a5d E r (k+1)=a5d E r k++[⟨k,amE E k⟩]:=by
 unfold a5d
 rw[a0v,if_pos (decide_eq_true h),List.map_append];rfl
theorem rankT_no{E:List Clm}{r k:Nat}(h:¬rkE E k=(r:Nat)):a5d E r (k+1)=a5d E r k:=by
 unfold a5d
 rw[a0v,if_neg (by rw[decide_eq_false h];decide),List.append_nil]
theorem c2k(E:List Clm)(r k:Nat):(a5d E r k).length<=k:=by
 unfold a5d
 rw[List.length_map]
 exact Nat.le_trans (List.length_filter_le _ _) (by rw[List.length_range];exact Nat.le_refl _)
theorem c8c(E:List Clm)(r:Nat):(List.range (r+1)).map (fun q=>a5d E q E.length)=(List.range r).map (fun q=>a5d E q E.length)++[a5d E r E.length]:=by
 rw[List.range_succ,List.map_append];rfl
def SzW(B:Nat)(w:World):Prop:=B<=w.heap.size
theorem SzW.below{B:Nat}{w w':World}(h:SzW B w)(hb:Below w.heap.size w w'):SzW B w':=Nat.le_trans h hb.size
theorem a8v{w:World}{base k n g:Nat}{e:TypeId}{v:Value}{xs:List Value}(h:World.ownsRow w base e k v n xs)(hg:g<base):v.ownBlock≠some g:=fun e1=>by
 have:=(World.ownsRow.lt h g e1).1
 omega
theorem c4e(cn:Bool)(ca cb:List UInt8)(vc va:Value)(E:List Clm)(A:List (List (List Prt)))(w:World)(hE:ClmL w vc E)(hA:AgrL w va A)(hn:E.length<=1000)(hz:∀c∈E,c.am.a.length<=17179869184/\c.am.b.length<=17179869184) :
  Calls Tryz.prog 78 #[.agg #[.bool cn,.string (bs ca),.string (bs cb),vc,va]] w fun e w'=>∃v,e=.returned v/\Tro w' w.heap.size v (a4t E)/\Below w.heap.size w w':=by
 obtain⟨i0,hi0,hz0,hz1,hz2⟩:=c2r
 obtain⟨i2,hi2,z20,z21,z22⟩:=b8f
 have HI0:=zh hi0
 have HZ0:=zh hz0
 have HI2:=zh hi2
 have HZ2:=zh z20
 obtain⟨Ac,cc,rfl,_,_⟩:=Slc.slice hE
 obtain⟨Aa,cx,rfl,_,_⟩:=NstL.slice hA
 have HE:=zh hE
 have LN:=zh hn
 have HSZ:=zh hz
 clear hE hA hn hz hi0 hz0 hi2 z20
 go_enter Tryz.func78,Tryz.ntmps78
 have HS:=zh (St.start w)
 go_wp2
 go_loopw [3,4] (fun l_ r_ wr=>∃r:Nat,r<=8/\r_=.int .i64 r/\Hid (Tro wr w.heap.size l_ ((List.range r).map fun q=>a5d E q E.length))/\Hid (St w [⟨w.heap.size,#[.bool cn,.string (bs ca),.string (bs cb),.slice Ac E.length cc,.slice Aa A.length cx],44⟩] wr)) (fun _ r_ _=>8-(intOf r_).toNat)
 case atStart=>exact⟨0,Nat.zero_le _,rfl,Tro.nil _ _,(St.alloc (HS.out) #[.bool cn,.string (bs ca),.string (bs cb),.slice Ac E.length cc,.slice Aa A.length cx] 44 (w.heap.size) (by simp))⟩
 case round =>
  obtain⟨r,hr,rfl,HG,HS⟩:=hrel
  obtain⟨wo,hwo⟩:∃wo:World,wo=wr:=⟨_,rfl⟩
  subst hwo
  by_cases hr8:r<8
  ·obtain⟨us,bk,hU0,hSX,_,hBK,hTY⟩:=Tro.beside HG.out HS.out (Nat.le_refl _) (fun x hx=>by rw[List.mem_singleton.1 hx];exact⟨by show 44≠145;decide,by show 44≠143;decide⟩)
   have HSX:Hid (St w (_::bk) wo):=zh hSX
   have HU0:=zh hU0
   have HBK:=zh hBK
   have HBL:Hid (∀x∈bk,x.g<wo.heap.size):=zh fun x hx=>(HSX.out.ok x (List.mem_cons_of_mem _ hx)).1.lt
   have HSW:Hid (w.heap.size<=wo.heap.size):=zh HS.out.below.size
   have g0:decide (((r:Nat):Int)<=7)=true:=decide_eq_true (by omega)
   have g1:IntKind.i64.wrap ((r:Int)+1)=((r+1:Nat):Int):=by rw[IntWalk.i64_in _ (by omega)];rfl
   clear hU0 hSX hBK HG HS hTY
   go_wp2
   go_loopw [5,6] (fun l_ i_ wr=>∃i:Nat,i<=E.length/\i_=.int .i64 i/\Hid (Grows wr wo.heap.size 145 4 l_ (a5d E r i).length (flat Pt.enc (a5d E r i)))/\Hid (SzW wo.heap.size wr)/\Hid (St w (⟨w.heap.size,#[.bool cn,.string (bs ca),.string (bs cb),.slice Ac E.length cc,.slice Aa A.length cx],44⟩::bk) wr)) (fun _ i_ _=>E.length-(intOf i_).toNat)
   case atStart=>exact⟨0,Nat.zero_le _,rfl,World.ownsRow_nil _ _ _ _,Nat.le_refl _,HSX.out⟩
   case round =>
    clear HSX
    obtain⟨i,hi,rfl,HT,HW,HV⟩:=hrel
    by_cases hin:i<E.length
    ·obtain⟨bc,oc,x,rfl,hbc,hq,hx⟩:=Slc.at_ HE.out hin
     have hzx:=HSZ.out x (List.mem_of_getElem? hq)
     have hfx:=fun W=>b5h x.am.n x.am.a x.am.b W (by omega) (by omega)
     have ham:amE E i=x.am.val:=by unfold amE;rw[hq]
     have hrk:rkE E i=x.rank:=by unfold rkE;rw[hq]
     change ∀W,Calls Tryz.prog _ _ W (fun e w'=>e=.returned (rat x.am.val)/\_)at hfx
     rw[<- ham]at hfx
     obtain⟨am,hae⟩:∃a,a=amE E i:=⟨_,rfl⟩
     rw[<- hae]at hfx
     obtain⟨rk,hre⟩:∃a,a=x.rank:=⟨_,rfl⟩
     have hyes:=fun h:rk=(r:Int)=>d0e (E:=E) (r:=r) (k:=i) (hrk.trans (hre.symm.trans h))
     have hno:=fun h:¬rk=(r:Int)=>rankT_no (E:=E) (r:=r) (k:=i) (fun h2=>h (hre.trans (hrk.symm.trans h2)))
     rw[<- hae]at hyes
     unfold Clm.enc at hx
     rw[<- hre]at hx
     unfold rat raw at hfx
     have HFX:=zh hfx
     have HX:=zh hx
     have HYES:=zh hyes
     have HNO:=zh hno
     have hlen:=c2k E r i
     have HLEN:=zh hlen
     have e0:(0:Int)<=((i:Nat):Int):=by omega
     have e1:((i:Nat):Int)<(E.length:Int):=by omega
     have e2:decide (((i:Nat):Int)<(E.length:Int))=true:=decide_eq_true e1
     have e5:IntKind.i64.wrap ((i:Int)+1)=((i+1:Nat):Int):=by have:=LN.out;rw[IntWalk.i64_in _ (by omega)];rfl
     clear hx hq hzx hfx ham hrk hae hre hyes hno hlen
     by_cases hkr:rk=(r:Int)
     ·have g2:(rk==(r:Int))=true:=beq_iff_eq.2 hkr
      have HY:=zh (HYES.out hkr)
      clear hkr
      have x1:=cC HV 0 3
      obtain⟨x2,x3,x4⟩:=kE1 (HX.out _ HV.out.below) rfl rfl rfl
      have x5:=HX.out _ HV.out.below 4 _ rfl
      go_wp2_with fail
      refine(HFX.out _).mono ?_
      rintro e w2 ⟨rfl,hb2⟩
      have HV2:=zh (HV.out.call hb2)
      have HT_2:=zh (HT.out.below hb2)
      clear HT
      have HW_2:=zh (HW.out.below hb2)
      clear HW hb2 HV x1 x2 x3 x4 x5
      have HV3:=aL HV2 #[.int .i64 (i:Nat),.bool (negB (am)),.string (bs (numB (am))),.string (bs (a0a (am)))] 145 w2.heap.size
      have hgr:World.ownsRow _ wo.heap.size 145 4 u5 (a5d E r i).length (flat Pt.enc (a5d E r i)):=(HT_2.out.below (Ext.alloc (Below.refl w2.heap.size w2) (Obj.cells #[.int .i64 (i:Nat),.bool (negB (am)),.string (bs (numB (am))),.string (bs (a0a (am)))] 145)))
      have hsz:SzW wo.heap.size _:=(HW_2.out.below (Ext.alloc (Below.refl w2.heap.size w2) (Obj.cells #[.int .i64 (i:Nat),.bool (negB (am)),.string (bs (numB (am))),.string (bs (a0a (am)))] 145)))
      go_wp2_with (at_builtin;refine a1e _ rfl _ _ 143 rfl wo.heap.size 145 i0 _ 4 48 Tryz.underlying143 HI0.out HZ0.out hz1 hz2 rfl (by decide) a8t u5 (a5d E r i).length (a5d E r i) (by simp[Act.eval]) hgr ⟨i,am⟩ (w2.heap.size) _ (HV3.out.blk 0 rfl) rfl (by simp[Act.eval]) (b1k _) (by have:=LN.out;have:=HLEN.out;unfold maxLen;omega) (by have:=LN.out;have:=HLEN.out;omega) hsz ?_)
      intro v9 w9 hown9 hg9
      have HSA:Hid (St w (⟨w.heap.size,#[.bool cn,.string (bs ca),.string (bs cb),.slice (some ⟨bc,oc,none⟩) E.length cc,.slice Aa A.length cx],44⟩::bk) w9):=zh ((HV3.out.sub (List.sublist_cons_self ..)).turnedO hg9 (fun q hq=>Nat.le_trans HSW.out (World.ownsRow.lt hgr q hq).1) (fun z hz=>by rcases List.mem_cons.1 hz with rfl | hz;exact a1m hgr (HV3.out.blk 1 rfl) (by decide);exact a8v hgr (HBL.out z hz)))
      have hlt9:=hg9.size
      have HW9:Hid (SzW wo.heap.size w9):=zh (Nat.le_trans hsz hlt9)
      have HT9:Hid (Grows w9 wo.heap.size 145 4 v9 (a5d E r (i+1)).length (flat Pt.enc (a5d E r (i+1)))):=zh (by rw[HY.out,List.length_append];exact hown9)
      clear hown9 hg9 hgr hlt9 hsz HV3 HV2 HT_2 HW_2
      go_wp2
      go_roundw
      case rel=>exact⟨i+1,by omega,by go_num,HT9.out,HW9.out,HSA.out⟩
      case measure=>simp[intOf];omega
     have g2:(rk==(r:Int))=false:=beq_eq_false_iff_ne.2 hkr
     have HN:=zh (HNO.out hkr)
     clear hkr
     have x1:=cC HV 0 3
     have x2:=HX.out _ HV.out.below 1 _ rfl
     go_wp2
     go_roundw
     case rel=>exact⟨i+1,by omega,by go_num,by show Grows _ _ _ _ _ _ _;rw[HN.out];exact HT.out,HW.out,HV.out⟩
     case measure=>simp[intOf];omega
    have hie:i=E.length:=by omega
    rw[hie]at HT ⊢
    have e2:decide (((E.length:Nat):Int)<(E.length:Int))=false:=decide_eq_false (by omega)
    clear hie hi hin
    have HRS:=zh (c8c E r)
    obtain⟨P,hP⟩:∃P,P=a5d E r E.length:=⟨_,rfl⟩
    rw[<- hP]at HT HRS
    obtain⟨At,ct,hu5,_,_⟩:=Slc.slice (Slc.of_own a8t HT.out rfl)
    subst hu5
    clear hP
    have x1:=cC HV 0 3
    have x2:=HV.out.lt 0 rfl
    have x3:¬w.heap.size=wr.heap.size:=by omega
    have x4:¬wr.heap.size=w.heap.size:=by omega
    have HV2:=aL HV #[.slice At P.length ct] 143 wr.heap.size
    have hgr:World.ownsRow _ wo.heap.size 145 4 (.slice At P.length ct) P.length (flat Pt.enc P):=(HT.out.below (Ext.alloc (Below.refl wr.heap.size wr) (Obj.cells #[.slice At P.length ct] 143)))
    have hU:=HBK.out _ (HV2.out.rds (fun r hr=>List.mem_cons_of_mem _ (List.mem_cons_of_mem _ hr)))
    have hul:us.length<=8:=by rw[hU.len,List.length_map,List.length_range];omega
    go_wp2_with (at_builtin;refine wpList_append_own _ rfl _ _ 112 rfl w.heap.size 143 i2 _ 1 24 Tryz.underlying112 HI2.out HZ2.out z21 z22 rfl (by decide) u3 us.length us (by simp[Act.eval]) hU.out ⟨wr.heap.size,0,none⟩ 1 1 [.slice At P.length ct] (by simp[Act.eval]) rfl (c1c (HV2.out.blk 0 rfl) rfl) (fun u hu=>by rw[List.mem_singleton.1 hu];rfl) (by unfold maxLen;omega) (by omega) HV2.out.below.size ?_)
    intro v9 w9 hown9 hg9 _
    have HG9:=zh (TroU.put hU (a6m hgr HSW.out) (TroU.young HU0.out (Nat.le_refl _) hgr) hown9 hg9)
    have HSA:Hid (St w [⟨w.heap.size,#[.bool cn,.string (bs ca),.string (bs cb),.slice Ac E.length cc,.slice Aa A.length cx],44⟩] w9):=zh ((HV2.out.sub (List.Sublist.cons _ (List.Sublist.cons_cons _ (List.nil_sublist _)))).turnedO hg9 (fun q hq=>(World.ownsRow.lt hU.out q hq).1) (fun z hz=>by rw[List.mem_singleton.1 hz];exact a1m hU.out (HV2.out.blk 1 rfl) (by decide)))
    rw[<- HRS.out]at HG9
    clear hown9 hg9 hgr hU HV2 HV HT x1 x2 x3 x4
    go_wp2
    go_roundw
    case rel=>exact⟨r+1,by omega,by go_num,HG9.out,HSA.out⟩
    case measure=>simp[intOf];omega
  obtain rfl:r=8:=by omega
  have g0:decide (((8:Nat):Int)<=7)=false:=rfl
  go_wp2
  go_ret
  exact⟨_,rfl,HG.out,HS.out.below⟩
def a6w(l:Rat)(x:Prt):Rat:=if x.capped=false\/l<x.cap.val then l else x.cap.val
def a6v(S:List Pt×List Rat)(x:Prt):List Pt×List Rat :=
 (S.1++[⟨x.claim.toNat,a6w (getQ S.2 x.claim.toNat) x⟩],S.2.set x.claim.toNat (getQ S.2 x.claim.toNat-a6w (getQ S.2 x.claim.toNat) x))
def a8e(P:List Prt)(D:List Rat):List Pt×List Rat:=P.foldl a6v ([],D)
def a8a(S:List (List Pt)×List Rat)(P:List Prt):List (List Pt)×List Rat:=(S.1++[(a8e P S.2).1],(a8e P S.2).2)
def a4s(T:List (List Prt))(D:List Rat):List (List Pt)×List Rat:=T.foldl a8a ([],D)
def a6y(T:List (List Prt))(D:List Rat)(k:Nat):List Pt:=((List.range k).filter fun i=>memB T ((i:Nat):Int)).map fun i=>⟨i,getQ D i⟩
def a4j(E:List Clm)(n k:Nat):List Rat:=(List.range n).map fun i=>if i<k then amE E i else 0
def allT(E:List Clm)(T:List (List Prt)):List (List Pt):=(a4s T (a4j E E.length E.length)).1++[a6y T (a4s T (a4j E E.length E.length)).2 E.length]
theorem c9h{P:List Prt}{k:Nat}{x:Prt}{D:List Rat}(h:P[k]? =some x):a8e (P.take (k+1)) D=a6v (a8e (P.take k) D) x:=by
 unfold a8e
 rw[a3g h,List.foldl_append];rfl
theorem c7q{T:List (List Prt)}{k:Nat}{P:List Prt}{D:List Rat}(h:T[k]? =some P):a4s (T.take (k+1)) D=a8a (a4s (T.take k) D) P:=by
 unfold a4s
 rw[a3g h,List.foldl_append];rfl
theorem c9j{P:List Prt}{k c:Nat}{x:Prt}{D0 D:List Rat}{Q:List Pt}{d r:Rat}(h:P[k]? =some x)(hq:(Q,D)=a8e (P.take k) D0)(hc:x.claim=(c:Nat))(hd:D[c]? =some d)(hr:a6w d x=r) :
  (Q++[⟨c,r⟩],D.set c (d-r))=a8e (P.take (k+1)) D0:=by
 have e:x.claim.toNat=c:=by rw[hc];exact Int.toNat_natCast c
 rw[c9h h,<-hq]
 unfold a6v
 dsimp only
 rw[e,a4q hd,hr]
theorem tiers_go{T:List (List Prt)}{k:Nat}{P:List Prt}{D D0 D1:List Rat}{L:List (List Pt)}{Q:List Pt}(h:T[k]? =some P)(hq:(L,D0)=a4s (T.take k) D)(hp:(Q,D1)=a8e P D0) :
  (L++[Q],D1)=a4s (T.take (k+1)) D:=by
 rw[c7q h,<-hq]
 unfold a8a
 dsimp only
 rw[<- hp]
theorem last_yes{T:List (List Prt)}{D:List Rat}{k:Nat}{d:Rat}(h:memB T ((k:Nat):Int)=true)(hd:D[k]? =some d):a6y T D (k+1)=a6y T D k++[⟨k,d⟩]:=by
 unfold a6y
 rw[a0v,if_pos h,List.map_append]
 show _++[(⟨k,getQ D k⟩:Pt)]=_
 rw[a4q hd]
theorem last_no{T:List (List Prt)}{D:List Rat}{k:Nat}(h:memB T ((k:Nat):Int)=false):a6y T D (k+1)=a6y T D k:=by
 unfold a6y
 rw[a0v,if_neg (by rw[h];decide),List.append_nil]
theorem c7b(T:List (List Prt))(D:List Rat)(k:Nat):(a6y T D k).length<=k:=by
 unfold a6y
 rw[List.length_map]
 exact Nat.le_trans (List.length_filter_le _ _) (by rw[List.length_range];exact Nat.le_refl _)
theorem a7u(E:List Clm)(n k:Nat):(a4j E n k).length=n:=by unfold a4j;rw[List.length_map,List.length_range]
theorem a9v{E:List Clm}{n k i:Nat}(h:i<n):(a4j E n k)[i]? =some (if i<k then amE E i else 0):=by
 unfold a4j
 rw[List.getElem?_map,List.getElem?_range h];rfl
theorem d2f(E:List Clm)(n:Nat):a4j E n 0=List.replicate n 0:=by
 refine List.ext_getElem? fun i=>?_
 by_cases h:i<n
 ·rw[a9v h,if_neg (Nat.not_lt_zero _),List.getElem?_replicate,if_pos h]
 rw[List.getElem?_eq_none (by rw[a7u];omega),List.getElem?_eq_none (by rw[List.length_replicate];omega)]
theorem fill_set{E:List Clm}{n k:Nat}(h:k<n):(a4j E n k).set k (amE E k)=a4j E n (k+1):=by
 refine List.ext_getElem? fun i=>?_
 rw[List.getElem?_set,a7u]
 by_cases hi:i<n
 ·rw[a9v hi,a9v hi]
  by_cases e:k=i
  ·rw[if_pos e,if_pos h,if_pos (by omega),e]
  rw[if_neg e]
  by_cases h2:i<k
  ·rw[if_pos h2,if_pos (by omega)]
  rw[if_neg h2,if_neg (by omega)]
 rw[List.getElem?_eq_none (by rw[a7u];omega),List.getElem?_eq_none (by rw[a7u];omega),if_neg (by omega)]
theorem map_set{D:List Rat}{c:Nat}(q:Rat):(D.map encT).set c ⟨negB q,numB q,a0a q⟩=(D.set c q).map encT:=by rw[List.map_set];rfl
structure LSz(r n p:Nat)(D:List Rat):Prop where
 len:D.length=n
 sz:∀y∈D,Sized (r+p*(r+1)) y
theorem LSz.mono{r n p p':Nat}{D:List Rat}(h:LSz r n p D)(hp:p<=p'):LSz r n p' D:=⟨h.len,fun y hy=>(h.sz y hy).mono (Nat.add_le_add_left (Nat.mul_le_mul_right _ hp) _)⟩
theorem LSz.at_{r n p c:Nat}{D:List Rat}(h:LSz r n p D)(hc:c<n):∃d,D[c]? =some d/\Sized (r+p*(r+1)) d:=by
 have h1:c<D.length:=by rw[h.len];exact hc
 exact⟨D[c],List.getElem?_eq_getElem h1,h.sz _ (List.getElem_mem h1)⟩
theorem LSz.set{r n p c:Nat}{D:List Rat}{q:Rat}(h:LSz r n p D)(hq:Sized (r+(p+1)*(r+1)) q):LSz r n (p+1) (D.set c q):=by
 refine⟨by rw[List.length_set];exact h.len,fun y hy=>?_⟩
 rcases List.mem_or_eq_of_mem_set hy with hy | rfl
 ·exact(h.mono (Nat.le_succ p)).sz y hy
 exact hq
theorem LSz.all{r n p c:Nat}{D:List Rat}(d:Rat)(h:LSz r n p D):LSz r n (p+1) (D.set c (d-d)):=by
 refine h.set ?_
 rw[show d-d=0 by grind]
 exact sized_zero.mono (by rw[Nat.succ_mul];omega)
theorem LSz.part{r n p c:Nat}{D:List Rat}{d q:Rat}(h:LSz r n p D)(hd:Sized (r+p*(r+1)) d)(hq:Sized r q):LSz r n (p+1) (D.set c (d-q)):=by
 refine h.set ?_
 rw[Rat.sub_eq_add_neg]
 exact(hd.add hq.neg).mono (by rw[Nat.succ_mul];omega)
theorem d2g{E:List Clm}{r n k:Nat}(hr:1<=r)(h:∀i,i<n->Sized r (amE E i)):LSz r n 0 (a4j E n k):=by
 refine⟨a7u E n k,fun y hy=>?_⟩
 obtain⟨i,hi⟩:=List.mem_iff_getElem?.1 hy
 have h1:=(List.getElem?_eq_some_iff.1 hi).1
 rw[a7u]at h1
 rw[a9v h1]at hi
 rw[<- Option.some.inj hi]
 split
 ·exact(h i h1).mono (by omega)
 exact sized_zero.mono (by omega)
theorem c8e{α:Type}{enc:α->List Value}{k:Nat}(hk:∀x,(enc x).length=k){w0 w:World}{base:Nat}{e:TypeId}{v:Value}{xs:List α}{R:List Own}(h:World.ownsRow w base e k v xs.length (flat enc xs))(hS:St w0 R w)(hb:w0.heap.size<=base)(hX:∀x∈R,x.t≠e\/x.g<base) :
  ∃bt:List Own,St w0 (bt++R) w/\∀W,Rds bt W->World.ownsRow W base e k v xs.length (flat enc xs):=by
 obtain⟨bt,h1,_,h3⟩:=c4j hk h
 refine⟨bt,⟨hS.below,fun r hr=>?_,List.pairwise_append.2 ⟨?_,hS.apart,fun a ha b hb'=>?_⟩⟩,h3⟩
 ·rcases List.mem_append.1 hr with hr | hr
  ·rcases h1 with rfl | ⟨g,cur,rfl,e1,e2,e3⟩
   ·cases hr
   rw[List.mem_singleton.1 hr]
   exact⟨e3,Nat.le_trans hb e2⟩
  exact hS.ok r hr
 ·rcases h1 with rfl | ⟨g,cur,rfl,_⟩
  ·exact List.Pairwise.nil
  exact List.pairwise_singleton _ _
 rcases h1 with rfl | ⟨g,cur,rfl,e1,e2,e3⟩
 ·cases ha
 rw[List.mem_singleton.1 ha]
 intro eq
 have eq:g=b.g:=eq
 rcases hX b hb' with hX | hX
 ·have e4:=(hS.ok b hb').1
  rw[<- eq]at e4
  unfold Blk at e3 e4
  rw[e3]at e4
  injection (Option.some.inj e4)with _ h8
  exact hX h8.symm
 omega
theorem St.tuck{w0 w:World}{bt bk:List Own}(X:List Own)(h:St w0 (bt++(X++bk)) w):St w0 (X++(bt++bk)) w:=by
 refine h.perm ?_
 rw[<- List.append_assoc,<-List.append_assoc]
 exact List.Perm.append_right _ List.perm_append_comm
theorem room_un{d:Rat}{x:Prt}(h:false=x.capped):a6w d x=d:=by unfold a6w;rw[if_pos (.inl h.symm)]
theorem room_lt{d cv:Rat}{x:Prt}(h:true=decide (d<cv))(hc:cv=x.cap.val):a6w d x=d:=by
 have h1:=of_decide_eq_true h.symm
 unfold a6w
 rw[if_pos (.inr (by rw[<- hc];exact h1))]
theorem room_cap{d cv:Rat}{x:Prt}(h0:true=x.capped)(h:false=decide (d<cv))(hc:cv=x.cap.val):a6w d x=cv:=by
 have h1:=of_decide_eq_false h.symm
 unfold a6w
 rw[if_neg (by rw[<- h0,<-hc];exact fun h2=>h2.elim (fun h3=>by cases h3) h1),hc]
theorem all_eq{E:List Clm}{T:List (List Prt)}{L:List (List Pt)}{D A0:List Rat}(hA:A0=a4j E E.length E.length)(h:(L,D)=a4s (T.take T.length) A0):allT E T=L++[a6y T D E.length]:=by
 rw[List.take_length,hA]at h
 unfold allT
 rw[<- h]
end Go.Proofs.YtjmiicjialkpiaaGreatDoor
