/-
Part 20 of the base.
-/
import Derived.Test.YtjmiicjialkpiaaGreatDoorRf18
import Derived.Test.YtjmiicjialkpiaaGreatDoorRf21
import Derived.Deep.AppendLies
namespace Go.Proofs.YtjmiicjialkpiaaGreatDoor
open Go.RowKit
theorem c7d(l:List Nat):∀y∈l,∀u∈intE y,u.oneCell'=true:=by
 intro y _ u hu
 obtain rfl:u=.int .i64 (y:Nat):=by simpa [intE]using hu
 rfl
theorem a8s{F:Nat->Bool}{m:Nat}:putA F m true=putI F m:=by
 funext x
 unfold putA putI
 by_cases h:x=m
 ·rw[if_pos h,beq_iff_eq.2 h,Bool.or_true]
 rw[if_neg h,beq_eq_false_iff_ne.2 h,Bool.or_false]
theorem Ldr0.lt{l:List Cls}{i x:Nat}{s0:List UInt8}{seen:Nat->Bool}{todo:List Nat}(h:Ldr0 l i s0 seen (x::todo)):x<l.length:=by
 obtain⟨m,hm,_⟩:=h.1 x (List.mem_cons_self ..)
 exact b4q hm
set_option maxRecDepth 100000
set_option maxHeartbeats 4000000
def sumN(wt:Nat->Nat)(sn:Nat->Bool):Nat->Nat
 | 0=>0
 | n+1=>sumN wt sn n+if sn n=true then 0 else wt n
theorem c5w{wt:Nat->Nat}{sn:Nat->Bool}{c:Nat}:∀ {n:Nat},n<=c->sumN wt (putA sn c true) n=sumN wt sn n
 | 0,_=>rfl
 | n+1,h=>by rw[sumN,sumN,c5w (by omega),a5t (show n≠c by omega)]
theorem b4e{wt:Nat->Nat}{sn:Nat->Bool}{c:Nat}(h:sn c=false):∀ {n:Nat},c<n->sumN wt (putA sn c true) n+wt c=sumN wt sn n
 | 0,hc=>by omega
 | n+1,hc=>by
  rw[sumN,sumN]
  by_cases hcn:c<n
  ·have:=b4e (wt:=wt) h hcn
   rw[a5t (show n≠c by omega)]
   omega
  obtain rfl:c=n:=by omega
  rw[c5w (Nat.le_refl _),b5n,h,if_pos rfl,if_neg (by simp)]
  omega
theorem c9n{wt:Nat->Nat}{sn:Nat->Bool}{m:Nat}(h:∀j,wt j<=m):∀n,sumN wt sn n<=n*m
 | 0=>Nat.zero_le _
 | n+1=>by
  have:=c9n (sn:=sn) h n
  have h2:=h n
  rw[sumN,Nat.add_mul]
  split<;>omega
def clW(l:List Cls)(j:Nat):Nat:=match l[j]? with
 | some c=>if c.kind=1 then c.list.length else 0
 | none=>0
theorem clW_le{l:List Cls}{m:Nat}(h:∀c∈l,c.kind=1->c.list.length<=m)(j:Nat):clW l j<=m:=by
 unfold clW
 split
 ·rename_i c hc
  split
  ·rename_i hk
   exact h c (List.mem_of_getElem? hc) hk
  omega
 omega
theorem d2u{l:List Cls}{m:List UInt8}{j:Nat}{y:Cls}(h:a0q l m=some j)(hy:l[j]? =some y):clW l j=y.list.length:=by
 obtain⟨c,hc,hk,_⟩:=a3u h
 rw[hy]at hc
 obtain rfl:y=c:=Option.some.inj hc
 unfold clW
 rw[hy]
 dsimp only
 rw[if_pos hk]
theorem c6a(l:List (List UInt8)):∀y∈l,∀u∈strE y,u.oneCell'=true:=by
 intro y _ u hu
 obtain rfl:u=.string (bs y):=by simpa [strE]using hu
 rfl
theorem c2b(v v2:Value)(cl:List Nmd)(l:List Cls)(s:List UInt8)(w:World)(h:NmdL w v cl)(h2:ClsL w v2 l)(hC:b0v cl l)(hl:cl.length<=1000)(hl2:l.length<=1000)(hbig:∀c∈l,c.kind=1->c.list.length<=1000) :
  Calls Tryz.prog 61 #[v,v2,.string (bs s)] w fun e w'=>∃g D,e=.returned (.slice (some ⟨g,0,none⟩) cl.length cl.length)/\Blk w' g (rowE .bool cl.length D) 4/\(∀k,D k=true↔Den cl l s k)/\w.heap.size<=g/\Below w.heap.size w w':=by
 have d1:=fun s W (hb:Below w.heap.size w W)=>c2d v cl s W (h.below hb) (by omega)
 have d2:=fun s W (hb:Below w.heap.size w W)=>c2c v2 l s W (h2.below hb) (by omega)
 have hmk:=a5u cl.length (by omega)
 have hmk2:=a5u l.length (by omega)
 obtain⟨ii,hii,hiz,hi1,hi8⟩:=b9h
 obtain⟨A1,c1,rfl,_,_⟩:=Slc.slice h
 obtain⟨A2,c2,rfl,_,_⟩:=h2.slice
 have HH:=zh h2
 have D1:=zh d1
 have D2:=zh d2
 have CC:=zh hC
 have LL:=zh hl2
 have LB:=zh (fun j=>clW_le hbig j)
 have HIZ:=zh hiz
 clear h h2 d1 d2 hC hl hl2 hbig hiz
 go_enter Tryz.func61,Tryz.ntmps61
 have HS:=zh (St.start w)
 go_wp2
 have HS2:=aL (aL (aL HS (rowE (.bool) cl.length (fun _=>false)) 4 w.heap.size) (rowE (.bool) l.length (fun _=>false)) 4 (w.heap.size+1)) #[.string (bs s)] 9 (w.heap.size+1+1)
 have HQ0:Hid (Que strE 1 w.heap.size (w.heap.size+2) _ _ [s]):=zh (Que.of_blk (n:=1) (c:=1) a3h (HS2.out.blk 0 rfl) (by omega) rfl rfl rfl (by decide))
 have HS9:=zh (HS2.out.sub (List.sublist_cons_self ..))
 go_loopg [9] (l.length*1000+1) (fun gk v9 wr=>∃ (todo:List (List UInt8)) (gq:Nat) (sn O:Nat->Bool),Hid (DenQ cl l s O sn todo)/\todo.length+sumN (clW l) sn l.length<=gk/\gk<=l.length*1000+1/\Hid (Que strE 1 w.heap.size gq wr v9 todo)/\Hid (gq≠w.heap.size)/\Hid (gq≠w.heap.size+1)/\Hid (St w [⟨w.heap.size+1,rowE .bool l.length sn,4⟩,⟨w.heap.size,rowE .bool cl.length O,4⟩] wr))
 case atStart=>exact⟨[s],w.heap.size+2,fun _=>false,fun _=>false,DenQ.start cl l s,by have:=c9n (sn:=fun _=>false) LB.out l.length;simp only[List.length_singleton];omega,Nat.le_refl _,HQ0.out,(show w.heap.size+2≠w.heap.size by omega),(show w.heap.size+2≠w.heap.size+1 by omega),HS9.out⟩
 case round =>
  obtain⟨todo,gq,sn,O,HL,hm,hgk,HQ,HN,HN2,HS⟩:=hrel
  clear HQ0 HS2 HS9
  cases todo with
 | nil =>
  obtain⟨p,cap,rfl,_,_⟩:=HQ.out.len
  dsimp only[List.length_nil]
  clear HQ
  go_wp2
  go_ret
  exact⟨_,O,rfl,HS.out.blk 1 rfl,HL.out.all CC.out,Nat.le_refl _,HS.out.below⟩
 | cons m t =>
  obtain⟨p,cap,rfl,hpc,hcm,hp,_⟩:=HQ.out.pop a3h
  have hgq:=HQ.out.lt.2
  have HP:=zh (fun(w':World) (hb:Below wr.heap.size wr w') (q:Nat) (z:Value) hz=>(hb.cell (p:=⟨gq,p+q,none⟩) hgq).trans (hp q z hz))
  unfold strE at HP
  have HM:=zh hm
  have e2:decide ((0:Int)<((t.length+1:Nat):Int))=true:=decide_eq_true (by omega)
  have e3:(0:Int)<((t.length+1:Nat):Int):=by omega
  have LM:=zh hgk
  have hd1:=D1.out m
  have hd2:=D2.out m
  clear hp hm hgk
  cases hk:a0g cl m with
  | some k =>
   rw[hk]at hd1
   dsimp only[optZ]at hd1
   have E1:=zh hd1
   have LK:=zh hk
   have hk9:=a7x hk
   have e7:(0:Int)<=((k:Nat):Int):=by omega
   have e8:((k:Nat):Int)<(cl.length:Int):=by omega
   clear hk hd1 hd2
   have x1:=HP.out _ (Below.refl _ _) 0 _ rfl
   rw[Nat.add_zero]at x1
   go_wp2_with (refine a6z _ rfl _ _ _ rfl w.heap.size 9 ii 1 Tryz.underlying49 hii hi1 a3h (by simp[Act.eval]) (by simp[Act.eval]) HQ.out ?_)
   intro v7 hq7
   have HQ7:=zh hq7
   clear hq7 HQ HP x1
   go_wp2_with fail
   refine(E1.out _ HS.out.below).mono ?_
   rintro e w3 ⟨rfl,hb3⟩
   have HS3:=zh (HS.out.call hb3)
   have HQ7_3:=zh (HQ7.out.below hb3)
   clear HQ7 hb3 HS
   have x2:=HS3.out.cellE 1 rfl hk9
   have x3:=HS3.out.frozen 1 rfl k
   have x4:=cN HS3 1 0
   have x5:=cN HS3 0 1
   go_wp2
   have HS4:Hid (St w [⟨w.heap.size+1,(rowE (.bool) l.length sn),4⟩,⟨w.heap.size,(rowE (.bool) cl.length (putA O k true)),4⟩] _):=zh (St.setE (HS3.out) 1 rfl k (true))
   go_roundg (gk-1)
   case measure=>have:=HM.out;rw[List.length_cons]at this;omega
   case rel=>exact⟨t,gq,sn,putA O k true,(by rw[a8s];exact HL.out.claim LK.out),(by have:=HM.out;rw[List.length_cons]at this;omega),(by have:=LM.out;omega),(Que.far HQ7_3.out (a:=⟨w.heap.size,k,none⟩) HN.out (.bool (true))),HN.out,HN2.out,HS4.out⟩
  | none =>
   rw[hk]at hd1
   dsimp only[optZ]at hd1
   have E1:=zh hd1
   have LK:=zh hk
   clear hk hd1
   cases hc:a0q l m with
   | none =>
    rw[hc]at hd2
    dsimp only[optZ]at hd2
    have E2:=zh hd2
    have LC:=zh hc
    clear hc hd2
    have x1:=HP.out _ (Below.refl _ _) 0 _ rfl
    rw[Nat.add_zero]at x1
    go_wp2_with (refine a6z _ rfl _ _ _ rfl w.heap.size 9 ii 1 Tryz.underlying49 hii hi1 a3h (by simp[Act.eval]) (by simp[Act.eval]) HQ.out ?_)
    intro v7 hq7
    have HQ7:=zh hq7
    clear hq7 HQ HP x1
    go_wp2_with fail
    refine(E1.out _ HS.out.below).mono ?_
    rintro e w3 ⟨rfl,hb3⟩
    have HS3:=zh (HS.out.call hb3)
    have HQ7_3:=zh (HQ7.out.below hb3)
    clear HQ7 hb3 HS
    go_wp2_with fail
    refine(E2.out _ HS3.out.below).mono ?_
    rintro e w4 ⟨rfl,hb4⟩
    have HS4:=zh (HS3.out.call hb4)
    have HQ7_4:=zh (HQ7_3.out.below hb4)
    clear HQ7_3 hb4 HS3
    go_wp2
    go_roundg (gk-1)
    case measure=>have:=HM.out;rw[List.length_cons]at this;omega
    case rel=>exact⟨t,gq,sn,O,HL.out.skip LK.out (fun c' hc'=>by rw[LC.out]at hc';cases hc'),(by have:=HM.out;rw[List.length_cons]at this;omega),(by have:=LM.out;omega),HQ7_4.out,HN.out,HN2.out,HS4.out⟩
   | some k =>
    rw[hc]at hd2
    dsimp only[optZ]at hd2
    have E2:=zh hd2
    have LC:=zh hc
    have hc9:=b4q hc
    have e7:(0:Int)<=((k:Nat):Int):=by omega
    have e8:((k:Nat):Int)<(l.length:Int):=by omega
    clear hc hd2
    cases hsn:sn k
    ·obtain⟨b,o,y,u,rfl,hbb,hq,hu,hx⟩:=HH.out.at_ hc9
     obtain⟨A5,c5,rfl,hl5,hl6⟩:=hu.slice
     unfold CRow.enc at hx
     dsimp only at hx
     have HX:=zh hx
     have LY:=zh hq
     have HU:=zh hu
     clear hq hu hx
     have x1:=HP.out _ (Below.refl _ _) 0 _ rfl
     rw[Nat.add_zero]at x1
     go_wp2_with (refine a6z _ rfl _ _ _ rfl w.heap.size 9 ii 1 Tryz.underlying49 hii hi1 a3h (by simp[Act.eval]) (by simp[Act.eval]) HQ.out ?_)
     intro v7 hq7
     have HQ7:=zh hq7
     clear hq7 HQ HP x1
     go_wp2_with fail
     refine(E1.out _ HS.out.below).mono ?_
     rintro e w3 ⟨rfl,hb3⟩
     have HS3:=zh (HS.out.call hb3)
     have HQ7_3:=zh (HQ7.out.below hb3)
     clear HQ7 hb3 HS
     go_wp2_with fail
     refine(E2.out _ HS3.out.below).mono ?_
     rintro e w4 ⟨rfl,hb4⟩
     have HS4:=zh (HS3.out.call hb4)
     have HQ7_4:=zh (HQ7_3.out.below hb4)
     clear HQ7_3 hb4 HS3
     have x2:=HS4.out.cellE 0 rfl hc9
     rw[hsn]at x2
     have x3:=HS4.out.frozen 0 rfl k
     have x4:=cN HS4 0 1
     have x5:=cN HS4 1 0
     have x6:=HX.out _ HS4.out.below 3 _ rfl
     have HS5:Hid (St w [⟨w.heap.size+1,(rowE (.bool) l.length (putA sn k true)),4⟩,⟨w.heap.size,(rowE (.bool) cl.length O),4⟩] _):=zh (St.setE (HS4.out) 0 rfl k (true))
     have HQ5:Hid (Que strE 1 w.heap.size gq (w4.setCell ⟨w.heap.size+1,k,none⟩ (.bool true)) _ t):=zh (Que.far HQ7_4.out (a:=⟨w.heap.size+1,k,none⟩) HN2.out (.bool (true)))
     go_wp2_with (refine a9j _ rfl _ _ _ rfl w.heap.size 9 ii _ 1 16 Tryz.underlying49 hii HIZ.out hi1 hi8 rfl a3h (by simp[Act.eval]) HQ5.out _ y.list (by simp[Act.eval]) (Src.of_slc Tryz.underlying49 a3h HU.out HS5.out.below (c6a _)) (by have h1:=HM.out;have h2:=LM.out;have h3:=LL.out;have h4:=d2u LC.out LY.out;have h5:=b4e (wt:=clW l) hsn hc9;rw[List.length_cons]at h1;unfold maxLen;omega) (by have h1:=HM.out;have h2:=LM.out;have h3:=LL.out;have h4:=d2u LC.out LY.out;have h5:=b4e (wt:=clW l) hsn hc9;rw[List.length_cons]at h1;omega) HS5.out.below.size ?_)
     intro v8 w8 g8 hq8 hgr8 hg8
     have hge8:=HQ5.out.lt.1
     have HQ8:=zh hq8
     have hw8:((w4.setCell ⟨w.heap.size+1,k,none⟩ (.bool true))).heap.size=w4.heap.size:=by rw[a9m]
     have h8a:=HS5.out.lt 0 rfl
     have h8b:=HS5.out.lt 1 rfl
     have HN8:=zh (show g8≠w.heap.size from fun e=>by rcases hg8 with h9 | h9;exact HN.out (h9.symm.trans e);omega)
     have HN9:=zh (show g8≠w.heap.size+1 from fun e=>by rcases hg8 with h9 | h9;exact HN2.out (h9.symm.trans e);omega)
     have HS8:=zh (HS5.out.turnedR hgr8 hge8 (by intro z hz;rcases List.mem_cons.1 hz with rfl | hz;exact HN2.out;rcases List.mem_cons.1 hz with rfl | hz;exact HN.out;cases hz))
     have HC8:=zh (show t.length+y.list.length+sumN (clW l) (putA sn k true) l.length<=gk-1 by have h1:=HM.out;have h2:=LM.out;have h3:=LL.out;have h4:=d2u LC.out LY.out;have h5:=b4e (wt:=clW l) hsn hc9;rw[List.length_cons]at h1;omega)
     clear hq8 hgr8 hg8 hge8 hw8 h8a h8b HQ5 HS5 HS4 HQ7_4 hsn x2 x3 x4 x5 x6
     go_wp2
     go_roundg (gk-1)
     case measure=>have:=HM.out;rw[List.length_cons]at this;omega
     case rel=>exact⟨t++y.list,g8,putA sn k true,O,(by rw[a8s];exact HL.out.open_ LK.out LC.out LY.out),(by have:=HC8.out;rw[List.length_append];exact this),(by have:=LM.out;omega),HQ8.out,HN8.out,HN9.out,HS8.out⟩
    have x1:=HP.out _ (Below.refl _ _) 0 _ rfl
    rw[Nat.add_zero]at x1
    go_wp2_with (refine a6z _ rfl _ _ _ rfl w.heap.size 9 ii 1 Tryz.underlying49 hii hi1 a3h (by simp[Act.eval]) (by simp[Act.eval]) HQ.out ?_)
    intro v7 hq7
    have HQ7:=zh hq7
    clear hq7 HQ HP x1
    go_wp2_with fail
    refine(E1.out _ HS.out.below).mono ?_
    rintro e w3 ⟨rfl,hb3⟩
    have HS3:=zh (HS.out.call hb3)
    have HQ7_3:=zh (HQ7.out.below hb3)
    clear HQ7 hb3 HS
    go_wp2_with fail
    refine(E2.out _ HS3.out.below).mono ?_
    rintro e w4 ⟨rfl,hb4⟩
    have HS4:=zh (HS3.out.call hb4)
    have HQ7_4:=zh (HQ7_3.out.below hb4)
    clear HQ7_3 hb4 HS3
    have x2:=HS4.out.cellE 0 rfl hc9
    rw[hsn]at x2
    go_wp2
    go_roundg (gk-1)
    case measure=>have:=HM.out;rw[List.length_cons]at this;omega
    case rel=>exact⟨t,gq,sn,O,HL.out.skip LK.out (fun c' hc'=>by rw[LC.out]at hc';rw[<- Option.some.inj hc'];exact hsn),(by have:=HM.out;rw[List.length_cons]at this;omega),(by have:=LM.out;omega),HQ7_4.out,HN.out,HN2.out,HS4.out⟩
theorem slcE_one(n:Nat)(l:List Nat):∀y∈l,∀u∈slcE n y,u.oneCell'=true:=by
 intro y _ u hu
 obtain rfl:u=.slice (some ⟨y,0,none⟩) n n:=by simpa [slcE]using hu
 rfl
theorem rk8_ge{w:World}{base k:Nat}{e:TypeId}{v:Value}{xs:List Value}(h:World.ownsRow w base e 1 v k xs){q:Nat}(hq:v.ownBlock=some q):base<=q:=(World.ownsRow.lt h q hq).1
theorem rk8_own{w0 wr:World}{t e:TypeId}{n k c base:Nat}{gs:List Nat}{M:Nat->Nat->Bool}{v:Value}{xs:List Value}{g8 H:Nat}(hS:St w0 (a1t t n gs M) wr)(hN:∀g∈gs,v.ownBlock≠some g)(hO:World.ownsRow wr base e 1 v k xs)(hat:v.ownBlock=some g8\/g8=H)(hH:H=wr.heap.size+2) :
  ∀g∈gs++[wr.heap.size],(Value.slice (some ⟨g8,0,none⟩) (k+1) c).ownBlock≠some g:=by
 intro g hg e
 obtain rfl:g8=g:=by simpa [Value.ownBlock]using e
 rcases List.mem_append.1 hg with hg | hg
 ·rcases hat with h | h
  ·exact hN _ hg h
  obtain⟨i,hi⟩:=List.mem_iff_getElem?.1 hg
  obtain⟨hl,he⟩:=List.getElem?_eq_some_iff.1 hi
  have h1:=hS.lt i (a9p hl)
  rw[List.getD_eq_getElem?_getD,hi,Option.getD_some]at h1
  omega
 have:=List.mem_singleton.1 hg
 rcases hat with h | h
 ·have:=(World.ownsRow.lt hO g8 h).2
  omega
 omega
theorem rk8_ne{wr:World}{t e t':TypeId}{n k base:Nat}{gs:List Nat}{M:Nat->Nat->Bool}{v:Value}{xs:List Value}{cs:Array Value}(hN:∀g∈gs,v.ownBlock≠some g)(hO:World.ownsRow wr base e 1 v k xs) :
  ∀x∈(⟨wr.heap.size,cs,t'⟩:Own)::a1t t n gs M,v.ownBlock≠some x.g:=by
 intro x hx e
 rcases List.mem_cons.1 hx with rfl | hx
 ·have:=(World.ownsRow.lt hO _ e).2
  exact absurd this (Nat.lt_irrefl _)
 obtain⟨i,hi⟩:=List.mem_iff_getElem?.1 hx
 have hl:i<gs.length:=by have:=(List.getElem?_eq_some_iff.1 hi).1;unfold a1t at this;rwa[a1a]at this
 rw[a9p hl]at hi
 obtain rfl:=Option.some.inj hi
 refine hN _ ?_ e
 rw[List.getD_eq_getElem?_getD,List.getElem?_eq_getElem hl]
 exact List.getElem_mem hl
theorem b9t(v v2:Value)(cl:List Nmd)(l:List Cls)(s:List UInt8)(w:World)(h:NmdL w v cl)(h2:ClsL w v2 l)(hC:b0v cl l)(hl:cl.length<=1000)(hl2:l.length<=1000)(hbig:∀c∈l,c.kind=1->c.list.length<=1000){w0:World}{R:List Own}(hS:St w0 R w) :
  Calls Tryz.prog 61 #[v,v2,.string (bs s)] w fun e w'=>∃g D,e=.returned (.slice (some ⟨g,0,none⟩) cl.length cl.length)/\St w0 (⟨g,rowE .bool cl.length D,4⟩::R) w'/\Hid (∀k,D k=true↔Den cl l s k)/\Below w.heap.size w w':=by
 refine(c2b v v2 cl l s w h h2 hC hl hl2 hbig).mono ?_
 rintro e w' ⟨g,D,rfl,hB,hD,hg,hb⟩
 exact⟨g,D,rfl,hS.fill hb hg hB,hD,hb⟩
theorem Rel.skip{cl:List Nmd}{l:List Cls}{k a b:Nat}{c:Cls}(hc:l[k]? =some c)(hk:c.kind≠2):Rel cl l (k+1) a b↔Rel cl l k a b:=by
 constructor
 ·rintro⟨j,d,hj,hd,hd2,h⟩
  by_cases hjk:j=k
  ·subst hjk
   rw[hc]at hd
   obtain rfl:=Option.some.inj hd
   exact absurd hd2 hk
  exact⟨j,d,by omega,hd,hd2,h⟩
 rintro⟨j,d,hj,h⟩
 exact⟨j,d,by omega,h⟩
theorem Rel.step{cl:List Nmd}{l:List Cls}{k a b:Nat}{c:Cls}(hc:l[k]? =some c)(hk:c.kind=2):Rel cl l (k+1) a b↔Rel cl l k a b\/(Den cl l c.name a/\Den cl l c.other b):=by
 constructor
 ·rintro⟨j,d,hj,hd,hd2,h⟩
  by_cases hjk:j=k
  ·subst hjk
   rw[hc]at hd
   obtain rfl:=Option.some.inj hd
   exact .inr h
  exact .inl ⟨j,d,by omega,hd,hd2,h⟩
 rintro(⟨j,d,hj,h⟩ | h)
 ·exact⟨j,d,by omega,h⟩
 exact⟨k,c,Nat.lt_succ_self _,hc,hk,h⟩
def mixR(M:Nat->Nat->Bool)(A B:Nat->Bool)(p a b:Nat):Bool:=if a<p then M a b||(A a&&B b)else M a b
def mixC(M:Nat->Nat->Bool)(A B:Nat->Bool)(p q b:Nat):Bool:=if b<q then M p b||(A p&&B b)else M p b
theorem b4m{M:Nat->Nat->Bool}{A B:Nat->Bool}{p q:Nat}{v:Bool}(h:v=(M p q||(A p&&B q))):putA (mixC M A B p q) q v=mixC M A B p (q+1):=by
 funext y
 unfold putA mixC
 by_cases hy:y=q
 ·subst hy;rw[if_pos rfl,if_pos (Nat.lt_succ_self _),h]
 rw[if_neg hy]
 by_cases h2:y<q
 ·rw[if_pos h2,if_pos (by omega)]
 rw[if_neg h2,if_neg (by omega)]
theorem a8y{M:Nat->Nat->Bool}{A B:Nat->Bool}{p q:Nat}:mixC M A B p q q=M p q:=if_neg (Nat.lt_irrefl _)
theorem c8h{M:Nat->Nat->Bool}{A B:Nat->Bool}{p:Nat}:mixC M A B p 0=mixR M A B p p:=by
 funext y
 unfold mixC mixR
 rw[if_neg (Nat.not_lt_zero _),if_neg (Nat.lt_irrefl _)]
theorem d1g{M:Nat->Nat->Bool}{A B:Nat->Bool}{t:TypeId}{n p:Nat}{gs:List Nat}:a1t t n gs (fun x=>if x=p then mixC M A B p n else mixR M A B p x)=a1t t n gs (mixR M A B (p+1)):=by
 refine b5f fun a b _ hb=>?_
 by_cases h:a=p
 ·subst h
  rw[if_pos rfl]
  unfold mixC mixR
  rw[if_pos hb,if_pos (Nat.lt_succ_self _)]
 rw[if_neg h]
 unfold mixR
 by_cases h2:a<p
 ·rw[if_pos h2,if_pos (by omega)]
 rw[if_neg h2,if_neg (by omega)]
theorem rk8_out{wr:World}{base n go cap gi p:Nat}{e:TypeId}{gs:List Nat}(h:World.ownsRow wr base e 1 (.slice (some ⟨go,0,none⟩) n cap) n (flat (slcE n) gs))(hf:(flat (slcE n) gs)[p]? =some (.slice (some ⟨gi,0,none⟩) n n)) :
  ∀w':World,Below wr.heap.size wr w'->∀ (j:Nat) (u:Value),[Value.slice (some ⟨gi,0,none⟩) n n][j]? =some u->w'.cell? ⟨go,p+j,none⟩=some u:=by
 intro w' hb j u hu
 have hj:j=0:=by have:=(List.getElem?_eq_some_iff.1 hu).1;simpa using this
 subst hj
 obtain rfl:Value.slice (some ⟨gi,0,none⟩) n n=u:=by simpa using hu
 have h1:=World.ownsRow.cells (g:=go) h rfl p _ hf
 rw[Addr.add_lit,Nat.zero_add]at h1
 exact(hb.cell (p:=⟨go,p+0,none⟩) (World.ownsRow.lt h go rfl).2).trans h1
theorem c0d{w:World}{base n go c:Nat}{e:TypeId}{xs:List Value}(h:World.ownsRow w base e 1 (.slice (some ⟨go,0,none⟩) n c) n xs){a:Addr}(ha:go≠a.block)(u:Value):World.ownsRow (w.setCell a u) base e 1 (.slice (some ⟨go,0,none⟩) n c) n xs:=by
 refine⟨h.1,?_⟩
 rcases h.2 with ⟨h1,h0⟩ | ⟨g,cap,cur,h1,hb,hg,hrest⟩
 ·exact .inl ⟨h1,h0⟩
 have e1:go=g:=by
  injection h1 with h1
  injection h1 with h1
  injection h1
 subst e1
 exact .inr ⟨go,cap,cur,h1,hb,(Below.heap_setCell w a u go ha).trans hg,hrest⟩
theorem b9s(v v2:Value)(cl:List Nmd)(l:List Cls)(w:World)(h:NmdL w v cl)(h2:ClsL w v2 l)(hC:b0v cl l)(hl:cl.length<=1000)(hl2:l.length<=1000)(hbig:∀c∈l,c.kind=1->c.list.length<=1000) :
  Calls Tryz.prog 30 #[v,v2] w fun e w'=>∃v' M,e=.returned v'/\MatB w' v' cl.length M/\(∀a b,a<cl.length->b<cl.length->(M a b=true↔Rel cl l l.length a b))/\Below w.heap.size w w':=by
 have d1:=fun s W (hb:Below w.heap.size w W) R (hS:St w R W)=>b9t v v2 cl l s W (h.below hb) (h2.below hb) hC hl hl2 hbig hS
 have hmk:=a5u cl.length (by omega)
 obtain⟨ii,hii,hiz,hi1,hi8⟩:=b8z
 obtain⟨A1,c1,rfl,_,_⟩:=Slc.slice h
 obtain⟨A2,c2,rfl,_,_⟩:=h2.slice
 have HH:=zh h2
 have D1:=zh d1
 have L1:=zh hl
 have LL:=zh hl2
 have HIZ:=zh hiz
 have e00:(0:Int)<=(cl.length:Int):=by omega
 clear h h2 d1 hC hl hl2 hbig hiz
 go_enter Tryz.func30,Tryz.ntmps30
 have HS:=zh (St.start w)
 go_wp2
 go_loopw [5,6] (fun v5 i wr=>∃ (k:Nat) (gs:List Nat),k<=cl.length/\i=.int .i64 k/\Hid (gs.length=k)/\Hid (World.ownsRow wr w.heap.size 54 1 v5 k (flat (slcE cl.length) gs))/\Hid (∀g∈gs,v5.ownBlock≠some g)/\Hid (St w ([]++a1t 4 cl.length gs (fun _ _=>false)) wr)) (fun _ i _=>cl.length-(intOf i).toNat)
 case atStart=>exact⟨0,[],Nat.zero_le _,rfl,rfl,World.ownsRow_nil _ _ _ _,(fun g hg=>by cases hg),HS.out⟩
 case round =>
  obtain⟨k,gs,hk,rfl,HG,HO,HN,HS⟩:=hrel
  have HS:=zh (show St w (a1t 4 cl.length gs (fun _ _=>false)) wr from HS.out)
  rename_i u5 _
  by_cases hlt:k<cl.length
  ·have e3:((k:Nat):Int)<(cl.length:Int):=by omega
   have e4:decide (((k:Nat):Int)<(cl.length:Int))=true:=decide_eq_true e3
   have i5:IntKind.i64.wrap ((k:Int)+1)=((k+1:Nat):Int):=by have:=L1.out;rw[IntWalk.i64_in _ (by omega)];rfl
   have HS2:Hid (St w (⟨wr.heap.size+1,#[.slice (some ⟨wr.heap.size,0,none⟩) cl.length cl.length],54⟩::⟨wr.heap.size,(rowE (.bool) cl.length (fun _=>false)),4⟩::a1t 4 cl.length gs (fun _ _=>false)) _):=aL (aL HS (rowE (.bool) cl.length (fun _=>false)) 4 wr.heap.size) #[.slice (some ⟨wr.heap.size,0,none⟩) cl.length cl.length] 54 (wr.heap.size+1)
   have hw8:(((wr.alloc (.cells (rowE (.bool) cl.length (fun _=>false)) 4)).alloc (.cells #[.slice (some ⟨wr.heap.size,0,none⟩) cl.length cl.length] 54))).heap.size=wr.heap.size+2:=by rw[size_alloc,size_alloc]
   have HOw:=zh (show World.ownsRow ((wr.alloc (.cells (rowE (.bool) cl.length (fun _=>false)) 4)).alloc (.cells #[.slice (some ⟨wr.heap.size,0,none⟩) cl.length cl.length] 54)) w.heap.size 54 1 _ k (flat (slcE cl.length) gs)from Grows.below HO.out (Ext.alloc (Ext.alloc (Below.refl wr.heap.size wr) (Obj.cells (rowE (.bool) cl.length (fun _=>false)) 4)) (Obj.cells #[.slice (some ⟨wr.heap.size,0,none⟩) cl.length cl.length] 54)))
   go_wp2_with (refine wpList_append_lies _ rfl _ _ _ rfl w.heap.size 54 ii _ 1 24 Tryz.underlying47 hii HIZ.out hi1 hi8 rfl (by decide) _ k (flat (slcE cl.length) gs) (by simp[Act.eval]) HOw.out ⟨wr.heap.size+1,0,none⟩ 1 1 (slcE cl.length wr.heap.size) (by simp[Act.eval]) rfl (by intro j u hu;rw[Addr.add_lit,Nat.zero_add];exact(HS2.out.blk 0 rfl).cell j u (by rw[<- Array.getElem?_toList];exact hu)) (slcE_one cl.length [wr.heap.size] _ (List.mem_singleton.2 rfl)) (by decide) (by have:=L1.out;unfold maxLen;omega) (by have:=L1.out;omega) HS2.out.below.size (wr.heap.size+2) hw8 ?_)
   intro g8 cap8 w8 hq8 hgr8 hat8 hlt8
   have HO8:=zh hq8
   have hge8:=HO8.out
   skip
   have HN8:=zh (show ∀g∈gs++[wr.heap.size],(Value.slice (some ⟨g8,0,none⟩) (k+1) cap8).ownBlock≠some g from rk8_own HS.out HN.out HO.out hat8 rfl)
   have HS8:=zh (show St w ([]++a1t 4 cl.length (gs++[wr.heap.size]) (fun _ _=>false)) w8 from St.addRow (R:=[]) (St.turnedO (HS2.out.sub (List.sublist_cons_self ..)) hgr8 (fun q hq=>rk8_ge HOw.out hq) (rk8_ne HN.out HO.out)))
   clear hq8 hgr8 hat8 hlt8 hge8 hw8 HOw HO HS2 HS HN
   go_wp2
   go_roundw
   case rel=>exact⟨k+1,gs++[wr.heap.size],by omega,by go_num,(by have:=HG.out;show _=_;rw[List.length_append,List.length_singleton,this]),(by have:=HO8.out;rw[a2s,show flat (slcE cl.length) [wr.heap.size]=slcE cl.length wr.heap.size from rfl];exact this),HN8.out,HS8.out⟩
   case measure=>simp[intOf];omega
  obtain rfl:k=cl.length:=by omega
  have e4:decide (((cl.length:Nat):Int)<(cl.length:Int))=false:=decide_eq_false (by omega)
  go_wp2
  go_loopw [7] (fun i wr=>∃ (k:Nat) (M:Nat->Nat->Bool),k<=l.length/\i=.int .i64 k/\Hid (∀a b,a<cl.length->b<cl.length->(M a b=true↔Rel cl l k a b))/\Hid (World.ownsRow wr w.heap.size 54 1 u5 cl.length (flat (slcE cl.length) gs))/\Hid (St w ([]++a1t 4 cl.length gs M) wr)) (fun i _=>l.length-(intOf i).toNat)
  case atStart=>exact⟨0,fun _ _=>false,Nat.zero_le _,rfl,(fun a b _ _=>⟨(fun h=>absurd h (by simp)),(fun⟨j,_,hj,_⟩=>absurd hj (Nat.not_lt_zero _))⟩),HO.out,HS.out⟩
  case round =>
   obtain⟨k,M,hk2,rfl,HM,HO2,HV⟩:=hrel
   clear HO HS
   have HV:=zh (show St w (a1t 4 cl.length gs M) wr from HV.out)
   by_cases hlt2:k<l.length
   ·obtain⟨b,o,x,u,rfl,hbb,hq,hu,hx⟩:=HH.out.at_ hlt2
    obtain⟨A5,c5,rfl,hl5,hl6⟩:=hu.slice
    unfold CRow.enc at hx
    dsimp only at hx
    have HX:=zh hx
    have HY:=zh hq
    have e5:((k:Nat):Int)<(l.length:Int):=by omega
    have e6:(0:Int)<=((k:Nat):Int):=by omega
    have e7:decide (((k:Nat):Int)<(l.length:Int))=true:=decide_eq_true e5
    have i5:IntKind.i64.wrap ((k:Int)+1)=((k+1:Nat):Int):=by have:=LL.out;rw[IntWalk.i64_in _ (by omega)];rfl
    clear hq hu hx
    by_cases k2:x.kind=2
    ·have d2:(x.kind==2)=true:=by rw[beq_iff_eq];exact k2
     have K2:=zh k2
     clear k2
     have x1:=HX.out _ HV.out.below 0 _ rfl
     rw[Nat.add_zero]at x1
     have x2:=HX.out _ HV.out.below 1 _ rfl
     go_wp2_with fail
     refine(D1.out x.name _ HV.out.below _ HV.out).mono ?_
     rintro e w2 ⟨g2,D2,rfl,hst2,HD2,hb2⟩
     have HO3:=zh (show World.ownsRow w2 w.heap.size 54 1 u5 cl.length (flat (slcE cl.length) gs)from Grows.below HO2.out hb2)
     clear HO2 hb2
     have HV2:Hid (St w (⟨g2,(rowE (.bool) cl.length D2),4⟩::a1t 4 cl.length gs M) w2):=zh hst2
     clear hst2 HV x1 x2
     have x3:=HX.out _ HV2.out.below 2 _ rfl
     go_wp2_with fail
     refine(D1.out x.other _ HV2.out.below _ HV2.out).mono ?_
     rintro e w3 ⟨g3,D3,rfl,hst3,HD3,hb3⟩
     have HO4:=zh (show World.ownsRow w3 w.heap.size 54 1 u5 cl.length (flat (slcE cl.length) gs)from Grows.below HO3.out hb3)
     clear HO3 hb3
     have HV3:Hid (St w (⟨g3,(rowE (.bool) cl.length D3),4⟩::⟨g2,(rowE (.bool) cl.length D2),4⟩::a1t 4 cl.length gs M) w3):=zh hst3
     clear hst3 HV2 x3
     go_wp2
     go_loopw [10] (fun i wr=>∃p:Nat,p<=cl.length/\i=.int .i64 p/\Hid (World.ownsRow wr w.heap.size 54 1 u5 cl.length (flat (slcE cl.length) gs))/\Hid (St w (⟨g3,rowE .bool cl.length D3,4⟩::⟨g2,rowE .bool cl.length D2,4⟩::a1t 4 cl.length gs (mixR M D2 D3 p)) wr)) (fun i _=>cl.length-(intOf i).toNat)
     case atStart=>exact⟨0,Nat.zero_le _,rfl,HO4.out,by rw[show a1t 4 cl.length gs (mixR M D2 D3 0)=a1t 4 cl.length gs M from b5f fun a b _ _=>if_neg (Nat.not_lt_zero _)];exact HV3.out⟩
     case round =>
      obtain⟨p,hp,rfl,HO5,HW⟩:=hrel
      clear HO4 HV3
      by_cases hlt3:p<cl.length
      ·have hpl:p<gs.length:=by have:=HG.out;omega
       obtain⟨go,cap,hv5,hg1,hg2⟩:=World.ownsRow.form HO5.out (by omega)
       subst hv5
       have HW1:=St.pull (R:=[⟨g3,rowE .bool cl.length D3,4⟩,⟨g2,rowE .bool cl.length D2,4⟩]) (M:=mixR M D2 D3 p) HW.out hpl
       obtain⟨TL,hTL⟩:∃TL,TL=(a1t 4 cl.length gs (mixR M D2 D3 p)).eraseIdx p:=⟨_,rfl⟩
       obtain⟨gi,hgi⟩:∃gi,gi=gs.getD p 0:=⟨_,rfl⟩
       rw[<- hTL,<-hgi,<-c8h]at HW1
       have hne:go≠gi:=fun e=>HN.out gi (by rw[hgi,List.getD_eq_getElem?_getD,List.getElem?_eq_getElem hpl];exact List.getElem_mem hpl) (by rw[<- e];rfl)
       have hfl:(flat (slcE cl.length) gs)[p]? =some (.slice (some ⟨gi,0,none⟩) cl.length cl.length):=by have:=a4a (b4h cl.length) gs p gi (by rw[hgi,List.getD_eq_getElem?_getD,List.getElem?_eq_getElem hpl];rfl) 0 _ rfl;rwa[Nat.mul_one,Nat.add_zero]at this
       have HNE:=zh hne
       have HFL:=zh hfl
       have HTL:=zh hTL
       have HGI:=zh hgi
       have HW1:Hid (St w (⟨gi,rowE .bool cl.length (mixC M D2 D3 p 0),4⟩::⟨g3,rowE .bool cl.length D3,4⟩::⟨g2,rowE .bool cl.length D2,4⟩::TL) wr):=zh HW1
       clear hne hfl hTL hgi HW
       have e9:((p:Nat):Int)<(cl.length:Int):=by omega
       have e10:decide (((p:Nat):Int)<(cl.length:Int))=true:=decide_eq_true e9
       have e11:(0:Int)<=((p:Nat):Int):=by omega
       have i6:IntKind.i64.wrap ((p:Int)+1)=((p+1:Nat):Int):=by have:=L1.out;rw[IntWalk.i64_in _ (by omega)];rfl
       go_wp2
       go_loopw [11] (fun i wr=>∃q:Nat,q<=cl.length/\i=.int .i64 q/\Hid (Grows wr w.heap.size 54 1 (.slice (some ⟨go,0,none⟩) cl.length cap) cl.length (flat (slcE cl.length) gs))/\Hid (St w (⟨gi,rowE .bool cl.length (mixC M D2 D3 p q),4⟩::⟨g3,rowE .bool cl.length D3,4⟩::⟨g2,rowE .bool cl.length D2,4⟩::TL) wr)) (fun i _=>cl.length-(intOf i).toNat)
       case atStart=>exact⟨0,Nat.zero_le _,rfl,HO5.out,HW1.out⟩
       case round =>
        obtain⟨q,hq,rfl,HO6,HX6⟩:=hrel
        clear HO5 HW1
        by_cases hlt4:q<cl.length
        ·have hgo:=(World.ownsRow.lt HO6.out go rfl).2
         have HOX:=zh (rk8_out HO6.out HFL.out)
         have e12:((q:Nat):Int)<(cl.length:Int):=by omega
         have e13:decide (((q:Nat):Int)<(cl.length:Int))=true:=decide_eq_true e12
         have e14:(0:Int)<=((q:Nat):Int):=by omega
         have i7:IntKind.i64.wrap ((q:Int)+1)=((q+1:Nat):Int):=by have:=L1.out;rw[IntWalk.i64_in _ (by omega)];rfl
         cases hm:M p q
         ·cases ha:D2 p
          ·go_wp2
           refine a0e 25 [.slice (some ⟨go,0,none⟩) cl.length cap,.int .i64 (p:Nat),.pointer (some ⟨go,p,none⟩),.slice (some ⟨gi,0,none⟩) cl.length cl.length,.int .i64 (q:Nat),.slice (some ⟨go,0,none⟩) cl.length cap,.int .i64 (p:Nat),.pointer (some ⟨go,p,none⟩),.slice (some ⟨gi,0,none⟩) cl.length cl.length,.int .i64 (q:Nat),.pointer (some ⟨gi,q,none⟩),.bool false,.bool false,.slice (some ⟨g2,0,none⟩) cl.length cl.length,.int .i64 (p:Nat),.pointer (some ⟨g2,p,none⟩),.bool false,.bool false,undef,undef,undef,undef,.bool false,.bool false,.pointer (some ⟨gi,q,none⟩)] rfl (by kernel_rfl) (by kernel_rfl) (by kernel_rfl) ?_ ?_
           refine⟨?_,?_,?_,?_,?_,?_,?_,?_,?_,?_,?_,?_,?_,?_,?_,?_,?_,?_,?_,?_,?_,?_,?_,?_,?_,trivial⟩<;>(intro xx af wv hbx hev hev0 hd;have H:=SH.mk hev hev0 hd;clear hev hev0 hd)
           ·have e5:=H.i 5;clear H;go_wp2;exact sQ rfl
           ·have e10:=H.i 10;clear H;go_wp2;exact sQ rfl
           ·have e64:=H.r 0 64;have e65:=H.r 1 65;clear H;go_wp2;exact sQ rfl
           ·have e66:=H.r 2 66;clear H;have hs1:=zh (HX6.out.call hbx);have y0:=HOX.out _ hbx 0 _ rfl;rw[Nat.add_zero]at y0;go_wp2;exact sQ rfl
           ·have e11:=H.i 11;clear H;go_wp2;exact sQ rfl
           ·have e5:=H.i 5;clear H;go_wp2;exact sQ rfl
           ·have e10:=H.i 10;clear H;go_wp2;exact sQ rfl
           ·have e69:=H.r 5 69;have e70:=H.r 6 70;clear H;go_wp2;exact sQ rfl
           ·have e71:=H.r 7 71;clear H;have hs1:=zh (HX6.out.call hbx);have y0:=HOX.out _ hbx 0 _ rfl;rw[Nat.add_zero]at y0;go_wp2;exact sQ rfl
           ·have e11:=H.i 11;clear H;go_wp2;exact sQ rfl
           ·have e72:=H.r 8 72;have e73:=H.r 9 73;clear H;go_wp2;exact sQ rfl
           ·have e74:=H.r 10 74;clear H;have hs1:=zh (HX6.out.call hbx);have yf0:=hs1.out.cellE 0 rfl hlt4;rw[a8y,hm]at yf0;go_wp2;exact sQ rfl
           ·have e75:=H.r 11 75;clear H;go_wp2;exact sQ rfl
           ·have e76:=H.g 12 76;have e8:=H.i 8;have q76:=a0b e76;clear H;go_wp2;exact sQ rfl
           ·have e76:=H.g 12 76;have e10:=H.i 10;have q76:=a0b e76;clear H;go_wp2;exact sQ rfl
           ·have e76:=H.g 12 76;have e77:=H.r 13 77;have e78:=H.r 14 78;have q76:=a0b e76;clear H;go_wp2;exact sQ rfl
           ·have e76:=H.g 12 76;have e79:=H.r 15 79;have q76:=a0b e76;clear H;have hs1:=zh (HX6.out.call hbx);have yf0:=hs1.out.cellE 2 rfl hlt3;rw[ha]at yf0;go_wp2;exact sQ rfl
           ·have e76:=(H.ev 12 _ 76 rfl rfl).trans (H.hd ⟨12,.chain⟩ (by simp) rfl);have e80:=H.r 16 80;have q76:=a0b e76;clear H;go_wp2;exact sQ rfl
           ·have e81:=H.g 17 81;have q81:=a0b e81;clear H;go_wp2;exact sQ rfl
           ·have e81:=H.g 17 81;have q81:=a0b e81;clear H;go_wp2;exact sQ rfl
           ·have e81:=H.g 17 81;have q81:=a0b e81;clear H;go_wp2;exact sQ rfl
           ·have e81:=H.g 17 81;have q81:=a0b e81;clear H;go_wp2;exact sQ rfl
           ·have e76:=H.g 12 76;have e81:=H.r 17 81;have e85:=H.r 21 85;have q76:=a0b e76;clear H;go_wp2;exact sQ rfl
           ·have e76:=H.r 12 76;have e86:=H.r 22 86;clear H;go_wp2;exact sQ rfl
           ·have e67:=H.r 3 67;have e68:=H.r 4 68;clear H;go_wp2;exact sQ rfl
           intro xx w4 hb9 hv
           simp only[List.take,List.drop,a0h,Act.put]
           simp only[vQ hv 0,vQ hv 1,vQ hv 2,vQ hv 3,vQ hv 4,vQ hv 5,vQ hv 6,vQ hv 7,vQ hv 8,vQ hv 9,vQ hv 10,vQ hv 11,vQ hv 12,vQ hv 13,vQ hv 14,vQ hv 15,vQ hv 16,vQ hv 17,vQ hv 18,vQ hv 19,vQ hv 20,vQ hv 21,vQ hv 22,vQ hv 23,vQ hv 24]
           clear hv
           have HX4:=zh (HX6.out.call hb9)
           have HO6_4:=zh (HO6.out.below hb9)
           clear HO6 hb9 HX6
           have x4:=HX4.out.cellE 0 rfl hlt4
           rw[a8y,hm]at x4
           have x5:=HX4.out.frozen 0 rfl q
           have x6:=cN HX4 0 1
           have x7:=cN HX4 1 0
           have x8:=cN HX4 0 2
           have x9:=cN HX4 2 0
           go_wp2
           have HX5:Hid (St w (⟨gi,(rowE (.bool) cl.length (putA (mixC M D2 D3 p q) q false)),4⟩::⟨g3,(rowE (.bool) cl.length D3),4⟩::⟨g2,(rowE (.bool) cl.length D2),4⟩::TL) _):=zh (St.setE (HX4.out) 0 rfl q (false))
           go_roundw
           case rel=>exact⟨q+1,by omega,by go_num,c0d HO6_4.out (a:=⟨gi,q,none⟩) HNE.out _,by rw[<- b4m (v:=false) (by rw[hm,ha];rfl)];exact HX5.out⟩
           case measure=>simp[intOf];omega
          cases hb:D3 q
          ·go_wp2
           refine a0e 25 [.slice (some ⟨go,0,none⟩) cl.length cap,.int .i64 (p:Nat),.pointer (some ⟨go,p,none⟩),.slice (some ⟨gi,0,none⟩) cl.length cl.length,.int .i64 (q:Nat),.slice (some ⟨go,0,none⟩) cl.length cap,.int .i64 (p:Nat),.pointer (some ⟨go,p,none⟩),.slice (some ⟨gi,0,none⟩) cl.length cl.length,.int .i64 (q:Nat),.pointer (some ⟨gi,q,none⟩),.bool false,.bool false,.slice (some ⟨g2,0,none⟩) cl.length cl.length,.int .i64 (p:Nat),.pointer (some ⟨g2,p,none⟩),.bool true,.bool true,.slice (some ⟨g3,0,none⟩) cl.length cl.length,.int .i64 (q:Nat),.pointer (some ⟨g3,q,none⟩),.bool false,.bool false,.bool false,.pointer (some ⟨gi,q,none⟩)] rfl (by kernel_rfl) (by kernel_rfl) (by kernel_rfl) ?_ ?_
           refine⟨?_,?_,?_,?_,?_,?_,?_,?_,?_,?_,?_,?_,?_,?_,?_,?_,?_,?_,?_,?_,?_,?_,?_,?_,?_,trivial⟩<;>(intro xx af wv hbx hev hev0 hd;have H:=SH.mk hev hev0 hd;clear hev hev0 hd)
           ·have e5:=H.i 5;clear H;go_wp2;exact sQ rfl
           ·have e10:=H.i 10;clear H;go_wp2;exact sQ rfl
           ·have e64:=H.r 0 64;have e65:=H.r 1 65;clear H;go_wp2;exact sQ rfl
           ·have e66:=H.r 2 66;clear H;have hs1:=zh (HX6.out.call hbx);have y0:=HOX.out _ hbx 0 _ rfl;rw[Nat.add_zero]at y0;go_wp2;exact sQ rfl
           ·have e11:=H.i 11;clear H;go_wp2;exact sQ rfl
           ·have e5:=H.i 5;clear H;go_wp2;exact sQ rfl
           ·have e10:=H.i 10;clear H;go_wp2;exact sQ rfl
           ·have e69:=H.r 5 69;have e70:=H.r 6 70;clear H;go_wp2;exact sQ rfl
           ·have e71:=H.r 7 71;clear H;have hs1:=zh (HX6.out.call hbx);have y0:=HOX.out _ hbx 0 _ rfl;rw[Nat.add_zero]at y0;go_wp2;exact sQ rfl
           ·have e11:=H.i 11;clear H;go_wp2;exact sQ rfl
           ·have e72:=H.r 8 72;have e73:=H.r 9 73;clear H;go_wp2;exact sQ rfl
           ·have e74:=H.r 10 74;clear H;have hs1:=zh (HX6.out.call hbx);have yf0:=hs1.out.cellE 0 rfl hlt4;rw[a8y,hm]at yf0;go_wp2;exact sQ rfl
           ·have e75:=H.r 11 75;clear H;go_wp2;exact sQ rfl
           ·have e76:=H.g 12 76;have e8:=H.i 8;have q76:=a0b e76;clear H;go_wp2;exact sQ rfl
           ·have e76:=H.g 12 76;have e10:=H.i 10;have q76:=a0b e76;clear H;go_wp2;exact sQ rfl
           ·have e76:=H.g 12 76;have e77:=H.r 13 77;have e78:=H.r 14 78;have q76:=a0b e76;clear H;go_wp2;exact sQ rfl
           ·have e76:=H.g 12 76;have e79:=H.r 15 79;have q76:=a0b e76;clear H;have hs1:=zh (HX6.out.call hbx);have yf0:=hs1.out.cellE 2 rfl hlt3;rw[ha]at yf0;go_wp2;exact sQ rfl
           ·have e76:=(H.ev 12 _ 76 rfl rfl).trans (H.hd ⟨12,.chain⟩ (by simp) rfl);have e80:=H.r 16 80;have q76:=a0b e76;clear H;go_wp2;exact sQ rfl
           ·have e81:=H.g 17 81;have e9:=H.i 9;have q81:=a0b e81;clear H;go_wp2;exact sQ rfl
           ·have e81:=H.g 17 81;have e11:=H.i 11;have q81:=a0b e81;clear H;go_wp2;exact sQ rfl
           ·have e81:=H.g 17 81;have e82:=H.r 18 82;have e83:=H.r 19 83;have q81:=a0b e81;clear H;go_wp2;exact sQ rfl
           ·have e81:=H.g 17 81;have e84:=H.r 20 84;have q81:=a0b e81;clear H;have hs1:=zh (HX6.out.call hbx);have yf0:=hs1.out.cellE 1 rfl hlt4;rw[hb]at yf0;go_wp2;exact sQ rfl
           ·have e76:=H.g 12 76;have e81:=H.r 17 81;have e85:=H.r 21 85;have q76:=a0b e76;clear H;go_wp2;exact sQ rfl
           ·have e76:=H.r 12 76;have e86:=H.r 22 86;clear H;go_wp2;exact sQ rfl
           ·have e67:=H.r 3 67;have e68:=H.r 4 68;clear H;go_wp2;exact sQ rfl
           intro xx w4 hb9 hv
           simp only[List.take,List.drop,a0h,Act.put]
           simp only[vQ hv 0,vQ hv 1,vQ hv 2,vQ hv 3,vQ hv 4,vQ hv 5,vQ hv 6,vQ hv 7,vQ hv 8,vQ hv 9,vQ hv 10,vQ hv 11,vQ hv 12,vQ hv 13,vQ hv 14,vQ hv 15,vQ hv 16,vQ hv 17,vQ hv 18,vQ hv 19,vQ hv 20,vQ hv 21,vQ hv 22,vQ hv 23,vQ hv 24]
           clear hv
           have HX4:=zh (HX6.out.call hb9)
           have HO6_4:=zh (HO6.out.below hb9)
           clear HO6 hb9 HX6
           have x4:=HX4.out.cellE 0 rfl hlt4
           rw[a8y,hm]at x4
           have x5:=HX4.out.frozen 0 rfl q
           have x6:=cN HX4 0 1
           have x7:=cN HX4 1 0
           have x8:=cN HX4 0 2
           have x9:=cN HX4 2 0
           go_wp2
           have HX5:Hid (St w (⟨gi,(rowE (.bool) cl.length (putA (mixC M D2 D3 p q) q false)),4⟩::⟨g3,(rowE (.bool) cl.length D3),4⟩::⟨g2,(rowE (.bool) cl.length D2),4⟩::TL) _):=zh (St.setE (HX4.out) 0 rfl q (false))
           go_roundw
           case rel=>exact⟨q+1,by omega,by go_num,c0d HO6_4.out (a:=⟨gi,q,none⟩) HNE.out _,by rw[<- b4m (v:=false) (by rw[hm,ha,hb];rfl)];exact HX5.out⟩
           case measure=>simp[intOf];omega
          go_wp2
          refine a0e 25 [.slice (some ⟨go,0,none⟩) cl.length cap,.int .i64 (p:Nat),.pointer (some ⟨go,p,none⟩),.slice (some ⟨gi,0,none⟩) cl.length cl.length,.int .i64 (q:Nat),.slice (some ⟨go,0,none⟩) cl.length cap,.int .i64 (p:Nat),.pointer (some ⟨go,p,none⟩),.slice (some ⟨gi,0,none⟩) cl.length cl.length,.int .i64 (q:Nat),.pointer (some ⟨gi,q,none⟩),.bool false,.bool false,.slice (some ⟨g2,0,none⟩) cl.length cl.length,.int .i64 (p:Nat),.pointer (some ⟨g2,p,none⟩),.bool true,.bool true,.slice (some ⟨g3,0,none⟩) cl.length cl.length,.int .i64 (q:Nat),.pointer (some ⟨g3,q,none⟩),.bool true,.bool true,.bool true,.pointer (some ⟨gi,q,none⟩)] rfl (by kernel_rfl) (by kernel_rfl) (by kernel_rfl) ?_ ?_
          refine⟨?_,?_,?_,?_,?_,?_,?_,?_,?_,?_,?_,?_,?_,?_,?_,?_,?_,?_,?_,?_,?_,?_,?_,?_,?_,trivial⟩<;>(intro xx af wv hbx hev hev0 hd;have H:=SH.mk hev hev0 hd;clear hev hev0 hd)
          ·have e5:=H.i 5;clear H;go_wp2;exact sQ rfl
          ·have e10:=H.i 10;clear H;go_wp2;exact sQ rfl
          ·have e64:=H.r 0 64;have e65:=H.r 1 65;clear H;go_wp2;exact sQ rfl
          ·have e66:=H.r 2 66;clear H;have hs1:=zh (HX6.out.call hbx);have y0:=HOX.out _ hbx 0 _ rfl;rw[Nat.add_zero]at y0;go_wp2;exact sQ rfl
          ·have e11:=H.i 11;clear H;go_wp2;exact sQ rfl
          ·have e5:=H.i 5;clear H;go_wp2;exact sQ rfl
          ·have e10:=H.i 10;clear H;go_wp2;exact sQ rfl
          ·have e69:=H.r 5 69;have e70:=H.r 6 70;clear H;go_wp2;exact sQ rfl
          ·have e71:=H.r 7 71;clear H;have hs1:=zh (HX6.out.call hbx);have y0:=HOX.out _ hbx 0 _ rfl;rw[Nat.add_zero]at y0;go_wp2;exact sQ rfl
          ·have e11:=H.i 11;clear H;go_wp2;exact sQ rfl
          ·have e72:=H.r 8 72;have e73:=H.r 9 73;clear H;go_wp2;exact sQ rfl
          ·have e74:=H.r 10 74;clear H;have hs1:=zh (HX6.out.call hbx);have yf0:=hs1.out.cellE 0 rfl hlt4;rw[a8y,hm]at yf0;go_wp2;exact sQ rfl
          ·have e75:=H.r 11 75;clear H;go_wp2;exact sQ rfl
          ·have e76:=H.g 12 76;have e8:=H.i 8;have q76:=a0b e76;clear H;go_wp2;exact sQ rfl
          ·have e76:=H.g 12 76;have e10:=H.i 10;have q76:=a0b e76;clear H;go_wp2;exact sQ rfl
          ·have e76:=H.g 12 76;have e77:=H.r 13 77;have e78:=H.r 14 78;have q76:=a0b e76;clear H;go_wp2;exact sQ rfl
          ·have e76:=H.g 12 76;have e79:=H.r 15 79;have q76:=a0b e76;clear H;have hs1:=zh (HX6.out.call hbx);have yf0:=hs1.out.cellE 2 rfl hlt3;rw[ha]at yf0;go_wp2;exact sQ rfl
          ·have e76:=(H.ev 12 _ 76 rfl rfl).trans (H.hd ⟨12,.chain⟩ (by simp) rfl);have e80:=H.r 16 80;have q76:=a0b e76;clear H;go_wp2;exact sQ rfl
          ·have e81:=H.g 17 81;have e9:=H.i 9;have q81:=a0b e81;clear H;go_wp2;exact sQ rfl
          ·have e81:=H.g 17 81;have e11:=H.i 11;have q81:=a0b e81;clear H;go_wp2;exact sQ rfl
          ·have e81:=H.g 17 81;have e82:=H.r 18 82;have e83:=H.r 19 83;have q81:=a0b e81;clear H;go_wp2;exact sQ rfl
          ·have e81:=H.g 17 81;have e84:=H.r 20 84;have q81:=a0b e81;clear H;have hs1:=zh (HX6.out.call hbx);have yf0:=hs1.out.cellE 1 rfl hlt4;rw[hb]at yf0;go_wp2;exact sQ rfl
          ·have e76:=H.g 12 76;have e81:=H.r 17 81;have e85:=H.r 21 85;have q76:=a0b e76;clear H;go_wp2;exact sQ rfl
          ·have e76:=H.r 12 76;have e86:=H.r 22 86;clear H;go_wp2;exact sQ rfl
          ·have e67:=H.r 3 67;have e68:=H.r 4 68;clear H;go_wp2;exact sQ rfl
          intro xx w4 hb9 hv
          simp only[List.take,List.drop,a0h,Act.put]
          simp only[vQ hv 0,vQ hv 1,vQ hv 2,vQ hv 3,vQ hv 4,vQ hv 5,vQ hv 6,vQ hv 7,vQ hv 8,vQ hv 9,vQ hv 10,vQ hv 11,vQ hv 12,vQ hv 13,vQ hv 14,vQ hv 15,vQ hv 16,vQ hv 17,vQ hv 18,vQ hv 19,vQ hv 20,vQ hv 21,vQ hv 22,vQ hv 23,vQ hv 24]
          clear hv
          have HX4:=zh (HX6.out.call hb9)
          have HO6_4:=zh (HO6.out.below hb9)
          clear HO6 hb9 HX6
          have x4:=HX4.out.cellE 0 rfl hlt4
          rw[a8y,hm]at x4
          have x5:=HX4.out.frozen 0 rfl q
          have x6:=cN HX4 0 1
          have x7:=cN HX4 1 0
          have x8:=cN HX4 0 2
          have x9:=cN HX4 2 0
          go_wp2
          have HX5:Hid (St w (⟨gi,(rowE (.bool) cl.length (putA (mixC M D2 D3 p q) q true)),4⟩::⟨g3,(rowE (.bool) cl.length D3),4⟩::⟨g2,(rowE (.bool) cl.length D2),4⟩::TL) _):=zh (St.setE (HX4.out) 0 rfl q (true))
          go_roundw
          case rel=>exact⟨q+1,by omega,by go_num,c0d HO6_4.out (a:=⟨gi,q,none⟩) HNE.out _,by rw[<- b4m (v:=true) (by rw[hm,ha,hb];rfl)];exact HX5.out⟩
          case measure=>simp[intOf];omega
         go_wp2
         refine a0e 25 [.slice (some ⟨go,0,none⟩) cl.length cap,.int .i64 (p:Nat),.pointer (some ⟨go,p,none⟩),.slice (some ⟨gi,0,none⟩) cl.length cl.length,.int .i64 (q:Nat),.slice (some ⟨go,0,none⟩) cl.length cap,.int .i64 (p:Nat),.pointer (some ⟨go,p,none⟩),.slice (some ⟨gi,0,none⟩) cl.length cl.length,.int .i64 (q:Nat),.pointer (some ⟨gi,q,none⟩),.bool true,.bool true,undef,undef,undef,undef,undef,undef,undef,undef,undef,undef,.bool true,.pointer (some ⟨gi,q,none⟩)] rfl (by kernel_rfl) (by kernel_rfl) (by kernel_rfl) ?_ ?_
         refine⟨?_,?_,?_,?_,?_,?_,?_,?_,?_,?_,?_,?_,?_,?_,?_,?_,?_,?_,?_,?_,?_,?_,?_,?_,?_,trivial⟩<;>(intro xx af wv hbx hev hev0 hd;have H:=SH.mk hev hev0 hd;clear hev hev0 hd)
         ·have e5:=H.i 5;clear H;go_wp2;exact sQ rfl
         ·have e10:=H.i 10;clear H;go_wp2;exact sQ rfl
         ·have e64:=H.r 0 64;have e65:=H.r 1 65;clear H;go_wp2;exact sQ rfl
         ·have e66:=H.r 2 66;clear H;have hs1:=zh (HX6.out.call hbx);have y0:=HOX.out _ hbx 0 _ rfl;rw[Nat.add_zero]at y0;go_wp2;exact sQ rfl
         ·have e11:=H.i 11;clear H;go_wp2;exact sQ rfl
         ·have e5:=H.i 5;clear H;go_wp2;exact sQ rfl
         ·have e10:=H.i 10;clear H;go_wp2;exact sQ rfl
         ·have e69:=H.r 5 69;have e70:=H.r 6 70;clear H;go_wp2;exact sQ rfl
         ·have e71:=H.r 7 71;clear H;have hs1:=zh (HX6.out.call hbx);have y0:=HOX.out _ hbx 0 _ rfl;rw[Nat.add_zero]at y0;go_wp2;exact sQ rfl
         ·have e11:=H.i 11;clear H;go_wp2;exact sQ rfl
         ·have e72:=H.r 8 72;have e73:=H.r 9 73;clear H;go_wp2;exact sQ rfl
         ·have e74:=H.r 10 74;clear H;have hs1:=zh (HX6.out.call hbx);have yf0:=hs1.out.cellE 0 rfl hlt4;rw[a8y,hm]at yf0;go_wp2;exact sQ rfl
         ·have e75:=H.r 11 75;clear H;go_wp2;exact sQ rfl
         ·have e76:=H.g 12 76;have q76:=a0b e76;clear H;go_wp2;exact sQ rfl
         ·have e76:=H.g 12 76;have q76:=a0b e76;clear H;go_wp2;exact sQ rfl
         ·have e76:=H.g 12 76;have q76:=a0b e76;clear H;go_wp2;exact sQ rfl
         ·have e76:=H.g 12 76;have q76:=a0b e76;clear H;go_wp2;exact sQ rfl
         ·have e76:=(H.ev 12 _ 76 rfl rfl).trans (H.hd ⟨12,.chain⟩ (by simp) rfl);have q76:=a0b e76;clear H;go_wp2;exact sQ rfl
         ·have e81:=H.g 17 81;clear H
          rcases a2n e81 with q81 | q81
          ·go_wp2
           exact sQ rfl
          go_wp2
          exact sQ rfl
         ·have e81:=H.g 17 81;clear H
          rcases a2n e81 with q81 | q81
          ·go_wp2
           exact sQ rfl
          go_wp2
          exact sQ rfl
         ·have e81:=H.g 17 81;clear H
          rcases a2n e81 with q81 | q81
          ·go_wp2
           exact sQ rfl
          go_wp2
          exact sQ rfl
         ·have e81:=H.g 17 81;clear H
          rcases a2n e81 with q81 | q81
          ·go_wp2
           exact sQ rfl
          go_wp2
          exact sQ rfl
         ·have e76:=H.g 12 76;have q76:=a0b e76;clear H;go_wp2;exact sQ rfl
         ·have e76:=H.r 12 76;have e86:=H.r 22 86;clear H;go_wp2;exact sQ rfl
         ·have e67:=H.r 3 67;have e68:=H.r 4 68;clear H;go_wp2;exact sQ rfl
         intro xx w4 hb9 hv
         simp only[List.take,List.drop,a0h,Act.put]
         simp only[vQ hv 0,vQ hv 1,vQ hv 2,vQ hv 3,vQ hv 4,vQ hv 5,vQ hv 6,vQ hv 7,vQ hv 8,vQ hv 9,vQ hv 10,vQ hv 11,vQ hv 12,vQ hv 13,vQ hv 14,vQ hv 15,vQ hv 16,vQ hv 17,vQ hv 18,vQ hv 19,vQ hv 20,vQ hv 21,vQ hv 22,vQ hv 23,vQ hv 24]
         clear hv
         have HX4:=zh (HX6.out.call hb9)
         have HO6_4:=zh (HO6.out.below hb9)
         clear HO6 hb9 HX6
         have x4:=HX4.out.cellE 0 rfl hlt4
         rw[a8y,hm]at x4
         have x5:=HX4.out.frozen 0 rfl q
         have x6:=cN HX4 0 1
         have x7:=cN HX4 1 0
         have x8:=cN HX4 0 2
         have x9:=cN HX4 2 0
         go_wp2
         have HX5:Hid (St w (⟨gi,(rowE (.bool) cl.length (putA (mixC M D2 D3 p q) q true)),4⟩::⟨g3,(rowE (.bool) cl.length D3),4⟩::⟨g2,(rowE (.bool) cl.length D2),4⟩::TL) _):=zh (St.setE (HX4.out) 0 rfl q (true))
         go_roundw
         case rel=>exact⟨q+1,by omega,by go_num,c0d HO6_4.out (a:=⟨gi,q,none⟩) HNE.out _,by rw[<- b4m (v:=true) (by rw[hm];rfl)];exact HX5.out⟩
         case measure=>simp[intOf];omega
        obtain rfl:q=cl.length:=by omega
        have e12:decide (((cl.length:Nat):Int)<(cl.length:Int))=false:=decide_eq_false (by omega)
        go_wp2
        go_roundw
        case rel=>exact⟨p+1,by omega,by go_num,HO6.out,by rw[<- d1g];exact St.push (R:=[⟨g3,rowE .bool cl.length D3,4⟩,⟨g2,rowE .bool cl.length D2,4⟩]) (by rw[<- HGI.out,<-HTL.out];exact HX6.out) hpl⟩
        case measure=>simp[intOf];omega
      obtain rfl:p=cl.length:=by omega
      have e9:decide (((cl.length:Nat):Int)<(cl.length:Int))=false:=decide_eq_false (by omega)
      go_wp2
      go_roundw
      case rel=>exact⟨k+1,mixR M D2 D3 cl.length,by omega,by go_num,(fun a b h1 h2=>by rw[Rel.step HY.out K2.out,<-HM.out a b h1 h2,<-HD2.out a,<-HD3.out b,<-Bool.and_eq_true,<-Bool.or_eq_true,mixR,if_pos h1]),HO5.out,HW.out.sub ((List.sublist_cons_self ..).trans (List.sublist_cons_self ..))⟩
      case measure=>simp[intOf];omega
    have d2:(x.kind==2)=false:=by rw[beq_eq_false_iff_ne];exact k2
    have K2:=zh k2
    clear k2
    have x1:=HX.out _ HV.out.below 0 _ rfl
    rw[Nat.add_zero]at x1
    go_wp2
    go_roundw
    case rel=>exact⟨k+1,M,by omega,by go_num,(fun a b h1 h2=>(HM.out a b h1 h2).trans (Rel.skip HY.out K2.out).symm),HO2.out,HV.out⟩
    case measure=>simp[intOf];omega
   obtain rfl:k=l.length:=by omega
   have e8:decide (((l.length:Nat):Int)<(l.length:Int))=false:=decide_eq_false (by omega)
   go_wp2
   go_ret
   refine⟨_,M,rfl,⟨gs,HG.out,Slc.of_own (b4h _) HO2.out HG.out,fun i g hg=>⟨4,?_⟩⟩,HM.out,HV.out.below⟩
   have hl9:=(List.getElem?_eq_some_iff.1 hg).1
   have h9:=HV.out.blk i (a9p hl9)
   rw[List.getD_eq_getElem?_getD,hg]at h9
   exact h9
end Go.Proofs.YtjmiicjialkpiaaGreatDoor
