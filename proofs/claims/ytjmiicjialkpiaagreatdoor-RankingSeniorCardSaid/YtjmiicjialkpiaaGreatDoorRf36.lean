/-
Part 36 of the base.
-/
import Derived.Test.YtjmiicjialkpiaaGreatDoorRf24
set_option maxRecDepth 100000
set_option maxHeartbeats 2000000
namespace Go.Proofs.YtjmiicjialkpiaaGreatDoor
open Go.RowKit
theorem Cst.rd{w0 w:World}{cl:List Nmd}{l:List Cls}{A:CAd}{C:CCo}(h:Cst w0 cl l A C w)(j:Nat)(v:Value)(hv:[A.v1,A.v2,.map (some A.mc),.map (some A.mkb),A.vb,A.vp,.map (some A.ml),A.vr][j]? =some v):w.cell? ⟨A.g,j,none⟩=some v :=
 h.fld j (by unfold CAd.cells;rw[List.getElem?_toArray];exact hv)
theorem b7k{w0:World}{cl:List Nmd}{l:List Cls}{A:CAd}{C:CCo}(s:List UInt8)(w:World)(h:Cst w0 cl l A C w)(hs:s.length<=maxLen) :
  Calls Tryz.prog 40 #[.pointer (some ⟨A.g,0,none⟩),.string (bs s)] w fun e w'=>e=.returned (.bool ((a0g cl s).isSome||C.Sk s))/\w=w':=by
 obtain⟨g,v1,v2,mc,mk,ml,nc,vb,vp,vr,gsb,gsp,ex⟩:=A
 have HD:=zh (show ∀w',Below w.heap.size w w'->∀ (j:Nat) (v:Value),[v1,v2,.map (some mc),.map (some mk),vb,vp,.map (some ml),vr][j]? =some v->w'.cell? ⟨g,j,none⟩=some v from fun w' hb=>Cst.rd (Cst.below h hb))
 have HM:=zh h.mc
 have HK:=zh h.mkb
 have HL:=zh hs
 clear h
 dsimp only at HM HK ⊢
 obtain⟨q1,hq1⟩:∃q,q=(a0g cl s).isSome:=⟨_,rfl⟩
 obtain⟨q2,hq2⟩:∃q,q=C.Sk s:=⟨_,rfl⟩
 obtain⟨z1,hz1⟩:∃z:Value,z=if q1 then .int .i64 (optI (a0g cl s))else .int .i64 0:=⟨_,rfl⟩
 obtain⟨z2,hz2⟩:∃z:Value,z=if q2 then C.fk s else .slice none 0 0:=⟨_,rfl⟩
 rw[<- hq1,<-hq2]
 have Q1:Hid ((a0g cl s).isSome=q1):=hq1.symm
 have Q2:Hid (C.Sk s=q2):=hq2.symm
 have Z1:Hid ((if(a0g cl s).isSome then .int .i64 (optI (a0g cl s))else .int .i64 0)=z1):=by rw[Q1.out];exact hz1.symm
 have Z2:Hid ((if C.Sk s then C.fk s else .slice none 0 0)=z2):=by rw[Q2.out];exact hz2.symm
 clear hq1 hq2 hz1 hz2
 cases q1
 rotate_left
 rotate_left
 all_goals
   go_enter Tryz.func40,Tryz.ntmps40
   have HS:=zh (St.start w)
   have x1:=HD.out _ HS.out.below 2 _ rfl
   have x2:=HD.out _ HS.out.below 3 _ rfl
 ·go_wp2_with (first | (at_lookup;refine a0t rfl _ _ 65 rfl 9 3 a2r Tryz.underlying65 (a5a _) HM.out (by simp[Act.eval]) (s) (by simp[Act.eval,strV]) HL.out (z1) false (Z1.out) (Q1.out) ?_) | (at_lookup;refine a0t rfl _ _ 66 rfl 9 49 a2r Tryz.underlying66 (b0w _) HK.out (by simp[Act.eval]) (s) (by simp[Act.eval,strV]) HL.out (z2) q2 (Z2.out) (Q2.out) ?_))
  clear x1 x2
  skip
  go_ret
  exact⟨rfl,rfl⟩
 go_wp2_with (first | (at_lookup;refine a0t rfl _ _ 65 rfl 9 3 a2r Tryz.underlying65 (a5a _) HM.out (by simp[Act.eval]) (s) (by simp[Act.eval,strV]) HL.out (z1) true (Z1.out) (Q1.out) ?_) | (at_lookup;refine a0t rfl _ _ 66 rfl 9 49 a2r Tryz.underlying66 (b0w _) HK.out (by simp[Act.eval]) (s) (by simp[Act.eval,strV]) HL.out (z2) q2 (Z2.out) (Q2.out) ?_))
 clear x1 x2
 skip
 go_ret
 exact⟨rfl,rfl⟩
theorem a5r{w0:World}{cl:List Nmd}{l:List Cls}{A:CAd}{C:CCo}{Inv:Nat->CCo->Prop}{F:FuncId}(s:Nat)(w:World)(h:Cst w0 cl l A C w)(hI:Inv 0 C)(hl:l.length<=1000)(eg:∀ (args:Array Value) (W:World),(callFunc F args).run Tryz.prog W=.ok (.enter F args) W)
  (hst:∀ (i:Nat) (x:Cls) (u:Value) (C:CCo) (W:World),l[i]? =some x->b0b w0 u x.list->Inv i C->Cst w0 cl l A C W->Calls Tryz.prog F #[.pointer (some ⟨A.g,0,none⟩),.agg #[.int .i64 x.kind,.string (bs x.name),.string (bs x.other),u,.bool x.am.n,.string (bs x.am.a),.string (bs x.am.b),.int .i64 x.at_]] W fun e W'=>∃ (er:Int) (C':CCo),e=.returned (.int .i64 er)/\Cst w0 cl l A C' W'/\ErrS cl l s i er/\(er=0->Inv (i+1) C')) :
  Calls Tryz.prog 22 #[.pointer (some ⟨A.g,0,none⟩),.func (.func F) #[.pointer (some ⟨A.g,0,none⟩)] #[]] w fun e w'=>∃ (i:Nat) (er:Int) (C':CCo),e=.returned (.tuple #[.int .i64 (i:Nat),.int .i64 er])/\Cst w0 cl l A C' w'/\((er=0/\i=0/\Inv l.length C'/\Pass cl l s)\/Fail cl l s i er):=by
 obtain⟨g,v1,v2,mc,mk,ml,nc,vb,vp,vr,gsb,gsp,ex⟩:=A
 have HST:=zh hst
 have HD:=zh (show ∀w',Below w.heap.size w w'->∀ (j:Nat) (v:Value),[v1,v2,.map (some mc),.map (some mk),vb,vp,.map (some ml),vr][j]? =some v->w'.cell? ⟨g,j,none⟩=some v from fun w' hb=>Cst.rd (Cst.below h hb))
 have HS:Hid (St w0 [] w):=zh (h.st.sub (List.nil_sublist _))
 have hv2:=h.h2
 dsimp only at hv2
 obtain⟨A2,c2,rfl,_,_⟩:=hv2.slice
 have HV:=zh hv2
 have HC0:=zh h
 have HI0:=zh hI
 have LL:=zh hl
 clear h hI hl hst hv2
 dsimp only
 go_enter Tryz.func22,Tryz.ntmps22
 have x1:=HD.out _ (Below.refl _ _) 1 _ rfl
 go_wp2
 go_loopw [14] (fun i_ wr=>∃ (k:Nat) (C:CCo),k<=l.length/\i_=.int .i64 k/\Hid (Inv k C)/\Hid (∀j,j<k->ErrS cl l s j 0)/\Hid (Cst w0 cl l ⟨g,v1,.slice A2 l.length c2,mc,mk,ml,nc,vb,vp,vr,gsb,gsp,ex⟩ C wr)) (fun i_ _=>l.length-(intOf i_).toNat)
 case atStart=>exact⟨0,C,Nat.zero_le _,rfl,HI0.out,(fun j h=>absurd h (Nat.not_lt_zero _)),HC0.out⟩
 case round =>
  clear HI0 HC0 HD HS
  obtain⟨k,C1,hk,rfl,HI,HE,HC⟩:=hrel
  have HS:=zh (HC.out.st.sub (List.nil_sublist _))
  by_cases hlt:k<l.length
  ·obtain⟨b,o,x,u,rfl,hbb,hq,hu,hx⟩:=HV.out.at_ hlt
   obtain⟨A5,c5,rfl,hl5,hl6⟩:=hu.slice
   unfold CRow.enc at hx
   dsimp only at hx
   have HX:=zh hx
   have HQ:=zh hq
   have HU:=zh hu
   have e1:(0:Int)<=((k:Nat):Int):=by omega
   have e2:((k:Nat):Int)<(l.length:Int):=by omega
   have e3:decide (((k:Nat):Int)<(l.length:Int))=true:=decide_eq_true e2
   have i5:IntKind.i64.wrap ((k:Int)+1)=((k+1:Nat):Int):=by have:=LL.out;rw[IntWalk.i64_in _ (by omega)];rfl
   clear hq hu hx
   have x2:b<wr.heap.size:=Nat.lt_of_lt_of_le hbb HS.out.below.size
   have x3:¬b=wr.heap.size:=by omega
   obtain⟨x4,x5,x6⟩:=kE0 (HX.out _ HS.out.below) rfl rfl rfl
   have x7:=HX.out _ HS.out.below 3 _ rfl
   obtain⟨x8,x9,x10⟩:=kE4 (HX.out _ HS.out.below) rfl rfl rfl
   have x11:=HX.out _ HS.out.below 7 _ rfl
   go_wp2_with fail
   have HS2:=aL HS #[.int .i64 x.kind,.string (bs x.name),.string (bs x.other),.slice A5 x.list.length c5,.bool x.am.n,.string (bs x.am.a),.string (bs x.am.b),.int .i64 x.at_] 51 wr.heap.size
   refine(HST.out k x _ C1 _ HQ.out HU.out HI.out (HC.out.below (Ext.alloc (Below.refl wr.heap.size wr) (Obj.cells #[.int .i64 x.kind,.string (bs x.name),.string (bs x.other),.slice A5 x.list.length c5,.bool x.am.n,.string (bs x.am.a),.string (bs x.am.b),.int .i64 x.at_] 51)))).mono ?_
   rintro e w3 ⟨er3,C3,rfl,hC3,hE3,hI3⟩
   have hst3:=hC3.st.sub (List.nil_sublist _)
   have HS3:Hid (St w0 [] w3):=zh hst3
   clear hst3 HS HS2 HC
   have HC3:=zh hC3
   have HE3:=zh hE3
   have HI3:=zh hI3
   clear hC3 hE3 hI3 x2 x3 x4 x5 x6 x7 x8 x9 x10 x11
   go_upto_if 23 with fail
   by_cases he:er3=0
   ·have d1:(er3 != 0)=false:=by rw[he];rfl
    have R:=zh (HI3.out he)
    have R2:=zh (he▸HE3.out)
    clear he
    go_wp2
    go_roundw
    case rel=>exact⟨k+1,C3,by omega,by go_num,R.out,(fun j hj=>(Nat.lt_or_ge j k).elim (HE.out j) (fun h=>(show k=j by omega)▸R2.out)),HC3.out⟩
    case measure=>simp[intOf];omega
   have d1:(er3 != 0)=true:=bne_iff_ne.2 he
   have HNE:=zh he
   clear he
   go_wp2
   go_ret2
   exact⟨k,er3,C3,rfl,HC3.out,.inr ⟨hlt,HNE.out,HE3.out,HE.out⟩⟩
  obtain rfl:k=l.length:=by omega
  have e2:decide (((l.length:Nat):Int)<(l.length:Int))=false:=decide_eq_false (by omega)
  go_wp2
  go_ret2
  exact⟨0,0,C1,rfl,HC.out,.inl ⟨rfl,rfl,HI.out,HE.out⟩⟩
structure Full(w0:World)(l:List Cls)(C:CCo):Prop where
 has:∀s,C.Sk s=(a0q l s).isSome
 val:∀s,C.Sk s=true->b0b w0 (C.fk s) (memb l s)
theorem Full.list{w0:World}{l:List Cls}{C:CCo}(h:Full w0 l C)(s:List UInt8):b0b w0 (if C.Sk s then C.fk s else .slice none 0 0) (memb l s):=by
 cases hs:C.Sk s with
 | true=>rw[if_pos rfl];exact h.val s hs
 | false =>
  rw[if_neg (by decide)]
  have h2:=h.has s
  rw[hs]at h2
  have h3:memb l s=[]:=by
   unfold memb
   cases hc:a0q l s with
   | none=>rfl
   | some i=>rw[hc]at h2;cases h2
  rw[h3]
  exact Slc.nil_ _ _ _ none 0 (by decide)
def ColG(l:List Cls)(A:CAd)(W:World)(m:Nat):Prop:=∀ (F:List UInt8->Bool) (s:List UInt8) (b n:Nat) (w:World),a6h l F=m->Below W.heap.size W w->RMap Tryz.prog 9 strL w b n F (fun _=>.bool true)->W.heap.size<=b->n+a6h l F<=1000000->s.length<=maxLen ->
 Calls Tryz.prog 41 #[.pointer (some ⟨A.g,0,none⟩),.string (bs s),.map (some b)] w fun e w'=>e=.returned (.tuple #[])/\∃ (F':List UInt8->Bool) (n':Nat),ColS l s F F'/\RMap Tryz.prog 9 strL w' b n' F' (fun _=>.bool true)/\n'+a6h l F'<=n+a6h l F/\w.grownBy w' (some b)
theorem a9d{w0:World}{cl:List Nmd}{l:List Cls}{A:CAd}{C:CCo}{W:World}(h:Cst w0 cl l A C W)(hF:Full w0 l C)(hlen:∀x∈allN l,x.length<=maxLen)(m:Nat)(ih:∀m',m'<m->ColG l A W m'):ColG l A W m:=by
 intro F s b n w hm hb hM hge hn hs
 obtain⟨g,v1,v2,mc,mk,ml,nc,vb,vp,vr,gsb,gsp,ex⟩:=A
 have HD:=zh (show ∀w',Below W.heap.size W w'->∀ (j:Nat) (v:Value),[v1,v2,.map (some mc),.map (some mk),vb,vp,.map (some ml),vr][j]? =some v->w'.cell? ⟨g,j,none⟩=some v from fun w' hb=>Cst.rd (Cst.below h hb))
 have HK:=zh (h.mkb.below hb)
 have hz:=Slc.below (hF.list s) (Ext.trans h.st.below hb)
 have hlenm:∀x∈memb l s,x.length<=maxLen:=fun x hx=>hlen x (b4n hx)
 have IH:=zh ih
 have HM:=zh hM
 have HS:Hid (St W [] w):=zh (St.of hb)
 have HG:=zh hge
 have HN:=zh hn
 have HL:=zh hs
 have HW:=zh hm
 have hz0:b0b W (if C.Sk s then C.fk s else .slice none 0 0) (memb l s):=Slc.below (hF.list s) h.st.below
 clear h hF hlen ih hM hb hn hs hm hz
 dsimp only at HK ⊢
 have HCJ:=zh (ColJ.start l s F)
 have hdone:=fun G=>@ColJ.done l s F G
 have hnew:=fun G G' j m=>@ColJ.new l s F G G' j m
 have hold:=fun G j m=>@ColJ.old l s F G j m
 have hmem:∀ (j:Nat) (x:List UInt8),(memb l s)[j]? =some x->Mem l s x:=fun j x hx=>List.mem_of_getElem? hx
 obtain⟨y,hy⟩:∃y:Value,y=if C.Sk s then C.fk s else .slice none 0 0:=⟨_,rfl⟩
 rw[<- hy]at hz0
 obtain⟨ms,hms⟩:∃ms,ms=memb l s:=⟨_,rfl⟩
 rw[<- hms]at hz0 hlenm hdone hnew hold hmem
 obtain⟨A5,c5,rfl,hl5,hl6⟩:=hz0.slice
 have HY:Hid ((if C.Sk s then C.fk s else .slice none 0 0)=.slice A5 ms.length c5):=hy.symm
 have HQ:Hid (C.Sk s=C.Sk s):=rfl
 have HZ:=zh hz0
 have HLM:=zh hlenm
 have HDN:=zh hdone
 have HNW:=zh hnew
 have HOL:=zh hold
 have HMM:=zh hmem
 have L5:=zh (Nat.le_trans hl5 hl6)
 clear hy hms hz0 hlenm hdone hnew hold hmem hl5 hl6
 go_enter Tryz.func41,Tryz.ntmps41
 have x1:=HD.out _ HS.out.below 3 _ rfl
 go_wp2_with (at_lookup;refine a2b rfl _ _ 66 rfl 9 49 a2r Tryz.underlying66 (b0w _) HK.out (by simp[Act.eval]) (s) (by simp[Act.eval,strV]) HL.out (.slice A5 ms.length c5) (HY.out) ?_)
 clear x1
 go_wp2
 go_loopw [15] (fun i_ wr=>∃ (k:Nat) (G:List UInt8->Bool) (n1:Nat),k<=ms.length/\i_=.int .i64 k/\Hid (ColJ l s F k G)/\Hid (RMap Tryz.prog 9 strL wr b n1 G (fun _=>.bool true))/\Hid (n1+a6h l G<=n+a6h l F)/\Hid (w.grownBy wr (some b))/\Hid (St W [] wr)) (fun i_ _=>ms.length-(intOf i_).toNat)
 case atStart=>exact⟨0,F,n,Nat.zero_le _,rfl,HCJ.out,HM.out,Nat.le_refl _,World.grownBy.refl _ _,HS.out⟩
 case round =>
  clear HCJ HM HS HK HY HQ
  obtain⟨k,G,n1,hk,rfl,HJ,HM,HNN,HGR,HS⟩:=hrel
  by_cases hlt:k<ms.length
  ·obtain⟨b5,o5,x,rfl,hb5,hq,hx⟩:=HZ.out.at_ hlt
   simp only[Nat.mul_one]at hx
   have HX:=zh hx
   have HQ:=zh hq
   have HXL:=zh (HLM.out x (List.mem_of_getElem? hq))
   have e1:(0:Int)<=((k:Nat):Int):=by omega
   have e2:((k:Nat):Int)<(ms.length:Int):=by omega
   have e3:decide (((k:Nat):Int)<(ms.length:Int))=true:=decide_eq_true e2
   have i5:IntKind.i64.wrap ((k:Int)+1)=((k+1:Nat):Int):=by have:=L5.out;rw[IntWalk.i64_in _ (by omega)];rfl
   clear hq hx
   cases hg:G x
   ·have GQ:=zh hg
    clear hg
    have x2:=HX.out _ HS.out.below 0 _ rfl
    rw[Nat.add_zero]at x2
    have hN1:n1<maxLen:=by have h1:=HNN.out;have h2:=HN.out;unfold maxLen;omega
    go_wp2_with (first | (at_lookup;refine a2b rfl _ _ 96 rfl 9 4 a2r Tryz.underlying96 (a4k _) HM.out (by simp[Act.eval]) (x) (by simp[Act.eval,strV]) HXL.out (.bool false) (by rw[GQ.out];rfl) ?_) | (at_mapUpdate;refine a3k rfl _ _ _ 96 rfl 9 4 a2r Tryz.underlying96 HM.out (hN1) (by simp[Act.eval]) (x) (by simp[Act.eval,strV]) HXL.out (.bool true) (by simp[Act.eval]) ?_;intro w9 hM9 hg9))
    have HM9:=zh (hM9.congr (S':=putN G x) (f':=fun _=>.bool true) (fun q=>by unfold putK putN;congr 1;rw[Bool.eq_iff_iff];simp) (fun q _=>by unfold putV;split<;>rfl))
    have HS9:Hid (St W [] w9):=zh (HS.out.turnedR hg9 HG.out (fun _ h=>by cases h))
    have HG9:=zh (b5z HGR.out hg9)
    have HNP:=zh (d0z (HMM.out k x HQ.out) GQ.out)
    clear hM9 hg9 hN1 HS HM HGR x2
    skip
    refine(IH.out (a6h l (putN G x)) (by have h1:=HNP.out;have h2:=HW.out;have h3:=HNN.out;have h4:=c8f (l:=l) (F:=F) (G:=G) HJ.out.1;omega) (putN G x) x b (n1+1) _ rfl HS9.out.below HM9.out HG.out (by have h1:=HNP.out;have h2:=HNN.out;have h3:=HN.out;omega) HXL.out).mono ?_
    rintro e w2 ⟨rfl,F2,n2,hCol2,hM2,hle2,hg2⟩
    have hst2:St W [] w2:=HS9.out.turnedR hg2 HG.out (fun _ h=>by cases h)
    have HS2:Hid (St W [] w2):=zh hst2
    clear hst2 HS9
    have HCol:=zh hCol2
    have HM:=zh hM2
    have HGR:=zh (b5z HG9.out hg2)
    have HLE:=zh hle2
    clear hCol2 hM2 hle2 hg2 HG9 HM9
    go_wp2
    go_roundw
    case rel=>exact⟨k+1,F2,n2,by omega,by go_num,HNW.out G F2 k x HJ.out HQ.out HCol.out,HM.out,by have h1:=HLE.out;have h2:=HNP.out;have h3:=HNN.out;show _<=_;omega,HGR.out,HS2.out⟩
    case measure=>simp[intOf];omega
   have GQ:=zh hg
   clear hg
   have x2:=HX.out _ HS.out.below 0 _ rfl
   rw[Nat.add_zero]at x2
   go_wp2_with (at_lookup;refine a2b rfl _ _ 96 rfl 9 4 a2r Tryz.underlying96 (a4k _) HM.out (by simp[Act.eval]) (x) (by simp[Act.eval,strV]) HXL.out (.bool true) (by rw[GQ.out];rfl) ?_)
   clear x2
   skip
   go_roundw
   case rel=>exact⟨k+1,G,n1,by omega,by go_num,HOL.out G k x HJ.out HQ.out GQ.out,HM.out,HNN.out,HGR.out,HS.out⟩
   case measure=>simp[intOf];omega
  obtain rfl:k=ms.length:=by omega
  have e2:decide (((ms.length:Nat):Int)<(ms.length:Int))=false:=decide_eq_false (by omega)
  go_wp2
  refine bodyPost_end (results_none rfl _ _ _) rfl ?_
  exact⟨rfl,G,n1,HDN.out G HJ.out,HM.out,HNN.out,HGR.out⟩
theorem a7z{w0:World}{cl:List Nmd}{l:List Cls}{A:CAd}{C:CCo}{W:World}(h:Cst w0 cl l A C W)(hF:Full w0 l C)(hlen:∀x∈allN l,x.length<=maxLen)(m:Nat):ColG l A W m :=
 Nat.strongRecOn m fun m ih=>a9d h hF hlen m ih
theorem b3a{w0:World}{cl:List Nmd}{l:List Cls}{A:CAd}{C:CCo}(x:Cls)(u:Value)(w:World)(h:Cst w0 cl l A C w)(hF:Full w0 l C)(hlen:∀x∈allN l,x.length<=maxLen)(hbig:a6h l (fun _=>false)<=1000000)(hx:x.name.length<=maxLen) :
  Calls Tryz.prog 20 #[.pointer (some ⟨A.g,0,none⟩),.agg #[.int .i64 x.kind,.string (bs x.name),.string (bs x.other),u,.bool x.am.n,.string (bs x.am.a),.string (bs x.am.b),.int .i64 x.at_]] w fun e w'=>∃er:Int,e=.returned (.int .i64 er)/\Err3 l x er/\Below w.heap.size w w':=by
 have hcol:=fun b W hb hM hge=>a7z h hF hlen (a6h l (fun _=>false)) (fun _=>false) x.name b 0 W rfl hb hM hge (by omega) hx
 obtain⟨g,v1,v2,mc,mk,ml,nc,vb,vp,vr,gsb,gsp,ex⟩:=A
 have HC:=zh hcol
 have HXL:=zh hx
 have e0:Err3 l x 0↔¬ (x.kind=1/\Way (Mem l) x.name x.name):=⟨fun h hp=>absurd (h.1 hp) (by decide),fun h=>⟨fun hp=>absurd hp h,fun _=>rfl⟩⟩
 have e17:(x.kind=1/\Way (Mem l) x.name x.name)->Err3 l x 17:=fun h=>⟨fun _=>rfl,fun hp=>absurd h hp⟩
 have E0:=zh e0
 have E17:=zh e17
 have hmm:=@run_makeMap Tryz.prog
 obtain⟨k,hk⟩:∃k,k=x.kind:=⟨_,rfl⟩
 have HKK:=zh hk
 rw[<- hk]
 clear h hF hlen hbig hx hcol e0 e17 hk
 dsimp only
 by_cases k1:k=1
 have HP:=zh (show x.kind=1 by rw[<- HKK.out];exact k1)
 subst k1
 rotate_left
 have HP:=zh (show ¬x.kind=1 by rw[<- HKK.out];exact k1)
 have d1:(k != 1)=true:=bne_iff_ne.2 k1
 clear k1
 rotate_left
 all_goals
   go_enter Tryz.func20,Tryz.ntmps20
   have HS:=zh (St.start w)
 ·go_wp2_with fail
  have HS2:=zh (St.alloc' ((St.alloc (HS.out) #[.int .i64 1,.string (bs x.name),.string (bs x.other),u,.bool x.am.n,.string (bs x.am.a),.string (bs x.am.b),.int .i64 x.at_] 51 (w.heap.size) (by simp))) (Obj.map #[] 0))
  refine(HC.out (w.heap.size+1) _ HS2.out.below (RMap.made _ _ (by simp)) (by omega)).mono ?_
  rintro e w3 ⟨rfl,F3,n3,hCol3,hM3,_,hg3⟩
  have hst3:=HS2.out.turnedR hg3 (by omega) (by intro z hz;rcases List.mem_cons.1 hz with rfl | hz;(show ¬w.heap.size+1=w.heap.size;omega);cases hz)
  have HS3:Hid (St w [⟨w.heap.size,#[.int .i64 1,.string (bs x.name),.string (bs x.other),u,.bool x.am.n,.string (bs x.am.a),.string (bs x.am.b),.int .i64 x.at_],51⟩] w3):=zh hst3
  clear hst3 HS HS2
  have HM3:=zh hM3
  have HCO3:=zh (hCol3.all x.name)
  clear hCol3 hM3 hg3
  cases hq:F3 x.name
  ·have x1:=cC HS3 0 1
   go_wp2_with (at_lookup;refine a2b rfl _ _ 96 rfl 9 4 a2r Tryz.underlying96 (a4k _) HM3.out (by simp[Act.eval]) (x.name) (by simp[Act.eval,strV]) HXL.out (.bool false) (by rw[hq];rfl) ?_)
   clear x1
   go_wp2
   go_ret
   exact⟨0,rfl,E0.out.2 (fun h=>by rw[HCO3.out.2 h.2]at hq;cases hq),HS3.out.below⟩
  have x1:=cC HS3 0 1
  go_wp2_with (at_lookup;refine a2b rfl _ _ 96 rfl 9 4 a2r Tryz.underlying96 (a4k _) HM3.out (by simp[Act.eval]) (x.name) (by simp[Act.eval,strV]) HXL.out (.bool true) (by rw[hq];rfl) ?_)
  clear x1
  go_wp2
  go_ret
  exact⟨17,rfl,E17.out ⟨HP.out,HCO3.out.1 hq⟩,HS3.out.below⟩
 go_wp2
 go_ret
 have HS2:=aL HS #[.int .i64 k,.string (bs x.name),.string (bs x.other),u,.bool x.am.n,.string (bs x.am.a),.string (bs x.am.b),.int .i64 x.at_] 51 w.heap.size
 exact⟨0,rfl,E0.out.2 (fun h=>HP.out h.1),HS2.out.below⟩
end Go.Proofs.YtjmiicjialkpiaaGreatDoor
