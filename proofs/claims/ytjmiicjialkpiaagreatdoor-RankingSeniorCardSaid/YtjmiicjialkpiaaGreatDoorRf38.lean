/-
Part 38 of the base.
-/
import Derived.Test.YtjmiicjialkpiaaGreatDoorRf36
set_option maxRecDepth 100000
set_option maxHeartbeats 4000000
namespace Go.Proofs.YtjmiicjialkpiaaGreatDoor
open Go.RowKit
theorem a2z{w:World}{b o:Nat}{u:Value}(h:w.cell? ⟨b,o,none⟩=some u)(hb:b<w.heap.size):∀w',Below w.heap.size w w'->∀ (j:Nat) (v:Value),[u][j]? =some v->w'.cell? ⟨b,o+j,none⟩=some v:=by
 intro w' hw j v hv
 have hj:j=0:=by have:=(List.getElem?_eq_some_iff.1 hv).1;simpa using this
 subst hj
 obtain rfl:u=v:=by simpa using hv
 exact(hw.cell hb).trans h
def Kp(s:Nat)(w w':World):Prop:=∀ (g:Nat) (cs:Array Value) (t:TypeId),s<=g->Blk w g cs t->Blk w' g cs t
theorem Kp.refl(s:Nat)(w:World):Kp s w w:=fun _ _ _ _ h=>h
theorem Kp.trans{s:Nat}{a b c:World}(h:Kp s a b)(h':Kp s b c):Kp s a c:=fun g cs t hg hB=>h' g cs t hg (h g cs t hg hB)
theorem Kp.below{s:Nat}{a b:World}(h:Below a.heap.size a b):Kp s a b:=fun _ _ _ _ hB=>hB.below h hB.lt
theorem Kp.set{s b o:Nat}{w w':World}(h:Kp s w w')(hb:b<s)(v:Value):Kp s w (w'.setCell ⟨b,o,none⟩ v):=fun g cs t hg hB=>(h g cs t hg hB).far (p:=⟨b,o,none⟩) (show g≠b by omega) v
theorem Kp.grown{s m:Nat}{a b c:World}(h:Kp s a b)(hg:b.grownBy c (some m))(hm:m<s):Kp s a c:=fun g cs t hg' hB=>(hg.block g (h g cs t hg' hB).lt (fun e=>by have:=Option.some.inj e;omega)).trans (h g cs t hg' hB)
theorem Kp.own{s base k n:Nat}{w w':World}{e:TypeId}{v:Value}{xs:List Value}(h:Kp s w w')(hs:s<=base)(ho:World.ownsRow w base e k v n xs):World.ownsRow w' base e k v n xs:=by
 refine⟨ho.1,?_⟩
 rcases ho.2 with h0 | ⟨g,cap,cur,h1,h2,h3,h4⟩
 ·exact .inl h0
 exact .inr ⟨g,cap,cur,h1,h2,h g cur e (Nat.le_trans hs h2) h3,h4⟩
def CAd.under(A:CAd)(s:Nat):Prop:=(∀g,g∈A.gsb->g<s)/\(∀g,g∈A.gsp->g<s)/\A.ml<s/\∀g o n c,A.vr=.slice (some ⟨g,o,none⟩) n c->g<s
theorem Cst.under{w0 w:World}{cl:List Nmd}{l:List Cls}{A:CAd}{C:CCo}(h:Cst w0 cl l A C w):A.under w.heap.size:=by
 refine⟨fun g hg=>?_,fun g hg=>?_,h.ml.lt,fun g o n c hv=>?_⟩
 ·obtain⟨i,hi,rfl⟩:=List.mem_iff_getElem.1 hg
  have:=(h.blkB (i:=i) (by rw[<- h.lb];exact hi)).lt
  rwa[List.getD_eq_getElem?_getD,List.getElem?_eq_getElem hi]at this
 ·obtain⟨i,hi,rfl⟩:=List.mem_iff_getElem.1 hg
  have:=(h.blkP (i:=i) (by rw[<- h.lp];exact hi)).lt
  rwa[List.getD_eq_getElem?_getD,List.getElem?_eq_getElem hi]at this
 have:=(World.ownsRow.lt h.or_ g (by rw[hv];rfl)).2
 exact this
theorem under_b{A:CAd}{s i:Nat}(h:A.under s)(hi:i<A.gsb.length):A.gsb.getD i 0<s:=h.1 _ (by rw[List.getD_eq_getElem?_getD,List.getElem?_eq_getElem hi];exact List.getElem_mem hi)
theorem under_p{A:CAd}{s i:Nat}(h:A.under s)(hi:i<A.gsp.length):A.gsp.getD i 0<s:=h.2.1 _ (by rw[List.getD_eq_getElem?_getD,List.getElem?_eq_getElem hi];exact List.getElem_mem hi)
def ConR(w0:World)(cl:List Nmd)(l:List Cls)(A:CAd)(C:CCo)(r:Nat->Nat->Prop)(a b s:Nat)(w:World)(e:Ending)(w':World):Prop:=∃ (q:Bool) (B:Nat->Nat->Bool),e=.returned (.bool q)/\Cst w0 cl l A {C with B:=B,P:=putM C.P a b true} w'/\(∀x y,x<cl.length->y<cl.length->(B x y=true↔Way (addR r a b) x y))/\(q=true↔Way (addR r a b) a a\/a=b)/\Kp s w w'
theorem b4b{w0:World}{cl:List Nmd}{l:List Cls}{A:CAd}{C:CCo}(r:Nat->Nat->Prop)(a b s:Nat)(w:World)(h:Cst w0 cl l A C w)(ha:a<cl.length)(hb:b<cl.length)(hB:∀x y,x<cl.length->y<cl.length->(C.B x y=true↔Way r x y))(hcl:cl.length<=1000)(hU:A.under s) :
  Calls Tryz.prog 44 #[.pointer (some ⟨A.g,0,none⟩),.int .i64 (a:Nat),.int .i64 (b:Nat)] w (ConR w0 cl l A C r a b s w):=by
 obtain⟨gb,cb,hvb,_,hgb,_,fb⟩:=h.formB (by omega)
 obtain⟨gp,cp,hvp,_,hgp,_,fp⟩:=h.formP (by omega)
 obtain⟨A1,c1,hv1,_,_⟩:=h.n1.slice
 have hcx:=Cnx.start (n:=cl.length) (a:=a) (b:=b) hB
 have hpp:=h.setP ha true (k:=b)
 have hfz:=h.st.frozen _ (CAd.atP (C:=C) (n:=cl.length) (show a<A.gsp.length by rw[h.lp];exact ha)) b
 have hne:=h.st.ne 0 _ rfl (CAd.atP (C:=C) (n:=cl.length) (show a<A.gsp.length by rw[h.lp];exact ha)) (by omega)
 have hga:=(h.blkP ha).lt
 have hP:=h.atP ha hb
 have hfa:=fp a ha
 have hkp:=(Kp.refl s w).set (o:=b) (under_p hU (show a<A.gsp.length by rw[h.lp];exact ha)) (.bool true)
 have hub:=fun i (hi:i<cl.length)=>under_b hU (show i<A.gsb.length by rw[h.lb];exact hi)
 obtain⟨g,v1,v2,mc,mk,ml,nc,vb,vp,vr,gsb,gsp,ex⟩:=A
 dsimp only at hvb hvp hv1 hub
 subst hvb hvp hv1
 have HD:=zh (show ∀w',Below w.heap.size w w'->∀ (j:Nat) (v:Value),[.slice A1 cl.length c1,v2,.map (some mc),.map (some mk),.slice (some ⟨gb,0,none⟩) cl.length cb,.slice (some ⟨gp,0,none⟩) cl.length cp,.map (some ml),vr][j]? =some v->w'.cell? ⟨g,j,none⟩=some v from fun w' hb=>Cst.rd (Cst.below h hb))
 have HS:Hid (St w0 [] w):=zh (h.st.sub (List.nil_sublist _))
 have hg:=h.lt
 dsimp only at hpp hfz hne hga hP hfa hg hkp ⊢
 obtain⟨gpa,hgpa⟩:∃x,x=gsp.getD a 0:=⟨_,rfl⟩
 rw[<- hgpa]at hpp hfz hne hga hP hfa hkp
 obtain⟨n,hn⟩:∃n,n=cl.length:=⟨_,rfl⟩
 rw[<- hn]at HD hpp hfa hcx ha hb hcl hB hub
 have HP0:=zh (a2z hfa hgp)
 have HPA:=zh (a2z hP hga)
 have HFZ:=zh hfz
 have HNE:=zh hne
 have HPP:=zh hpp
 have HKP:=zh hkp
 have HUB:=zh hub
 have HCX:=zh hcx
 have HNA:=zh hn
 have LN:=zh hcl
 have a1:(0:Int)<=((a:Nat):Int):=by omega
 have a2:((a:Nat):Int)<(n:Int):=by omega
 have b1:(0:Int)<=((b:Nat):Int):=by omega
 have b2:((b:Nat):Int)<(n:Int):=by omega
 clear h hkp hub hU hfz hne hpp hcx hP hfa fb fp hgpa hB hcl hn
 go_enter Tryz.func44,Tryz.ntmps44
 have x1:=HD.out _ (Below.refl _ _) 5 _ rfl
 have x2:=HP0.out _ (Below.refl _ _) 0 _ rfl
 rw[Nat.add_zero]at x2
 have x3:=HD.out _ (Below.refl _ _) 0 _ rfl
 have z1:=HFZ.out
 have z2:=HNE.out
 have z3:¬gpa=g:=fun e=>z2 e.symm
 have z4:=HPA.out _ (Below.refl _ _) 0 _ rfl
 rw[Nat.add_zero]at z4
 go_wp2
 go_loopw [25] (fun i_ wr=>∃ (i:Nat) (B:Nat->Nat->Bool),i<=n/\i_=.int .i64 i/\Hid (Cnx r n a b i 0 B)/\Hid (Cst w0 cl l ⟨g,.slice A1 n c1,v2,mc,mk,ml,nc,.slice (some ⟨gb,0,none⟩) n cb,.slice (some ⟨gp,0,none⟩) n cp,vr,gsb,gsp,ex⟩ {C with B:=B,P:=putM C.P a b true} wr)/\Hid (Kp s w wr)) (fun i_ _=>n-(intOf i_).toNat)
 case atStart=>exact⟨0,C.B,Nat.zero_le _,rfl,HCX.out,HPP.out,HKP.out⟩
 case round =>
  clear HPP HCX HKP HS HD HPA HP0 HFZ HNE
  obtain⟨i,B,hi,rfl,HN,HC,HK⟩:=hrel
  have HS:=zh (HC.out.st.sub (List.nil_sublist _))
  by_cases hin:i<n
  ·have i1:(0:Int)<=((i:Nat):Int):=by omega
   have i2:((i:Nat):Int)<(n:Int):=by omega
   have i3:decide (((i:Nat):Int)<(n:Int))=true:=decide_eq_true i2
   have i5:IntKind.i64.wrap ((i:Int)+1)=((i+1:Nat):Int):=by have:=LN.out;rw[IntWalk.i64_in _ (by omega)];rfl
   go_wp2
   go_loopw [29] (fun k_ wr=>∃ (k:Nat) (B:Nat->Nat->Bool),k<=n/\k_=.int .i64 k/\Hid (Cnx r n a b i k B)/\Hid (Cst w0 cl l ⟨g,.slice A1 n c1,v2,mc,mk,ml,nc,.slice (some ⟨gb,0,none⟩) n cb,.slice (some ⟨gp,0,none⟩) n cp,vr,gsb,gsp,ex⟩ {C with B:=B,P:=putM C.P a b true} wr)/\Hid (Kp s w wr)) (fun k_ _=>n-(intOf k_).toNat)
   case atStart=>exact⟨0,B,Nat.zero_le _,rfl,HN.out,HC.out,HK.out⟩
   case round =>
    clear HS HN HC HK
    obtain⟨k,B2,hk,rfl,HN,HC,HK⟩:=hrel
    have HS:=zh (HC.out.st.sub (List.nil_sublist _))
    by_cases hkn:k<n
    ·have k1:(0:Int)<=((k:Nat):Int):=by omega
     have k2:((k:Nat):Int)<(n:Int):=by omega
     have k3:decide (((k:Nat):Int)<(n:Int))=true:=decide_eq_true k2
     have k5:IntKind.i64.wrap ((k:Int)+1)=((k+1:Nat):Int):=by have:=LN.out;rw[IntWalk.i64_in _ (by omega)];rfl
     have HD:=zh (show ∀w',Below wr.heap.size wr w'->∀ (j:Nat) (v:Value),[.slice A1 n c1,v2,.map (some mc),.map (some mk),.slice (some ⟨gb,0,none⟩) n cb,.slice (some ⟨gp,0,none⟩) n cp,.map (some ml),vr][j]? =some v->w'.cell? ⟨g,j,none⟩=some v from fun w' hb=>Cst.rd (Cst.below HC.out hb))
     obtain⟨gbi,hgbi⟩:∃x,x=gsb.getD i 0:=⟨_,rfl⟩
     obtain⟨gbb,hgbb⟩:∃x,x=gsb.getD b 0:=⟨_,rfl⟩
     have hg9:=HC.out.lt
     dsimp only at hg9
     have hnc:=HNA.out
     have hgb9:gb<wr.heap.size:=(World.ownsRow.lt HC.out.ob gb rfl).2
     have hci:=b4g HC.out.ob (by omega) HC.out.lb
     obtain⟨go,cap,hgo,_,_,_,fb⟩:=hci
     injection hgo with hgo hgn hgc
     subst hgc
     clear hgn
     injection hgo with hgo
     injection hgo with hgo _
     subst hgo
     have fbi:=fb i (by omega)
     have fbb:=fb b (by omega)
     have gib:gbi<wr.heap.size:=by rw[hgbi];exact(HC.out.blkB (by omega)).lt
     have gbbb:gbb<wr.heap.size:=by rw[hgbb];exact(HC.out.blkB (by omega)).lt
     have fx:=HC.out.atB (i:=i) (k:=a) (by omega) (by omega)
     have fy:=HC.out.atB (i:=b) (k:=k) (by omega) (by omega)
     have fz:=HC.out.st.frozen _ (CAd.atB (C:=_) (n:=cl.length) (show i<gsb.length by rw[HC.out.lb];omega)) k
     have fw:=HC.out.atB (i:=i) (k:=k) (by omega) (by omega)
     dsimp only at fx fy fz fw
     rw[<- hgbi]at fbi fx fz fw
     rw[<- hgbb]at fbb fy
     rw[<- hnc]at fbi fbb
     have FBI:=zh (a2z fbi hgb9)
     have FBB:=zh (a2z fbb hgb9)
     have FX:=zh (a2z fx gib)
     have FY:=zh (a2z fy gbbb)
     have FZ:=zh fz
     have FW:=zh (a2z fw gib)
     have FGI:=zh hgbi
     clear fbi fbb fb fx hgb9 hgbi hgbb fy fz fw
     have HNN:=zh HN.out.new
     have HNO:=zh HN.out.old
     obtain⟨qa,hqa⟩:∃q,q=B2 i a:=⟨_,rfl⟩
     obtain⟨qb,hqb⟩:∃q,q=B2 b k:=⟨_,rfl⟩
     rw[<- hqa]at FX
     rw[<- hqb]at FY
     have QA:=zh hqa
     have QB:=zh hqb
     clear hqa hqb
     by_cases hia:i=a
     ·subst i
      by_cases hkb:k=b
      ·subst k
       have x4:=HD.out _ (Below.refl _ _) 4 _ rfl
       have x5:=FBI.out _ (Below.refl _ _) 0 _ rfl
       rw[Nat.add_zero]at x5
       have z1:=FZ.out
       have z4:=FW.out _ (Below.refl _ _) 0 _ rfl
       rw[Nat.add_zero]at z4
       go_wp2
       go_roundw
       case rel=>exact⟨b+1,putM B2 a b true,by omega,by go_num,HNN.out (by omega) (by omega) (by omega) (by omega) (.inl rfl) (.inl rfl),by rw[FGI.out];exact HC.out.setB (by omega) true,by rw[FGI.out];exact HK.out.set (HUB.out _ (by omega)) _⟩
       case measure=>simp[intOf];omega
      have d5:(((k:Nat):Int)==((b:Nat):Int))=false:=by rw[beq_eq_false_iff_ne];omega
      have d5':(k==b)=false:=by rw[beq_eq_false_iff_ne];omega
      have HKB:=zh hkb
      clear hkb
      cases qb
      ·have x4:=HD.out _ (Below.refl _ _) 4 _ rfl
       have x5:=FBB.out _ (Below.refl _ _) 0 _ rfl
       rw[Nat.add_zero]at x5
       have x6:=FY.out _ (Below.refl _ _) 0 _ rfl
       rw[Nat.add_zero]at x6
       go_wp2
       go_roundw
       case rel=>exact⟨k+1,B2,by omega,by go_num,HNO.out (by omega) (by omega) (by omega) (by omega) (fun h=>by rcases h.2 with h | h;exact HKB.out h;(have:=QB.out.trans h;cases this)),HC.out,HK.out⟩
       case measure=>simp[intOf];omega
      have x4:=HD.out _ (Below.refl _ _) 4 _ rfl
      have x5:=FBB.out _ (Below.refl _ _) 0 _ rfl
      rw[Nat.add_zero]at x5
      have x6:=FY.out _ (Below.refl _ _) 0 _ rfl
      rw[Nat.add_zero]at x6
      have x7:=FBI.out _ (Below.refl _ _) 0 _ rfl
      rw[Nat.add_zero]at x7
      have z1:=FZ.out
      have z4:=FW.out _ (Below.refl _ _) 0 _ rfl
      rw[Nat.add_zero]at z4
      go_wp2
      go_roundw
      case rel=>exact⟨k+1,putM B2 a k true,by omega,by go_num,HNN.out (by omega) (by omega) (by omega) (by omega) (.inl rfl) (.inr QB.out.symm),by rw[FGI.out];exact HC.out.setB (by omega) true,by rw[FGI.out];exact HK.out.set (HUB.out _ (by omega)) _⟩
      case measure=>simp[intOf];omega
     have d4:(((i:Nat):Int)==((a:Nat):Int))=false:=by rw[beq_eq_false_iff_ne];omega
     have d4':(i==a)=false:=by rw[beq_eq_false_iff_ne];omega
     have HIA:=zh hia
     clear hia
     cases qa
     ·have x4:=HD.out _ (Below.refl _ _) 4 _ rfl
      have x5:=FBI.out _ (Below.refl _ _) 0 _ rfl
      rw[Nat.add_zero]at x5
      have x6:=FX.out _ (Below.refl _ _) 0 _ rfl
      rw[Nat.add_zero]at x6
      go_wp2
      go_roundw
      case rel=>exact⟨k+1,B2,by omega,by go_num,HNO.out (by omega) (by omega) (by omega) (by omega) (fun h=>by rcases h.1 with h | h;exact HIA.out h;(have:=QA.out.trans h;cases this)),HC.out,HK.out⟩
      case measure=>simp[intOf];omega
     skip
     by_cases hkb:k=b
     ·subst k
      have x4:=HD.out _ (Below.refl _ _) 4 _ rfl
      have x5:=FBI.out _ (Below.refl _ _) 0 _ rfl
      rw[Nat.add_zero]at x5
      have x6:=FX.out _ (Below.refl _ _) 0 _ rfl
      rw[Nat.add_zero]at x6
      have z1:=FZ.out
      have z4:=FW.out _ (Below.refl _ _) 0 _ rfl
      rw[Nat.add_zero]at z4
      go_wp2
      go_roundw
      case rel=>exact⟨b+1,putM B2 i b true,by omega,by go_num,HNN.out (by omega) (by omega) (by omega) (by omega) (.inr QA.out.symm) (.inl rfl),by rw[FGI.out];exact HC.out.setB (by omega) true,by rw[FGI.out];exact HK.out.set (HUB.out _ (by omega)) _⟩
      case measure=>simp[intOf];omega
     have d5:(((k:Nat):Int)==((b:Nat):Int))=false:=by rw[beq_eq_false_iff_ne];omega
     have d5':(k==b)=false:=by rw[beq_eq_false_iff_ne];omega
     have HKB:=zh hkb
     clear hkb
     cases qb
     ·have x4:=HD.out _ (Below.refl _ _) 4 _ rfl
      have x5:=FBI.out _ (Below.refl _ _) 0 _ rfl
      rw[Nat.add_zero]at x5
      have x6:=FX.out _ (Below.refl _ _) 0 _ rfl
      rw[Nat.add_zero]at x6
      have x7:=FBB.out _ (Below.refl _ _) 0 _ rfl
      rw[Nat.add_zero]at x7
      have x8:=FY.out _ (Below.refl _ _) 0 _ rfl
      rw[Nat.add_zero]at x8
      go_wp2
      go_roundw
      case rel=>exact⟨k+1,B2,by omega,by go_num,HNO.out (by omega) (by omega) (by omega) (by omega) (fun h=>by rcases h.2 with h | h;exact HKB.out h;(have:=QB.out.trans h;cases this)),HC.out,HK.out⟩
      case measure=>simp[intOf];omega
     have x4:=HD.out _ (Below.refl _ _) 4 _ rfl
     have x5:=FBI.out _ (Below.refl _ _) 0 _ rfl
     rw[Nat.add_zero]at x5
     have x6:=FX.out _ (Below.refl _ _) 0 _ rfl
     rw[Nat.add_zero]at x6
     have x7:=FBB.out _ (Below.refl _ _) 0 _ rfl
     rw[Nat.add_zero]at x7
     have x8:=FY.out _ (Below.refl _ _) 0 _ rfl
     rw[Nat.add_zero]at x8
     have z1:=FZ.out
     have z4:=FW.out _ (Below.refl _ _) 0 _ rfl
     rw[Nat.add_zero]at z4
     go_wp2
     go_roundw
     case rel=>exact⟨k+1,putM B2 i k true,by omega,by go_num,HNN.out (by omega) (by omega) (by omega) (by omega) (.inr QA.out.symm) (.inr QB.out.symm),by rw[FGI.out];exact HC.out.setB (by omega) true,by rw[FGI.out];exact HK.out.set (HUB.out _ (by omega)) _⟩
     case measure=>simp[intOf];omega
    obtain hke:k=n:=by omega
    have k3:decide (((n:Nat):Int)<(n:Int))=false:=decide_eq_false (by omega)
    rw[hke]at HN ⊢
    go_wp2
    go_roundw
    case rel=>exact⟨i+1,B2,by omega,by go_num,HN.out.row,HC.out,HK.out⟩
    case measure=>simp[intOf];omega
  obtain hie:i=n:=by omega
  have i3:decide (((n:Nat):Int)<(n:Int))=false:=decide_eq_false (by omega)
  rw[hie]at HN ⊢
  have HD:=zh (show ∀w',Below wr.heap.size wr w'->∀ (j:Nat) (v:Value),[.slice A1 n c1,v2,.map (some mc),.map (some mk),.slice (some ⟨gb,0,none⟩) n cb,.slice (some ⟨gp,0,none⟩) n cp,.map (some ml),vr][j]? =some v->w'.cell? ⟨g,j,none⟩=some v from fun w' hb=>Cst.rd (Cst.below HC.out hb))
  obtain⟨gbi,hgbi⟩:∃x,x=gsb.getD a 0:=⟨_,rfl⟩
  obtain⟨gbb,hgbb⟩:∃x,x=gsb.getD b 0:=⟨_,rfl⟩
  have hg9:=HC.out.lt
  dsimp only at hg9
  have hnc:=HNA.out
  have hgb9:gb<wr.heap.size:=(World.ownsRow.lt HC.out.ob gb rfl).2
  have hci:=b4g HC.out.ob (by omega) HC.out.lb
  obtain⟨go,cap,hgo,_,_,_,fb⟩:=hci
  injection hgo with hgo hgn hgc
  subst hgc
  clear hgn
  injection hgo with hgo
  injection hgo with hgo _
  subst hgo
  have fbi:=fb a (by omega)
  have fbb:=fb b (by omega)
  have gib:gbi<wr.heap.size:=by rw[hgbi];exact(HC.out.blkB (by omega)).lt
  have gbbb:gbb<wr.heap.size:=by rw[hgbb];exact(HC.out.blkB (by omega)).lt
  have fx:=HC.out.atB (i:=a) (k:=a) (by omega) (by omega)
  dsimp only at fx
  rw[<- hgbi]at fbi fx
  rw[<- hgbb]at fbb
  rw[<- hnc]at fbi fbb
  have FBI:=zh (a2z fbi hgb9)
  have FBB:=zh (a2z fbb hgb9)
  have FX:=zh (a2z fx gib)
  clear fbi fbb fb fx hgb9 hgbi hgbb
  have HDN:=zh HN.out.done
  obtain⟨qa,hqa⟩:∃q,q=B a a:=⟨_,rfl⟩
  rw[<- hqa]at FX
  have QA:=zh hqa
  clear hqa hie hi hin
  cases qa
  ·by_cases hab:a=b
   ·subst b
    have x4:=HD.out _ (Below.refl _ _) 4 _ rfl
    have x5:=FBI.out _ (Below.refl _ _) 0 _ rfl
    rw[Nat.add_zero]at x5
    have x6:=FX.out _ (Below.refl _ _) 0 _ rfl
    rw[Nat.add_zero]at x6
    go_wp2
    go_ret
    exact⟨_,B,rfl,(by have hc:=HC.out;rw[HNA.out]at hc;exact hc),by rw[<- HNA.out];exact HDN.out,⟨fun _=>.inr rfl,fun _=>rfl⟩,HK.out⟩
   have d4:(((a:Nat):Int)==((b:Nat):Int))=false:=by rw[beq_eq_false_iff_ne];omega
   have d4':(a==b)=false:=by rw[beq_eq_false_iff_ne];omega
   have HAB:=zh hab
   clear hab
   have x4:=HD.out _ (Below.refl _ _) 4 _ rfl
   have x5:=FBI.out _ (Below.refl _ _) 0 _ rfl
   rw[Nat.add_zero]at x5
   have x6:=FX.out _ (Below.refl _ _) 0 _ rfl
   rw[Nat.add_zero]at x6
   go_wp2
   go_ret
   exact⟨_,B,rfl,(by have hc:=HC.out;rw[HNA.out]at hc;exact hc),by rw[<- HNA.out];exact HDN.out,⟨fun h=>(by cases h),fun h=>by rcases h with h | h;(have:=QA.out.trans ((HDN.out a a (by omega) (by omega)).2 h);cases this);exact absurd h HAB.out⟩,HK.out⟩
  have x4:=HD.out _ (Below.refl _ _) 4 _ rfl
  have x5:=FBI.out _ (Below.refl _ _) 0 _ rfl
  rw[Nat.add_zero]at x5
  have x6:=FX.out _ (Below.refl _ _) 0 _ rfl
  rw[Nat.add_zero]at x6
  go_wp2
  go_ret
  exact⟨_,B,rfl,(by have hc:=HC.out;rw[HNA.out]at hc;exact hc),by rw[<- HNA.out];exact HDN.out,⟨fun _=>.inl ((HDN.out a a (by omega) (by omega)).1 QA.out.symm),fun _=>rfl⟩,HK.out⟩
end Go.Proofs.YtjmiicjialkpiaaGreatDoor
