/-
Part 43 of the base.
-/
import Derived.Test.YtjmiicjialkpiaaGreatDoorRf42
set_option maxRecDepth 100000
set_option maxHeartbeats 4000000
namespace Go.Proofs.YtjmiicjialkpiaaGreatDoor
open Go.RowKit
theorem Lv.lt{r:Nat->Nat->Prop}{n:Nat}{lev:Nat->Nat}(hb:∀i j,r i j->i<n/\j<n)(hl:Lv r n lev){j:Nat}(hj:j<n):lev j<n:=by
 have hdown:∀d,d<=lev j->∃i,i<n/\lev i=lev j-d:=by
  intro d
  induction d with
  | zero=>exact fun _=>⟨j,hj,rfl⟩
  | succ d ih =>
   intro hd
   obtain⟨i,h1,h3⟩:=ih (by omega)
   rcases hl.2 i h1 with h0 | ⟨u,h4,h5⟩
   ·omega
   exact⟨u,(hb _ _ h4).1,by omega⟩
 have hall:∀t,t<=lev j->∃i,i<n/\lev i=t:=fun t ht=>by
  obtain⟨i,h1,h2⟩:=hdown (lev j-t) (by omega)
  exact⟨i,h1,by omega⟩
 classical
 have hch:∃c:Nat->Nat,∀t,t<=lev j->c t<n/\lev (c t)=t:=⟨fun t=>if h:t<=lev j then Classical.choose (hall t h)else 0,fun t ht=>by dsimp only;rw[dif_pos ht];exact Classical.choose_spec (hall t ht)⟩
 obtain⟨c,hc⟩:=hch
 have hnd:((List.range (lev j+1)).map c).Nodup:=by
  unfold List.Nodup
  rw[List.pairwise_map]
  refine List.Pairwise.imp_of_mem (R:=fun a b=>a≠b) (fun {a b} ha hb hne he=>?_) List.nodup_range
  have h1:=(hc a (by have:=List.mem_range.1 ha;omega)).2
  have h2:=(hc b (by have:=List.mem_range.1 hb;omega)).2
  rw[he,h2]at h1
  exact hne h1.symm
 have h:=a5z n _ hnd (fun x hx=>by
  obtain⟨t,ht,rfl⟩:=List.mem_map.1 hx
  exact(hc t (by have:=List.mem_range.1 ht;omega)).1)
 rw[List.length_map,List.length_range]at h
 omega
theorem lead_iff{r:Nat->Nat->Prop}{n:Nat}{rb cn:Nat->Nat->Bool}(hb:∀i j,r i j->i<n/\j<n)(hrb:∀a b,rb a b=true↔r a b)(hcn:∀a b,cn a b=true↔Conn r a b)(hirr:∀i,¬r i i){k:Nat}(hk:k<n) :
  a7d n rb cn k=true↔(1<((List.range n).filter (cn k)).length/\((List.range n).filter (cn k))[0]? =some k):=by
 obtain⟨m,rfl⟩:∃m,n=k+(m+1):=⟨n-k-1,by omega⟩
 have hkk:cn k k=true:=(hcn k k).2 (.refl _)
 have hD:(List.range (k+(m+1))).filter (cn k)=(List.range k).filter (cn k)++k::((List.range m).map (fun x=>k+(x+1))).filter (cn k):=by
  rw[List.range_add,List.filter_append,List.range_succ_eq_map,List.map_cons,Nat.add_zero,List.filter_cons,if_pos hkk,List.map_map]
  rfl
 have hpart:(List.range (k+(m+1))).any (fun b=>rb k b||rb b k)=true↔∃b,r k b\/r b k:=by
  rw[List.any_eq_true]
  constructor
  ·rintro⟨b,_,h⟩
   rw[Bool.or_eq_true,hrb,hrb]at h
   exact⟨b,h⟩
  rintro⟨b,h⟩
  refine⟨b,List.mem_range.2 ?_,by rw[Bool.or_eq_true,hrb,hrb];exact h⟩
  rcases h with h | h
  ·exact(hb _ _ h).2
  exact(hb _ _ h).1
 have hfirst:((List.range k).all fun x=>!cn k x)=true↔(List.range k).filter (cn k)=[]:=by
  rw[List.filter_eq_nil_iff,List.all_eq_true]
  exact forall_congr' fun x=>forall_congr' fun _=>by simp
 unfold a7d
 rw[Bool.and_eq_true,hpart,hfirst,hD]
 cases hF:(List.range k).filter (cn k)with
 | cons x t =>
  refine⟨fun h=>(by cases h.2),fun h=>?_⟩
  have hx:x∈(List.range k).filter (cn k):=by rw[hF];exact List.mem_cons_self ..
  have:=List.mem_range.1 (List.mem_filter.1 hx).1
  have h2:x=k:=by simpa using h.2
  omega
 | nil =>
  refine⟨fun⟨⟨b,hbk⟩,_⟩=>⟨?_,rfl⟩,fun⟨h1,_⟩=>⟨?_,rfl⟩⟩
  ·have hcb:cn k b=true:=(hcn k b).2 ((Conn.refl k).step hbk)
   have hne:b≠k:=fun e=>by subst e;rcases hbk with h | h<;>exact hirr _ h
   have hbn:b<k+(m+1):=by
    rcases hbk with h | h
    ·exact(hb _ _ h).2
    exact(hb _ _ h).1
   have hmem:b∈(List.range (k+(m+1))).filter (cn k):=List.mem_filter.2 ⟨List.mem_range.2 hbn,hcb⟩
   rw[hD,hF,List.nil_append]at hmem
   rcases List.mem_cons.1 hmem with h | h
   ·exact absurd h hne
   rw[List.nil_append,List.length_cons]
   have:=List.length_pos_of_mem h
   omega
  rw[List.nil_append,List.length_cons]at h1
  obtain⟨b,hbm⟩:=List.exists_mem_of_length_pos (show 0<(((List.range m).map (fun x=>k+(x+1))).filter (cn k)).length by omega)
  obtain⟨h2,h3⟩:=List.mem_filter.1 hbm
  obtain⟨x,_,rfl⟩:=List.mem_map.1 h2
  exact((hcn k _).1 h3).other (by omega)
def AgsR(cl:List Nmd)(l:List Cls)(w:World)(e:Ending)(w':World):Prop:=∃ (va:Value) (A:List (List (List Prt))),e=.returned va/\Agr w' w.heap.size va A/\Agrs cl l A/\Below w.heap.size w w'
theorem b0s{w0:World}{cl:List Nmd}{l:List Cls}{A:CAd}{C:CCo}(w:World)(h:Cst w0 cl l A C w)(hI:AppI w0 cl l l.length C)(hn0:a3a cl=0)(hcl:cl.length<=1000) :
  Calls Tryz.prog 23 #[.pointer (some ⟨A.g,0,none⟩)] w (AgsR cl l w):=by
 classical
 obtain⟨r,hr⟩:∃r,r=Rel cl l l.length:=⟨_,rfl⟩
 have hb:∀a b,r a b->a<cl.length/\b<cl.length:=fun _ _ h=>by rw[hr]at h;exact h.lt
 have hpr:=hI.pr
 rw[<- hr]at hpr
 have hfree:¬ ∃x,Way r x x:=by rw[hr];exact hI.circ
 have dL:=fun W (hB:Below w.heap.size w W)=>b6j r W (h.below hB) hpr hb hfree hcl
 have dC:=fun i W (hB:Below w.heap.size w W) (hi:i<cl.length)=>b1x r i W (h.below hB) hpr hb hi hcl
 have dA:=fun lev cn k vm gl W (hB:Below w.heap.size w W) hm hl hn=>b1y lev cn (a2e cl l) k vm gl W (h.below hB) hm hl hn (fun i hi=>hI.lim.part hn0 hi) hcl
 obtain⟨rb,hrb⟩:∃rb:Nat->Nat->Bool,∀a b,rb a b=true↔r a b:=⟨fun a b=>decide (r a b),fun a b=>decide_eq_true_iff⟩
 obtain⟨cn,hcn⟩:∃cn:Nat->Nat->Bool,∀a b,cn a b=true↔Conn r a b:=⟨fun a b=>decide (Conn r a b),fun a b=>decide_eq_true_iff⟩
 have hag:∀lev,Lv r cl.length lev->Agrs cl l (agrU cl.length rb cn lev (a2e cl l) cl.length):=fun lev hlv=>⟨rb,cn,lev,by rw[<- hr];exact hrb,by rw[<- hr];exact hcn,by rw[<- hr];exact hlv,rfl⟩
 have hld:=fun k (hk:k<cl.length)=>lead_iff (rb:=rb) (cn:=cn) hb hrb hcn (fun i hi=>hfree ⟨i,.one hi⟩) hk
 have hcd:=fun lev (hlv:Lv r cl.length lev) k T (ht:Trs lev cn (a2e cl l) k cl.length T)=>Trs.done hb hcn hlv (fun j hj=>hlv.lt hb hj) ht
 have hin:∀k (inn:Nat->Bool),(∀u,inn u=true↔Conn r k u)->inn=cn k:=fun k inn hi=>by
  funext u
  rw[Bool.eq_iff_iff,hi,hcn]
 have hself:=fun k (hk:k<cl.length)=>List.mem_filter.2 ⟨List.mem_range.2 hk,(hcn k k).2 (.refl _)⟩
 obtain⟨i3,hi3,z30,z31,z32⟩:=agr_info
 obtain⟨A1,c1,hv1,_,_⟩:=h.n1.slice
 obtain⟨g,v1,v2,mc,mk,ml,nc,vb,vp,vr,gsb,gsp,ex⟩:=A
 dsimp only at hv1
 subst hv1
 have hD:=(show ∀w',Below w.heap.size w w'->∀ (j:Nat) (v:Value),[.slice A1 cl.length c1,v2,.map (some mc),.map (some mk),vb,vp,.map (some ml),vr][j]? =some v->w'.cell? ⟨g,j,none⟩=some v from fun w' hb=>Cst.rd (Cst.below h hb))
 have hg:=h.lt
 dsimp only at hg dL dC dA ⊢
 obtain⟨part,hpt⟩:∃p,p=a2e cl l:=⟨_,rfl⟩
 obtain⟨n,hn⟩:∃n,n=cl.length:=⟨_,rfl⟩
 rw[<- hpt,<-hn]at hag
 rw[<- hpt,<-hn]at dA
 rw[<- hpt,<-hn]at hcd
 rw[<- hn]at hb dL dC hld hself hcl hD
 have HD:=zh hD
 have DL:=zh dL
 have DC:=zh dC
 have DA:=zh dA
 have HAG:=zh hag
 have HLD:=zh hld
 have HCD:=zh hcd
 have HIN:=zh hin
 have HSF:=zh hself
 have HB:=zh hb
 have LN:=zh hcl
 have Z30:=zh z30
 clear h hI hn0 hcl hr hb hpr hfree dL dC dA hrb hcn hag hld hcd hin hself z30 hD hpt hn
 go_enter Tryz.func23,Tryz.ntmps23
 have HS:=zh (St.start w)
 go_wp2_with fail
 refine(DL.out _ HS.out.below).mono ?_
 rintro e w2 ⟨g2,f2,rfl,hB2,hL2,hge2,hb2⟩
 have hst2:St w [⟨g2,rowE (.int .i64) n (lvE f2),3⟩] w2:=St.one (Ext.trans HS.out.below hb2) hB2 (Nat.le_trans HS.out.below.size hge2)
 have HS2:Hid (St w [⟨g2,(rowE (.int .i64) n (lvE f2)),3⟩] w2):=zh hst2
 clear hst2 HS
 have HLV:=zh hL2
 have HAGL:=zh (HAG.out f2 hL2)
 have HLL:=zh (fun j (hj:j<n)=>hL2.lt HB.out hj)
 clear hL2 hB2 hge2 hb2
 have x1:=HD.out _ HS2.out.below 0 _ rfl
 go_wp2
 go_loopw [3,14] (fun v_ i_ wr=>∃i:Nat,i<=n/\i_=.int .i64 i/\Hid (Agr wr w.heap.size v_ (agrU n rb cn f2 part i))/\Hid (St w [⟨g2,rowE (.int .i64) n (lvE f2),3⟩] wr)) (fun _ i_ _=>n-(intOf i_).toNat)
 case atStart=>exact⟨0,Nat.zero_le _,rfl,Agr.nil _ _,HS2.out⟩
 case round =>
  clear HS2
  obtain⟨i,hi,rfl,HA,HS⟩:=hrel
  rename_i u3 _
  obtain⟨W1,rfl⟩:∃W1,W1=wr:=⟨_,rfl⟩
  by_cases hin:i<n
  ·have e1:(0:Int)<=((i:Nat):Int):=by omega
   have e2:((i:Nat):Int)<(n:Int):=by omega
   have e3:decide (((i:Nat):Int)<(n:Int))=true:=decide_eq_true e2
   have i5:IntKind.i64.wrap ((i:Int)+1)=((i+1:Nat):Int):=by have:=LN.out;rw[IntWalk.i64_in _ (by omega)];rfl
   have hld:=HLD.out i hin
   have hsf:=HSF.out i hin
   have HIC:=zh (HIN.out i)
   go_wp2_with fail
   refine(DC.out i _ HS.out.below hin).mono ?_
   rintro e w3 ⟨v3,inn3,rfl,ho3,hin3,hb3⟩
   have hst3:=HS.out.call hb3
   have HBL:=zh hb3
   have HA3:=zh (HA.out.below hb3)
   have HS3:Hid (St w [⟨g2,(rowE (.int .i64) n (lvE f2)),3⟩] w3):=zh hst3
   clear hst3 HS
   rw[HIC.out _ hin3]at ho3
   obtain⟨D,hDD⟩:∃D,D=(List.range n).filter (cn i):=⟨_,rfl⟩
   rw[<- hDD]at ho3 hld hsf
   have hdp:=List.length_pos_of_mem hsf
   obtain⟨g7,c7,rfl,hg71,hg72⟩:=World.ownsRow.form ho3 hdp
   obtain⟨d0,hd0⟩:∃d,D[0]? =some d:=⟨_,List.getElem?_eq_getElem hdp⟩
   have hd0n:d0<n:=List.mem_range.1 (List.mem_filter.1 (by rw[<- hDD];exact List.mem_of_getElem? hd0)).1
   have HE:=zh (a2z (show w3.cell? ⟨g7,0,none⟩=some (.int .i64 (d0:Nat)) by rw[World.ownsRow.cellAt ho3 0 (by omega)];have:=a4a a2h D 0 d0 hd0 0 _ rfl;rwa[Nat.mul_one,Nat.add_zero]at this) hg72)
   have HM7:=zh (show Slc intE 1 w3 (.slice (some ⟨g7,0,none⟩) D.length c7) ((List.range n).filter (cn i))from by rw[<- hDD];exact Slc.of_own a2h ho3 rfl)
   rw[hd0]at hld
   have L7:=zh (show D.length<=1000 from by rw[hDD];have h8:=List.length_filter_le (cn i) (List.range n);rw[List.length_range]at h8;have:=LN.out;omega)
   have HLI:=zh hld
   have HDP:=zh hdp
   clear ho3 hin3 hb3 hld hsf hdp hd0 hDD
   go_upto_region 7 with fail
   clear HA
   by_cases hD1:1<D.length
   ·by_cases hdi:d0=i
    ·have d1:decide ((1:Int)<(D.length:Int))=true:=decide_eq_true (by omega)
     have d2:decide (1<D.length)=true:=decide_eq_true hD1
     have d3:(((d0:Nat):Int)==((i:Nat):Int))=true:=by rw[beq_iff_eq];omega
     have d4:(d0==i)=true:=by rw[beq_iff_eq];omega
     have HLE:=zh (HLI.out.2 ⟨hD1,congrArg some hdi⟩)
     have HE0:=zh (fun w' (hb:Below w3.heap.size w3 w') (q:Nat) (v:Value) (hv:[Value.int .i64 ((d0:Nat):Int)][q]? =some v)=>(by have:=HE.out w' hb q v hv;rwa[Nat.zero_add]at this:w'.cell? ⟨g7,q,none⟩=some v))
     clear hdi hD1
     have x2:=HE0.out _ (Below.refl _ _) 0 _ rfl
     go_wp2_with fail
     refine(DA.out f2 cn i _ g2 _ HS3.out.below HM7.out (HS3.out.blk 0 rfl) HLL.out).mono ?_
     rintro e w4 ⟨va4,T4,rfl,hT4,hR4,hb4⟩
     have hst4:=HS3.out.call hb4
     have HT4:=zh (hT4.mono HS3.out.below.size)
     have HA4:=zh (HA3.out.below hb4)
     have HEQ:=zh (HCD.out f2 HLV.out i T4 hR4)
     clear hT4 hR4 hb4
     have HS4:Hid (St w [⟨g2,(rowE (.int .i64) n (lvE f2)),3⟩] w4):=zh hst4
     clear hst4 HS3 x2
     have HS5:=aL HS4 #[va4] 78 w4.heap.size
     obtain⟨us,hul,HU,HII⟩:=(HA4.out.below (Ext.alloc (Below.refl w4.heap.size w4) (Obj.cells #[va4] 78)))
     have HUL:=zh hul
     clear hul
     have hti:=(HT4.out.below (Ext.alloc (Below.refl w4.heap.size w4) (Obj.cells #[va4] 78)))
     have hsz:=HS5.out.below.size
     have hblk:=HS5.out.blk 0 rfl
     have HAL:=zh (agrU_len n rb cn f2 part i)
     have hone:va4.oneCell'=true:=by obtain⟨_,hh⟩:=hti;exact c4k hh.out
     go_wp2_with (at_builtin;refine wpList_append_own _ rfl _ _ 30 rfl w.heap.size 78 i3 _ 1 24 Tryz.underlying30 hi3 Z30.out z31 z32 rfl (by decide) u3 us.length us (by simp[Act.eval]) HU ⟨w4.heap.size,0,none⟩ 1 1 [va4] (by simp[Act.eval]) rfl (a6t hblk rfl) (fun u hu=>by rw[List.mem_singleton.1 hu];exact hone) (by have:=HUL.out;have:=HAL.out;have:=LN.out;unfold maxLen;omega) (by have:=HUL.out;have:=HAL.out;have:=LN.out;omega) hsz ?_)
     intro v9 w9 hown5 hg5 _
     have HA5:=zh (Agr.put HUL.out HU HII hti hown5 hg5)
     have HSA:=zh ((HS5.out.sub (List.sublist_cons_self ..)).turnedO hg5 (fun q hq=>(World.ownsRow.lt HU q hq).1) (fun x hx=>by rw[List.mem_singleton.1 hx];exact a1m HU (HS5.out.blk 1 rfl) (by decide)))
     have HEA:=zh (agrU_add (lev:=f2) (part:=part) HLE.out)
     clear hown5 hg5 hblk hsz HUL HU HII hti hone HS5
     go_wp2
     go_roundw
     case rel=>exact⟨i+1,by omega,by go_num,by show Agr _ _ _ _;rw[HEA.out,show tirU n cn f2 part i n=T4 from HEQ.out.symm];exact HA5.out,HSA.out⟩
     case measure=>simp[intOf];omega
    have d1:decide ((1:Int)<(D.length:Int))=true:=decide_eq_true (by omega)
    have d2:decide (1<D.length)=true:=decide_eq_true hD1
    have d3:(((d0:Nat):Int)==((i:Nat):Int))=false:=by rw[beq_eq_false_iff_ne];omega
    have d4:(d0==i)=false:=by rw[beq_eq_false_iff_ne];omega
    have hno:¬ (1<D.length/\some d0=some i):=fun h=>hdi (Option.some.inj h.2)
    have HNL:=zh (show a7d n rb cn i=false from by rw[Bool.eq_false_iff];exact fun h=>hno (HLI.out.1 h))
    have HE0:=zh (fun w' (hb:Below w3.heap.size w3 w') (q:Nat) (v:Value) (hv:[Value.int .i64 ((d0:Nat):Int)][q]? =some v)=>(by have:=HE.out w' hb q v hv;rwa[Nat.zero_add]at this:w'.cell? ⟨g7,q,none⟩=some v))
    clear hdi hD1 hno
    have x2:=HE0.out _ (Below.refl _ _) 0 _ rfl
    go_wp2
    go_roundw
    case rel=>exact⟨i+1,by omega,by go_num,by show Agr _ _ _ _;rw[c3v HNL.out];exact HA3.out,HS3.out⟩
    case measure=>simp[intOf];omega
   have d1:decide ((1:Int)<(D.length:Int))=false:=decide_eq_false (by omega)
   have d2:decide (1<D.length)=false:=decide_eq_false hD1
   have hno:¬ (1<D.length/\some d0=some i):=fun h=>hD1 h.1
   have HNL:=zh (show a7d n rb cn i=false from by rw[Bool.eq_false_iff];exact fun h=>hno (HLI.out.1 h))
   clear hD1 hno
   go_wp2
   go_roundw
   case rel=>exact⟨i+1,by omega,by go_num,by show Agr _ _ _ _;rw[c3v HNL.out];exact HA3.out,HS3.out⟩
   case measure=>simp[intOf];omega
  have hie:i=n:=by omega
  rw[hie]at HA ⊢
  have e3:decide (((n:Nat):Int)<(n:Int))=false:=decide_eq_false (by omega)
  clear hie hi hin
  go_wp2
  go_ret
  exact⟨_,_,rfl,HA.out,HAGL.out,HS.out.below⟩
theorem c1w{t:TypeId}{n g:Nat}{gs:List Nat}:a1t t n (gs++[g]) (fun _ _=>false)=a1t t n gs (fun _ _=>false)++[⟨g,rowE .bool n (fun _=>false),t⟩]:=by
 have:=c1v (t:=t) (n:=n) (g:=g) (gs:=gs) (m:=fun _ _=>.bool false) (fun _=>.bool false)
 rw[show(fun x=>if x=gs.length then(fun _=>Value.bool false)else(fun(_ _:Nat)=>Value.bool false) x)=fun(_ _:Nat)=>Value.bool false from funext fun x=>by split<;>rfl]at this
 exact this
def CCo0:CCo:=⟨fun _ _=>false,fun _ _=>false,[],fun _=>false,fun _=>.slice none 0 0,0,fun _=>false,fun _=>.int .i64 0,0⟩
structure Bld(w0:World)(cl:List Nmd)(A:CAd)(kc kr kb kp:Nat)(w:World):Prop where
 st:St w0 (A.own cl.length CCo0) w
 lb:A.gsb.length=kb
 lp:A.gsp.length=kp
 ob:World.ownsRow w w0.heap.size 54 1 A.vb kb (flat (slcE cl.length) A.gsb)
 op:World.ownsRow w w0.heap.size 54 1 A.vp kp (flat (slcE cl.length) A.gsp)
 or_:World.ownsRow w w0.heap.size 3 1 A.vr kr (((cl.take kr).map (·.rank)).map (.int .i64))
 mc:RMap Tryz.prog 9 strL w A.mc kc (fun s=>(a0g (cl.take kc) s).isSome) (fun s=>.int .i64 (optI (a0g (cl.take kc) s)))
 mkb:RMap Tryz.prog 9 strL w A.mkb 0 (fun _=>false) CCo0.fk
 ml:RMap Tryz.prog 3 intL w A.ml 0 (fun _=>false) CCo0.fl
 ne:A.mc≠A.mkb/\A.mc≠A.ml/\A.mkb≠A.ml
 ge:w0.heap.size<=A.mc/\w0.heap.size<=A.mkb/\w0.heap.size<=A.ml
 ext:A.ex=[]
 nc:A.nc=cl.length
 ap:b2b A.vb A.vp
section
variable {w0 w w' w1 : World} {cl : List Nmd} {l : List Cls} {A : CAd} {kc kr kb kp : Nat}
theorem Bld.below(h:Bld w0 cl A kc kr kb kp w)(hb:Below w.heap.size w w'):Bld w0 cl A kc kr kb kp w' :=
 ⟨h.st.call hb,h.lb,h.lp,Grows.below h.ob hb,Grows.below h.op hb,Grows.below h.or_ hb,h.mc.below hb,h.mkb.below hb,h.ml.below hb,h.ne,h.ge,h.ext,h.nc,h.ap⟩
theorem Bld.cst(h:Bld w0 cl A cl.length cl.length cl.length cl.length w)(h1:NmdL w0 A.v1 cl)(h2:ClsL w0 A.v2 l):Cst w0 cl l A {CCo0 with R:=cl.map (·.rank)} w:=by
 have hr:=h.or_
 have hm:=h.mc
 rw[List.take_length]at hr hm
 rw[<- h.nc]at hm
 exact⟨h.st,h.lb,h.lp,h.ob,h.op,hr,hm,h.mkb,h.ml,h.ne,⟨h.ge.2.1,h.ge.2.2⟩,h1,h2,fun x hx=>by rw[h.ext]at hx;cases hx⟩
theorem Bld.typ(h:Bld w0 cl A kc kr kb kp w){x:Own}(hx:x∈A.own cl.length CCo0):x.t=69\/x.t=4:=by
 rcases CAd.types hx with h4 | h4 | h4
 ·exact .inl h4
 ·exact .inr h4
 rw[h.ext]at h4;cases h4
theorem Bld.turn(h:Bld w0 cl A kc kr kb kp w){e:TypeId}{v:Value}{m:Nat}{xs:List Value}(ho:World.ownsRow w w0.heap.size e 1 v m xs)(h1:e≠69)(h2:e≠4)(hg:w.grownBy w1 v.ownBlock):St w0 (A.own cl.length CCo0) w1 :=
 h.st.turnedO hg (fun q hq=>(World.ownsRow.lt ho q hq).1) (fun x hx=>a1m ho (h.st.ok x hx).1 (by rcases h.typ hx with h4 | h4<;>rw[h4];exact h1.symm;exact h2.symm))
theorem c3z{x:Nmd}{k:Nat}(hx:cl[k]? =some x):cl.take (k+1)=cl.take k++[x]:=a3g hx
theorem Bld.putC{x:Nmd}(h:Bld w0 cl A kc kr kb kp w)(hx:cl[kc]? =some x)(hf:a0g (cl.take kc) x.id=none)(hm:RMap Tryz.prog 9 strL w' A.mc (kc+1) (putK (fun s=>(a0g (cl.take kc) s).isSome) x.id) (putV (fun s=>.int .i64 (optI (a0g (cl.take kc) s))) x.id (.int .i64 (kc:Nat))))(hg:w.grownBy w' (some A.mc)):Bld w0 cl A (kc+1) kr kb kp w':=by
 have hlen:(cl.take kc).length=kc:=by rw[List.length_take];have:=(List.getElem?_eq_some_iff.1 hx).1;omega
 have k1:∀s i,a0g (cl.take kc) s=some i->a0g (cl.take (kc+1)) s=some i:=fun s i hs=>by rw[c3z hx,a9f,hs]
 have k2:∀s,a0g (cl.take kc) s=none->a0g (cl.take (kc+1)) s=if x.id=s then some kc else none:=fun s hs=>by rw[c3z hx,a9f,hs,hlen]
 refine⟨h.st.turnedM h.mc hg h.ge.1,h.lb,h.lp,h.ob.kept hg (.inr (h.mc.ne_own h.ob)),h.op.kept hg (.inr (h.mc.ne_own h.op)),h.or_.kept hg (.inr (h.mc.ne_own h.or_)),hm.congr (fun s=>?_) (fun s _=>?_),h.mkb.kept hg (fun e=>h.ne.1 (Option.some.inj e).symm),h.ml.kept hg (fun e=>h.ne.2.1 (Option.some.inj e).symm),h.ne,h.ge,h.ext,h.nc,h.ap⟩
 ·show((a0g (cl.take kc) s).isSome||decide (s=x.id))=(a0g (cl.take (kc+1)) s).isSome
  cases hc:a0g (cl.take kc) s with
  | some i=>rw[k1 s i hc];rfl
  | none =>
   rw[k2 s hc]
   by_cases hs:x.id=s
   ·rw[if_pos hs,decide_eq_true hs.symm];rfl
   rw[if_neg hs,decide_eq_false (fun e=>hs e.symm)];rfl
 show(if s=x.id then .int .i64 (kc:Nat)else .int .i64 (optI (a0g (cl.take kc) s)))=Value.int .i64 (optI (a0g (cl.take (kc+1)) s))
 by_cases hs:s=x.id
 ·rw[if_pos hs,hs,k2 _ hf,if_pos rfl]
  rfl
 rw[if_neg hs]
 cases hc:a0g (cl.take kc) s with
 | some i=>rw[k1 s i hc]
 | none=>rw[k2 s hc,if_neg (fun e=>hs e.symm)]
theorem Bld.grR{v:Value}(h:Bld w0 cl A kc kr kb kp w)(hg:w.grownBy w1 A.vr.ownBlock)(ho:World.ownsRow w1 w0.heap.size 3 1 v (kr+1) (((cl.take (kr+1)).map (·.rank)).map (.int .i64))):Bld w0 cl {A with vr:=v} kc (kr+1) kb kp (w1.setCell ⟨A.g,7,none⟩ v):=by
 have st1:=h.turn h.or_ (by decide) (by decide) hg
 have hB:=st1.blk 0 rfl
 have st2:=st1.set 0 rfl 7 v
 exact⟨st2,h.lb,h.lp,a1v (a3b h.ob hg (a3x h.or_ (by decide))) hB (by decide) _,a1v (a3b h.op hg (a3x h.or_ (by decide))) hB (by decide) _,a1v ho hB (by decide) _,
  (h.mc.kept hg (fun e=>h.mc.ne_own h.or_ e.symm)).setCell hB _,(h.mkb.kept hg (fun e=>h.mkb.ne_own h.or_ e.symm)).setCell hB _,(h.ml.kept hg (fun e=>h.ml.ne_own h.or_ e.symm)).setCell hB _,h.ne,h.ge,h.ext,h.nc,h.ap⟩
theorem St.more{R:List Own}{g:Nat}{cs:Array Value}{t:TypeId}(h:St w0 R w)(hB:Blk w g cs t)(hg:w0.heap.size<=g)(hne:∀x∈R,x.g≠g):St w0 (⟨g,cs,t⟩::R) w :=
 ⟨h.below,fun r hr=>by rcases List.mem_cons.1 hr with rfl | hr;exact⟨hB,hg⟩;exact h.ok r hr,List.pairwise_cons.2 ⟨fun x hx e=>hne x hx e.symm,h.apart⟩⟩
theorem Bld.grB{v:Value}{g7:Nat}(h:Bld w0 cl A kc kr kb kp w)(hg:w.grownBy w1 A.vb.ownBlock)(hat:v.ownBlock=A.vb.ownBlock\/v.ownBlock=some w.heap.size)(ho:World.ownsRow w1 w0.heap.size 54 1 v (kb+1) (flat (slcE cl.length) (A.gsb++[g7])))
  (hB7:Blk w g7 (rowE .bool cl.length (fun _=>false)) 4) (h7:w0.heap.size<=g7) (hne:∀x∈A.own cl.length CCo0,x.g≠g7):Bld w0 cl {A with vb:=v,gsb:=A.gsb++[g7]} kc kr (kb+1) kp (w1.setCell ⟨A.g,4,none⟩ v):=by
 have st1:=h.turn h.ob (by decide) (by decide) hg
 have hB7':Blk w1 g7 (rowE .bool cl.length (fun _=>false)) 4:=(hg.block g7 hB7.lt (fun e=>a1m h.ob hB7 (by decide) e.symm)).trans hB7
 have hB:=st1.blk 0 rfl
 have hop1:World.ownsRow w1 w0.heap.size 54 1 A.vp kp (flat (slcE cl.length) A.gsp):=h.op.kept hg (by
  cases hv:A.vp.ownBlock with
  | none=>exact .inl rfl
  | some q=>exact .inr (fun e=>h.ap q e.symm hv))
 have st2:=(st1.more hB7' h7 hne).set 1 rfl 4 v
 refine⟨st2.perm ?_,by rw[List.length_append,h.lb];rfl,h.lp,a1v ho hB (by decide) _,a1v hop1 hB (by decide) _,a1v (a3b h.or_ hg (a3x h.ob (by decide))) hB (by decide) _,
  (h.mc.kept hg (fun e=>h.mc.ne_own h.ob e.symm)).setCell hB _,(h.mkb.kept hg (fun e=>h.mkb.ne_own h.ob e.symm)).setCell hB _,(h.ml.kept hg (fun e=>h.ml.ne_own h.ob e.symm)).setCell hB _,h.ne,h.ge,h.ext,h.nc,fun q hq e=>?_⟩
 ·show List.Perm (_::_::(a1t 4 cl.length A.gsb (fun _ _=>false)++_)) (_::(a1t 4 cl.length (A.gsb++[g7]) (fun _ _=>false)++_))
  rw[c1w,List.append_assoc]
  refine(List.Perm.swap _ _ _).trans (List.Perm.cons _ ?_)
  exact List.perm_middle.symm
 rcases hat with hat | hat
 ·exact h.ap q (by rw[<- hat];exact hq) e
 have h1:=Option.some.inj (hq.symm.trans hat)
 have h2:=(World.ownsRow.lt h.op q e).2
 omega
theorem Bld.grP{v:Value}{g7:Nat}(h:Bld w0 cl A kc kr kb kp w)(hg:w.grownBy w1 A.vp.ownBlock)(hat:v.ownBlock=A.vp.ownBlock\/v.ownBlock=some w.heap.size)(ho:World.ownsRow w1 w0.heap.size 54 1 v (kp+1) (flat (slcE cl.length) (A.gsp++[g7])))
  (hB7:Blk w g7 (rowE .bool cl.length (fun _=>false)) 4) (h7:w0.heap.size<=g7) (hne:∀x∈A.own cl.length CCo0,x.g≠g7):Bld w0 cl {A with vp:=v,gsp:=A.gsp++[g7]} kc kr kb (kp+1) (w1.setCell ⟨A.g,5,none⟩ v):=by
 have st1:=h.turn h.op (by decide) (by decide) hg
 have hB7':Blk w1 g7 (rowE .bool cl.length (fun _=>false)) 4:=(hg.block g7 hB7.lt (fun e=>a1m h.op hB7 (by decide) e.symm)).trans hB7
 have hB:=st1.blk 0 rfl
 have hob1:World.ownsRow w1 w0.heap.size 54 1 A.vb kb (flat (slcE cl.length) A.gsb):=h.ob.kept hg (by
  cases hv:A.vb.ownBlock with
  | none=>exact .inl rfl
  | some q=>exact .inr (fun e=>h.ap q hv e.symm))
 have st2:=(st1.more hB7' h7 hne).set 1 rfl 5 v
 refine⟨st2.perm ?_,h.lb,by rw[List.length_append,h.lp];rfl,a1v hob1 hB (by decide) _,a1v ho hB (by decide) _,a1v (a3b h.or_ hg (a3x h.op (by decide))) hB (by decide) _,
  (h.mc.kept hg (fun e=>h.mc.ne_own h.op e.symm)).setCell hB _,(h.mkb.kept hg (fun e=>h.mkb.ne_own h.op e.symm)).setCell hB _,(h.ml.kept hg (fun e=>h.ml.ne_own h.op e.symm)).setCell hB _,h.ne,h.ge,h.ext,h.nc,fun q hq e=>?_⟩
 ·show List.Perm (_::_::(_++(a1t 4 cl.length A.gsp (fun _ _=>false)++_))) (_::(_++(a1t 4 cl.length (A.gsp++[g7]) (fun _ _=>false)++_)))
  rw[c1w,List.append_assoc,<-List.append_assoc,<-List.append_assoc]
  refine(List.Perm.swap _ _ _).trans (List.Perm.cons _ ?_)
  exact List.perm_middle.symm
 rcases hat with hat | hat
 ·exact h.ap q hq (by rw[<- hat];exact e)
 have h1:=Option.some.inj (e.symm.trans hat)
 have h2:=(World.ownsRow.lt h.ob q hq).2
 omega
end
def b3b(cl:List Nmd)(C:CCo):Prop:=C.R=cl.map (·.rank)/\C.B=(fun _ _=>false)/\C.P=(fun _ _=>false)/\C.nl=0/\C.Sl=(fun _=>false)
theorem c6h{cl:List Nmd}{l:List Cls}{x y:Nat}:¬Rel cl l 0 x y:=fun⟨_,_,h,_⟩=>absurd h (Nat.not_lt_zero _)
theorem c5t{cl:List Nmd}{l:List Cls}{x y:Nat}(h:Way (Rel cl l 0) x y):False:=by
 induction h with
 | one h=>exact c6h h
 | _=>assumption
theorem c9a{w0:World}{cl:List Nmd}{l:List Cls}{C:CCo}(hF:Full w0 l C)(hf:b3b cl C):AppI w0 cl l 0 C:=by
 obtain⟨h1,h2,h3,h4,h5⟩:=hf
 refine⟨hF,by rw[h1];exact Ranks.start,fun x y _ _=>?_,fun x y _ _=>?_,by rw[h5];exact Lim.start _,by omega,fun⟨x,h⟩=>c5t h⟩
 ·rw[h3];exact⟨fun h=>(by cases h),fun h=>absurd h c6h⟩
 rw[h2];exact⟨fun h=>(by cases h),fun h=>(c5t h).elim⟩
theorem d3b:∀ {l:List Cls},(∀c∈l,c.list.length<=1000)->(allN l).length<=l.length*1000
 | [],_=>Nat.zero_le _
 | c::t,h=>by
  have h1:=d3b (l:=t) fun c hc=>h c (List.mem_cons_of_mem _ hc)
  have h2:=h c (List.mem_cons_self ..)
  show(c.list++allN t).length<=(t.length+1)*1000
  rw[List.length_append]
  omega
section
variable {w0 : World} {cl : List Nmd} {l : List Cls} {A : CAd} {C : CCo}
theorem Fit.all(h:Fit cl l):∀x∈allN l,x.length<=maxLen:=by
 intro x hx
 obtain⟨c,hc,hm⟩:=List.mem_flatMap.1 hx
 exact(h.cls c hc).2.2.2.1 x hm
theorem Fit.need(h:Fit cl l):a6h l (fun _=>false)<=1000000:=by
 have h1:a6h l (fun _=>false)<=(allN l).length:=List.countP_le_length
 have h2:=d3b fun c hc=>(h.cls c hc).2.2.1
 have:=h.nl
 omega
def PasR(w0:World)(cl:List Nmd)(l:List Cls)(A:CAd)(s:Nat)(I:CCo->Prop)(e:Ending)(w':World):Prop:=∃ (i:Nat) (er:Int) (C':CCo),e=.returned (.tuple #[.int .i64 (i:Nat),.int .i64 er])/\Cst w0 cl l A C' w'/\((er=0/\i=0/\I C'/\Pass cl l s)\/Fail cl l s i er)
theorem pass_1(w:World)(h:Cst w0 cl l A C w)(hF:Fit cl l)(hD:DefI w0 l 0 C)(hf:b3b cl C) :
  Calls Tryz.prog 22 #[.pointer (some ⟨A.g,0,none⟩),.func (.func 18) #[.pointer (some ⟨A.g,0,none⟩)] #[]] w (PasR w0 cl l A 1 fun C=>Full w0 l C/\b3b cl C):=by
 refine(a5r (Inv:=fun k C=>DefI w0 l k C/\b3b cl C) 1 w h ⟨hD,hf⟩ hF.nl (fun _ _=>rfl) (fun i x u C W hx hu hI hC=>?_)).mono ?_
 ·have hil:=(List.getElem?_eq_some_iff.1 hx).1
  refine(b6k i x u W hC hI.1 hx hu (hF.cls x (List.mem_of_getElem? hx)).1 (by have:=hF.nl;omega)).mono ?_
  rintro e W' ⟨er,C',rfl,hC',rfl,hD',h1,h2,h3,h4,h5⟩
  exact⟨_,C',rfl,hC',fun c hc=>by
   obtain rfl:x=c:=Option.some.inj (hx.symm.trans hc)
   exact⟨fun _=>rfl,fun h=>by omega,fun h=>by omega,fun h=>by omega⟩,fun h0=>⟨hD' h0,h1.trans hI.2.1,h2.trans hI.2.2.1,h3.trans hI.2.2.2.1,h4.trans hI.2.2.2.2.1,h5.trans hI.2.2.2.2.2⟩⟩
 rintro e W' ⟨i,er,C',rfl,hC',h | h⟩
 ·obtain⟨h1,h2,h3,h4⟩:=h
  refine⟨i,er,C',rfl,hC',.inl ⟨h1,h2,⟨?_,h3.2⟩,h4⟩⟩
  have:=h3.1.1
  rwa[List.take_length]at this
 exact⟨i,er,C',rfl,hC',.inr h⟩
theorem pass_2(w:World)(h:Cst w0 cl l A C w)(hF:Fit cl l)(hI:Full w0 l C/\b3b cl C) :
  Calls Tryz.prog 22 #[.pointer (some ⟨A.g,0,none⟩),.func (.func 19) #[.pointer (some ⟨A.g,0,none⟩)] #[]] w (PasR w0 cl l A 2 fun C=>Full w0 l C/\b3b cl C):=by
 refine(a5r (Inv:=fun _ C=>Full w0 l C/\b3b cl C) 2 w h hI hF.nl (fun _ _=>rfl) (fun i x u C W hx hu hI hC=>?_)).mono ?_
 ·refine(b7j x u W hC hI.1.has (Slc.below hu hC.st.below) (hF.uses (List.mem_of_getElem? hx)).2 (hF.cls x (List.mem_of_getElem? hx)).1).mono ?_
  rintro e W' ⟨rfl,hb⟩
  exact⟨_,C,rfl,hC.below hb,fun c hc=>by
   obtain rfl:x=c:=Option.some.inj (hx.symm.trans hc)
   exact⟨fun h=>by omega,fun _=>rfl,fun h=>by omega,fun h=>by omega⟩,fun _=>hI⟩
 rintro e W' ⟨i,er,C',rfl,hC',h⟩
 exact⟨i,er,C',rfl,hC',h⟩
theorem pass_3(w:World)(h:Cst w0 cl l A C w)(hF:Fit cl l)(hI:Full w0 l C/\b3b cl C) :
  Calls Tryz.prog 22 #[.pointer (some ⟨A.g,0,none⟩),.func (.func 20) #[.pointer (some ⟨A.g,0,none⟩)] #[]] w (PasR w0 cl l A 3 fun C=>Full w0 l C/\b3b cl C):=by
 refine(a5r (Inv:=fun _ C=>Full w0 l C/\b3b cl C) 3 w h hI hF.nl (fun _ _=>rfl) (fun i x u C W hx hu hI hC=>?_)).mono ?_
 ·refine(b3a x u W hC hI.1 hF.all hF.need (hF.cls x (List.mem_of_getElem? hx)).1).mono ?_
  rintro e W' ⟨er,rfl,he,hb⟩
  exact⟨_,C,rfl,hC.below hb,fun c hc=>by
   obtain rfl:x=c:=Option.some.inj (hx.symm.trans hc)
   exact⟨fun h=>by omega,fun h=>by omega,fun _=>he,fun h=>by omega⟩,fun _=>hI⟩
 rintro e W' ⟨i,er,C',rfl,hC',h⟩
 exact⟨i,er,C',rfl,hC',h⟩
theorem b4v{c:Cls}{s:List UInt8}(h:err2 cl l c=0)(hs:s∈a5c c):a6c cl l s=true:=by
 unfold err2 at h
 split at h
 ·cases h
 by_cases ha:(a5c c).all (a6c cl l)=true
 ·exact List.all_eq_true.1 ha s hs
 rw[if_neg ha]at h;cases h
theorem pass_4(w:World)(h:Cst w0 cl l A C w)(hF:Fit cl l)(hI:Full w0 l C/\b3b cl C)(p1:Pass cl l 1)(p2:Pass cl l 2)(p3:Pass cl l 3) :
  Calls Tryz.prog 22 #[.pointer (some ⟨A.g,0,none⟩),.func (.func 21) #[.pointer (some ⟨A.g,0,none⟩)] #[]] w (PasR w0 cl l A 4 fun C=>AppI w0 cl l l.length C):=by
 have h1:=pass_ok1 p1
 have h2:∀c∈l,err2 cl l c=0:=fun c hc=>by
  obtain⟨i,hi⟩:=List.mem_iff_getElem?.1 hc
  exact((p2 i (List.getElem?_eq_some_iff.1 hi).1 c hi).2.1 rfl).symm
 have h3:∀c∈l,c.kind=1->¬Way (Mem l) c.name c.name:=fun c hc hk hw=>by
  obtain⟨i,hi⟩:=List.mem_iff_getElem?.1 hc
  have:=((p3 i (List.getElem?_eq_some_iff.1 hi).1 c hi).2.2.1 rfl).1 ⟨hk,hw⟩
  cases this
 have hden:=den_some h1 h2 h3
 refine(a5r (Inv:=fun k C=>AppI w0 cl l k C) 4 w h (c9a hI.1 hI.2) hF.nl (fun _ _=>rfl) (fun i x u C W hx hu hI hC=>?_)).mono ?_
 ·have hm:=List.mem_of_getElem? hx
  have hil:=(List.getElem?_eq_some_iff.1 hx).1
  have hc:=hF.cls x hm
  have key:Calls Tryz.prog 21 #[.pointer (some ⟨A.g,0,none⟩),.agg #[.int .i64 x.kind,.string (bs x.name),.string (bs x.other),u,.bool x.am.n,.string (bs x.am.a),.string (bs x.am.b),.int .i64 x.at_]] W (AppR w0 cl l A i x):=by
   by_cases k4:x.kind=4
   ·rw[k4]
    exact b6m i x u W hC hI hx hu hF.all hF.need hF.ncl k4 hc.1 (hden _ (b4v (h2 x hm) (by rw[uses0 (by omega) (by omega)];exact List.mem_singleton.2 rfl)))
   by_cases k2:x.kind=2
   ·rw[k2]
    exact b6p i x u W hC hI hx hu hF.all hF.need hF.ncl k2 hc.1 hc.2.1 (hden _ (b4v (h2 x hm) (by rw[uses2 k2];exact List.mem_cons_self ..))) (hden _ (b4v (h2 x hm) (by rw[uses2 k2];exact List.mem_cons_of_mem _ (List.mem_singleton.2 rfl))))
   by_cases k3:x.kind=3
   ·rw[k3]
    refine b6n i x u W hC hI hx hu hF.ncl k3 hc.1 ?_ hc.2.2.2.2 (by have:=hF.nl;omega)
    have h9:=h2 x hm
    unfold err2 at h9
    cases hcl:a0g cl x.name with
    | some k=>exact⟨k,rfl⟩
    | none=>rw[if_pos ⟨k3,hcl⟩]at h9;cases h9
   exact b6q i x u W hC hI hx hu k2 k3 k4
  refine key.mono ?_
  rintro e W' ⟨er,C',rfl,hC',he,hn⟩
  exact⟨er,C',rfl,hC',fun c hc=>by
   obtain rfl:x=c:=Option.some.inj (hx.symm.trans hc)
   exact⟨fun h=>by omega,fun h=>by omega,fun h=>by omega,fun _=>he⟩,hn⟩
 rintro e W' ⟨i,er,C',rfl,hC',h⟩
 exact⟨i,er,C',rfl,hC',h⟩
end
end Go.Proofs.YtjmiicjialkpiaaGreatDoor
