/-
Part 42 of the base.
-/
import Derived.Test.YtjmiicjialkpiaaGreatDoorRf40
import Derived.Test.YtjmiicjialkpiaaGreatDoorRf41
set_option maxRecDepth 100000
set_option maxHeartbeats 4000000
namespace Go.Proofs.YtjmiicjialkpiaaGreatDoor
open Go.RowKit
def TrsD(lev:Nat->Nat)(part:Nat->Prt)(D:List Nat)(T:List (List Prt)):Prop :=
 (∀t x,T[t]? =some x->x=(D.filter fun i=>decide (lev i=t)).map part)/\(∀i,i∈D->lev i<T.length)/\∀t,t<T.length->∃i,i∈D/\t<=lev i
theorem TrsD.start(lev:Nat->Nat)(part:Nat->Prt):TrsD lev part [] []:=⟨fun t x h=>by simp at h,fun i h=>(by cases h),fun t h=>absurd h (Nat.not_lt_zero _)⟩
theorem TrsD.add{lev:Nat->Nat}{part:Nat->Prt}{D:List Nat}{T:List (List Prt)}{m j:Nat}{x:List Prt}(h:TrsD lev part D T)(hm:T.length+m=max T.length (lev j+1))(hx:(T++List.replicate m [])[lev j]? =some x) :
  TrsD lev part (D++[j]) ((T++List.replicate m []).set (lev j) (x++[part j])):=by
 have hget:∀t y,(T++List.replicate m [])[t]? =some y->y=(D.filter fun i=>decide (lev i=t)).map part:=by
  intro t y hy
  rw[List.getElem?_append]at hy
  split at hy
  ·exact h.1 t y hy
  rename_i ht
  rw[List.getElem?_replicate]at hy
  split at hy
  ·obtain rfl:[]=y:=Option.some.inj hy
   rw[List.filter_eq_nil_iff.2,List.map_nil]
   intro i hi
   rw[decide_eq_true_eq]
   intro h2
   have:=h.2.1 i hi
   omega
  cases hy
 have hf:∀t,(D++[j]).filter (fun i=>decide (lev i=t))=D.filter (fun i=>decide (lev i=t))++if lev j=t then[j]else[]:=fun t=>by
  rw[List.filter_append]
  congr 1
  rw[List.filter_cons]
  by_cases he:lev j=t
  ·rw[if_pos (decide_eq_true he),if_pos he];rfl
  rw[if_neg (by rw[decide_eq_false he];decide),if_neg he];rfl
 refine⟨fun t y hy=>?_,fun i hi=>?_,fun t ht=>?_⟩
 ·rw[List.getElem?_set]at hy
  rw[hf]
  split at hy
  ·rename_i e
   subst e
   split at hy
   ·obtain rfl:_=y:=Option.some.inj hy
    rw[hget _ _ hx,if_pos rfl,List.map_append]
    rfl
   cases hy
  rename_i e
  rw[if_neg e,List.append_nil]
  exact hget t y hy
 ·rw[List.length_set,List.length_append,List.length_replicate]
  rcases List.mem_append.1 hi with hi | hi
  ·have:=h.2.1 i hi
   omega
  rw[List.mem_singleton.1 hi]
  omega
 rw[List.length_set,List.length_append,List.length_replicate]at ht
 by_cases htl:t<T.length
 ·obtain⟨i,h1,h2⟩:=h.2.2 t htl
  exact⟨i,List.mem_append_left _ h1,h2⟩
 exact⟨j,List.mem_append_right _ (List.mem_singleton.2 rfl),by omega⟩
theorem TrsD.plen{lev:Nat->Nat}{part:Nat->Prt}{D:List Nat}{T:List (List Prt)}{m t:Nat}{x:List Prt}(h:TrsD lev part D T)(hx:(T++List.replicate m [])[t]? =some x):x.length<=D.length:=by
 rw[List.getElem?_append]at hx
 split at hx
 ·rw[h.1 t x hx,List.length_map]
  exact List.length_filter_le _ _
 rw[List.getElem?_replicate]at hx
 split at hx
 ·obtain rfl:[]=x:=Option.some.inj hx
  exact Nat.zero_le _
 cases hx
theorem TrsD.trs{lev:Nat->Nat}{part:Nat->Prt}{cn:Nat->Nat->Bool}{k n:Nat}{T:List (List Prt)}(h:TrsD lev part ((List.range n).filter (cn k)) T):Trs lev cn part k n T:=by
 refine⟨fun t x hx=>?_,fun i hi hc=>h.2.1 i (List.mem_filter.2 ⟨List.mem_range.2 hi,hc⟩),fun t ht=>?_⟩
 ·rw[h.1 t x hx,List.filter_filter]
  congr 2
  funext i
  exact Bool.and_comm _ _
 obtain⟨i,h1,h2⟩:=h.2.2 t ht
 obtain⟨h3,h4⟩:=List.mem_filter.1 h1
 exact⟨i,List.mem_range.1 h3,h4,h2⟩
theorem TrsD.len{lev:Nat->Nat}{part:Nat->Prt}{D:List Nat}{n:Nat}{T:List (List Prt)}(h:TrsD lev part D T)(hn:∀i,i∈D->lev i<n):T.length<=n:=by
 rcases Nat.eq_zero_or_pos T.length with h0 | h0
 ·omega
 obtain⟨i,h1,h3⟩:=h.2.2 (T.length-1) (by omega)
 have:=hn i h1
 omega
def TirG(w1:World)(base:Nat)(v:Value)(us:List Value)(T:List (List Prt))(t:Nat)(p:Prt)(u':Value):Prop :=
 ∃ (w:World) (u:Value) (ps:List Prt) (g':Nat),TirU w base v us T/\us[t]? =some u/\T[t]? =some ps/\w.grownBy w1 u.ownBlock/\(u.ownBlock=some g'\/w.heap.size<=g')/\u'.ownBlock=some g'/\World.ownsRow w1 base 81 5 u' (ps.length+1) (flat Prt.enc (ps++[p]))
theorem a9b{a b c:World}{o:Option Nat}(h:a.grownBy b o)(hb:Below b.heap.size b c):a.grownBy c o :=
 ⟨hb.os.trans h.os,hb.tape.trans h.tape,hb.output.trans h.output,Nat.le_trans h.size hb.size,fun k hk hne=>(hb.block k (Nat.lt_of_lt_of_le hk h.size)).trans (h.block k hk hne)⟩
theorem TirG.below{w1 w2:World}{base:Nat}{v:Value}{us:List Value}{T:List (List Prt)}{t:Nat}{p:Prt}{u':Value}(h:TirG w1 base v us T t p u')(hb:Below w1.heap.size w1 w2):TirG w2 base v us T t p u':=by
 obtain⟨w,u,ps,g',h1,h2,h3,h4,h5,h6,h7⟩:=h
 exact⟨w,u,ps,g',h1,h2,h3,a9b h4 hb,h5,h6,Grows.below h7 hb⟩
theorem TirG.out{w1:World}{base:Nat}{v:Value}{us:List Value}{T:List (List Prt)}{t:Nat}{p:Prt}{u':Value}(h:TirG w1 base v us T t p u'):World.ownsRow w1 base 79 1 v us.length us:=by
 obtain⟨w,u,ps,g',h1,h2,h3,h4,h5,h6,h7⟩:=h
 exact a3b h1.out h4 (a3x (h1.inn t u ps h2 h3) (by decide))
theorem TirG.form{w1:World}{base:Nat}{v:Value}{us:List Value}{T:List (List Prt)}{t:Nat}{p:Prt}{u':Value}(h:TirG w1 base v us T t p u'):∃g n c,u'=.slice (some ⟨g,0,none⟩) n c:=by
 obtain⟨w,u,ps,g',h1,h2,h3,h4,h5,h6,h7⟩:=h
 obtain⟨g,c,rfl,_⟩:=World.ownsRow.form h7 (Nat.succ_pos _)
 exact⟨g,_,c,rfl⟩
theorem TirG.store{w1:World}{base go cap:Nat}{us:List Value}{T:List (List Prt)}{t:Nat}{p:Prt}{u':Value}{ps:List Prt}(h:TirG w1 base (.slice (some ⟨go,0,none⟩) us.length cap) us T t p u')(hT:T[t]? =some ps):Tir (w1.setCell ⟨go,t,none⟩ u') base (.slice (some ⟨go,0,none⟩) us.length cap) (T.set t (ps++[p])):=by
 obtain⟨w,u,qs,g',h1,h2,h3,h4,h5,h6,h7⟩:=h
 rw[hT]at h3
 obtain rfl:=Option.some.inj h3
 exact⟨_,h1.app h2 hT h4 h5 h6 h7⟩
theorem TirG.mk{w w1:World}{base g9 c9:Nat}{v u:Value}{us:List Value}{T:List (List Prt)}{t:Nat}{p:Prt}{ps:List Prt}{n9:Nat}(h:TirU w base v us T)(h2:us[t]? =some u)(h3:T[t]? =some ps)(h4:w.grownBy w1 u.ownBlock)(h5:(Value.slice (some ⟨g9,0,none⟩) n9 c9).ownBlock=u.ownBlock\/(Value.slice (some ⟨g9,0,none⟩) n9 c9).ownBlock=some w.heap.size)
  (h7:World.ownsRow w1 base 81 5 (.slice (some ⟨g9,0,none⟩) n9 c9) (ps.length+1) (flat Prt.enc ps++p.enc)):TirG w1 base v us T t p (.slice (some ⟨g9,0,none⟩) n9 c9) :=
 ⟨w,u,ps,g9,h,h2,h3,h4,by rcases h5 with h5 | h5;exact .inl h5.symm;exact .inr (Nat.le_of_eq (Option.some.inj h5).symm),rfl,by rw[a2s];simpa [flat]using h7⟩
theorem agr_load{w:World}{g:Nat}{a:Value}(h:Blk w g #[a] 78):(loadVar 78 ⟨g,0,none⟩).run Tryz.prog w=.ok (.agg #[a]) w :=
 run_loadVar_row w g _ _ _ _ _ h Tryz.underlying78 rfl (by have:=c7h;rw[Option.map_eq_some_iff]at this ⊢;obtain⟨i,hi,hz⟩:=this;simp only[Prod.mk.injEq]at hz;exact⟨i,hi,hz.2.1⟩)
theorem c5p{fn:Func}{p:Tmp}(h:fn.results=#[.cell p 78])(tmps:Array Value)(w:World)(g:Nat){a:Value}(hp:tmps.getD p undef=.pointer (some ⟨g,0,none⟩))(hg:Blk w g #[a] 78):(results fn tmps).run Tryz.prog w=.ok (.agg #[a]) w:=by
 have hp':tmps[p]?.getD undef=.pointer (some ⟨g,0,none⟩):=by simpa using hp
 simp[results,h,hp',asAddr,agr_load hg]
def AgmR(lev:Nat->Nat)(cn:Nat->Nat->Bool)(part:Nat->Prt)(k n:Nat)(w:World)(e:Ending)(w':World):Prop:=∃ (va:Value) (T:List (List Prt)),e=.returned (.agg #[va])/\Tir w' w.heap.size va T/\Trs lev cn part k n T/\Below w.heap.size w w'
theorem b1y{w0:World}{cl:List Nmd}{l:List Cls}{A:CAd}{C:CCo}(lev:Nat->Nat)(cn:Nat->Nat->Bool)(part:Nat->Prt)(k:Nat)(vm:Value)(gl:Nat)(w:World)(h:Cst w0 cl l A C w)(hm:Slc intE 1 w vm ((List.range cl.length).filter (cn k)))(hl:Blk w gl (rowE (.int .i64) cl.length (lvE lev)) 3)(hn:∀i,i<cl.length->lev i<cl.length)
  (hlim:∀i,i<cl.length->(C.Sl (i:Int)=(part i).capped)/\(part i).claim=i/\(C.Sl (i:Int)=true->C.fl (i:Int)=.agg #[.bool (part i).cap.n,.string (bs (part i).cap.a),.string (bs (part i).cap.b)])/\(C.Sl (i:Int)=false->(part i).cap=zero3)) (hcl:cl.length<=1000) :
  Calls Tryz.prog 48 #[.pointer (some ⟨A.g,0,none⟩),vm,.slice (some ⟨gl,0,none⟩) cl.length cl.length] w (AgmR lev cn part k cl.length w):=by
 obtain⟨i1,hi1,z10,z11,z12⟩:=d0k
 obtain⟨i2,hi2,z20,z21,z22⟩:=d0j
 have hlk:∀i,i<cl.length->(if C.Sl (i:Int)then C.fl (i:Int)else .agg #[.bool false,.string (bs []),.string (bs [])])=.agg #[.bool (part i).cap.n,.string (bs (part i).cap.a),.string (bs (part i).cap.b)]:=fun i hi=>by
  obtain⟨_,_,h3,h4⟩:=hlim i hi
  by_cases hs:C.Sl (i:Int)=true
  ·rw[if_pos hs];exact h3 hs
  rw[if_neg hs,h4 (Bool.eq_false_iff.2 hs)];rfl
 have hdl:∀i,i∈(List.range cl.length).filter (cn k)->i<cl.length:=fun i hi=>List.mem_range.1 (List.mem_filter.1 hi).1
 have hld:((List.range cl.length).filter (cn k)).length<=1000:=by have h8:=List.length_filter_le (cn k) (List.range cl.length);rw[List.length_range]at h8;omega
 have htr:=fun T=>@TrsD.trs lev part cn k cl.length T
 have hgl:=hl.lt
 have hlc:=fun i (hi:i<cl.length)=>hl.cell i _ (a8m hi)
 obtain⟨D,hDD⟩:∃D,D=(List.range cl.length).filter (cn k):=⟨_,rfl⟩
 rw[<- hDD]at hm hdl hld htr
 obtain⟨g,v1,v2,mc,mk,ml,nc,vb,vp,vr,gsb,gsp,ex⟩:=A
 obtain⟨A8,c8,rfl,_,_⟩:=hm.slice
 have HD:=zh (show ∀w',Below w.heap.size w w'->∀ (j:Nat) (v:Value),[v1,v2,.map (some mc),.map (some mk),vb,vp,.map (some ml),vr][j]? =some v->w'.cell? ⟨g,j,none⟩=some v from fun w' hb=>Cst.rd (Cst.below h hb))
 have HML:=zh h.ml
 have HM:=zh hm
 have HLK:=zh hlk
 have HLM:=zh (fun i hi=>(hlim i hi).1)
 have HCI:=zh (fun i hi=>(hlim i hi).2.1)
 have HDL:=zh hdl
 have HNL:=zh hn
 have HTR:=zh htr
 have HLC:=zh hlc
 have LD:=zh hld
 have LN:=zh hcl
 have Z10:=zh z10
 have Z20:=zh z20
 have hg:=h.lt
 dsimp only at hg HML
 clear h hm hl hn hlim hlk hdl hld htr hlc hDD hcl z10 z20
 go_enter Tryz.func48,Tryz.ntmps48
 have HS:=zh (St.start w)
 go_wp2
 have HS2:=zh (St.alloc ((St.alloc (HS.out) #[.slice none 0 0] 78 (w.heap.size) (by simp))) #[.slice none 0 0] 78 (w.heap.size+1) (by simp))
 go_loopw [15] (fun m_ wr=>∃ (m:Nat) (va:Value) (T:List (List Prt)),m<=D.length/\m_=.int .i64 m/\Hid (TrsD lev part (D.take m) T)/\Hid (Tir wr w.heap.size va T)/\Hid (St w [⟨w.heap.size+1,#[va],78⟩,⟨w.heap.size,#[.slice none 0 0],78⟩] wr)) (fun m_ _=>D.length-(intOf m_).toNat)
 case atStart=>exact⟨0,.slice none 0 0,[],Nat.zero_le _,rfl,TrsD.start _ _,Tir.nil _ _,HS2.out⟩
 case round =>
  clear HS2 HS
  obtain⟨m,va,T,hm,rfl,HT,HV,HS⟩:=hrel
  by_cases hmd:m<D.length
  ·obtain⟨b8,o8,j,rfl,hb8,hq,hx⟩:=HM.out.at_ hmd
   simp only[Nat.mul_one]at hx
   have HX:=zh (show ∀w',Below w.heap.size w w'->∀ (i:Nat) (v:Value),[.int .i64 ((j:Nat):Int)][i]? =some v->w'.cell? ⟨b8,o8+m+i,none⟩=some v from hx)
   have hjn:=HDL.out j (List.mem_of_getElem? hq)
   have HTK:=zh (show D.take (m+1)=D.take m++[j]from a3g hq)
   have HLV:=zh (a2z (show w.cell? ⟨gl,j,none⟩=some (.int .i64 ((lev j:Nat):Int))from HLC.out j hjn) hgl)
   have hlj:=HNL.out j hjn
   have htl:=HT.out.len (n:=cl.length) (fun i hi=>HNL.out i (HDL.out i (List.mem_of_mem_take hi)))
   have HTL:=zh htl
   have e1:(0:Int)<=((m:Nat):Int):=by omega
   have e2:((m:Nat):Int)<(D.length:Int):=by omega
   have e3:decide (((m:Nat):Int)<(D.length:Int))=true:=decide_eq_true e2
   have i5:IntKind.i64.wrap ((m:Int)+1)=((m+1:Nat):Int):=by have:=LD.out;rw[IntWalk.i64_in _ (by omega)];rfl
   have e4:(0:Int)<=((j:Nat):Int):=by omega
   have e5:((j:Nat):Int)<(cl.length:Int):=by omega
   clear hq hx htl
   have x1:=HX.out _ HS.out.below 0 _ rfl
   rw[Nat.add_zero]at x1
   have x2:=HLV.out _ HS.out.below 0 _ rfl
   rw[Nat.add_zero]at x2
   go_wp2
   skip
   go_loopg [31] (cl.length+1) (fun gk _ wr=>∃ (q:Nat) (va:Value),T.length+q<=max T.length (lev j+1)/\lev j+1-(T.length+q)<=gk/\Hid (Tir wr w.heap.size va (T++List.replicate q []))/\Hid (St w [⟨w.heap.size+1,#[va],78⟩,⟨w.heap.size,#[.slice none 0 0],78⟩] wr))
   case atStart=>exact⟨0,va,by omega,by omega,by rw[List.replicate_zero,List.append_nil];exact HV.out,HS.out⟩
   case round =>
    clear HS HV
    obtain⟨q,va,hq,hgk,HV,HS⟩:=hrel
    obtain⟨us,hu0⟩:=HV.out
    have HU:=zh hu0
    have hul:=hu0.len
    rw[List.length_append,List.length_replicate]at hul
    obtain⟨A7,c7,rfl,_,_⟩:=(Slc.of_own a9q (by rw[a6r];exact hu0.out) rfl).slice
    clear hu0
    have HUL:=zh hul
    clear hul
    by_cases hle:us.length<=lev j
    ·have d1:decide (((us.length:Nat):Int)<=((lev j:Nat):Int))=true:=decide_eq_true (by omega)
     have d2:decide (us.length<=lev j)=true:=decide_eq_true hle
     have x3:=HS.out.cell 0 rfl 0 rfl
     have x4:=HS.out.lt 0 rfl
     have x5:¬w.heap.size+1=wr.heap.size:=by omega
     have x6:¬wr.heap.size=w.heap.size+1:=by omega
     have HS3:=zh (St.alloc (HS.out) #[.slice none 0 0] 79 (wr.heap.size) (by simp))
     have hU:=HU.out.below (Ext.alloc (Below.refl wr.heap.size wr) (Obj.cells #[.slice none 0 0] 79))
     have hsz:=HS3.out.below.size
     have hblk:=HS3.out.blk 0 rfl
     go_wp2_with (at_builtin;refine wpList_append_own _ rfl _ _ 76 rfl w.heap.size 79 i2 _ 1 24 Tryz.underlying76 hi2 Z20.out z21 z22 rfl (by decide) (.slice A7 us.length c7) us.length us (by simp[Act.eval]) hU.out ⟨wr.heap.size,0,none⟩ 1 1 [.slice none 0 0] (by simp[Act.eval]) rfl (a6t hblk rfl) (fun u hu=>by rw[List.mem_singleton.1 hu];rfl) (by have:=LN.out;unfold maxLen;omega) (by have:=LN.out;omega) hsz ?_)
     intro v9 w9 hown9 hg9 _
     have hul:=HUL.out
     have hT9:=hU.put (ps:=[]) (World.ownsRow_nil _ _ _ _) (fun a _=>d2y a) hown9 hg9
     rw[List.append_assoc,<-List.replicate_succ']at hT9
     have HT9:=zh hT9
     have HSA:=zh ((HS3.out.sub (List.sublist_cons_self ..)).turnedO hg9 (fun q hq=>(World.ownsRow.lt hU.out q hq).1) (fun x hx=>by rcases List.mem_cons.1 hx with rfl | hx;exact a1m hU.out (HS3.out.blk 1 rfl) (by decide);rw[List.mem_singleton.1 hx];exact a1m hU.out (HS3.out.blk 2 rfl) (by decide)))
     obtain⟨g9,c9,rfl,_,_⟩:=World.ownsRow.form hown9 (Nat.succ_pos _)
     clear hown9 hg9 hT9 hU hblk hsz hul HS3
     clear x3 x4 x5 x6
     have x7:=HSA.out.cell 0 rfl 0 rfl
     have x8:=HSA.out.frozen 0 rfl 0
     have x9:=HSA.out.ne 0 1 rfl rfl (by decide)
     have x10:=HSA.out.ne 1 0 rfl rfl (by decide)
     go_wp2
     have HSA4:Hid (St w [⟨w.heap.size+1,#[.slice (some ⟨g9,0,none⟩) (us.length+1) c9],78⟩,⟨w.heap.size,#[.slice none 0 0],78⟩] _):=zh (St.set (HSA.out) 0 rfl 0 _)
     go_roundg (lev j+1-(T.length+(q+1)))
     case measure=>have:=HUL.out;omega
     case rel=>exact⟨q+1,.slice (some ⟨g9,0,none⟩) (us.length+1) c9,by have:=HUL.out;omega,Nat.le_refl _,c9g HT9.out (HSA.out.blk 0 rfl),HSA4.out⟩
    have hlt:lev j<us.length:=by omega
    obtain⟨go,c7',hv7,hgo1,hgo2⟩:=World.ownsRow.form HU.out.out (by omega)
    injection hv7 with hv7 _ hv8
    subst hv7
    subst hv8
    have htj:lev j<(T++List.replicate q []).length:=by rw[<- HU.out.len];exact hlt
    obtain⟨u,ps,hu,hps,hpo⟩:=HU.out.at_ htj
    have HPL:=zh (show ps.length<=1000 from Nat.le_trans (HT.out.plen hps) (by have h8:=List.length_take_le m D;have:=LD.out;omega))
    have HADD:=zh (HT.out.add (by have:=HUL.out;omega) hps)
    obtain⟨T2,hT2⟩:∃T2,T2=T++List.replicate q []:=⟨_,rfl⟩
    rw[<- hT2]at HU HV HADD hps
    have HUT:=zh hu
    have HPS:=zh hps
    have hlk:=HLK.out j hjn
    have hsk:=HLM.out j hjn
    have hci:=HCI.out j hjn
    obtain⟨p,hp⟩:∃p,p=part j:=⟨_,rfl⟩
    rw[<- hp]at hlk hsk hci HADD
    have HLJ:=zh hlk
    have HSK:=zh hsk
    have HPC:=zh hci
    have HKW:=zh (d1k (show j<=1000000 by have:=LN.out;omega))
    clear hlk hsk hci hp hT2 hu hps hpo
    have d1:decide (((us.length:Nat):Int)<=((lev j:Nat):Int))=false:=decide_eq_false (by omega)
    have d2:decide (us.length<=lev j)=false:=decide_eq_false hle
    have m1:(0:Int)<=((lev j:Nat):Int):=by omega
    have m2:((lev j:Nat):Int)<(us.length:Int):=by omega
    have x3:=HS.out.cell 0 rfl 0 rfl
    have x4:=HD.out _ HS.out.below 6 _ rfl
    go_upto_region 9 with (at_lookup;refine a0t rfl _ _ 67 rfl 3 39 c7c Tryz.underlying67 (b9b _) (HML.out.below HS.out.below) (by simp[Act.eval]) (((j:Nat):Int)) (by simp[Act.eval,intV]) HKW.out (.agg #[.bool p.cap.n,.string (bs p.cap.a),.string (bs p.cap.b)]) p.capped (HLJ.out) (HSK.out) ?_)
    clear x3 x4
    refine b4t (R:=[⟨wr.heap.size,#[.bool p.cap.n,.string (bs p.cap.a),.string (bs p.cap.b)],39⟩,⟨w.heap.size+1,#[.slice (some ⟨go,0,none⟩) us.length c7],78⟩,⟨w.heap.size,#[.slice none 0 0],78⟩]) (X:=fun W=>TirU W w.heap.size (.slice (some ⟨go,0,none⟩) us.length c7) us T2) (St.alloc (HS.out) #[.bool p.cap.n,.string (bs p.cap.a),.string (bs p.cap.b)] 39 (wr.heap.size) (by simp)) (HU.out.below (Ext.alloc (Below.refl wr.heap.size wr) (Obj.cells #[.bool p.cap.n,.string (bs p.cap.a),.string (bs p.cap.b)] 39))) ?_
    intro wg hb hu9
    have HS2:=zh hb
    have HU2:=zh hu9
    clear hb hu9 HU HV HS
    refine a5k 14 13 [0,1,2,3,4,5,6,7,8,9,10,11] [eQ (.pointer (some ⟨w.heap.size+1,0,none⟩)),eQ (.slice (some ⟨go,0,none⟩) us.length c7),eQ (.int .i64 (lev j:Nat)),eQ (.pointer (some ⟨w.heap.size+1,0,none⟩)),eQ (.slice (some ⟨go,0,none⟩) us.length c7),eQ (.int .i64 (lev j:Nat)),eQ (.pointer (some ⟨go,lev j,none⟩)),eQ (u),eQ (.int .i64 (j:Nat)),eQ (.bool p.capped),eQ (.agg #[.bool p.cap.n,.string (bs p.cap.a),.string (bs p.cap.b)]),eQ (.agg #[.int .i64 (j:Nat),.bool p.capped,.bool p.cap.n,.string (bs p.cap.a),.string (bs p.cap.b)]),fun ww vv=>∃g,vv=.slice (some ⟨g,0,none⟩) 1 1/\Blk ww g #[.int .i64 (j:Nat),.bool p.capped,.bool p.cap.n,.string (bs p.cap.a),.string (bs p.cap.b)] 81,fun _ _=>True] (fun W=>St w [⟨wr.heap.size,#[.bool p.cap.n,.string (bs p.cap.a),.string (bs p.cap.b)],39⟩,⟨w.heap.size+1,#[.slice (some ⟨go,0,none⟩) us.length c7],78⟩,⟨w.heap.size,#[.slice none 0 0],78⟩] W/\World.ownsRow W w.heap.size 79 1 (.slice (some ⟨go,0,none⟩) us.length c7) us.length us) (fun W=>TirU W w.heap.size (.slice (some ⟨go,0,none⟩) us.length c7) us T2) (fun v W=>TirG W w.heap.size (.slice (some ⟨go,0,none⟩) us.length c7) us T2 (lev j) p v) rfl (by kernel_rfl) (by kernel_rfl) (by kernel_rfl) (by decide) (by decide) (a9s ?_) (fun _ _ h hb=>h.below hb) (fun _ _ _ h hb=>h.below hb) (fun _ _ h hb=>⟨h.1.call hb,Grows.below h.2 hb⟩) ⟨HS2.out.drew,Grows.below HU2.out.out (Below.refl _ _).drew⟩ (HU2.out.below (Below.refl _ _).drew) ?_ ?_
    ·intro φ hφ
     rcases List.mem_cons.1 hφ with rfl | hφ
     ·exact fun _ _ _ h _=>h
     rcases List.mem_cons.1 hφ with rfl | hφ
     ·exact fun _ _ _ h _=>h
     rcases List.mem_cons.1 hφ with rfl | hφ
     ·exact fun _ _ _ h _=>h
     rcases List.mem_cons.1 hφ with rfl | hφ
     ·exact fun _ _ _ h _=>h
     rcases List.mem_cons.1 hφ with rfl | hφ
     ·exact fun _ _ _ h _=>h
     rcases List.mem_cons.1 hφ with rfl | hφ
     ·exact fun _ _ _ h _=>h
     rcases List.mem_cons.1 hφ with rfl | hφ
     ·exact fun _ _ _ h _=>h
     rcases List.mem_cons.1 hφ with rfl | hφ
     ·exact fun _ _ _ h _=>h
     rcases List.mem_cons.1 hφ with rfl | hφ
     ·exact fun _ _ _ h _=>h
     rcases List.mem_cons.1 hφ with rfl | hφ
     ·exact fun _ _ _ h _=>h
     rcases List.mem_cons.1 hφ with rfl | hφ
     ·exact fun _ _ _ h _=>h
     rcases List.mem_cons.1 hφ with rfl | hφ
     ·exact fun _ _ _ h _=>h
     rcases List.mem_cons.1 hφ with rfl | hφ
     ·exact fun _ _ _ ⟨g,e,h⟩ hb=>⟨g,e,h.below hb h.lt⟩
     rcases List.mem_cons.1 hφ with rfl | hφ
     ·exact fun _ _ _ h _=>h
     cases hφ
    ·refine⟨?_,?_,?_,?_,?_,?_,?_,?_,?_,?_,?_,?_,?_,?_,trivial⟩
     ·intro xx af wv hz h0 hev hev0 hd
      have e7:af.tmps[7]?.getD undef=.pointer (some ⟨w.heap.size+1,0,none⟩):=hev0 7 rfl
      rw[if_neg (by decide)]
      obtain⟨hs1,ho1⟩:=hz
      clear hev hev0 hd h0
      go_wp2
      exact sQ rfl
     ·intro xx af wv hz h0 hev hev0 hd
      have e42:=hev 0 _ 42 rfl rfl
      have d0:xx 0=.pointer (some ⟨w.heap.size+1,0,none⟩):=hd ⟨0,.data⟩ (by simp) rfl (by decide) (.inr (.inr (by decide)))
      rw[d0]at e42
      clear d0
      rw[if_neg (by decide)]
      obtain⟨hs1,ho1⟩:=hz
      clear hev hev0 hd h0
      have y0:=hs1.cell 1 rfl 0 rfl
      go_wp2
      exact sQ rfl
     ·intro xx af wv hz h0 hev hev0 hd
      have e10:af.tmps[10]?.getD undef=.int .i64 (lev j:Nat):=hev0 10 rfl
      rw[if_neg (by decide)]
      obtain⟨hs1,ho1⟩:=hz
      clear hev hev0 hd h0
      go_wp2
      exact sQ rfl
     ·intro xx af wv hz h0 hev hev0 hd
      have e7:af.tmps[7]?.getD undef=.pointer (some ⟨w.heap.size+1,0,none⟩):=hev0 7 rfl
      rw[if_neg (by decide)]
      obtain⟨hs1,ho1⟩:=hz
      clear hev hev0 hd h0
      go_wp2
      exact sQ rfl
     ·intro xx af wv hz h0 hev hev0 hd
      have e45:=hev 3 _ 45 rfl rfl
      have d3:xx 3=.pointer (some ⟨w.heap.size+1,0,none⟩):=hd ⟨3,.data⟩ (by simp) rfl (by decide) (.inr (.inr (by decide)))
      rw[d3]at e45
      clear d3
      rw[if_neg (by decide)]
      obtain⟨hs1,ho1⟩:=hz
      clear hev hev0 hd h0
      have y0:=hs1.cell 1 rfl 0 rfl
      go_wp2
      exact sQ rfl
     ·intro xx af wv hz h0 hev hev0 hd
      have e10:af.tmps[10]?.getD undef=.int .i64 (lev j:Nat):=hev0 10 rfl
      rw[if_neg (by decide)]
      obtain⟨hs1,ho1⟩:=hz
      clear hev hev0 hd h0
      go_wp2
      exact sQ rfl
     ·intro xx af wv hz h0 hev hev0 hd
      have e46:=hev 4 _ 46 rfl rfl
      have d4:xx 4=.slice (some ⟨go,0,none⟩) us.length c7:=hd ⟨4,.data⟩ (by simp) rfl (by decide) (.inr (.inr (by decide)))
      rw[d4]at e46
      clear d4
      have e47:=hev 5 _ 47 rfl rfl
      have d5:xx 5=.int .i64 (lev j:Nat):=hd ⟨5,.data⟩ (by simp) rfl (by decide) (.inr (.inr (by decide)))
      rw[d5]at e47
      clear d5
      rw[if_neg (by decide)]
      obtain⟨hs1,ho1⟩:=hz
      clear hev hev0 hd h0
      go_wp2
      exact sQ rfl
     ·intro xx af wv hz h0 hev hev0 hd
      have e48:=hev 6 _ 48 rfl rfl
      have d6:xx 6=.pointer (some ⟨go,lev j,none⟩):=hd ⟨6,.data⟩ (by simp) rfl (by decide) (.inr (.inr (by decide)))
      rw[d6]at e48
      clear d6
      rw[if_neg (by decide)]
      obtain⟨hs1,ho1⟩:=hz
      clear hev hev0 hd h0
      have y0:wv.cell? ⟨go,lev j,none⟩=some u:=by rw[World.ownsRow.cellAt ho1 (lev j) (by omega)];exact HUT.out
      go_wp2
      exact sQ rfl
     ·intro xx af wv hz h0 hev hev0 hd
      have e9:af.tmps[9]?.getD undef=.int .i64 (j:Nat):=hev0 9 rfl
      rw[if_neg (by decide)]
      obtain⟨hs1,ho1⟩:=hz
      clear hev hev0 hd h0
      go_wp2
      exact sQ rfl
     ·intro xx af wv hz h0 hev hev0 hd
      have e12:af.tmps[12]?.getD undef=.bool p.capped:=hev0 12 rfl
      rw[if_neg (by decide)]
      obtain⟨hs1,ho1⟩:=hz
      clear hev hev0 hd h0
      go_wp2
      exact sQ rfl
     ·intro xx af wv hz h0 hev hev0 hd
      have e11:af.tmps[11]?.getD undef=.pointer (some ⟨wr.heap.size,0,none⟩):=hev0 11 rfl
      rw[if_neg (by decide)]
      obtain⟨hs1,ho1⟩:=hz
      clear hev hev0 hd h0
      have y0:=hs1.cell 0 rfl 0 rfl
      have y1:=hs1.cell 0 rfl 1 rfl
      have y2:=hs1.cell 0 rfl 2 rfl
      go_wp2
      exact sQ rfl
     ·intro xx af wv hz h0 hev hev0 hd
      have e50:=hev 8 _ 50 rfl rfl
      have d8:xx 8=.int .i64 (j:Nat):=hd ⟨8,.data⟩ (by simp) rfl (by decide) (.inr (.inr (by decide)))
      rw[d8]at e50
      clear d8
      have e51:=hev 9 _ 51 rfl rfl
      have d9:xx 9=.bool p.capped:=hd ⟨9,.data⟩ (by simp) rfl (by decide) (.inr (.inr (by decide)))
      rw[d9]at e51
      clear d9
      have e52:=hev 10 _ 52 rfl rfl
      have d10:xx 10=.agg #[.bool p.cap.n,.string (bs p.cap.a),.string (bs p.cap.b)]:=hd ⟨10,.data⟩ (by simp) rfl (by decide) (.inr (.inr (by decide)))
      rw[d10]at e52
      clear d10
      rw[if_neg (by decide)]
      obtain⟨hs1,ho1⟩:=hz
      clear hev hev0 hd h0
      go_wp2
      exact sQ rfl
     ·intro xx af wv hz h0 hev hev0 hd
      have e53:=hev 11 _ 53 rfl rfl
      have d11:xx 11=.agg #[.int .i64 (j:Nat),.bool p.capped,.bool p.cap.n,.string (bs p.cap.a),.string (bs p.cap.b)]:=hd ⟨11,.data⟩ (by simp) rfl (by decide) (.inr (.inr (by decide)))
      rw[d11]at e53
      clear d11
      rw[if_neg (by decide)]
      obtain⟨hs1,ho1⟩:=hz
      clear hev hev0 hd h0
      go_wp2
      exact StepQ.mk _ (Ext.alloc (Below.refl _ _) _) ⟨_,rfl,Blk.new _ _ _⟩
     intro xx af wv hz h0 hev hev0 hd
     have e49:=hev 7 _ 49 rfl rfl
     have d7:xx 7=u:=hd ⟨7,.data⟩ (by simp) rfl (by decide) (.inl rfl)
     rw[d7]at e49
     clear d7
     have e54:=hev 12 _ 54 rfl rfl
     have d12:∃g,(xx 12)=.slice (some ⟨g,0,none⟩) 1 1/\Blk wv g #[.int .i64 (j:Nat),.bool p.capped,.bool p.cap.n,.string (bs p.cap.a),.string (bs p.cap.b)] 81:=hd ⟨12,.data⟩ (by simp) rfl (by decide) (.inl rfl)
     rw[if_pos rfl]
     intro hI0
     obtain⟨hs1,ho1⟩:=hz
     obtain⟨gN,hxN,hBN⟩:=d12
     rw[hxN]at e54
     clear hev hev0 hd h0
     obtain⟨_,qs,hu1,hq1,hpo⟩:=hI0.at_ (show lev j<T2.length by rw[<- hI0.len];exact hlt)
     rw[HUT.out]at hu1
     obtain rfl:=Option.some.inj hu1
     rw[HPS.out]at hq1
     obtain rfl:=Option.some.inj hq1
     have hsz:=hs1.below.size
     have LPS:=HPL.out
     refine wpList_append_own_at _ rfl _ _ 79 rfl w.heap.size 81 i1 _ 5 56 Tryz.underlying79 hi1 Z10.out z11 z12 rfl (by decide) u ps.length (flat Prt.enc ps) ((a3j _ _).trans e49) hpo ⟨gN,0,none⟩ 1 1 p.enc ((a3j _ _).trans e54) rfl (a6t hBN (by unfold Prt.enc;rw[HPC.out])) (prt_one p) (by unfold maxLen;omega) (by omega) hsz ?_
     intro v9 w9 hown9 hg9 _ hat
     obtain⟨g9,c9,rfl,_,_⟩:=World.ownsRow.form hown9 (Nat.succ_pos _)
     have hG:=TirG.mk hI0 HUT.out HPS.out hg9 hat hown9
     have hZ:=hs1.turnedO hg9 (fun q hq=>(World.ownsRow.lt hpo q hq).1) (fun x hx=>by rcases List.mem_cons.1 hx with rfl | hx;exact a1m hpo (hs1.blk 0 rfl) (by decide);rcases List.mem_cons.1 hx with rfl | hx;exact a1m hpo (hs1.blk 1 rfl) (by decide);rw[List.mem_singleton.1 hx];exact a1m hpo (hs1.blk 2 rfl) (by decide))
     go_wp2
     refine StepMA.mk _ ⟨hZ,hG.out⟩ hG ?_
     intro i hi v hv
     simp only[List.mem_cons,List.not_mem_nil,or_false]at hi
     rcases hi with rfl | rfl | rfl | rfl | rfl | rfl | rfl | rfl | rfl | rfl | rfl | rfl<;>exact hv
    intro xx w5 hz hI hv
    have hv0:xx 0=_:=hv 0 (by decide)
    have hv1:xx 1=_:=hv 1 (by decide)
    have hv2:xx 2=_:=hv 2 (by decide)
    have hv3:xx 3=_:=hv 3 (by decide)
    have hv4:xx 4=_:=hv 4 (by decide)
    have hv5:xx 5=_:=hv 5 (by decide)
    have hv6:xx 6=_:=hv 6 (by decide)
    have hv7:xx 7=_:=hv 7 (by decide)
    have hv8:xx 8=_:=hv 8 (by decide)
    have hv9:xx 9=_:=hv 9 (by decide)
    have hv10:xx 10=_:=hv 10 (by decide)
    have hv11:xx 11=_:=hv 11 (by decide)
    clear hv
    obtain⟨u13,hu13⟩:∃z,z=xx 13:=⟨_,rfl⟩
    obtain⟨u12,hu12⟩:∃z,z=xx 12:=⟨_,rfl⟩
    rw[<- hu13]at hI
    obtain⟨g13,n13,c13,hf13⟩:=hI.form
    subst hf13
    simp only[List.take,List.drop,a0h,Act.put]
    simp only[hv0,hv1,hv2,hv3,hv4,hv5,hv6,hv7,hv8,hv9,hv10,hv11,<-hu12,<-hu13]
    clear hv0 hv1 hv2 hv3 hv4 hv5 hv6 hv7 hv8 hv9 hv10 hv11 hu12 hu13
    obtain⟨hs5,ho5⟩:=hz
    have HG5:=zh (hI.store HPS.out)
    have y1:=World.ownsRow.frozenAt ho5 (lev j)
    have y2:w5.cell? ⟨go,lev j,none⟩=some u:=by rw[World.ownsRow.cellAt ho5 (lev j) (by omega)];exact HUT.out
    have hgr:=(World.ownsRow.stored ho5 (lev j) (.slice (some ⟨g13,0,none⟩) n13 c13)).2
    have HS5:=zh ((hs5.sub (List.sublist_cons_self ..)).turnedR hgr hgo1 (fun x hx=>by rcases List.mem_cons.1 hx with rfl | hx;exact fun e=>a1m ho5 (hs5.blk 1 rfl) (by decide) (congrArg some e);rw[List.mem_singleton.1 hx];exact fun e=>a1m ho5 (hs5.blk 2 rfl) (by decide) (congrArg some e)))
    clear hs5 ho5 hI hgr HU2 HS2
    go_wp2
    go_roundw
    case rel=>exact⟨m+1,_,_,by omega,by go_num,by rw[HTK.out];exact HADD.out,HG5.out,HS5.out⟩
    case measure=>simp[intOf];omega
  obtain⟨us,hu0⟩:=HV.out
  obtain⟨A9,c9,rfl,_,_⟩:=(Slc.of_own a9q (by rw[a6r];exact hu0.out) rfl).slice
  clear hu0
  have hme:m=D.length:=by omega
  rw[hme,List.take_length]at HT
  rw[hme]
  have e3:decide (((D.length:Nat):Int)<(D.length:Int))=false:=decide_eq_false (by omega)
  clear hme hm hmd
  have x1:=HS.out.cell 0 rfl 0 rfl
  have x2:=HS.out.cell 1 rfl 0 rfl
  have x3:=HS.out.frozen 1 rfl 0
  have x4:=HS.out.ne 1 0 rfl rfl (by decide)
  have x5:=HS.out.ne 0 1 rfl rfl (by decide)
  go_wp2
  have HS3:Hid (St w [⟨w.heap.size+1,#[.slice A9 us.length c9],78⟩,⟨w.heap.size,#[.slice A9 us.length c9],78⟩] _):=zh (St.set (HS.out) 1 rfl 0 _)
  refine bodyPost_ret (c5p rfl _ _ _ rfl (HS3.out.blk 1 rfl)) rfl ?_
  exact⟨_,T,rfl,c9g HV.out (HS.out.blk 1 rfl),HTR.out T HT.out,HS3.out.below⟩
end Go.Proofs.YtjmiicjialkpiaaGreatDoor
