/-
Part 47 of the base.
-/
import Derived.Test.YtjmiicjialkpiaaGreatDoorRf26
import Derived.Test.YtjmiicjialkpiaaGreatDoorRf45
import Derived.Test.YtjmiicjialkpiaaGreatDoorRf29
set_option maxRecDepth 100000
set_option maxHeartbeats 4000000
namespace Go.Proofs.YtjmiicjialkpiaaGreatDoor
open Go.RowKit
theorem est_size:(Tryz.prog.info? 44).map (·.size)=some 5:=by kernel_rfl
theorem c8x{fn:Func}{p:Tmp}(h:fn.results=#[.cell p 44])(tmps:Array Value)(w:World)(g:Nat){cs:Array Value}
  (hp:tmps.getD p undef=.pointer (some ⟨g,0,none⟩)) (hg:Blk w g cs 44) (hcs:cs.size=5):(results fn tmps).run Tryz.prog w=.ok (.agg cs) w :=
 results_cell_row h tmps w g _ _ _ _ hp hg Tryz.underlying44 rfl (by rw[hcs];exact est_size)
theorem info_clm:(Tryz.prog.info? 89).map (fun i=>(i.zero,i.size,i.bytes))=some (some (.agg #[.int .i64 0,.int .i64 0,.bool false,.string (bs []),.string (bs [])]),5,56):=by kernel_rfl
theorem clm_info:∃i,Tryz.prog.info? 89=some i/\i.zero=some (.agg #[.int .i64 0,.int .i64 0,.bool false,.string (bs []),.string (bs [])])/\i.size=5/\i.bytes=56:=by
 obtain⟨i,hi,hzz⟩:=Option.map_eq_some_iff.1 info_clm
 simp only[Prod.mk.injEq]at hzz
 exact⟨i,hi,hzz⟩
theorem d2r(c:Clm):∀u∈c.enc,u.oneCell'=true:=by
 intro u hu
 unfold Clm.enc at hu
 simp only[List.mem_cons,List.mem_nil_iff,or_false]at hu
 rcases hu with rfl | rfl | rfl | rfl | rfl<;>rfl
def estC(cl:List Nmd)(R:List Int):List Clm:=List.zipWith (fun c r=>⟨r,c.am⟩) cl R
theorem b1v{cl:List Nmd}{R:List Int}(h:R.length=cl.length):(estC cl R).length=cl.length:=by
 unfold estC
 rw[List.length_zipWith,h,Nat.min_self]
theorem d2h{cl:List Nmd}{R:List Int}{i:Nat}{c:Nmd}{r:Int}(hc:cl[i]? =some c)(hr:R[i]? =some r):(estC cl R)[i]? =some ⟨r,c.am⟩:=by
 unfold estC
 rw[List.getElem?_zipWith,hc,hr]
theorem c0u{cl:List Nmd}{R:List Int}{x:Clm}(h:x∈estC cl R):∃ (i:Nat) (c:Nmd) (r:Int),cl[i]? =some c/\R[i]? =some r/\x=⟨r,c.am⟩:=by
 obtain⟨i,hi⟩:=List.mem_iff_getElem?.1 h
 unfold estC at hi
 rw[List.getElem?_zipWith]at hi
 cases hc:cl[i]? with
 | none=>rw[hc]at hi;cases hr:R[i]? <;>rw[hr]at hi<;>cases hi
 | some c =>
  cases hr:R[i]? with
  | none=>rw[hc,hr]at hi;cases hi
  | some r =>
   rw[hc,hr]at hi
   exact⟨i,c,r,hc,hr,(Option.some.inj hi).symm⟩
theorem b1u(p:Nat->Bool)(n:Nat):((List.range n).filter p).length<=n:=Nat.le_trans (List.length_filter_le _ _) (by rw[List.length_range];exact Nat.le_refl _)
theorem est_ok{cl:List Nmd}{l:List Cls}{R:List Int}{A:List (List (List Prt))}(hk:a3a cl=0)(hO:Okay cl l)(hR:Ranks cl l l.length R)(hA:Agrs cl l A)(hn:cl.length<=8)(h1:∀c∈cl,c.am.a.length<=17179869184/\c.am.b.length<=17179869184)(h2:∀x∈l,(enc3 x.am.val).a.length<=17179869184/\(enc3 x.am.val).b.length<=17179869184):EstOk (estC cl R) A:=by
 obtain⟨rb,cn,lev,hrb,hcn,hlv,rfl⟩:=hA
 have hb:∀i j,Rel cl l l.length i j->i<cl.length/\j<cl.length:=fun _ _ h=>h.lt
 have hu:=b9a (lev:=lev) (part:=a2e cl l) hrb hcn hb (a3r cl l)
 have hlen:=b1v hR.1
 have hnn:a1n [] cl=0:=by
  unfold a3a at hk
  split at hk
  ·cases hk
  exact hk
 have hne:∀ (i:Nat) (c:Nmd),cl[i]? =some c->(0<=c.rank/\c.rank<=7)/\¬sgn c.am.val.num<0:=fun i c hc=>by
  have h0:=b5u cl [] hnn i c hc
  unfold a2g at h0
  split at h0
  ·cases h0
  split at h0
  ·cases h0
  split at h0
  ·cases h0
  split at h0
  ·cases h0
  rename_i _ _ a b
  exact⟨by omega,b⟩
 have hplc:∀ {T:List (List Prt)} {P:List Prt} {x:Prt},T∈a8b cl.length rb lev cn (a2e cl l)->P∈T->x∈P->∃k t q,Plc (a8b cl.length rb lev cn (a2e cl l)) k t q x/\(a8b cl.length rb lev cn (a2e cl l))[k]? =some T:=fun hT hP hx=>by
  obtain⟨k,e1⟩:=List.mem_iff_getElem?.1 hT
  obtain⟨t,e2⟩:=List.mem_iff_getElem?.1 hP
  obtain⟨q,e3⟩:=List.mem_iff_getElem?.1 hx
  exact⟨k,t,q,⟨_,_,e1,e2,e3⟩,e1⟩
 refine⟨by omega,?_,fun c hc=>?_,fun c hc=>?_,fun T hT=>?_,fun T hT P hP x hx=>?_,fun j k T T' hjk hT hT' P hP x hx=>?_⟩
 ·unfold a8b
  rw[List.length_map]
  have:=b1u (a7d cl.length rb cn) cl.length
  omega
 ·obtain⟨i,d,r,hd,hr,rfl⟩:=c0u hc
  have h3:=(c1s hO hR hd hr).1
  have h4:=(hne i d hd).1
  show 0<=r/\r<=7
  omega
 ·obtain⟨i,d,r,hd,hr,rfl⟩:=c0u hc
  have h4:=(hne i d hd).2
  have h5:=h1 d (List.mem_of_getElem? hd)
  exact⟨by show 0<=sgn d.am.val.num;omega,h5.1,h5.2⟩
 ·obtain⟨k,e1⟩:=List.mem_iff_getElem?.1 hT
  obtain⟨d,_,_,_,rfl⟩:=agrOf_at.1 e1
  refine⟨?_,fun P hP=>?_⟩
  ·unfold b0c
   have:=List.length_filter_le (fun t:List Prt=>!t.isEmpty) ((List.range cl.length).map (a4r cl.length lev cn (a2e cl l) d))
   rw[List.length_map,List.length_range]at this
   omega
  obtain⟨t,e2⟩:=List.mem_iff_getElem?.1 hP
  obtain⟨v,_,_,_,rfl⟩:=tiersK_at.1 e2
  unfold a4r
  rw[List.length_map]
  have:=b1u (fun i=>cn d i&&decide (lev i=v)) cl.length
  omega
 ·obtain⟨k,t,q,hp,_⟩:=hplc hT hP hx
  obtain⟨d,i,_,_,_,hi,_,_,_,_,rfl⟩:=plc_iff.1 hp
  have hcap:=c6p hO i
  refine⟨by rw[a3r];omega,fun h=>(by have:=b7z (hcap h);omega),?_⟩
  unfold a2e
  split
  ·exact⟨Nat.zero_le _,Nat.zero_le _⟩
  split
  ·exact⟨Nat.zero_le _,Nat.zero_le _⟩
  rename_i y hy
  exact h2 y (List.mem_of_find?_eq_some hy)
 cases hm:memB T' x.claim with
 | false=>rfl
 | true =>
  obtain⟨P',hP',x',hx',he⟩:=memB_iff.1 hm
  obtain⟨k1,t1,q1,hp1,e1⟩:=hplc (List.mem_of_getElem? hT) hP hx
  obtain⟨t,e2⟩:=List.mem_iff_getElem?.1 hP
  obtain⟨q,e3⟩:=List.mem_iff_getElem?.1 hx
  obtain⟨t',e2'⟩:=List.mem_iff_getElem?.1 hP'
  obtain⟨q',e3'⟩:=List.mem_iff_getElem?.1 hx'
  obtain⟨e,_,_⟩:=hu.2 k t q x j t' q' x' ⟨_,_,hT,e2,e3⟩ ⟨_,_,hT',e2',e3'⟩ he.symm
  omega
theorem d2t{xs:List Qua}(h:∀x∈xs,x.ok):∀x∈a3d xs,(enc3 x.am.val).a.length<=17179869184/\(enc3 x.am.val).b.length<=17179869184:=by
 intro x hx
 unfold a3d at hx
 obtain⟨y,hy,rfl⟩:=List.mem_map.1 hx
 have h1:=c0w (a3v (h y (List.mem_of_mem_take hy)).2.2.1)
 have h0:(enc3 zero3.val).a.length<=17179869184/\(enc3 zero3.val).b.length<=17179869184:=by
  have e:enc3 zero3.val=zero3:=by decide +kernel
  rw[e];exact⟨Nat.zero_le _,Nat.zero_le _⟩
 unfold clsN
 split
 ·exact h0
 split
 ·exact h0
 split
 ·dsimp only
  rw[b1w]
  exact h1
 exact h0
theorem c3e(v:Value)(cl:List Nmd)(vr va:Value)(R:List Int)(A:List (List (List Prt)))(w:World)(h:NmdL w v cl)(hP:PrgL w (vr,va) R A)(hl:R.length=cl.length)(hn:cl.length<=1000) :
  Calls Tryz.prog 9 #[v,.agg #[vr,va]] w fun e w'=>∃ve,e=.returned (.agg #[.bool false,.string (bs []),.string (bs []),ve,va])/\ClmL w' ve (estC cl R)/\Below w.heap.size w w':=by
 obtain⟨ic,hic,hcz,hc1,hc8⟩:=clm_info
 have HC0:=zh hic
 have HCZ:=zh hcz
 have HN:=zh h
 have HR:=zh hP.1
 obtain⟨An,cn,rfl,_,_⟩:=Slc.slice h
 obtain⟨Ar,cr,rfl,_,_⟩:=Slc.slice hP.1
 obtain⟨Aa,ca,rfl,_,_⟩:=NstL.slice hP.2
 have HL:=zh hl
 have LC:=zh hn
 have HEL:=zh (b1v hl)
 have HAT:=zh (fun i c r hc hr=>d2h (cl:=cl) (R:=R) (i:=i) (c:=c) (r:=r) hc hr)
 clear h hP hl hn hic hcz
 generalize estC cl R=E at *
 go_enter Tryz.func9,Tryz.ntmps9
 have HS:=zh (St.start w)
 go_wp2
 have HS2:=aL (aL (aL HS #[.slice Ar R.length cr,.slice Aa A.length ca] 32 w.heap.size) #[.bool false,.string (bs []),.string (bs []),.slice none 0 0,.slice none 0 0] 44 (w.heap.size+1)) #[.bool false,.string (bs []),.string (bs []),.slice none 0 0,.slice Aa A.length ca] 44 (w.heap.size+1+1)
 go_loopw [13] (fun i_ wr=>∃ (k:Nat) (lv:Value),k<=cl.length/\i_=.int .i64 k/\Hid (Grows wr w.heap.size 89 5 lv k (flat Clm.enc (E.take k)))/\Hid (St w [⟨w.heap.size+1+1,#[.bool false,.string (bs []),.string (bs []),lv,.slice Aa A.length ca],44⟩,⟨w.heap.size+1,#[.bool false,.string (bs []),.string (bs []),.slice none 0 0,.slice none 0 0],44⟩,⟨w.heap.size,#[.slice Ar R.length cr,.slice Aa A.length ca],32⟩] wr)) (fun i_ _=>cl.length-(intOf i_).toNat)
 case atStart=>exact⟨0,.slice none 0 0,Nat.zero_le _,rfl,World.ownsRow_nil _ _ _ _,HS2.out⟩
 case round =>
  clear HS2
  obtain⟨k,lv,hk,rfl,HG,HS⟩:=hrel
  obtain⟨wo,hwo⟩:∃wo:World,wo=wr:=⟨_,rfl⟩
  subst hwo
  by_cases hkn:k<cl.length
  ·obtain⟨b1,o1,x,rfl,hb1,hq1,hx1⟩:=Slc.at_ HN.out hkn
   obtain⟨b2,o2,r,rfl,hb2,hq2,hx2⟩:=Slc.at_ HR.out (j:=k) (by have:=HL.out;omega)
   have HQ:=zh (HAT.out k x r hq1 hq2)
   unfold Nmd.enc at hx1
   unfold zE at hx2
   simp only[Nat.mul_one]at hx2
   have HX1:=zh hx1
   have hx2:∀w',Below w.heap.size w w'->∀ (j:Nat) (y:Value),[Value.int .i64 r][j]? =some y->w'.cell? ⟨b2,o2+k+j,none⟩=some y:=hx2
   have HX2:=zh hx2
   have e0:(0:Int)<=((k:Nat):Int):=by omega
   have e1:((k:Nat):Int)<(cl.length:Int):=by omega
   have e2:decide (((k:Nat):Int)<(cl.length:Int))=true:=decide_eq_true e1
   have e5:IntKind.i64.wrap ((k:Int)+1)=((k+1:Nat):Int):=by have:=LC.out;rw[IntWalk.i64_in _ (by omega)];rfl
   have e6:((k:Nat):Int)<(R.length:Int):=by have:=HL.out;omega
   have HFT:=zh (a3g HQ.out)
   clear hq1 hq2 hx1 hx2
   have x1:b1<wo.heap.size:=Nat.lt_of_lt_of_le hb1 HS.out.below.size
   have x2:¬b1=wo.heap.size:=by omega
   obtain⟨x3,x4,x5⟩:=kE0 (HX1.out _ HS.out.below) rfl rfl rfl
   have x6:=HX1.out _ HS.out.below 3 _ rfl
   have x7:=HX1.out _ HS.out.below 4 _ rfl
   go_upto_region 5 with fail
   clear x1 x2 x3 x4 x5 x6 x7
   refine b4t (R:=[⟨wo.heap.size,#[.string (bs x.id),.int .i64 x.rank,.bool x.am.n,.string (bs x.am.a),.string (bs x.am.b)],53⟩,⟨w.heap.size+1+1,#[.bool false,.string (bs []),.string (bs []),lv,.slice Aa A.length ca],44⟩,⟨w.heap.size+1,#[.bool false,.string (bs []),.string (bs []),.slice none 0 0,.slice none 0 0],44⟩,⟨w.heap.size,#[.slice (some ⟨b2,o2,none⟩) R.length cr,.slice Aa A.length ca],32⟩]) (X:=fun W=>Grows W w.heap.size 89 5 lv k (flat Clm.enc (E.take k))) (St.alloc (HS.out) #[.string (bs x.id),.int .i64 x.rank,.bool x.am.n,.string (bs x.am.a),.string (bs x.am.b)] 53 (wo.heap.size) (by simp)) (HG.out.below (Ext.alloc (Below.refl wo.heap.size wo) (Obj.cells #[.string (bs x.id),.int .i64 x.rank,.bool x.am.n,.string (bs x.am.a),.string (bs x.am.b)] 53))) ?_
   intro wg hb hx
   have HSg:=zh hb
   have HGg:=zh hx
   clear hb hx HG HS
   go_wp2
   refine a0d 11 [eQ (.pointer (some ⟨w.heap.size+1+1,3,none⟩)),eQ (lv),eQ (.pointer (some ⟨w.heap.size,0,none⟩)),eQ (.slice (some ⟨b2,o2,none⟩) R.length cr),eQ (.int .i64 (k:Nat)),eQ (.pointer (some ⟨b2,o2+k,none⟩)),eQ (.int .i64 r),eQ (.pointer (some ⟨wo.heap.size,2,none⟩)),eQ (.agg #[.bool x.am.n,.string (bs x.am.a),.string (bs x.am.b)]),eQ (.agg #[.int .i64 (-1),.int .i64 r,.bool x.am.n,.string (bs x.am.a),.string (bs x.am.b)]),fun ww vv=>∃g,vv=.slice (some ⟨g,0,none⟩) 1 1/\wg.heap.size<=g/\Blk ww g #[.int .i64 (-1),.int .i64 r,.bool x.am.n,.string (bs x.am.a),.string (bs x.am.b)] 89] rfl (by kernel_rfl) (by kernel_rfl) (by kernel_rfl) ⟨stE,stE,stE,stE,stE,stE,stE,stE,stE,stE,fun _ _ _ ⟨g,e,hg,h⟩ hb=>⟨g,e,hg,h.below hb h.lt⟩,trivial⟩ ?_ ?_
   refine⟨?_,?_,?_,?_,?_,?_,?_,?_,?_,?_,?_,trivial⟩<;>(intro xx af wv hbx hev hev0 hd;have H:=SH.mk hev hev0 hd;clear hev hev0 hd)
   ·have e5:=H.i 5;clear H;go_wp2;exact sQ rfl
   ·have e18:=H.r 0 18;clear H;have hs1:=zh (HSg.out.call hbx);have y0:=cC hs1 1 3;go_wp2;exact sQ rfl
   ·have e3:=H.i 3;clear H;go_wp2;exact sQ rfl
   ·have e20:=H.r 2 20;clear H;have hs1:=zh (HSg.out.call hbx);have y0:=cC hs1 3 0;go_wp2;exact sQ rfl
   ·have e6:=H.i 6;clear H;go_wp2;exact sQ rfl
   ·have e21:=H.r 3 21;have e22:=H.r 4 22;clear H;go_wp2;exact sQ rfl
   ·have e23:=H.r 5 23;clear H;have hs1:=zh (HSg.out.call hbx);have y0:=HX2.out _ hs1.out.below 0 _ rfl;rw[Nat.add_zero]at y0;go_wp2;exact sQ rfl
   ·have e7:=H.i 7;clear H;go_wp2;exact sQ rfl
   ·have e25:=H.r 7 25;clear H;have hs1:=zh (HSg.out.call hbx);have y0:=cC hs1 0 2;have y1:=cC hs1 0 3;have y2:=cC hs1 0 4;go_wp2;exact sQ rfl
   ·have e24:=H.r 6 24;have e26:=H.r 8 26;clear H;go_wp2;exact sQ rfl
   ·have e27:=H.r 9 27;clear H;go_wp2;exact StepQ.mk _ (Ext.alloc (Below.refl _ _) _) ⟨_,rfl,hbx.size,Blk.new _ _ _⟩
   intro xx w3 hb9 hv
   obtain⟨g3,hv10,hlg10,hB10⟩:=hv 10 (by decide)
   simp only[List.take,List.drop,a0h,Act.put]
   simp only[vQ hv 0,vQ hv 1,vQ hv 2,vQ hv 3,vQ hv 4,vQ hv 5,vQ hv 6,vQ hv 7,vQ hv 8,vQ hv 9,hv10]
   clear hv hv10
   have HSg3:=zh (HSg.out.fill hb9 hlg10 hB10)
   clear hlg10 hB10
   have HG_3:=zh (HGg.out.below hb9)
   clear HGg hb9 HSg
   have hgr:World.ownsRow _ w.heap.size 89 5 lv k (flat Clm.enc (E.take k)):=HG_3.out
   go_wp2_with (at_builtin;refine a1e _ rfl _ _ 42 rfl w.heap.size 89 ic _ 5 56 Tryz.underlying42 HC0.out HCZ.out hc1 hc8 rfl (by decide) c5j lv k (E.take k) (by simp[Act.eval]) hgr ⟨r,x.am⟩ g3 _ (HSg3.out.blk 0 rfl) rfl (by simp[Act.eval]) (d2r _) (by have:=LC.out;unfold maxLen;omega) (by have:=LC.out;omega) HSg3.out.below.size ?_)
   intro v9 w9 hown9 hg9
   have HSA:=zh ((HSg3.out.sub (List.Sublist.cons _ (List.sublist_cons_self ..))).turnedO hg9 (fun q hq=>(World.ownsRow.lt hgr q hq).1) (fun z hz=>by rcases List.mem_cons.1 hz with rfl | hz;exact a1m hgr (HSg3.out.blk 2 rfl) (by decide);rcases List.mem_cons.1 hz with rfl | hz;exact a1m hgr (HSg3.out.blk 3 rfl) (by decide);rw[List.mem_singleton.1 hz];exact a1m hgr (HSg3.out.blk 4 rfl) (by decide)))
   rw[<- HFT.out]at hown9
   obtain⟨g9,c9,rfl,_,_⟩:=World.ownsRow.form hown9 (Nat.succ_pos _)
   have HG9:=zh hown9
   clear hown9 hg9 hgr HSg3 HG_3
   have x8:=cC HSA 0 3
   have x9:=cF HSA 0 3
   have x10:=cN HSA 0 1
   have x11:=cN HSA 1 0
   have x12:=cN HSA 0 2
   have x13:=cN HSA 2 0
   go_wp2
   have HSA4:Hid (St w [⟨w.heap.size+1+1,#[.bool false,.string (bs []),.string (bs []),.slice (some ⟨g9,0,none⟩) (k+1) c9,.slice Aa A.length ca],44⟩,_,_] _):=zh (St.set (HSA.out) 0 rfl 3 _)
   go_roundw
   case rel=>exact⟨k+1,.slice (some ⟨g9,0,none⟩) (k+1) c9,by omega,by go_num,a1v HG9.out (HSA.out.blk 0 rfl) (by decide) _,HSA4.out⟩
   case measure=>simp[intOf];omega
  have hke:k=cl.length:=by omega
  rw[hke]at HG ⊢
  have e2:decide (((cl.length:Nat):Int)<(cl.length:Int))=false:=decide_eq_false (by omega)
  clear hke hk hkn
  have hG:Grows wo w.heap.size 89 5 lv E.length (flat Clm.enc E):=by have hh:=HG.out;rw[<- HEL.out,List.take_length]at hh;exact hh
  obtain⟨Al,cl2,hlv,_,_⟩:=Slc.slice (Slc.of_own c5j hG rfl)
  subst hlv
  have HG:=zh hG
  clear hG
  obtain⟨x1,x2,x3⟩:=HS.out.k0 0 rfl rfl rfl rfl
  have x4:=cC HS 0 3
  have x5:=cC HS 0 4
  obtain⟨x6,x7,x8⟩:=HS.out.k0 1 rfl rfl rfl rfl
  have x9:=cC HS 1 3
  have x10:=cC HS 1 4
  obtain⟨x11,x12,x13⟩:=HS.out.f0 1 rfl
  have x14:=cF HS 1 3
  have x15:=cF HS 1 4
  have x16:=cN HS 1 0
  have x17:=cN HS 0 1
  have x18:=cN HS 1 2
  have x19:=cN HS 2 1
  go_wp2
  have HP4:Hid (St w [_,⟨w.heap.size+1,#[.bool false,.string (bs []),.string (bs []),.slice none 0 0,.slice none 0 0],44⟩,_] _):=zh (St.set (St.set (St.set (HS.out) 1 rfl 0 _) 1 rfl 1 _) 1 rfl 2 _)
  have HS3:Hid (St w [_,⟨w.heap.size+1,#[.bool false,.string (bs []),.string (bs []),.slice Al E.length cl2,.slice Aa A.length ca],44⟩,_] _):=zh (St.set (St.set (HP4.out) 1 rfl 3 _) 1 rfl 4 _)
  refine bodyPost_ret (c8x rfl _ _ _ rfl (HS3.out.blk 1 rfl) rfl) rfl ?_
  exact⟨_,rfl,Slc.of_own c5j (a1v (e:=89) (t:=44) (a1v (e:=89) (t:=44) (a1v (e:=89) (t:=44) (a1v (e:=89) (t:=44) (a1v (e:=89) (t:=44) HG.out (HS.out.blk 1 rfl) (by decide) (.bool false)) ((St.set (HS.out) 1 rfl 0 (.bool false)).blk 1 rfl) (by decide) (.string (bs []))) ((St.set ((St.set (HS.out) 1 rfl 0 (.bool false))) 1 rfl 1 (.string (bs []))).blk 1 rfl) (by decide) (.string (bs []))) ((St.set ((St.set ((St.set (HS.out) 1 rfl 0 (.bool false))) 1 rfl 1 (.string (bs [])))) 1 rfl 2 (.string (bs []))).blk 1 rfl) (by decide) (.slice Al E.length cl2)) ((St.set ((St.set ((St.set ((St.set (HS.out) 1 rfl 0 (.bool false))) 1 rfl 1 (.string (bs [])))) 1 rfl 2 (.string (bs [])))) 1 rfl 3 (.slice Al E.length cl2)).blk 1 rfl) (by decide) (.slice Aa A.length ca)) rfl,HS3.out.below⟩
theorem b9u(v v2:Value)(cl:List Nmd)(l:List Cls)(w:World)(h:NmdL w v cl)(h2:ClsL w v2 l)(hO:Okay cl l/\∀c∈l,c.list.length<=1000)(hl:cl.length<=1000)(hl2:l.length<=1000) :
  Calls Tryz.prog 11 #[v,v2] w fun e w'=>∃v' M,e=.returned v'/\MatB w' v' cl.length M/\(∀a b,a<cl.length->b<cl.length->(M a b=true↔Rel cl l l.length a b))/\Below w.heap.size w w':=by
 have D:=zh (fun W (hb:Below w.heap.size w W)=>b9s v v2 cl l W (h.below hb) (h2.below hb) (b0k hO.1.one) hl hl2 (fun c hc _=>hO.2 c hc))
 obtain⟨A1,c1,rfl,_,_⟩:=Slc.slice h
 obtain⟨A2,c2,rfl,_,_⟩:=h2.slice
 clear h h2 hO hl hl2
 go_enter Tryz.func11,Tryz.ntmps11
 have HS:=zh (St.start w)
 go_wp2_with fail
 refine(D.out _ HS.out.below).mono ?_
 rintro e w2 ⟨vm,M,rfl,hM,hMr,hb2⟩
 obtain⟨Am,cm,rfl,_,_⟩:=MatB.slice hM
 have HMR:=zh hMr
 clear hMr
 have HS2:=zh (HS.out.call hb2)
 have M_2:=zh hM
 clear hM hb2 HS
 go_wp2
 go_ret
 exact⟨_,M,rfl,M_2.out,HMR.out,HS2.out.below⟩
end Go.Proofs.YtjmiicjialkpiaaGreatDoor
