/-
Part 32 of the base.
-/
import Derived.Test.YtjmiicjialkpiaaGreatDoorRf28
import Derived.Test.YtjmiicjialkpiaaGreatDoorRf31
set_option maxRecDepth 100000
set_option maxHeartbeats 4000000
namespace Go.Proofs.YtjmiicjialkpiaaGreatDoor
open Go.RowKit
theorem c2j{E:List Clm}{r n:Nat}(h:∀c∈E,Sized r c.am.val)(hl:E.length<=8)(hn:E.length=n):LFit (a4t E) n r:=by
 have key:∀P∈a4t E,∃q,P=a5d E q E.length:=by
  intro P hP
  unfold a4t at hP
  obtain⟨q,_,rfl⟩:=List.mem_map.1 hP
  exact⟨q,rfl⟩
 have mem:∀ (q:Nat) (p:Pt),p∈a5d E q E.length->p.c<E.length/\p.q=amE E p.c:=by
  intro q p hp
  unfold a5d at hp
  obtain⟨i,hi,rfl⟩:=List.mem_map.1 hp
  exact⟨List.mem_range.1 (List.mem_filter.1 hi).1,rfl⟩
 refine⟨by unfold a4t;rw[List.length_map,List.length_range];omega,fun P hP=>?_,fun P hP p hp=>?_,fun P hP p hp=>?_⟩
 ·obtain⟨q,rfl⟩:=key P hP
  exact Nat.le_trans (c2k E q E.length) hl
 ·obtain⟨q,rfl⟩:=key P hP
  obtain⟨h1,h2⟩:=mem q p hp
  rw[h2]
  unfold amE
  rw[List.getElem?_eq_getElem h1]
  exact h _ (List.getElem_mem h1)
 obtain⟨q,rfl⟩:=key P hP
 rw[<- hn]
 exact(mem q p hp).1
theorem c5s(S0 x n:Nat)(h:1<=S0):PSz S0 x n 0 (List.replicate n 0) (List.replicate n 0) 0 :=
 ⟨List.length_replicate,List.length_replicate,fun y hy=>by rw[(List.mem_replicate.1 hy).2];exact sized_zero.mono (by omega),fun y hy=>by rw[(List.mem_replicate.1 hy).2];exact sized_zero.mono (by omega),sized_zero.mono (by decide)⟩
theorem c4f(cn:Bool)(ca cb:List UInt8)(vc va:Value)(E:List Clm)(A:List (List (List Prt)))(m:Rat)(w:World)(hE:ClmL w vc E)(hA:AgrL w va A)(hn:E.length<=8)(hz:∀c∈E,c.am.a.length<=17179869184/\c.am.b.length<=17179869184/\Sized 16 c.am.val)(hm:Sized 16 m) :
  Calls Tryz.prog 50 #[.agg #[.bool cn,.string (bs ca),.string (bs cb),vc,va],rat m] w fun e w'=>∃ (g gg gs:Nat) (ρ:Rat) (b:Bool) (E':List Rat),e=.returned (.pointer (some ⟨g,0,none⟩))/\PSz 1 1551 E.length 72 (a1u (a4t E) m (List.replicate E.length 0)) E' ρ/\St w (sB g gg gs E.length ρ b (a1u (a4t E) m (List.replicate E.length 0)) E' []) w':=by
 have HRK:=zh (show ∀W (_:Below w.heap.size w W),Calls Tryz.prog 78 #[.agg #[.bool cn,.string (bs ca),.string (bs cb),vc,va]] W (fun e w'=>∃v,e=.returned v/\Tro w' w.heap.size v (a4t E)/\Below W.heap.size W w')from fun W hb=>(c4e cn ca cb vc va E A W (hE.below hb) (hA.below hb) (by omega) (fun c hc=>⟨(hz c hc).1,(hz c hc).2.1⟩)).mono fun e w' ⟨v,h1,h2,h3⟩=>⟨v,h1,h2.mono hb.size,h3⟩)
 have HPO:=zh (fun(g gg gs:Nat) (v:Value) (R:List Own) W (h:St w (sB g gg gs E.length 0 false (List.replicate E.length 0) (List.replicate E.length 0) R) W) (hv:TrsR v (a4t E) R)=>b2g g gg gs E.length 0 false (List.replicate E.length 0) (List.replicate E.length 0) v (a4t E) m 1 16 16 137 1258 1 1 1551 W h hv (c2j (fun c hc=>(hz c hc).2.2) hn rfl) ⟨by decide,by decide,by decide,by decide⟩ (c5s _ _ _ (Nat.le_refl _)) hm c9q)
 have HEM:=zh (fun W=>b5j E.length W (by omega))
 have HON:=zh ref_One
 obtain⟨Ac,cc,rfl,_,_⟩:=Slc.slice hE
 obtain⟨Aa,cx,rfl,_,_⟩:=NstL.slice hA
 obtain⟨DD,hDD⟩:∃D,D=a1u (a4t E) m (List.replicate E.length 0):=⟨_,rfl⟩
 rw[<- hDD]at HPO ⊢
 clear hE hA hn hz hm hDD
 unfold rat raw at HPO HON ⊢
 have hsb:∀g gg gs ρ b D E' R,sB g gg gs E.length ρ b D E' R=(⟨g,#[.slice (some ⟨gg,0,none⟩) E.length E.length,.slice (some ⟨gs,0,none⟩) E.length E.length,.bool false,.string (bs []),.string (bs []),.bool false,.string (bs []),.string (bs []),.bool (negB (ρ)),.string (bs (numB (ρ))),.string (bs (a0a (ρ))),.bool b],87⟩::⟨gg,rowA (D.map encT),39⟩::⟨gs,rowA (E'.map encT),39⟩::R):=fun _ _ _ _ _ _ _ _=>rfl
 have HSB:=zh hsb
 clear hsb
 go_enter Tryz.func50,Tryz.ntmps50
 have HS:=zh (St.start w)
 go_wp2_with fail
 have HS2:=aL (aL HS #[.bool cn,.string (bs ca),.string (bs cb),.slice Ac E.length cc,.slice Aa A.length cx] 44 w.heap.size) #[.bool (negB (m)),.string (bs (numB (m))),.string (bs (a0a (m)))] 39 (w.heap.size+1)
 refine(HEM.out _).mono ?_
 rintro e w3 ⟨ge,gg,gs,rfl,hq3⟩
 have hst3:=St.join HS2.out hq3
 clear hq3
 have HS3:Hid (St w [⟨ge,#[.slice (some ⟨gg,0,none⟩) E.length E.length,.slice (some ⟨gs,0,none⟩) E.length E.length,.bool false,.string (bs []),.string (bs []),.bool false,.string (bs []),.string (bs []),.bool (negB (0)),.string (bs (numB (0))),.string (bs (a0a (0))),.bool false],87⟩,⟨gg,(rowA (((List.replicate E.length 0).map encT))),39⟩,⟨gs,(rowA (((List.replicate E.length 0).map encT))),39⟩,⟨w.heap.size+1,#[.bool (negB (m)),.string (bs (numB (m))),.string (bs (a0a (m)))],39⟩,⟨w.heap.size,#[.bool cn,.string (bs ca),.string (bs cb),.slice Ac E.length cc,.slice Aa A.length cx],44⟩] w3):=zh hst3
 clear hst3 HS HS2
 go_wp2
 refine a0d 5 [eQ (.pointer (some ⟨ge,0,none⟩)),eQ (.agg #[.bool cn,.string (bs ca),.string (bs cb),.slice Ac E.length cc,.slice Aa A.length cx]),fun ww vv=>Tro ww w.heap.size vv (a4t E),eQ (.agg #[.bool (negB (m)),.string (bs (numB (m))),.string (bs (a0a (m)))]),eQ (.agg #[.bool (negB (1)),.string (bs (numB (1))),.string (bs (a0a (1)))])] rfl (by kernel_rfl) (by kernel_rfl) (by kernel_rfl) ⟨stE,stE,fun _ _ _ h hb=>h.below hb,stE,stE,trivial⟩ ?_ ?_
 refine⟨?_,?_,?_,?_,?_,trivial⟩<;>(intro xx af wv hbx hev hev0 hd;have H:=SH.mk hev hev0 hd;clear hev hev0 hd)
 ·have e5:=H.i 5;clear H;go_wp2;exact sQ rfl
 ·have e2:=H.i 2;clear H;have hs1:=zh (HS3.out.call hbx);obtain⟨y0,y1,y2⟩:=hs1.out.k0 4 rfl rfl rfl rfl;have y3:=cC hs1 4 3;have y4:=cC hs1 4 4;go_wp2;exact sQ rfl
 ·have e11:=H.r 1 11;clear H;have hs1:=zh (HS3.out.call hbx)
  go_wp2_with fail
  refine(HRK.out _ hs1.out.below).mono ?_
  rintro e w8 ⟨v8,rfl,hl8,hb8⟩;go_wp2;exact StepQ.mk _ hb8 hl8
 ·have e3:=H.i 3;clear H;have hs1:=zh (HS3.out.call hbx);obtain⟨y0,y1,y2⟩:=hs1.out.k0 3 rfl rfl rfl rfl;go_wp2;exact sQ rfl
 ·clear H
  go_wp2_with fail
  refine(HON.out _).mono ?_
  rintro e w8 ⟨rfl,hb8⟩;go_wp2;exact StepQ.mk _ hb8 rfl
 intro xx w4 hb9 hv
 obtain⟨v4_2,hx2⟩:∃v,v=xx 2:=⟨_,rfl⟩
 have hl2:Tro w4 w.heap.size (xx 2) (a4t E):=hv 2 (by decide)
 rw[<- hx2]at hl2
 simp only[List.take,List.drop,a0h,Act.put]
 simp only[vQ hv 0,vQ hv 1,vQ hv 3,vQ hv 4,<-hx2]
 clear hv hx2
 have HS4:=zh (HS3.out.call hb9)
 have HTQ:=zh hl2
 clear hl2 hb9 HS3
 obtain⟨us,bk,_,hSX,hTR,_,_⟩:=Tro.beside HTQ.out HS4.out (Nat.le_refl _) (fun x hx=>by simp only[List.mem_cons,List.mem_nil_iff,or_false]at hx;rcases hx with rfl | rfl | rfl | rfl | rfl;exact⟨by show 87≠145;decide,by show 87≠143;decide⟩;exact⟨by show 39≠145;decide,by show 39≠143;decide⟩;exact⟨by show 39≠145;decide,by show 39≠143;decide⟩;exact⟨by show 39≠145;decide,by show 39≠143;decide⟩;exact⟨by show 44≠145;decide,by show 44≠143;decide⟩)
 have HSX:Hid (St w (_::_::_::_::_::bk) _):=zh hSX
 have HTR:=zh hTR
 clear hSX hTR HTQ HS4
 go_wp2_with fail
 refine(HPO.out ge gg gs _ _ _ HSX.out (HTR.out.more (fun r hr=>List.mem_cons_of_mem _ (List.mem_cons_of_mem _ hr)))).mono ?_
 rintro e w5 ⟨rfl,ρ1,b1,E1,hZ1,hst5⟩
 have HSX5:Hid (St w (⟨ge,#[.slice (some ⟨gg,0,none⟩) E.length E.length,.slice (some ⟨gs,0,none⟩) E.length E.length,.bool false,.string (bs []),.string (bs []),.bool false,.string (bs []),.string (bs []),.bool (negB (ρ1)),.string (bs (numB (ρ1))),.string (bs (a0a (ρ1))),.bool b1],87⟩::⟨gg,(rowA ((DD.map encT))),39⟩::⟨gs,(rowA ((E1.map encT))),39⟩::⟨w.heap.size+1,#[.bool (negB (m)),.string (bs (numB (m))),.string (bs (a0a (m)))],39⟩::⟨w.heap.size,#[.bool cn,.string (bs ca),.string (bs cb),.slice Ac E.length cc,.slice Aa A.length cx],44⟩::bk) w5):=zh hst5
 clear hst5 HSX
 go_wp2
 go_ret
 exact⟨ge,gg,gs,ρ1,b1,E1,rfl,hZ1,HSX5.out.sub (List.Sublist.cons_cons _ (List.Sublist.cons_cons _ (List.Sublist.cons_cons _ (List.nil_sublist _))))⟩
inductive Dls(E:List Clm):List (List (List Prt))->List Rat->Prop
 | nil:Dls E [] (List.replicate E.length 0)
 | snoc {A:List (List (List Prt))} {T:List (List Prt)} {D:List Rat} {m:Rat}:Dls E A D->0<=m->Dls E (A++[T]) (a1u (allT E T) m D)
def a7r(A:List (List (List Prt)))(i:Nat):Bool:=A.any fun T=>memB T ((i:Nat):Int)
theorem Dls.go{E:List Clm}{A:List (List (List Prt))}{T:List (List Prt)}{D:List Rat}{m:Rat}{k:Nat}(h:Dls E (A.take k) D)(hT:A[k]? =some T)(hm:0<=m):Dls E (A.take (k+1)) (a1u (allT E T) m D):=by
 rw[a3g hT]
 exact h.snoc hm
theorem d0n{A:List (List (List Prt))}{T:List (List Prt)}{k i:Nat}(hT:A[k]? =some T):a7r (A.take (k+1)) i=(a7r (A.take k) i||memB T ((i:Nat):Int)):=by
 unfold a7r
 rw[a3g hT,List.any_append,List.any_cons,List.any_nil,Bool.or_false]
structure FinD(n:Nat)(F:Nat->Bool)(D2 D:List Rat):Prop where
 len:D.length=D2.length
 kept:∀i,i<n->F i=true->getQ D i=getQ D2 i
 more:∀i,getQ D2 i<=getQ D i
theorem FinD.refl(n:Nat)(F:Nat->Bool)(D:List Rat):FinD n F D D:=⟨rfl,fun _ _ _=>rfl,fun _=>Rat.le_refl⟩
theorem FinD.put{n k:Nat}{F:Nat->Bool}{D2 D:List Rat}{x:Rat}(h:FinD n F D2 D)(hk:k<D.length)(hF:F k=false)(hx:0<=x):FinD n F D2 (a2k D k x):=by
 refine⟨by rw[a5f];exact h.len,fun i hi hFi=>?_,fun i=>?_⟩
 ·unfold a2k
  rw[a7t hk,if_neg (fun e=>by rw[e,hF]at hFi;cases hFi)]
  exact h.kept i hi hFi
 have h1:=h.more i
 unfold a2k
 rw[a7t hk]
 by_cases e:i=k
 ·rw[if_pos e,<-e]
  grind
 rw[if_neg e];exact h1
structure TOk(n:Nat)(T:List (List Prt)):Prop where
 len:T.length<=8
 tier:∀P∈T,P.length<=8
 cl:∀P∈T,∀x∈P,∃c:Nat,x.claim=(c:Nat)/\c<n
 pos:∀P∈T,∀x∈P,x.capped=true->0<=x.cap.val
 sz:∀P∈T,∀x∈P,Sized 16 x.cap.val
 raw:∀P∈T,∀x∈P,x.cap.a.length<=17179869184/\x.cap.b.length<=17179869184
def PtOk(n B:Nat)(q:Pt):Prop:=q.c<n/\0<=q.q/\Sized B q.q
theorem room_ok{d:Rat}{x:Prt}(hd:0<=d)(hx:x.capped=true->0<=x.cap.val):0<=a6w d x/\0<=d-a6w d x:=by
 unfold a6w
 split
 ·exact⟨hd,by grind⟩
 rename_i h
 have h1:x.capped=true:=by cases hc:x.capped with | true=>rfl | false=>exact absurd (.inl hc) h
 have h2:¬d<x.cap.val:=fun hl=>h (.inr hl)
 exact⟨hx h1,by grind⟩
theorem step_inv{n p:Nat}{x:Prt}{S:List Pt×List Rat}{B:Nat}(hc:∃c:Nat,x.claim=(c:Nat)/\c<n)(hp:x.capped=true->0<=x.cap.val)(hs:Sized 16 x.cap.val)(hS:LSz 16 n p S.2)(h0:∀y∈S.2,0<=y)(hq:∀q∈S.1,PtOk n B q)(hB:16+p*17<=B) :
  LSz 16 n (p+1) (a6v S x).2/\(∀y∈(a6v S x).2,0<=y)/\(∀q∈(a6v S x).1,PtOk n B q)/\(a6v S x).1.length=S.1.length+1:=by
 obtain⟨c,hc,hcn⟩:=hc
 have e:x.claim.toNat=c:=by rw[hc];exact Int.toNat_natCast c
 obtain⟨d,hd,hds⟩:=hS.at_ hcn
 have hd0:=h0 d (List.mem_of_getElem? hd)
 obtain⟨h1,h2⟩:=room_ok hd0 hp
 unfold a6v
 rw[e,a4q hd]
 have hz:LSz 16 n (p+1) (S.2.set c (d-a6w d x))/\Sized B (a6w d x):=by
  unfold a6w
  split
  ·exact⟨hS.all d,hds.mono hB⟩
  exact⟨hS.part hds hs,hs.mono (by omega)⟩
 refine⟨hz.1,fun y hy=>?_,fun q hq'=>?_,by simp⟩
 ·rcases List.mem_or_eq_of_mem_set hy with hy | rfl
  ·exact h0 y hy
  exact h2
 rcases List.mem_append.1 hq' with hq' | hq'
 ·exact hq q hq'
 rw[List.mem_singleton.1 hq']
 exact⟨hcn,h1,hz.2⟩
theorem c5u{n B:Nat}:∀ (P:List Prt) (S:List Pt×List Rat) (p:Nat),(∀x∈P,∃c:Nat,x.claim=(c:Nat)/\c<n)->(∀x∈P,x.capped=true->0<=x.cap.val)->(∀x∈P,Sized 16 x.cap.val)->LSz 16 n p S.2->(∀y∈S.2,0<=y)->(∀q∈S.1,PtOk n B q)->16+(p+P.length)*17<=B ->
  LSz 16 n (p+P.length) (P.foldl a6v S).2/\(∀y∈(P.foldl a6v S).2,0<=y)/\(∀q∈(P.foldl a6v S).1,PtOk n B q)/\(P.foldl a6v S).1.length=S.1.length+P.length
 | [],S,p,_,_,_,h1,h2,h3,_=>⟨h1,h2,h3,rfl⟩
 | x::P,S,p,hc,hp,hs,h1,h2,h3,hB=>by
  rw[List.length_cons]at hB
  obtain⟨a1,a2,a3,a4⟩:=step_inv (hc x (List.mem_cons_self ..)) (hp x (List.mem_cons_self ..)) (hs x (List.mem_cons_self ..)) h1 h2 h3 (show 16+p*17<=B by omega)
  obtain⟨b1,b2,b3,b4⟩:=c5u P (a6v S x) (p+1) (fun y hy=>hc y (List.mem_cons_of_mem _ hy)) (fun y hy=>hp y (List.mem_cons_of_mem _ hy)) (fun y hy=>hs y (List.mem_cons_of_mem _ hy)) a1 a2 a3 (by omega)
  rw[List.foldl_cons,List.length_cons]
  exact⟨by rw[show p+(P.length+1)=p+1+P.length by omega];exact b1,b2,b3,by rw[b4,a4];omega⟩
theorem c1n{n B:Nat}:∀ (T:List (List Prt)) (S:List (List Pt)×List Rat) (p:Nat),(∀P∈T,P.length<=8)->(∀P∈T,∀x∈P,∃c:Nat,x.claim=(c:Nat)/\c<n)->(∀P∈T,∀x∈P,x.capped=true->0<=x.cap.val)->(∀P∈T,∀x∈P,Sized 16 x.cap.val)->LSz 16 n p S.2->(∀y∈S.2,0<=y)->(∀Q∈S.1,Q.length<=8/\∀q∈Q,PtOk n B q)->16+(p+8*T.length)*17<=B ->
  LSz 16 n (p+8*T.length) (T.foldl a8a S).2/\(∀y∈(T.foldl a8a S).2,0<=y)/\(∀Q∈(T.foldl a8a S).1,Q.length<=8/\∀q∈Q,PtOk n B q)/\(T.foldl a8a S).1.length=S.1.length+T.length
 | [],S,p,_,_,_,_,h1,h2,h3,_=>⟨h1,h2,h3,rfl⟩
 | P::T,S,p,h8,hc,hp,hs,h1,h2,h3,hB=>by
  rw[List.length_cons]at hB
  have hP:=h8 P (List.mem_cons_self ..)
  obtain⟨a1,a2,a3,a4⟩:=c5u (B:=B) P ([],S.2) p (hc P (List.mem_cons_self ..)) (hp P (List.mem_cons_self ..)) (hs P (List.mem_cons_self ..)) h1 h2 (fun q hq=>by cases hq) (by omega)
  obtain⟨b1,b2,b3,b4⟩:=c1n (B:=B) T (a8a S P) (p+8) (fun y hy=>h8 y (List.mem_cons_of_mem _ hy)) (fun y hy=>hc y (List.mem_cons_of_mem _ hy)) (fun y hy=>hp y (List.mem_cons_of_mem _ hy)) (fun y hy=>hs y (List.mem_cons_of_mem _ hy)) (a1.mono (by omega)) a2 (fun Q hQ=>by
   rcases List.mem_append.1 hQ with hQ | hQ
   ·exact h3 Q hQ
   rw[List.mem_singleton.1 hQ]
   exact⟨by rw[show(a8e P S.2).1.length=0+P.length from a4];omega,a3⟩) (by omega)
  rw[List.foldl_cons,List.length_cons]
  exact⟨by rw[show p+8*(T.length+1)=p+8+8*T.length by omega];exact b1,b2,b3,by rw[b4,show(a8a S P).1.length=S.1.length+1 by unfold a8a;simp];omega⟩
structure EOk(E:List Clm):Prop where
 len:E.length<=8
 raw:∀c∈E,c.am.a.length<=17179869184/\c.am.b.length<=17179869184
 sz:∀c∈E,Sized 16 c.am.val
 pos:∀c∈E,0<=c.am.val
theorem am_pos{E:List Clm}(h:EOk E)(i:Nat):0<=amE E i:=by
 unfold amE
 cases hi:E[i]? with
 | none=>exact Rat.le_refl
 | some c=>exact h.pos c (List.mem_of_getElem? hi)
theorem am_sz{E:List Clm}(h:EOk E)(i:Nat):Sized 16 (amE E i):=by
 unfold amE
 cases hi:E[i]? with
 | none=>exact sized_zero.mono (by decide)
 | some c=>exact h.sz c (List.mem_of_getElem? hi)
theorem all_ok{E:List Clm}{T:List (List Prt)}(hE:EOk E)(hT:TOk E.length T):(allT E T).length<=9/\∀Q∈allT E T,Q.length<=8/\∀q∈Q,PtOk E.length 1104 q:=by
 have h8:=hT.len
 have hf:∀y∈a4j E E.length E.length,0<=y:=fun y hy=>by
  unfold a4j at hy
  obtain⟨i,_,rfl⟩:=List.mem_map.1 hy
  split
  ·exact am_pos hE i
  exact Rat.le_refl
 obtain⟨a1,a2,a3,a4⟩:=c1n (n:=E.length) (B:=1104) T ([],a4j E E.length E.length) 0 hT.tier hT.cl hT.pos hT.sz (d2g (by decide) fun i _=>am_sz hE i) hf (fun Q hQ=>by cases hQ) (by omega)
 have a4:(a4s T (a4j E E.length E.length)).1.length=0+T.length:=a4
 refine⟨by unfold allT;rw[List.length_append,a4];simp;omega,fun Q hQ=>?_⟩
 unfold allT at hQ
 rcases List.mem_append.1 hQ with hQ | hQ
 ·exact a3 Q hQ
 rw[List.mem_singleton.1 hQ]
 refine⟨Nat.le_trans (c7b _ _ _) hE.len,fun q hq=>?_⟩
 unfold a6y at hq
 obtain⟨i,hi,rfl⟩:=List.mem_map.1 hq
 have hin:=List.mem_range.1 (List.mem_filter.1 hi).1
 obtain⟨d,hd,hds⟩:=a1.at_ hin
 have hd:(a4s T (a4j E E.length E.length)).2[i]? =some d:=hd
 show PtOk _ _ (⟨i,getQ _ i⟩:Pt)
 rw[a4q hd]
 exact⟨hin,a2 d (List.mem_of_getElem? hd),hds.mono (by omega)⟩
theorem c1d{E:List Clm}{T:List (List Prt)}(hE:EOk E)(hT:TOk E.length T):LFit (allT E T) E.length 1104:=by
 obtain⟨h1,h2⟩:=all_ok hE hT
 exact⟨h1,fun P hP=>(h2 P hP).1,fun P hP p hp=>((h2 P hP).2 p hp).2.2,fun P hP p hp=>((h2 P hP).2 p hp).1⟩
theorem d3a{E:List Clm}{T:List (List Prt)}(hE:EOk E)(hT:TOk E.length T):PosL (allT E T):=fun P hP p hp=>(((all_ok hE hT).2 P hP).2 p hp).2.1
theorem d0d{E:List Clm}(hE:EOk E):PosL (a4t E):=by
 intro P hP p hp
 unfold a4t at hP
 obtain⟨q,_,rfl⟩:=List.mem_map.1 hP
 unfold a5d at hp
 obtain⟨i,_,rfl⟩:=List.mem_map.1 hp
 exact am_pos hE i
theorem b4s(n i:Nat):getQ (List.replicate n 0) i=0:=by
 unfold getQ
 rw[List.getD_eq_getElem?_getD,List.getElem?_replicate]
 split<;>rfl
theorem d2b{E:List Clm}{m:Rat}(hE:EOk E)(hm:0<=m):∀i,0<=getQ (a1u (a4t E) m (List.replicate E.length 0)) i:=fun i=>by
 have h:=b2m (a4t E) m (List.replicate E.length 0) (d0d hE) (by rw[List.length_replicate];exact(c2j hE.sz hE.len rfl).inn) hm i
 rw[b4s]at h
 exact h
theorem PSz.front{S0 x n p:Nat}{D E:List Rat}{ρ:Rat}(h:PSz S0 x n p D E ρ):PSz (S0+p*(x+1)) x n 0 D E ρ :=
 ⟨h.dl,h.el,fun y hy=>(h.ds y hy).mono (Nat.le_add_right _ _),fun y hy=>(h.es y hy).mono (Nat.le_add_right _ _),h.rs⟩
theorem PSz.back{S0 x n p q:Nat}{D E:List Rat}{ρ:Rat}(h:PSz (S0+p*(x+1)) x n q D E ρ):PSz S0 x n (p+q) D E ρ :=
 ⟨h.dl,h.el,fun y hy=>(h.ds y hy).mono (by rw[Nat.add_mul];omega),fun y hy=>(h.es y hy).mono (by rw[Nat.add_mul];omega),h.rs⟩
theorem PSz.fit'{n p:Nat}{D E:List Rat}{ρ:Rat}(h:PSz 1 1886304 n p D E ρ)(hp:p<=600):(∀y∈D,Sized 1131783001 y)/\∀y∈E,Sized 1131783001 y :=
 ⟨fun y hy=>(h.ds y hy).mono (by omega),fun y hy=>(h.es y hy).mono (by omega)⟩
theorem PSz.rho{S0 x n p:Nat}{D E:List Rat}{ρ ρ':Rat}(h:PSz S0 x n p D E ρ)(hr:Sized 17179869184 ρ'):PSz S0 x n p D E ρ':=⟨h.dl,h.el,h.ds,h.es,hr⟩
def DlvR(E:List Clm)(A:List (List (List Prt)))(D:List Rat):Prop:=D.length=E.length/\∃D2,Dls E A D2/\FinD E.length (a7r A) D2 D
theorem FinD.congr{n:Nat}{F F':Nat->Bool}{D2 D:List Rat}(h:FinD n F D2 D)(hF:∀i,i<n->F i=F' i):FinD n F' D2 D:=⟨h.len,fun i hi hFi=>h.kept i hi (by rw[hF i hi];exact hFi),h.more⟩
end Go.Proofs.YtjmiicjialkpiaaGreatDoor
