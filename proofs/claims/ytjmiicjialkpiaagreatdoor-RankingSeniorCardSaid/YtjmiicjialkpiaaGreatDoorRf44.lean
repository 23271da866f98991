/-
Part 44 of the base.
-/
import Derived.Test.YtjmiicjialkpiaaGreatDoorRf43
set_option maxRecDepth 100000
set_option maxHeartbeats 8000000
namespace Go.Proofs.YtjmiicjialkpiaaGreatDoor
open Go.RowKit
def GrR(w0:World)(cl:List Nmd)(A:CAd)(kc kr kb kp:Nat)(v:Value)(w1:World):Prop:=∃w,Bld w0 cl A kc kr kb kp w/\w.grownBy w1 A.vr.ownBlock/\World.ownsRow w1 w0.heap.size 3 1 v (kr+1) (((cl.take (kr+1)).map (·.rank)).map (.int .i64))
def GrM(w0:World)(cl:List Nmd)(A:CAd)(kc kr kb kp:Nat)(u:Value)(gs:List Nat)(v:Value)(w1:World):Prop:=∃w g7,Bld w0 cl A kc kr kb kp w/\w.grownBy w1 u.ownBlock/\(v.ownBlock=u.ownBlock\/v.ownBlock=some w.heap.size)/\World.ownsRow w1 w0.heap.size 54 1 v (gs.length+1) (flat (slcE cl.length) (gs++[g7]))/\Blk w g7 (rowE .bool cl.length (fun _=>false)) 4/\w0.heap.size<=g7/\∀x∈A.own cl.length CCo0,x.g≠g7
theorem GrR.below{w0 w1 w2:World}{cl:List Nmd}{A:CAd}{kc kr kb kp:Nat}{v:Value}(h:GrR w0 cl A kc kr kb kp v w1)(hb:Below w1.heap.size w1 w2):GrR w0 cl A kc kr kb kp v w2:=by
 obtain⟨w,h1,h2,h3⟩:=h
 exact⟨w,h1,a9b h2 hb,Grows.below h3 hb⟩
theorem GrM.below{w0 w1 w2:World}{cl:List Nmd}{A:CAd}{kc kr kb kp:Nat}{u:Value}{gs:List Nat}{v:Value}(h:GrM w0 cl A kc kr kb kp u gs v w1)(hb:Below w1.heap.size w1 w2):GrM w0 cl A kc kr kb kp u gs v w2:=by
 obtain⟨w,g7,h1,h2,h3,h4,h5⟩:=h
 exact⟨w,g7,h1,a9b h2 hb,h3,Grows.below h4 hb,h5⟩
def ZB(A:CAd)(b:Nat)(cs:Array Value)(s:Nat)(W:World):Prop:=Blk W A.g A.cells 69/\Blk W b cs 53/\s<=W.heap.size
theorem ZB.below{A:CAd}{b:Nat}{cs:Array Value}{s:Nat}{w1 w2:World}(h:ZB A b cs s w1)(hb:Below w1.heap.size w1 w2):ZB A b cs s w2:=⟨h.1.below hb h.1.lt,h.2.1.below hb h.2.1.lt,Nat.le_trans h.2.2 hb.size⟩
theorem ZB.grown{w0 w w1:World}{cl:List Nmd}{A:CAd}{kc kr kb kp:Nat}{b:Nat}{cs:Array Value}{s:Nat}(hz:ZB A b cs s w)(h:Bld w0 cl A kc kr kb kp w){e:TypeId}{v:Value}{m:Nat}{xs:List Value}(ho:World.ownsRow w w0.heap.size e 1 v m xs)(h1:e≠69)(h2:e≠4)(h3:53≠e)(hg:w.grownBy w1 v.ownBlock):ZB A b cs s w1 :=
 ⟨(h.turn ho h1 h2 hg).blk 0 rfl,(hg.block b hz.2.1.lt (fun q=>a1m ho hz.2.1 h3 q.symm)).trans hz.2.1,Nat.le_trans hz.2.2 hg.size⟩
def RowP(n s:Nat)(w:World)(v:Value):Prop:=∃g g7,v=.slice (some ⟨g,0,none⟩) 1 1/\Blk w g #[.slice (some ⟨g7,0,none⟩) n n] 54/\s<=g7/\Blk w g7 (rowE .bool n (fun _=>false)) 4
theorem RowP.below{n s:Nat}{w w':World}{v:Value}(h:RowP n s w v)(hb:Below w.heap.size w w'):RowP n s w' v:=by
 obtain⟨g,g7,h1,h2,h3,h4⟩:=h
 exact⟨g,g7,h1,h2.below hb h2.lt,h3,h4.below hb h4.lt⟩
theorem Cst.more{w0 w:World}{cl:List Nmd}{l:List Cls}{C:CCo}{g mc mkb ml nc:Nat}{v1 v2 vb vp vr:Value}{gsb gsp:List Nat}(h:Cst w0 cl l ⟨g,v1,v2,mc,mkb,ml,nc,vb,vp,vr,gsb,gsp,[]⟩ C w)(cs:Array Value)(t:TypeId)(ht:t≠3):Cst w0 cl l ⟨g,v1,v2,mc,mkb,ml,nc,vb,vp,vr,gsb,gsp,[⟨w.heap.size,cs,t⟩]⟩ C (w.alloc (.cells cs t)):=by
 have hb:Below w.heap.size w (w.alloc (.cells cs t)):=Ext.alloc (Below.refl _ _) _
 have h':=h.below hb
 have hs:=h'.st.more (Blk.new w cs t) h.size (fun x hx e=>by have:=(h.st.ok x hx).1.lt;omega)
 refine⟨hs.perm ?_,h'.lb,h'.lp,h'.ob,h'.op,h'.or_,h'.mc,h'.mkb,h'.ml,h'.ne,h'.ge,h'.h1,h'.h2,fun x hx=>by rw[List.mem_singleton.1 hx];exact ht⟩
 refine(List.perm_append_singleton _ _).symm.trans ?_
 unfold CAd.own
 dsimp only
 rw[List.append_nil,List.cons_append,List.append_assoc]
 exact List.Perm.refl _
def InvP(w0:World)(cl:List Nmd)(l:List Cls)(s:Nat)(C:CCo):Prop:=(s=0->DefI w0 l 0 C/\b3b cl C)/\(1<=s->s<=3->Full w0 l C/\b3b cl C)/\(s=4->AppI w0 cl l l.length C)
theorem InvP.start{w0:World}{cl:List Nmd}{l:List Cls}:InvP w0 cl l 0 {CCo0 with R:=cl.map (·.rank)} :=
 ⟨fun _=>⟨⟨⟨fun _=>rfl,fun _ h=>(by cases h)⟩,Nat.le_refl _⟩,rfl,rfl,rfl,rfl,rfl⟩,fun h=>by omega,fun h=>by omega⟩
theorem PasR.to{w0 w':World}{cl:List Nmd}{l:List Cls}{A:CAd}{s:Nat}{I I':CCo->Prop}{e:Ending}(h:PasR w0 cl l A s I e w')(hi:∀C,I C->I' C):PasR w0 cl l A s I' e w':=by
 obtain⟨i,er,C',h1,h2,h3⟩:=h
 exact⟨i,er,C',h1,h2,h3.elim (fun h=>.inl ⟨h.1,h.2.1,hi _ h.2.2.1,h.2.2.2⟩) .inr⟩
theorem pass_any{w0:World}{cl:List Nmd}{l:List Cls}{A:CAd}(hF:Fit cl l):∀ (s:Nat),s<4->(∀t,1<=t->t<=s->Pass cl l t)->∃F:FuncId,[Value.func (.func 18) #[.pointer (some ⟨A.g,0,none⟩)] #[],.func (.func 19) #[.pointer (some ⟨A.g,0,none⟩)] #[],.func (.func 20) #[.pointer (some ⟨A.g,0,none⟩)] #[],.func (.func 21) #[.pointer (some ⟨A.g,0,none⟩)] #[]][s]? =some (.func (.func F) #[.pointer (some ⟨A.g,0,none⟩)] #[]) /\
  ∀C W,Cst w0 cl l A C W->InvP w0 cl l s C->Calls Tryz.prog 22 #[.pointer (some ⟨A.g,0,none⟩),.func (.func F) #[.pointer (some ⟨A.g,0,none⟩)] #[]] W (PasR w0 cl l A (s+1) (InvP w0 cl l (s+1)))
 | 0,_,_=>⟨_,rfl,fun C W h hI=>(pass_1 W h hF (hI.1 rfl).1 (hI.1 rfl).2).mono fun _ _ h=>h.to fun _ h=>⟨fun h=>by omega,fun _ _=>h,fun h=>by omega⟩⟩
 | 1,_,_=>⟨_,rfl,fun C W h hI=>(pass_2 W h hF (hI.2.1 (by decide) (by decide))).mono fun _ _ h=>h.to fun _ h=>⟨fun h=>by omega,fun _ _=>h,fun h=>by omega⟩⟩
 | 2,_,_=>⟨_,rfl,fun C W h hI=>(pass_3 W h hF (hI.2.1 (by decide) (by decide))).mono fun _ _ h=>h.to fun _ h=>⟨fun h=>by omega,fun _ _=>h,fun h=>by omega⟩⟩
 | 3,_,hp=>⟨_,rfl,fun C W h hI=>(pass_4 W h hF (hI.2.1 (by decide) (by decide)) (hp 1 (by decide) (by decide)) (hp 2 (by decide) (by decide)) (hp 3 (by decide) (by decide))).mono fun _ _ h=>h.to fun _ h=>⟨fun h=>by omega,fun h1 h2=>by omega,fun _=>h⟩⟩
 | n+4,h,_=>absurd h (by omega)
def AgP(cl:List Nmd)(l:List Cls)(s:Nat)(w:World)(v:Value):Prop:=∃ (b:Nat) (AA:List (List (List Prt))),s<=b/\Agr w b v AA/\Agrs cl l AA
theorem AgP.below{cl:List Nmd}{l:List Cls}{s:Nat}{w w':World}{v:Value}(h:AgP cl l s w v)(hb:Below w.heap.size w w'):AgP cl l s w' v:=by
 obtain⟨b,AA,h1,h2,h3⟩:=h
 exact⟨b,AA,h1,h2.below hb,h3⟩
theorem AgP.form{cl:List Nmd}{l:List Cls}{s:Nat}{w:World}{v:Value}(h:AgP cl l s w v):∃A n c,v=.slice A n c:=by
 obtain⟨b,AA,h1,h2,h3⟩:=h
 obtain⟨A,c,h4,_⟩:=NstL.slice h2.toL
 exact⟨A,_,c,h4⟩
def AgQ(cl:List Nmd)(l:List Cls)(vr:Value)(s:Nat)(w:World)(v:Value):Prop:=∃x,v=.agg #[vr,x]/\AgP cl l s w x
theorem AgQ.mk{cl:List Nmd}{l:List Cls}{vr x:Value}{s:Nat}{w:World}(h:AgP cl l s w x):AgQ cl l vr s w (.agg #[vr,x]):=⟨x,rfl,h⟩
theorem AgQ.below{cl:List Nmd}{l:List Cls}{vr:Value}{s:Nat}{w w':World}{v:Value}(h:AgQ cl l vr s w v)(hb:Below w.heap.size w w'):AgQ cl l vr s w' v:=by
 obtain⟨x,h1,h2⟩:=h
 exact⟨x,h1,h2.below hb⟩
theorem c3u{w0:World}{cl:List Nmd}{l:List Cls}{A:CAd}{C:CCo}(W0 W:World)(hb:Below W0.heap.size W0 W)(h:Cst w0 cl l A C W)(hI:AppI w0 cl l l.length C)(hn0:a3a cl=0)(hcl:cl.length<=1000) :
  Calls Tryz.prog 23 #[.pointer (some ⟨A.g,0,none⟩)] W fun e w'=>∃v,e=.returned v/\AgP cl l W0.heap.size w' v/\Below W.heap.size W w':=by
 refine(b0s W h hI hn0 hcl).mono ?_
 rintro e w' ⟨va,AA,h1,h2,h3,h4⟩
 exact⟨va,h1,⟨_,AA,hb.size,h2,h3⟩,h4⟩
theorem c5k{cl:List Nmd}(h:a3a cl=0){k:Nat}{x:Nmd}(hx:cl[k]? =some x):a0g (cl.take k) x.id=none:=by
 cases hc:a0g (cl.take k) x.id with
 | none=>rfl
 | some i =>
  obtain⟨c,h1,h2⟩:=a4h hc
  have hi:=a7x hc
  rw[List.length_take]at hi
  rw[List.getElem?_take,if_pos (by omega)]at h1
  have h3:=c0z h h1
  rw[h2,c0z h hx]at h3
  have:=Option.some.inj h3
  omega
theorem a5y(v v2:Value)(cl:List Nmd)(l:List Cls)(w:World)(h:NmdL w v cl)(h2:ClsL w v2 l)(hF:Fit cl l) :
  Calls Tryz.prog 6 #[v,v2] w (CmpR cl l w):=by
 have dC:=fun W (hb:Below w.heap.size w W)=>b9z v cl W (h.below hb) hF.nmd (by have:=hF.ncl;omega)
 obtain⟨A1,c1,rfl,_,_⟩:=Slc.slice h
 obtain⟨A2,c2,rfl,_,_⟩:=h2.slice
 obtain⟨ii,hii,hz0,hz1,hz2⟩:=c0n
 obtain⟨ib,hib,hy0,hy1,hy2⟩:=b8z
 have hmk:=a5u cl.length (by have:=hF.ncl;omega)
 have hmm:=@run_makeMap Tryz.prog
 have hmf:∀ (fn:Fn) (first cap:Array Value) (w:World),(Instr.makeFunc fn first cap).run Tryz.prog w=.ok (.func fn first cap) w:=fun _ _ _ _=>rfl
 have HC:=zh h
 have HV:=zh h2
 have HF:=zh hF
 have HZ0:=zh hz0
 have HY0:=zh hy0
 have L1:=zh hF.ncl
 have L2:=zh hF.nl
 obtain⟨ck,hck⟩:∃ck,ck=a3a cl:=⟨_,rfl⟩
 rw[<- hck]at dC
 have DC:=zh dC
 have HCK:Hid (a3a cl=ck):=hck.symm
 clear h h2 hF dC hck hz0 hy0
 by_cases hc0:ck=0
 by_cases h64:64<l.length
 have d1:decide ((64:Int)<(l.length:Int))=true:=decide_eq_true (by omega)
 have d2:decide (64<l.length)=true:=decide_eq_true h64
 have HX:=zh h64
 have HY:Hid (a3a cl=0):=HCK.out.trans hc0
 have d4:(ck != 0)=false:=by rw[hc0];rfl
 clear h64 hc0
 rotate_left
 have d1:decide ((64:Int)<(l.length:Int))=false:=decide_eq_false (by omega)
 have d2:decide (64<l.length)=false:=decide_eq_false h64
 have HX:=zh (show l.length<=64 by omega)
 have HY:Hid (a3a cl=0):=HCK.out.trans hc0
 have d4:(ck != 0)=false:=by rw[hc0];rfl
 clear h64 hc0
 rotate_left
 have d4:(ck != 0)=true:=bne_iff_ne.2 hc0
 have HX:=zh hc0
 clear hc0
 rotate_left
 all_goals
   go_enter Tryz.func6,Tryz.ntmps6
   have HS:=zh (St.start w)
   go_wp2_with fail
   have HS2:=zh (St.alloc (HS.out) #[.slice none 0 0,.slice none 0 0] 32 (w.heap.size) (by simp))
   refine(DC.out _ HS2.out.below).mono ?_
   rintro e w3 ⟨rfl,hb3⟩
   have HS3:=zh (HS2.out.call hb3)
   clear hb3 HS HS2
 ·have x1:=HS3.out.cell 0 rfl 0 rfl
  have x2:=HS3.out.cell 0 rfl 1 rfl
  have x3:=HS3.out.frozen 0 rfl 0
  have x4:=HS3.out.frozen 0 rfl 1
  go_wp2
  have HS4:Hid (St w [⟨w.heap.size,#[.slice none 0 0,.slice none 0 0],32⟩] _):=zh (St.set ((St.set (HS3.out) 0 rfl 0 _)) 0 rfl 1 _)
  refine bodyPost_ret (a7q rfl _ _ _ rfl (HS4.out.blk 0 rfl)) rfl ?_
  exact⟨.slice none 0 0,.slice none 0 0,[],[],0,2,rfl,c0m _,c1e _,.inr (.inl ⟨HY.out,HX.out,rfl,rfl,rfl,rfl⟩),HS4.out.below⟩
 ·go_upto_region 6 with fail
  refine a4m (R:=[⟨w.heap.size,#[.slice none 0 0,.slice none 0 0],32⟩]) HS3.out ?_
  intro W6 hb
  have HS6:=zh hb
  have HP0:=zh (hb.blk 0 rfl)
  have hB0:=hb.lt 0 rfl
  clear hb HS3 DC
  have HC6:=zh (HC.out.below HS6.out.below)
  have HV6:=zh (HV.out.below HS6.out.below)
  have HT:=zh (St.start W6)
  go_wp2
  have HB0:Hid (Bld W6 cl ⟨W6.heap.size+1+1+1,.slice A1 cl.length c1,.slice A2 l.length c2,W6.heap.size,W6.heap.size+1,W6.heap.size+1+1,cl.length,.slice none 0 0,.slice none 0 0,.slice none 0 0,[],[],[]⟩ 0 0 0 0 _):=zh ⟨(St.alloc ((St.alloc' ((St.alloc' ((St.alloc' (HT.out) (Obj.map #[] 0))) (Obj.map #[] 0))) (Obj.map #[] 0))) #[.slice A1 cl.length c1,.slice A2 l.length c2,.map (some (W6.heap.size)),.map (some (W6.heap.size+1)),.slice none 0 0,.slice none 0 0,.map (some (W6.heap.size+1+1)),.slice none 0 0] 69 (W6.heap.size+1+1+1) (by simp)),rfl,rfl,World.ownsRow_nil _ _ _ _,World.ownsRow_nil _ _ _ _,World.ownsRow_nil _ _ _ _,(((RMap.made W6 _ rfl).below (Ext.alloc (Below.refl _ _) _)).below (Ext.alloc (Below.refl _ _) _)).below (Ext.alloc (Below.refl _ _) _),((RMap.made _ _ (size_alloc _ _)).below (Ext.alloc (Below.refl _ _) _)).below (Ext.alloc (Below.refl _ _) _),(RMap.made _ _ (by rw[size_alloc,size_alloc])).below (Ext.alloc (Below.refl _ _) _),⟨by show W6.heap.size≠W6.heap.size+1;omega,by show W6.heap.size≠W6.heap.size+1+1;omega,by show W6.heap.size+1≠W6.heap.size+1+1;omega⟩,⟨Nat.le_refl _,Nat.le_succ _,by show W6.heap.size<=W6.heap.size+1+1;omega⟩,rfl,rfl,fun g h=>by cases h⟩
  go_loopw [34] (fun k_ wr=>∃ (k:Nat) (vb vp vr:Value) (gsb gsp:List Nat),k<=cl.length/\k_=.int .i64 k/\Hid (Bld W6 cl ⟨W6.heap.size+1+1+1,.slice A1 cl.length c1,.slice A2 l.length c2,W6.heap.size,W6.heap.size+1,W6.heap.size+1+1,cl.length,vb,vp,vr,gsb,gsp,[]⟩ k k k k wr)) (fun k_ _=>cl.length-(intOf k_).toNat)
  case atStart=>exact⟨0,_,_,_,_,_,Nat.zero_le _,rfl,HB0.out⟩
  case round =>
   clear HB0 HT
   obtain⟨k,vb,vp,vr,gsb,gsp,hk,rfl,HB⟩:=hrel
   have HS:Hid (St W6 [] wr):=zh (HB.out.st.sub (List.nil_sublist _))
   by_cases hkn:k<cl.length
   ·obtain⟨b1,o1,x,rfl,hb1,hq,hx⟩:=HC6.out.at_ hkn
    unfold Nmd.enc at hx
    have HXX:=zh hx
    have HQ:=zh hq
    have HFR:=zh (c5k HY.out hq)
    have hfx:=(HF.out.nmd x (List.mem_of_getElem? hq)).1
    have HXL:=zh (show x.id.length<=maxLen from hfx)
    have e1:(0:Int)<=((k:Nat):Int):=by omega
    have e2:((k:Nat):Int)<(cl.length:Int):=by omega
    have e3:decide (((k:Nat):Int)<(cl.length:Int))=true:=decide_eq_true e2
    have i5:IntKind.i64.wrap ((k:Int)+1)=((k+1:Nat):Int):=by have:=L1.out;rw[IntWalk.i64_in _ (by omega)];rfl
    clear hq hx hfx
    have x1:b1<wr.heap.size:=Nat.lt_of_lt_of_le hb1 HS.out.below.size
    have x2:¬b1=wr.heap.size:=by omega
    obtain⟨x3,x4,x5⟩:=kE0 (HXX.out _ HS.out.below) rfl rfl rfl
    have x6:=HXX.out _ HS.out.below 3 _ rfl
    have x7:=HXX.out _ HS.out.below 4 _ rfl
    go_upto_region 10 with fail
    clear x1 x2 x3 x4 x5 x6 x7
    refine b4t (R:=[⟨wr.heap.size,#[.string (bs x.id),.int .i64 x.rank,.bool x.am.n,.string (bs x.am.a),.string (bs x.am.b)],53⟩]) (X:=fun W=>Bld W6 cl ⟨W6.heap.size+1+1+1,.slice (some ⟨b1,o1,none⟩) cl.length c1,.slice A2 l.length c2,W6.heap.size,W6.heap.size+1,W6.heap.size+1+1,cl.length,vb,vp,vr,gsb,gsp,[]⟩ k k k k W) (St.alloc (HS.out) #[.string (bs x.id),.int .i64 x.rank,.bool x.am.n,.string (bs x.am.a),.string (bs x.am.b)] 53 (wr.heap.size) (by simp)) (HB.out.below (Ext.alloc (Below.refl wr.heap.size wr) (Obj.cells #[.string (bs x.id),.int .i64 x.rank,.bool x.am.n,.string (bs x.am.a),.string (bs x.am.b)] 53))) ?_
    intro wa hb hx
    have HSa:=zh hb
    have HBa:=zh hx
    clear hb hx HB HS
    have HD:=zh (show ∀w',Below wa.heap.size wa w'->∀ (j:Nat) (v:Value),[.slice (some ⟨b1,o1,none⟩) cl.length c1,.slice A2 l.length c2,.map (some (W6.heap.size)),.map (some (W6.heap.size+1)),vb,vp,.map (some (W6.heap.size+1+1)),vr][j]? =some v->w'.cell? ⟨W6.heap.size+1+1+1,j,none⟩=some v from fun w' hw j v hv=>(HBa.out.below hw).st.cell 0 rfl j (by unfold CAd.cells;rw[List.getElem?_toArray];exact hv))
    go_wp2
    refine a0e 7 [.pointer (some ⟨W6.heap.size+1+1+1,0,none⟩),.pointer (some ⟨W6.heap.size+1+1+1,0,none⟩),.pointer (some ⟨W6.heap.size+1+1+1,2,none⟩),.map (some (W6.heap.size)),.pointer (some ⟨wr.heap.size,0,none⟩),.string (bs x.id),.int .i64 (k:Nat)] rfl (by kernel_rfl) (by kernel_rfl) (by kernel_rfl) ?_ ?_
    refine⟨?_,?_,?_,?_,?_,?_,?_,trivial⟩
    ·intro xx af wv hbx hev hev0 hd;have e8:af.tmps[8]?.getD undef=.pointer (some ⟨W6.heap.size+1+1+1,0,none⟩):=hev0 8 rfl;clear hev hev0 hd;go_wp2;exact sQ rfl
    ·intro xx af wv hbx hev hev0 hd;have e39:=(hev 0 _ 39 rfl rfl).trans (hd ⟨0,.data⟩ (by simp) rfl);clear hev hev0 hd;go_wp2;exact sQ rfl
    ·intro xx af wv hbx hev hev0 hd;have e40:=(hev 1 _ 40 rfl rfl).trans (hd ⟨1,.data⟩ (by simp) rfl);clear hev hev0 hd;go_wp2;exact sQ rfl
    ·intro xx af wv hbx hev hev0 hd;have e41:=(hev 2 _ 41 rfl rfl).trans (hd ⟨2,.data⟩ (by simp) rfl);clear hev hev0 hd;have hs1:=zh (HSa.out.call hbx);have y0:=HD.out _ hbx 2 _ rfl;go_wp2;exact sQ rfl
    ·intro xx af wv hbx hev hev0 hd;have e10:af.tmps[10]?.getD undef=.pointer (some ⟨wr.heap.size,0,none⟩):=hev0 10 rfl;clear hev hev0 hd;go_wp2;exact sQ rfl
    ·intro xx af wv hbx hev hev0 hd;have e43:=(hev 4 _ 43 rfl rfl).trans (hd ⟨4,.data⟩ (by simp) rfl);clear hev hev0 hd;have hs1:=zh (HSa.out.call hbx);have y0:=hs1.out.cell 0 rfl 0 rfl;go_wp2;exact sQ rfl
    ·intro xx af wv hbx hev hev0 hd;have e9:af.tmps[9]?.getD undef=.int .i64 (k:Nat):=hev0 9 rfl;clear hev hev0 hd;go_wp2;exact sQ rfl
    intro xx w4 hb9 hv
    simp only[List.take,List.drop,a0h,Act.put]
    simp only[show xx 0=_ from hv 0 (by decide),show xx 1=_ from hv 1 (by decide),show xx 2=_ from hv 2 (by decide),show xx 3=_ from hv 3 (by decide),show xx 4=_ from hv 4 (by decide),show xx 5=_ from hv 5 (by decide),show xx 6=_ from hv 6 (by decide)]
    clear hv
    have HSa4:=zh (HSa.out.call hb9)
    have B_4:=zh (HBa.out.below hb9)
    clear HBa
    clear hb9 HSa
    go_wp2_with (at_mapUpdate;refine a3k rfl _ _ _ 65 rfl 9 3 a2r Tryz.underlying65 (B_4.out).mc ((by have:=L1.out;unfold maxLen;omega)) (by simp[Act.eval]) (x.id) (by simp[Act.eval,strV]) HXL.out (.int .i64 (k:Nat)) (by simp[Act.eval]) ?_)
    intro w9 hown9 hg9
    have HB9:=zh (Bld.putC B_4.out HQ.out HFR.out hown9 hg9)
    have HS9:Hid (St W6 [⟨wr.heap.size,#[.string (bs x.id),.int .i64 x.rank,.bool x.am.n,.string (bs x.am.a),.string (bs x.am.b)],53⟩] w9):=zh ((HSa4.out).turnedM (B_4.out).mc hg9 (B_4.out).ge.1)
    clear hown9 hg9 HD HSa4 B_4
    have HSW:=zh (show W6.heap.size<=wr.heap.size from HS9.out.ge 0 rfl)
    go_upto_region 11 with fail
    refine a5k 9 8 [0,1,2,3,4,5,6] [eQ (.pointer (some ⟨W6.heap.size+1+1+1,0,none⟩)),eQ (.pointer (some ⟨W6.heap.size+1+1+1,0,none⟩)),eQ (.pointer (some ⟨W6.heap.size+1+1+1,0,none⟩)),eQ (.pointer (some ⟨W6.heap.size+1+1+1,7,none⟩)),eQ (vr),eQ (.pointer (some ⟨wr.heap.size,1,none⟩)),eQ (.int .i64 x.rank),fun ww vv=>∃g,vv=.slice (some ⟨g,0,none⟩) 1 1/\Blk ww g #[.int .i64 x.rank] 3,fun _ _=>True] (ZB ⟨W6.heap.size+1+1+1,.slice (some ⟨b1,o1,none⟩) cl.length c1,.slice A2 l.length c2,W6.heap.size,W6.heap.size+1,W6.heap.size+1+1,cl.length,vb,vp,vr,gsb,gsp,[]⟩ wr.heap.size #[.string (bs x.id),.int .i64 x.rank,.bool x.am.n,.string (bs x.am.a),.string (bs x.am.b)] w9.heap.size) (Bld W6 cl ⟨W6.heap.size+1+1+1,.slice (some ⟨b1,o1,none⟩) cl.length c1,.slice A2 l.length c2,W6.heap.size,W6.heap.size+1,W6.heap.size+1+1,cl.length,vb,vp,vr,gsb,gsp,[]⟩ (k+1) k k k) (GrR W6 cl ⟨W6.heap.size+1+1+1,.slice (some ⟨b1,o1,none⟩) cl.length c1,.slice A2 l.length c2,W6.heap.size,W6.heap.size+1,W6.heap.size+1+1,cl.length,vb,vp,vr,gsb,gsp,[]⟩ (k+1) k k k) rfl (by kernel_rfl) (by kernel_rfl) (by kernel_rfl) (by decide) (by decide) (a9s ?_) (fun _ _ h hb=>Bld.below h hb) (fun _ _ _ h hb=>GrR.below h hb) (fun _ _ h hb=>ZB.below h hb) (ZB.below ⟨HB9.out.st.blk 0 rfl,HS9.out.blk 0 rfl,Nat.le_refl _⟩ (Below.refl _ _).drew) (Bld.below HB9.out (Below.refl _ _).drew) ?_ ?_
    ·intro φ hφ
     rcases List.mem_cons.1 hφ with rfl | hφ
     ·exact fun _ _ _ h _=>h
     rcases List.mem_cons.1 hφ with rfl | hφ
     ·exact fun _ _ _ h _=>h
     rcases List.mem_cons.1 hφ with rfl | hφ
     ·exact fun _ _ _ h _=>h
     rcases List.mem_cons.1 hφ with rfl | hφ
     ·exact fun _ _ _ h _=>h
     rcases List.mem_cons.1 hφ with rfl | hφ
     ·exact fun _ _ _ h _=>h
     rcases List.mem_cons.1 hφ with rfl | hφ
     ·exact fun _ _ _ h _=>h
     rcases List.mem_cons.1 hφ with rfl | hφ
     ·exact fun _ _ _ h _=>h
     rcases List.mem_cons.1 hφ with rfl | hφ
     ·exact fun _ _ _ ⟨g,e,h⟩ hb=>⟨g,e,h.below hb h.lt⟩
     rcases List.mem_cons.1 hφ with rfl | hφ
     ·exact fun _ _ _ h _=>h
     cases hφ
    ·refine⟨?_,?_,?_,?_,?_,?_,?_,?_,?_,trivial⟩
     ·intro xx af wv hz h0 hev hev0 hd
      have e8:af.tmps[8]?.getD undef=.pointer (some ⟨W6.heap.size+1+1+1,0,none⟩):=hev0 8 rfl
      rw[if_neg (by decide)]
      clear hev hev0 hd h0
      go_wp2
      exact sQ rfl
     ·intro xx af wv hz h0 hev hev0 hd
      have e8:af.tmps[8]?.getD undef=.pointer (some ⟨W6.heap.size+1+1+1,0,none⟩):=hev0 8 rfl
      rw[if_neg (by decide)]
      clear hev hev0 hd h0
      go_wp2
      exact sQ rfl
     ·intro xx af wv hz h0 hev hev0 hd
      have e47:=hev 1 _ 47 rfl rfl
      have d1:xx 1=.pointer (some ⟨W6.heap.size+1+1+1,0,none⟩):=hd ⟨1,.data⟩ (by simp) rfl (by decide) (.inr (.inr (by decide)))
      rw[d1]at e47
      clear d1
      rw[if_neg (by decide)]
      clear hev hev0 hd h0
      go_wp2
      exact sQ rfl
     ·intro xx af wv hz h0 hev hev0 hd
      have e48:=hev 2 _ 48 rfl rfl
      have d2:xx 2=.pointer (some ⟨W6.heap.size+1+1+1,0,none⟩):=hd ⟨2,.data⟩ (by simp) rfl (by decide) (.inr (.inr (by decide)))
      rw[d2]at e48
      clear d2
      rw[if_neg (by decide)]
      clear hev hev0 hd h0
      go_wp2
      exact sQ rfl
     ·intro xx af wv hz h0 hev hev0 hd
      have e49:=hev 3 _ 49 rfl rfl
      have d3:xx 3=.pointer (some ⟨W6.heap.size+1+1+1,7,none⟩):=hd ⟨3,.data⟩ (by simp) rfl (by decide) (.inr (.inr (by decide)))
      rw[d3]at e49
      clear d3
      rw[if_neg (by decide)]
      clear hev hev0 hd h0
      have y0:=hz.1.cell 7 _ rfl
      go_wp2
      exact sQ rfl
     ·intro xx af wv hz h0 hev hev0 hd
      have e10:af.tmps[10]?.getD undef=.pointer (some ⟨wr.heap.size,0,none⟩):=hev0 10 rfl
      rw[if_neg (by decide)]
      clear hev hev0 hd h0
      go_wp2
      exact sQ rfl
     ·intro xx af wv hz h0 hev hev0 hd
      have e51:=hev 5 _ 51 rfl rfl
      have d5:xx 5=.pointer (some ⟨wr.heap.size,1,none⟩):=hd ⟨5,.data⟩ (by simp) rfl (by decide) (.inr (.inr (by decide)))
      rw[d5]at e51
      clear d5
      rw[if_neg (by decide)]
      clear hev hev0 hd h0
      have y0:=hz.2.1.cell 1 _ rfl
      go_wp2
      exact sQ rfl
     ·intro xx af wv hz h0 hev hev0 hd
      have e52:=hev 6 _ 52 rfl rfl
      have d6:xx 6=.int .i64 x.rank:=hd ⟨6,.data⟩ (by simp) rfl (by decide) (.inr (.inr (by decide)))
      rw[d6]at e52
      clear d6
      rw[if_neg (by decide)]
      clear hev hev0 hd h0
      go_wp2
      exact StepQ.mk _ (Ext.alloc (Below.refl _ _) _) ⟨_,rfl,Blk.new _ _ _⟩
     intro xx af wv hz h0 hev hev0 hd
     have e50:=hev 4 _ 50 rfl rfl
     have d4:xx 4=vr:=hd ⟨4,.data⟩ (by simp) rfl (by decide) (.inl rfl)
     rw[d4]at e50
     clear d4
     have e53:=hev 7 _ 53 rfl rfl
     have d7:∃g,(xx 7)=.slice (some ⟨g,0,none⟩) 1 1/\Blk wv g #[.int .i64 x.rank] 3:=hd ⟨7,.data⟩ (by simp) rfl (by decide) (.inl rfl)
     rw[if_pos rfl]
     intro hI0
     obtain⟨gN,hxN,hBN⟩:=d7
     rw[hxN]at e53
     clear hev hev0 hd h0
     have hsz:=hI0.st.below.size
     have hor:=hI0.or_
     dsimp only at hor
     refine wpList_append_own_at _ rfl _ _ 29 rfl W6.heap.size 3 ii _ 1 8 Tryz.underlying29 hii HZ0.out hz1 hz2 rfl (by decide) vr k _ ((a3j _ _).trans e50) hor ⟨gN,0,none⟩ 1 1 [.int .i64 x.rank] ((a3j _ _).trans e53) rfl (a6t hBN rfl) (fun u hu=>by rw[List.mem_singleton.1 hu];rfl) (by have:=L1.out;unfold maxLen;omega) (by have:=L1.out;omega) hsz ?_
     intro v9 w9' hown9 hg9 _ hat
     have hZ:=hz.grown hI0 hor (by decide) (by decide) (by decide) hg9
     have hG:(GrR W6 cl ⟨W6.heap.size+1+1+1,.slice (some ⟨b1,o1,none⟩) cl.length c1,.slice A2 l.length c2,W6.heap.size,W6.heap.size+1,W6.heap.size+1+1,cl.length,vb,vp,vr,gsb,gsp,[]⟩ (k+1) k k k) v9 w9':=⟨wv,hI0,hg9,by rw[c3z HQ.out,List.map_append,List.map_append];exact hown9⟩
     go_wp2
     refine StepMA.mk _ hZ hG ?_
     intro i hi v hv
     simp only[List.mem_cons,List.not_mem_nil,or_false]at hi
     rcases hi with rfl | rfl | rfl | rfl | rfl | rfl | rfl<;>exact hv
    intro xx w31 hz hI hv
    have hv0:xx 0=_:=hv 0 (by decide)
    have hv1:xx 1=_:=hv 1 (by decide)
    have hv2:xx 2=_:=hv 2 (by decide)
    have hv3:xx 3=_:=hv 3 (by decide)
    have hv4:xx 4=_:=hv 4 (by decide)
    have hv5:xx 5=_:=hv 5 (by decide)
    have hv6:xx 6=_:=hv 6 (by decide)
    clear hv
    obtain⟨u31_7,hu7⟩:∃z,z=xx 7:=⟨_,rfl⟩
    obtain⟨u31_8,hu8⟩:∃z,z=xx 8:=⟨_,rfl⟩
    rw[<- hu8]at hI
    simp only[List.take,List.drop,a0h,Act.put]
    simp only[hv0,hv1,hv2,hv3,hv4,hv5,hv6,<-hu7,<-hu8]
    clear hv0 hv1 hv2 hv3 hv4 hv5 hv6 hu7 hu8
    obtain⟨W',hI1,hI2,hI3⟩:=hI
    obtain⟨g31,c31,hf,_,_⟩:=World.ownsRow.form hI3 (Nat.succ_pos _)
    obtain⟨n31,hn31⟩:∃n,n=k+1:=⟨_,rfl⟩
    rw[<- hn31]at hf
    subst hf
    have HB31:=zh (hI1.grR hI2 hI3)
    clear hn31
    have y1:=hz.1.frozen 7
    have y2:=hz.1.cell 7 _ rfl
    have HX31:=zh (hz.2.1.far (p:=⟨W6.heap.size+1+1+1,7,none⟩) (fun e=>by have h1:=hz.1;have h2:=hz.2.1;rw[e]at h2;unfold Blk at h1 h2;rw[h1]at h2;injection (Option.some.inj h2)with _ h3;exact absurd h3 (by decide)) (.slice (some ⟨g31,0,none⟩) n31 c31))
    have hbw:=HB31.out.st.below
    have HS31:Hid (St W6 [⟨wr.heap.size,#[.string (bs x.id),.int .i64 x.rank,.bool x.am.n,.string (bs x.am.a),.string (bs x.am.b)],53⟩] _):=zh (St.one hbw HX31.out (by have:=HSW.out;exact this))
    clear hz hI1 hI2 hI3 hbw HX31 HB9 HS9
    go_upto_region 12 with fail
    refine b4t (R:=[⟨wr.heap.size,#[.string (bs x.id),.int .i64 x.rank,.bool x.am.n,.string (bs x.am.a),.string (bs x.am.b)],53⟩]) (X:=fun W=>Bld W6 cl ⟨W6.heap.size+1+1+1,.slice (some ⟨b1,o1,none⟩) cl.length c1,.slice A2 l.length c2,W6.heap.size,W6.heap.size+1,W6.heap.size+1+1,cl.length,vb,vp,.slice (some ⟨g31,0,none⟩) n31 c31,gsb,gsp,[]⟩ (k+1) (k+1) k k W) HS31.out HB31.out ?_
    intro wx31 hb hx
    have HSx31:=zh hb
    have HBx31:=zh hx
    clear hb hx y1 y2 HB31 HS31
    refine a5k 10 9 [0,1,2,3,4,5,6] [eQ (.pointer (some ⟨W6.heap.size+1+1+1,0,none⟩)),eQ (.pointer (some ⟨W6.heap.size+1+1+1,0,none⟩)),eQ (.pointer (some ⟨W6.heap.size+1+1+1,0,none⟩)),eQ (.pointer (some ⟨W6.heap.size+1+1+1,4,none⟩)),eQ (vb),eQ (.slice (some ⟨b1,o1,none⟩) cl.length c1),eQ (.int .i64 (cl.length:Nat)),fun ww vv=>∃g7,vv=.slice (some ⟨g7,0,none⟩) cl.length cl.length/\wx31.heap.size<=g7/\Blk ww g7 (rowE .bool cl.length (fun _=>false)) 4,fun ww vv=>RowP cl.length wx31.heap.size ww vv,fun _ _=>True] (ZB ⟨W6.heap.size+1+1+1,.slice (some ⟨b1,o1,none⟩) cl.length c1,.slice A2 l.length c2,W6.heap.size,W6.heap.size+1,W6.heap.size+1+1,cl.length,vb,vp,.slice (some ⟨g31,0,none⟩) n31 c31,gsb,gsp,[]⟩ wr.heap.size #[.string (bs x.id),.int .i64 x.rank,.bool x.am.n,.string (bs x.am.a),.string (bs x.am.b)] wx31.heap.size) (Bld W6 cl ⟨W6.heap.size+1+1+1,.slice (some ⟨b1,o1,none⟩) cl.length c1,.slice A2 l.length c2,W6.heap.size,W6.heap.size+1,W6.heap.size+1+1,cl.length,vb,vp,.slice (some ⟨g31,0,none⟩) n31 c31,gsb,gsp,[]⟩ (k+1) (k+1) k k) (GrM W6 cl ⟨W6.heap.size+1+1+1,.slice (some ⟨b1,o1,none⟩) cl.length c1,.slice A2 l.length c2,W6.heap.size,W6.heap.size+1,W6.heap.size+1+1,cl.length,vb,vp,.slice (some ⟨g31,0,none⟩) n31 c31,gsb,gsp,[]⟩ (k+1) (k+1) k k vb gsb) rfl (by kernel_rfl) (by kernel_rfl) (by kernel_rfl) (by decide) (by decide) (a9s ?_) (fun _ _ h hb=>Bld.below h hb) (fun _ _ _ h hb=>GrM.below h hb) (fun _ _ h hb=>ZB.below h hb) (ZB.below ⟨HBx31.out.st.blk 0 rfl,HSx31.out.blk 0 rfl,Nat.le_refl _⟩ (Below.refl _ _).drew) (Bld.below HBx31.out (Below.refl _ _).drew) ?_ ?_
    ·intro φ hφ
     rcases List.mem_cons.1 hφ with rfl | hφ
     ·exact fun _ _ _ h _=>h
     rcases List.mem_cons.1 hφ with rfl | hφ
     ·exact fun _ _ _ h _=>h
     rcases List.mem_cons.1 hφ with rfl | hφ
     ·exact fun _ _ _ h _=>h
     rcases List.mem_cons.1 hφ with rfl | hφ
     ·exact fun _ _ _ h _=>h
     rcases List.mem_cons.1 hφ with rfl | hφ
     ·exact fun _ _ _ h _=>h
     rcases List.mem_cons.1 hφ with rfl | hφ
     ·exact fun _ _ _ h _=>h
     rcases List.mem_cons.1 hφ with rfl | hφ
     ·exact fun _ _ _ h _=>h
     rcases List.mem_cons.1 hφ with rfl | hφ
     ·exact fun _ _ _ ⟨g,e,h0,h⟩ hb=>⟨g,e,h0,h.below hb h.lt⟩
     rcases List.mem_cons.1 hφ with rfl | hφ
     ·exact fun _ _ _ h hb=>RowP.below h hb
     rcases List.mem_cons.1 hφ with rfl | hφ
     ·exact fun _ _ _ h _=>h
     cases hφ
    ·refine⟨?_,?_,?_,?_,?_,?_,?_,?_,?_,?_,trivial⟩
     ·intro xx af wv hz h0 hev hev0 hd
      have e8:af.tmps[8]?.getD undef=.pointer (some ⟨W6.heap.size+1+1+1,0,none⟩):=hev0 8 rfl
      rw[if_neg (by decide)]
      clear hev hev0 hd h0
      go_wp2
      exact sQ rfl
     ·intro xx af wv hz h0 hev hev0 hd
      have e8:af.tmps[8]?.getD undef=.pointer (some ⟨W6.heap.size+1+1+1,0,none⟩):=hev0 8 rfl
      rw[if_neg (by decide)]
      clear hev hev0 hd h0
      go_wp2
      exact sQ rfl
     ·intro xx af wv hz h0 hev hev0 hd
      have e58:=hev 1 _ 58 rfl rfl
      have d1:xx 1=.pointer (some ⟨W6.heap.size+1+1+1,0,none⟩):=hd ⟨1,.data⟩ (by simp) rfl (by decide) (.inr (.inr (by decide)))
      rw[d1]at e58
      clear d1
      rw[if_neg (by decide)]
      clear hev hev0 hd h0
      go_wp2
      exact sQ rfl
     ·intro xx af wv hz h0 hev hev0 hd
      have e59:=hev 2 _ 59 rfl rfl
      have d2:xx 2=.pointer (some ⟨W6.heap.size+1+1+1,0,none⟩):=hd ⟨2,.data⟩ (by simp) rfl (by decide) (.inr (.inr (by decide)))
      rw[d2]at e59
      clear d2
      rw[if_neg (by decide)]
      clear hev hev0 hd h0
      go_wp2
      exact sQ rfl
     ·intro xx af wv hz h0 hev hev0 hd
      have e60:=hev 3 _ 60 rfl rfl
      have d3:xx 3=.pointer (some ⟨W6.heap.size+1+1+1,4,none⟩):=hd ⟨3,.data⟩ (by simp) rfl (by decide) (.inr (.inr (by decide)))
      rw[d3]at e60
      clear d3
      rw[if_neg (by decide)]
      clear hev hev0 hd h0
      have y0:=hz.1.cell 4 _ rfl
      go_wp2
      exact sQ rfl
     ·intro xx af wv hz h0 hev hev0 hd
      have e0:af.tmps[0]?.getD undef=.slice (some ⟨b1,o1,none⟩) cl.length c1:=hev0 0 rfl
      rw[if_neg (by decide)]
      clear hev hev0 hd h0
      go_wp2
      exact sQ rfl
     ·intro xx af wv hz h0 hev hev0 hd
      have e62:=hev 5 _ 62 rfl rfl
      have d5:xx 5=.slice (some ⟨b1,o1,none⟩) cl.length c1:=hd ⟨5,.data⟩ (by simp) rfl (by decide) (.inr (.inr (by decide)))
      rw[d5]at e62
      clear d5
      rw[if_neg (by decide)]
      clear hev hev0 hd h0
      go_wp2
      exact sQ rfl
     ·intro xx af wv hz h0 hev hev0 hd
      have e63:=hev 6 _ 63 rfl rfl
      have d6:xx 6=.int .i64 (cl.length:Nat):=hd ⟨6,.data⟩ (by simp) rfl (by decide) (.inr (.inr (by decide)))
      rw[d6]at e63
      clear d6
      rw[if_neg (by decide)]
      clear hev hev0 hd h0
      have hz2:=hz.2.2
      clear hz
      go_wp2
      exact StepQ.mk _ (Ext.alloc (Below.refl _ _) _) ⟨_,rfl,hz2,Blk.new _ _ _⟩
     ·intro xx af wv hz h0 hev hev0 hd
      have e64:=hev 7 _ 64 rfl rfl
      have d7:∃g7,(xx 7)=.slice (some ⟨g7,0,none⟩) cl.length cl.length/\wx31.heap.size<=g7/\Blk wv g7 (rowE .bool cl.length (fun _=>false)) 4:=hd ⟨7,.data⟩ (by simp) rfl (by decide) (.inr (.inl (by kernel_rfl)))
      rw[if_neg (by decide)]
      clear hev hev0 hd h0
      obtain⟨g7,hx7,hg7,hB7⟩:=d7
      rw[hx7]at e64
      clear hx7
      go_wp2
      exact StepQ.mk _ (Ext.alloc (Below.refl _ _) _) ⟨_,g7,rfl,Blk.new _ _ _,hg7,hB7.below (Ext.alloc (Below.refl _ _) _) hB7.lt⟩
     intro xx af wv hz h0 hev hev0 hd
     have e61:=hev 4 _ 61 rfl rfl
     have d4:xx 4=vb:=hd ⟨4,.data⟩ (by simp) rfl (by decide) (.inl rfl)
     rw[d4]at e61
     clear d4
     have e65:=hev 8 _ 65 rfl rfl
     have d8:RowP cl.length wx31.heap.size wv (xx 8):=hd ⟨8,.data⟩ (by simp) rfl (by decide) (.inl rfl)
     rw[if_pos rfl]
     intro hI0
     obtain⟨gN,g7,hxN,hBN,hg7,hB7⟩:=d8
     rw[hxN]at e65
     clear hev hev0 hd h0
     have hsz:=hI0.st.below.size
     have hor:=hI0.ob
     have hlb:=hI0.lb
     dsimp only at hor hlb
     refine wpList_append_own_at _ rfl _ _ 47 rfl W6.heap.size 54 ib _ 1 24 Tryz.underlying47 hib HY0.out hy1 hy2 rfl (by decide) vb k _ ((a3j _ _).trans e61) hor ⟨gN,0,none⟩ 1 1 (slcE cl.length g7) ((a3j _ _).trans e65) rfl (a6t hBN rfl) (fun u hu=>by rw[List.mem_singleton.1 hu];rfl) (by have:=L1.out;unfold maxLen;omega) (by have:=L1.out;omega) hsz ?_
     intro v9 w9' hown9 hg9 _ hat
     have hZ:=hz.grown hI0 hor (by decide) (by decide) (by decide) hg9
     have hG:(GrM W6 cl ⟨W6.heap.size+1+1+1,.slice (some ⟨b1,o1,none⟩) cl.length c1,.slice A2 l.length c2,W6.heap.size,W6.heap.size+1,W6.heap.size+1+1,cl.length,vb,vp,.slice (some ⟨g31,0,none⟩) n31 c31,gsb,gsp,[]⟩ (k+1) (k+1) k k vb gsb) v9 w9':=⟨wv,g7,hI0,hg9,hat,by rw[hlb,a2s];simpa [flat]using hown9,hB7,Nat.le_trans HBx31.out.st.below.size hg7,fun x hx e=>by have:=(HBx31.out.st.ok x hx).1.lt;omega⟩
     go_wp2
     refine StepMA.mk _ hZ hG ?_
     intro i hi v hv
     simp only[List.mem_cons,List.not_mem_nil,or_false]at hi
     rcases hi with rfl | rfl | rfl | rfl | rfl | rfl | rfl<;>exact hv
    intro xx w32 hz hI hv
    have hv0:xx 0=_:=hv 0 (by decide)
    have hv1:xx 1=_:=hv 1 (by decide)
    have hv2:xx 2=_:=hv 2 (by decide)
    have hv3:xx 3=_:=hv 3 (by decide)
    have hv4:xx 4=_:=hv 4 (by decide)
    have hv5:xx 5=_:=hv 5 (by decide)
    have hv6:xx 6=_:=hv 6 (by decide)
    clear hv
    obtain⟨u32_7,hu7⟩:∃z,z=xx 7:=⟨_,rfl⟩
    obtain⟨u32_8,hu8⟩:∃z,z=xx 8:=⟨_,rfl⟩
    obtain⟨u32_9,hu9⟩:∃z,z=xx 9:=⟨_,rfl⟩
    rw[<- hu9]at hI
    simp only[List.take,List.drop,a0h,Act.put]
    simp only[hv0,hv1,hv2,hv3,hv4,hv5,hv6,<-hu7,<-hu8,<-hu9]
    clear hv0 hv1 hv2 hv3 hv4 hv5 hv6 hu7 hu8 hu9
    obtain⟨W',g7,hI1,hI2,hat,hI3,hI4,hI5,hI6⟩:=hI
    obtain⟨g32,c32,hf,_,_⟩:=World.ownsRow.form hI3 (Nat.succ_pos _)
    have hln:=hI1.lb
    dsimp only at hln
    rw[hln]at hI3
    obtain⟨n32,hn32⟩:∃n,n=gsb.length+1:=⟨_,rfl⟩
    rw[<- hn32]at hf
    subst hf
    have HB32:=zh (hI1.grB hI2 hat hI3 hI4 hI5 hI6)
    clear hn32 hln
    have y1:=hz.1.frozen 4
    have y2:=hz.1.cell 4 _ rfl
    have HX32:=zh (hz.2.1.far (p:=⟨W6.heap.size+1+1+1,4,none⟩) (fun e=>by have h1:=hz.1;have h2:=hz.2.1;rw[e]at h2;unfold Blk at h1 h2;rw[h1]at h2;injection (Option.some.inj h2)with _ h3;exact absurd h3 (by decide)) (.slice (some ⟨g32,0,none⟩) n32 c32))
    have hbw:=HB32.out.st.below
    have HS32:Hid (St W6 [⟨wr.heap.size,#[.string (bs x.id),.int .i64 x.rank,.bool x.am.n,.string (bs x.am.a),.string (bs x.am.b)],53⟩] _):=zh (St.one hbw HX32.out (by have:=HSW.out;exact this))
    clear hz hI1 hI2 hI3 hbw HX32 HBx31 HSx31 hI4 hI5 hI6 hat
    go_upto_region 13 with fail
    refine b4t (R:=[⟨wr.heap.size,#[.string (bs x.id),.int .i64 x.rank,.bool x.am.n,.string (bs x.am.a),.string (bs x.am.b)],53⟩]) (X:=fun W=>Bld W6 cl ⟨W6.heap.size+1+1+1,.slice (some ⟨b1,o1,none⟩) cl.length c1,.slice A2 l.length c2,W6.heap.size,W6.heap.size+1,W6.heap.size+1+1,cl.length,.slice (some ⟨g32,0,none⟩) n32 c32,vp,.slice (some ⟨g31,0,none⟩) n31 c31,(gsb++[g7]),gsp,[]⟩ (k+1) (k+1) (k+1) k W) HS32.out HB32.out ?_
    intro wx32 hb hx
    have HSx32:=zh hb
    have HBx32:=zh hx
    clear hb hx y1 y2 HB32 HS32
    obtain⟨gsb2,hgs2⟩:∃gs,gs=gsb++[g7]:=⟨_,rfl⟩
    rw[<- hgs2]at HBx32
    clear hgs2
    refine a5k 10 9 [0,1,2,3,4,5,6] [eQ (.pointer (some ⟨W6.heap.size+1+1+1,0,none⟩)),eQ (.pointer (some ⟨W6.heap.size+1+1+1,0,none⟩)),eQ (.pointer (some ⟨W6.heap.size+1+1+1,0,none⟩)),eQ (.pointer (some ⟨W6.heap.size+1+1+1,5,none⟩)),eQ (vp),eQ (.slice (some ⟨b1,o1,none⟩) cl.length c1),eQ (.int .i64 (cl.length:Nat)),fun ww vv=>∃g7,vv=.slice (some ⟨g7,0,none⟩) cl.length cl.length/\wx32.heap.size<=g7/\Blk ww g7 (rowE .bool cl.length (fun _=>false)) 4,fun ww vv=>RowP cl.length wx32.heap.size ww vv,fun _ _=>True] (ZB ⟨W6.heap.size+1+1+1,.slice (some ⟨b1,o1,none⟩) cl.length c1,.slice A2 l.length c2,W6.heap.size,W6.heap.size+1,W6.heap.size+1+1,cl.length,.slice (some ⟨g32,0,none⟩) n32 c32,vp,.slice (some ⟨g31,0,none⟩) n31 c31,gsb2,gsp,[]⟩ wr.heap.size #[.string (bs x.id),.int .i64 x.rank,.bool x.am.n,.string (bs x.am.a),.string (bs x.am.b)] wx32.heap.size) (Bld W6 cl ⟨W6.heap.size+1+1+1,.slice (some ⟨b1,o1,none⟩) cl.length c1,.slice A2 l.length c2,W6.heap.size,W6.heap.size+1,W6.heap.size+1+1,cl.length,.slice (some ⟨g32,0,none⟩) n32 c32,vp,.slice (some ⟨g31,0,none⟩) n31 c31,gsb2,gsp,[]⟩ (k+1) (k+1) (k+1) k) (GrM W6 cl ⟨W6.heap.size+1+1+1,.slice (some ⟨b1,o1,none⟩) cl.length c1,.slice A2 l.length c2,W6.heap.size,W6.heap.size+1,W6.heap.size+1+1,cl.length,.slice (some ⟨g32,0,none⟩) n32 c32,vp,.slice (some ⟨g31,0,none⟩) n31 c31,gsb2,gsp,[]⟩ (k+1) (k+1) (k+1) k vp gsp) rfl (by kernel_rfl) (by kernel_rfl) (by kernel_rfl) (by decide) (by decide) (a9s ?_) (fun _ _ h hb=>Bld.below h hb) (fun _ _ _ h hb=>GrM.below h hb) (fun _ _ h hb=>ZB.below h hb) (ZB.below ⟨HBx32.out.st.blk 0 rfl,HSx32.out.blk 0 rfl,Nat.le_refl _⟩ (Below.refl _ _).drew) (Bld.below HBx32.out (Below.refl _ _).drew) ?_ ?_
    ·intro φ hφ
     rcases List.mem_cons.1 hφ with rfl | hφ
     ·exact fun _ _ _ h _=>h
     rcases List.mem_cons.1 hφ with rfl | hφ
     ·exact fun _ _ _ h _=>h
     rcases List.mem_cons.1 hφ with rfl | hφ
     ·exact fun _ _ _ h _=>h
     rcases List.mem_cons.1 hφ with rfl | hφ
     ·exact fun _ _ _ h _=>h
     rcases List.mem_cons.1 hφ with rfl | hφ
     ·exact fun _ _ _ h _=>h
     rcases List.mem_cons.1 hφ with rfl | hφ
     ·exact fun _ _ _ h _=>h
     rcases List.mem_cons.1 hφ with rfl | hφ
     ·exact fun _ _ _ h _=>h
     rcases List.mem_cons.1 hφ with rfl | hφ
     ·exact fun _ _ _ ⟨g,e,h0,h⟩ hb=>⟨g,e,h0,h.below hb h.lt⟩
     rcases List.mem_cons.1 hφ with rfl | hφ
     ·exact fun _ _ _ h hb=>RowP.below h hb
     rcases List.mem_cons.1 hφ with rfl | hφ
     ·exact fun _ _ _ h _=>h
     cases hφ
    ·refine⟨?_,?_,?_,?_,?_,?_,?_,?_,?_,?_,trivial⟩
     ·intro xx af wv hz h0 hev hev0 hd
      have e8:af.tmps[8]?.getD undef=.pointer (some ⟨W6.heap.size+1+1+1,0,none⟩):=hev0 8 rfl
      rw[if_neg (by decide)]
      clear hev hev0 hd h0
      go_wp2
      exact sQ rfl
     ·intro xx af wv hz h0 hev hev0 hd
      have e8:af.tmps[8]?.getD undef=.pointer (some ⟨W6.heap.size+1+1+1,0,none⟩):=hev0 8 rfl
      rw[if_neg (by decide)]
      clear hev hev0 hd h0
      go_wp2
      exact sQ rfl
     ·intro xx af wv hz h0 hev hev0 hd
      have e70:=hev 1 _ 70 rfl rfl
      have d1:xx 1=.pointer (some ⟨W6.heap.size+1+1+1,0,none⟩):=hd ⟨1,.data⟩ (by simp) rfl (by decide) (.inr (.inr (by decide)))
      rw[d1]at e70
      clear d1
      rw[if_neg (by decide)]
      clear hev hev0 hd h0
      go_wp2
      exact sQ rfl
     ·intro xx af wv hz h0 hev hev0 hd
      have e71:=hev 2 _ 71 rfl rfl
      have d2:xx 2=.pointer (some ⟨W6.heap.size+1+1+1,0,none⟩):=hd ⟨2,.data⟩ (by simp) rfl (by decide) (.inr (.inr (by decide)))
      rw[d2]at e71
      clear d2
      rw[if_neg (by decide)]
      clear hev hev0 hd h0
      go_wp2
      exact sQ rfl
     ·intro xx af wv hz h0 hev hev0 hd
      have e72:=hev 3 _ 72 rfl rfl
      have d3:xx 3=.pointer (some ⟨W6.heap.size+1+1+1,5,none⟩):=hd ⟨3,.data⟩ (by simp) rfl (by decide) (.inr (.inr (by decide)))
      rw[d3]at e72
      clear d3
      rw[if_neg (by decide)]
      clear hev hev0 hd h0
      have y0:=hz.1.cell 5 _ rfl
      go_wp2
      exact sQ rfl
     ·intro xx af wv hz h0 hev hev0 hd
      have e0:af.tmps[0]?.getD undef=.slice (some ⟨b1,o1,none⟩) cl.length c1:=hev0 0 rfl
      rw[if_neg (by decide)]
      clear hev hev0 hd h0
      go_wp2
      exact sQ rfl
     ·intro xx af wv hz h0 hev hev0 hd
      have e74:=hev 5 _ 74 rfl rfl
      have d5:xx 5=.slice (some ⟨b1,o1,none⟩) cl.length c1:=hd ⟨5,.data⟩ (by simp) rfl (by decide) (.inr (.inr (by decide)))
      rw[d5]at e74
      clear d5
      rw[if_neg (by decide)]
      clear hev hev0 hd h0
      go_wp2
      exact sQ rfl
     ·intro xx af wv hz h0 hev hev0 hd
      have e75:=hev 6 _ 75 rfl rfl
      have d6:xx 6=.int .i64 (cl.length:Nat):=hd ⟨6,.data⟩ (by simp) rfl (by decide) (.inr (.inr (by decide)))
      rw[d6]at e75
      clear d6
      rw[if_neg (by decide)]
      clear hev hev0 hd h0
      have hz2:=hz.2.2
      clear hz
      go_wp2
      exact StepQ.mk _ (Ext.alloc (Below.refl _ _) _) ⟨_,rfl,hz2,Blk.new _ _ _⟩
     ·intro xx af wv hz h0 hev hev0 hd
      have e76:=hev 7 _ 76 rfl rfl
      have d7:∃g7,(xx 7)=.slice (some ⟨g7,0,none⟩) cl.length cl.length/\wx32.heap.size<=g7/\Blk wv g7 (rowE .bool cl.length (fun _=>false)) 4:=hd ⟨7,.data⟩ (by simp) rfl (by decide) (.inr (.inl (by kernel_rfl)))
      rw[if_neg (by decide)]
      clear hev hev0 hd h0
      obtain⟨g7,hx7,hg7,hB7⟩:=d7
      rw[hx7]at e76
      clear hx7
      go_wp2
      exact StepQ.mk _ (Ext.alloc (Below.refl _ _) _) ⟨_,g7,rfl,Blk.new _ _ _,hg7,hB7.below (Ext.alloc (Below.refl _ _) _) hB7.lt⟩
     intro xx af wv hz h0 hev hev0 hd
     have e73:=hev 4 _ 73 rfl rfl
     have d4:xx 4=vp:=hd ⟨4,.data⟩ (by simp) rfl (by decide) (.inl rfl)
     rw[d4]at e73
     clear d4
     have e77:=hev 8 _ 77 rfl rfl
     have d8:RowP cl.length wx32.heap.size wv (xx 8):=hd ⟨8,.data⟩ (by simp) rfl (by decide) (.inl rfl)
     rw[if_pos rfl]
     intro hI0
     obtain⟨gN,g7,hxN,hBN,hg7,hB7⟩:=d8
     rw[hxN]at e77
     clear hev hev0 hd h0
     have hsz:=hI0.st.below.size
     have hor:=hI0.op
     have hlb:=hI0.lp
     dsimp only at hor hlb
     refine wpList_append_own_at _ rfl _ _ 47 rfl W6.heap.size 54 ib _ 1 24 Tryz.underlying47 hib HY0.out hy1 hy2 rfl (by decide) vp k _ ((a3j _ _).trans e73) hor ⟨gN,0,none⟩ 1 1 (slcE cl.length g7) ((a3j _ _).trans e77) rfl (a6t hBN rfl) (fun u hu=>by rw[List.mem_singleton.1 hu];rfl) (by have:=L1.out;unfold maxLen;omega) (by have:=L1.out;omega) hsz ?_
     intro v9 w9' hown9 hg9 _ hat
     have hZ:=hz.grown hI0 hor (by decide) (by decide) (by decide) hg9
     have hG:(GrM W6 cl ⟨W6.heap.size+1+1+1,.slice (some ⟨b1,o1,none⟩) cl.length c1,.slice A2 l.length c2,W6.heap.size,W6.heap.size+1,W6.heap.size+1+1,cl.length,.slice (some ⟨g32,0,none⟩) n32 c32,vp,.slice (some ⟨g31,0,none⟩) n31 c31,gsb2,gsp,[]⟩ (k+1) (k+1) (k+1) k vp gsp) v9 w9':=⟨wv,g7,hI0,hg9,hat,by rw[hlb,a2s];simpa [flat]using hown9,hB7,Nat.le_trans HBx32.out.st.below.size hg7,fun x hx e=>by have:=(HBx32.out.st.ok x hx).1.lt;omega⟩
     go_wp2
     refine StepMA.mk _ hZ hG ?_
     intro i hi v hv
     simp only[List.mem_cons,List.not_mem_nil,or_false]at hi
     rcases hi with rfl | rfl | rfl | rfl | rfl | rfl | rfl<;>exact hv
    intro xx w33 hz hI hv
    have hv0:xx 0=_:=hv 0 (by decide)
    have hv1:xx 1=_:=hv 1 (by decide)
    have hv2:xx 2=_:=hv 2 (by decide)
    have hv3:xx 3=_:=hv 3 (by decide)
    have hv4:xx 4=_:=hv 4 (by decide)
    have hv5:xx 5=_:=hv 5 (by decide)
    have hv6:xx 6=_:=hv 6 (by decide)
    clear hv
    obtain⟨u33_7,hu7⟩:∃z,z=xx 7:=⟨_,rfl⟩
    obtain⟨u33_8,hu8⟩:∃z,z=xx 8:=⟨_,rfl⟩
    obtain⟨u33_9,hu9⟩:∃z,z=xx 9:=⟨_,rfl⟩
    rw[<- hu9]at hI
    simp only[List.take,List.drop,a0h,Act.put]
    simp only[hv0,hv1,hv2,hv3,hv4,hv5,hv6,<-hu7,<-hu8,<-hu9]
    clear hv0 hv1 hv2 hv3 hv4 hv5 hv6 hu7 hu8 hu9
    obtain⟨W',g7,hI1,hI2,hat,hI3,hI4,hI5,hI6⟩:=hI
    obtain⟨g33,c33,hf,_,_⟩:=World.ownsRow.form hI3 (Nat.succ_pos _)
    have hln:=hI1.lp
    dsimp only at hln
    rw[hln]at hI3
    obtain⟨n33,hn33⟩:∃n,n=gsp.length+1:=⟨_,rfl⟩
    rw[<- hn33]at hf
    subst hf
    have HB33:=zh (hI1.grP hI2 hat hI3 hI4 hI5 hI6)
    clear hn33 hln
    have y1:=hz.1.frozen 5
    have y2:=hz.1.cell 5 _ rfl
    have HX33:=zh (hz.2.1.far (p:=⟨W6.heap.size+1+1+1,5,none⟩) (fun e=>by have h1:=hz.1;have h2:=hz.2.1;rw[e]at h2;unfold Blk at h1 h2;rw[h1]at h2;injection (Option.some.inj h2)with _ h3;exact absurd h3 (by decide)) (.slice (some ⟨g33,0,none⟩) n33 c33))
    have hbw:=HB33.out.st.below
    have HS33:Hid (St W6 [⟨wr.heap.size,#[.string (bs x.id),.int .i64 x.rank,.bool x.am.n,.string (bs x.am.a),.string (bs x.am.b)],53⟩] _):=zh (St.one hbw HX33.out (by have:=HSW.out;exact this))
    clear hz hI1 hI2 hI3 hbw HX33 HBx32 HSx32 hI4 hI5 hI6 hat
    go_wp2
    go_roundw
    case rel=>exact⟨k+1,_,_,_,_,_,by omega,by go_num,HB33.out⟩
    case measure=>simp[intOf];omega
   have hke:k=cl.length:=by omega
   rw[hke]at HB ⊢
   have e3:decide (((cl.length:Nat):Int)<(cl.length:Int))=false:=decide_eq_false (by omega)
   clear hke hk hkn
   have HK:=zh (HB.out.cst HC6.out HV6.out)
   clear HB
   go_wp2
   obtain⟨W7,hW7⟩:∃W7,W7=wr:=⟨_,rfl⟩
   subst hW7
   have HM:=zh (HK.out.more #[.func (.func 18) #[.pointer (some ⟨W6.heap.size+1+1+1,0,none⟩)] #[],.func (.func 19) #[.pointer (some ⟨W6.heap.size+1+1+1,0,none⟩)] #[],.func (.func 20) #[.pointer (some ⟨W6.heap.size+1+1+1,0,none⟩)] #[],.func (.func 21) #[.pointer (some ⟨W6.heap.size+1+1+1,0,none⟩)] #[]] 70 (by decide))
   clear HK HS
   go_loopw [92] (fun s_ wr=>∃ (s:Nat) (C:CCo),s<=4/\s_=.int .i64 s/\Hid (InvP W6 cl l s C)/\Hid (∀t,1<=t->t<=s->Pass cl l t)/\Hid (Cst W6 cl l ⟨W6.heap.size+1+1+1,.slice A1 cl.length c1,.slice A2 l.length c2,W6.heap.size,W6.heap.size+1,W6.heap.size+1+1,cl.length,vb,vp,vr,gsb,gsp,[⟨W7.heap.size,#[.func (.func 18) #[.pointer (some ⟨W6.heap.size+1+1+1,0,none⟩)] #[],.func (.func 19) #[.pointer (some ⟨W6.heap.size+1+1+1,0,none⟩)] #[],.func (.func 20) #[.pointer (some ⟨W6.heap.size+1+1+1,0,none⟩)] #[],.func (.func 21) #[.pointer (some ⟨W6.heap.size+1+1+1,0,none⟩)] #[]],70⟩]⟩ C wr)) (fun s_ _=>4-(intOf s_).toNat)
   case atStart=>exact⟨0,_,Nat.zero_le _,rfl,InvP.start,(fun t h1 h2=>by omega),HM.out⟩
   case round =>
    clear HM
    obtain⟨s,C,hs,rfl,HI,HPS,HK⟩:=hrel
    have HS:Hid (St w [⟨w.heap.size,#[.slice none 0 0,.slice none 0 0],32⟩] wr):=zh (St.one (Ext.trans HS6.out.below HK.out.below0) (HP0.out.below HK.out.below0 hB0) (Nat.le_refl _))
    by_cases hs4:s<4
    ·obtain⟨F,hf1,hf2⟩:=pass_any (w0:=W6) (A:=⟨W6.heap.size+1+1+1,.slice A1 cl.length c1,.slice A2 l.length c2,W6.heap.size,W6.heap.size+1,W6.heap.size+1+1,cl.length,vb,vp,vr,gsb,gsp,[⟨W7.heap.size,#[.func (.func 18) #[.pointer (some ⟨W6.heap.size+1+1+1,0,none⟩)] #[],.func (.func 19) #[.pointer (some ⟨W6.heap.size+1+1+1,0,none⟩)] #[],.func (.func 20) #[.pointer (some ⟨W6.heap.size+1+1+1,0,none⟩)] #[],.func (.func 21) #[.pointer (some ⟨W6.heap.size+1+1+1,0,none⟩)] #[]],70⟩]⟩) HF.out s hs4 HPS.out
     have DP:=zh (hf2 C wr HK.out HI.out)
     have hcel:wr.cell? ⟨W7.heap.size,s,none⟩=some (.func (.func F) #[.pointer (some ⟨W6.heap.size+1+1+1,0,none⟩)] #[]):=(HK.out.st.blk _ (CAd.atE (i:=0))).cell s _ (by rw[List.getElem?_toArray];exact hf1)
     have HCL:=zh (a2z hcel (HK.out.st.blk _ (CAd.atE (i:=0))).lt)
     have e1:(0:Int)<=((s:Nat):Int):=by omega
     have e2:((s:Nat):Int)<4:=by omega
     have e3:decide (((s:Nat):Int)<4)=true:=decide_eq_true e2
     have e4:decide (s<4)=true:=decide_eq_true hs4
     have i5:IntKind.i64.wrap ((s:Int)+1)=((s+1:Nat):Int):=by rw[IntWalk.i64_in _ (by omega)];rfl
     clear hf1 hf2 hcel
     have x1:=HCL.out _ (Below.refl _ _) 0 _ rfl
     rw[Nat.add_zero]at x1
     go_wp2_with fail
     refine(DP.out).mono ?_
     rintro e w4 ⟨i4,er4,C4,rfl,hC4,hR4⟩
     have hst4:St w [⟨w.heap.size,#[.slice none 0 0,.slice none 0 0],32⟩] w4:=St.one (Ext.trans HS6.out.below hC4.below0) (HP0.out.below hC4.below0 hB0) (Nat.le_refl _)
     have HS4:Hid (St w [⟨w.heap.size,#[.slice none 0 0,.slice none 0 0],32⟩] w4):=zh hst4
     clear hst4 HS
     have HC4:=zh hC4
     have HR4:=zh hR4
     clear hC4 hR4
     clear x1
     go_upto_if 103 with fail
     by_cases he:er4=0
     ·have d7:(er4 != 0)=false:=by rw[he];rfl
      have hr:=HR4.out
      have hr2:=hr.elim id (fun hf=>absurd he hf.2.1)
      have HR:=zh hr2
      clear he hr hr2
      go_wp2
      go_roundw
      case rel=>exact⟨s+1,C4,by omega,by go_num,HR.out.2.2.1,(fun t h1 h2=>(Nat.lt_or_ge s t).elim (fun h=>(show s+1=t by omega)▸HR.out.2.2.2) (fun h=>HPS.out t h1 h)),HC4.out⟩
      case measure=>simp[intOf];omega
     have d7:(er4 != 0)=true:=bne_iff_ne.2 he
     have hr:=HR4.out.elim (fun h=>absurd h.1 he) id
     have HR:=zh hr
     clear he hr
     have x2:=HS4.out.cell 0 rfl 0 rfl
     have x3:=HS4.out.cell 0 rfl 1 rfl
     have x4:=HS4.out.frozen 0 rfl 0
     have x5:=HS4.out.frozen 0 rfl 1
     go_wp2
     have HS5:Hid (St w [⟨w.heap.size,#[.slice none 0 0,.slice none 0 0],32⟩] _):=zh (St.set ((St.set (HS4.out) 0 rfl 0 _)) 0 rfl 1 _)
     refine bodyPost_ret (a7q rfl _ _ _ rfl (HS5.out.blk 0 rfl)) rfl ?_
     exact⟨.slice none 0 0,.slice none 0 0,[],[],i4,er4,rfl,c0m _,c1e _,.inr (.inr (.inl ⟨HY.out,HX.out,rfl,rfl,s+1,⟨by omega,by omega⟩,(fun t h1 h2=>HPS.out t h1 (by omega)),HR.out⟩)),HS5.out.below⟩
    have hs5:s=4:=by omega
    subst hs5
    have e3:decide ((4:Int)<4)=false:=by decide
    have HAI:=zh (HI.out.2.2 rfl)
    have hor:=HK.out.or_
    dsimp only at hor
    have hlr:=HK.out.lenR
    obtain⟨A9,c9,hvr,_,_⟩:=(Slc.of_own zE_len (by rw[d2c];exact hor) hlr).slice
    rw[hlr]at hvr
    subst hvr
    have HD:=zh (show ∀w',Below wr.heap.size wr w'->∀ (j:Nat) (v:Value),[.slice A1 cl.length c1,.slice A2 l.length c2,.map (some (W6.heap.size)),.map (some (W6.heap.size+1)),vb,vp,.map (some (W6.heap.size+1+1)),.slice A9 cl.length c9][j]? =some v->w'.cell? ⟨W6.heap.size+1+1+1,j,none⟩=some v from fun w' hw j v hv=>(HK.out.below hw).st.cell 0 rfl j (by unfold CAd.cells;rw[List.getElem?_toArray];exact hv))
    clear hor hs hs4
    go_wp2
    refine a0d 7 [eQ (.pointer (some ⟨W6.heap.size+1+1+1,0,none⟩)),eQ (.pointer (some ⟨W6.heap.size+1+1+1,0,none⟩)),eQ (.pointer (some ⟨W6.heap.size+1+1+1,7,none⟩)),eQ (.slice A9 cl.length c9),eQ (.pointer (some ⟨W6.heap.size+1+1+1,0,none⟩)),fun ww vv=>AgP cl l wr.heap.size ww vv,fun ww vv=>AgQ cl l (.slice A9 cl.length c9) wr.heap.size ww vv] rfl (by kernel_rfl) (by kernel_rfl) (by kernel_rfl) ⟨stE,stE,stE,stE,stE,fun _ _ _ h hb=>AgP.below h hb,fun _ _ _ h hb=>AgQ.below h hb,trivial⟩ ?_ ?_
    refine⟨?_,?_,?_,?_,?_,?_,?_,trivial⟩
    ·intro xx af wv hbx hev hev0 hd;have e8:af.tmps[8]?.getD undef=.pointer (some ⟨W6.heap.size+1+1+1,0,none⟩):=hev0 8 rfl;clear hev hev0 hd;go_wp2;exact sQ rfl
    ·intro xx af wv hbx hev hev0 hd;have e108:=(hev 0 _ 108 rfl rfl).trans (hd ⟨0,.data⟩ (by simp) rfl);clear hev hev0 hd;go_wp2;exact sQ rfl
    ·intro xx af wv hbx hev hev0 hd;have e109:=(hev 1 _ 109 rfl rfl).trans (hd ⟨1,.data⟩ (by simp) rfl);clear hev hev0 hd;go_wp2;exact sQ rfl
    ·intro xx af wv hbx hev hev0 hd;have e110:=(hev 2 _ 110 rfl rfl).trans (hd ⟨2,.data⟩ (by simp) rfl);clear hev hev0 hd;have hs1:=zh (HS.out.call hbx);have y0:=HD.out _ hbx 7 _ rfl;go_wp2;exact sQ rfl
    ·intro xx af wv hbx hev hev0 hd;have e8:af.tmps[8]?.getD undef=.pointer (some ⟨W6.heap.size+1+1+1,0,none⟩):=hev0 8 rfl;clear hev hev0 hd;go_wp2;exact sQ rfl
    ·intro xx af wv hbx hev hev0 hd
     have e112:=(hev 4 _ 112 rfl rfl).trans (hd ⟨4,.data⟩ (by simp) rfl)
     clear hev hev0 hd
     go_wp2_with fail
     refine(c3u wr wv hbx (HK.out.below hbx) HAI.out HY.out L1.out).mono ?_
     rintro e w8 ⟨v8,rfl,hl8,hb8⟩
     go_wp2
     exact StepQ.mk _ hb8 hl8
    ·intro xx af wv hbx hev hev0 hd;have e111:=(hev 3 _ 111 rfl rfl).trans (hd ⟨3,.data⟩ (by simp) rfl);have e113:=hev 5 _ 113 rfl rfl;have d5:AgP cl l wr.heap.size wv (xx 5):=hd ⟨5,.data⟩ (by simp) rfl;clear hev hev0 hd;obtain⟨q1,q2,q3,hq9⟩:=AgP.form d5;rw[hq9]at e113;have d9:=d5;rw[hq9]at d9;clear hq9 d5;go_wp2;exact StepQ.mk _ (Below.refl _ _) (AgQ.mk d9)
    intro xx w4 hb9 hv
    have HBZ:=zh hb9
    obtain⟨v4_5,hx5⟩:∃v,v=xx 5:=⟨_,rfl⟩
    have hl5:AgP cl l wr.heap.size w4 (xx 5):=hv 5 (by decide)
    rw[<- hx5]at hl5
    obtain⟨v4_6,hx6⟩:∃v,v=xx 6:=⟨_,rfl⟩
    have hl6:AgQ cl l (.slice A9 cl.length c9) wr.heap.size w4 (xx 6):=hv 6 (by decide)
    rw[<- hx6]at hl6
    simp only[List.take,List.drop,a0h,Act.put]
    simp only[show xx 0=_ from hv 0 (by decide),show xx 1=_ from hv 1 (by decide),show xx 2=_ from hv 2 (by decide),show xx 3=_ from hv 3 (by decide),show xx 4=_ from hv 4 (by decide),<-hx5,<-hx6]
    clear hv hx5 hx6
    have HS4:=zh (HS.out.call hb9)
    have AG_4:=zh hl5
    clear hl5
    obtain⟨va9,hva9,hag9⟩:=hl6
    subst hva9
    have HAG9:=zh hag9
    clear hag9
    clear hb9 HS
    clear AG_4
    obtain⟨bb,AA,hbb9,hal,hag⟩:=HAG9.out
    clear HAG9
    obtain⟨Av,cv,hva,_,_⟩:=NstL.slice hal.toL
    subst hva
    have HAL:=zh hal
    have HAG:=zh hag
    clear hal hag
    have HKZ:=zh (HK.out.below HBZ.out)
    have x1:=HS4.out.cell 0 rfl 0 rfl
    have x2:=HS4.out.cell 0 rfl 1 rfl
    have x3:=HS4.out.frozen 0 rfl 0
    have x4:=HS4.out.frozen 0 rfl 1
    go_wp2
    have HS5:Hid (St w [⟨w.heap.size,#[.slice A9 cl.length c9,.slice Av AA.length cv],32⟩] _):=zh (St.set ((St.set (HS4.out) 0 rfl 0 _)) 0 rfl 1 _)
    refine bodyPost_ret (a7q rfl _ _ _ rfl (HS5.out.blk 0 rfl)) rfl ?_
    have hlt0:=HP0.out.lt
    refine⟨_,_,C.R,AA,0,0,rfl,Slc.of_own zE_len (by rw[d2c];exact a1v (t:=32) (e:=3) (a1v (t:=32) (e:=3) HKZ.out.or_ (HS4.out.blk 0 rfl) (by decide) _) ((St.set HS4.out 0 rfl 0 _).blk 0 rfl) (by decide) _) HKZ.out.lenR,((HAL.out.far (by have:=HK.out.size;omega) _).far (by have:=HK.out.size;omega) _).toL,.inr (.inr (.inr ⟨HY.out,HX.out,(fun t h1 h2=>HPS.out t h1 h2),rfl,rfl,HAI.out.rk,HAG.out⟩)),HS5.out.below⟩
 have x1:=HS3.out.cell 0 rfl 0 rfl
 have x2:=HS3.out.cell 0 rfl 1 rfl
 have x3:=HS3.out.frozen 0 rfl 0
 have x4:=HS3.out.frozen 0 rfl 1
 go_wp2
 have HS4:Hid (St w [⟨w.heap.size,#[.slice none 0 0,.slice none 0 0],32⟩] _):=zh (St.set ((St.set (HS3.out) 0 rfl 0 _)) 0 rfl 1 _)
 refine bodyPost_ret (a7q rfl _ _ _ rfl (HS4.out.blk 0 rfl)) rfl ?_
 exact⟨.slice none 0 0,.slice none 0 0,[],[],0,ck,rfl,c0m _,c1e _,.inl ⟨by rw[HCK.out];exact HX.out,rfl,rfl,rfl,HCK.out.symm⟩,HS4.out.below⟩
end Go.Proofs.YtjmiicjialkpiaaGreatDoor
