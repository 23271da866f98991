/-
Part 13 of the base.
-/
import Derived.Laws.MakeOwn
import Derived.Test.YtjmiicjialkpiaaGreatDoorRf26
set_option maxRecDepth 100000
set_option maxHeartbeats 1000000
namespace Go.Proofs.YtjmiicjialkpiaaGreatDoor
open Go.RowKit
theorem sgnR_dec(q:Rat):sgnR (negB q) (numB q)=sgn q.num:=c6f q
theorem a8p(p q:Rat)(w:World)(sp:Sized 17179869184 p)(sq:Sized 17179869184 q) :
  Calls Tryz.prog 92 #[rat p,rat q] w fun e w'=>e=.returned (rat (p-q))/\Below w.heap.size w w':=by
 rw[Rat.sub_eq_add_neg]
 have ng:=fun W=>c1z q W
 have ad:=fun W=>a6k p (-q) W sp sq.neg
 clear sp sq
 generalize p + -q=r at *
 generalize hm : -q=m at *
 unfold rat raw at *
 generalize negB p=np at *
 generalize numB p=bp at *
 generalize a0a p=dp at *
 generalize negB q=nq at *
 generalize numB q=bq at *
 generalize a0a q=dq at *
 generalize negB r=nr at *
 generalize numB r=br at *
 generalize a0a r=dr at *
 generalize negB m=nm at *
 generalize numB m=bm at *
 generalize a0a m=dm at *
 clear hm
 have AD:=zh ad
 have NG:=zh ng
 clear ad ng
 go_enter Tryz.func92,Tryz.ntmps92
 have HS:=zh (St.start w)
 go_wp2
 have HS2:=aL (aL (aL HS #[.bool np,.string (bs bp),.string (bs dp)] 39 w.heap.size) #[.bool nq,.string (bs bq),.string (bs dq)] 39 (w.heap.size+1)) #[.bool false,.string (bs []),.string (bs [])] 39 (w.heap.size+1+1)
 clear HS
 refine a0d 4 [fun _ vv=>vv=.agg #[.bool np,.string (bs bp),.string (bs dp)],fun _ vv=>vv=.agg #[.bool nq,.string (bs bq),.string (bs dq)],fun _ vv=>vv=.agg #[.bool nm,.string (bs bm),.string (bs dm)],fun _ vv=>vv=.agg #[.bool nr,.string (bs br),.string (bs dr)]] rfl (by kernel_rfl) (by kernel_rfl) (by kernel_rfl) ⟨pP,pP,pP,pP,trivial⟩ ?_ ?_
 refine⟨?_,?_,?_,?_,trivial⟩<;>(intro xx af wv hbx hev hev0 hd;have H:=SH.mk hev hev0 hd;clear hev hev0 hd)
 ·have e2:=H.i 2;clear H;have hs1:=zh (HS2.out.call hbx);obtain⟨y0,y1,y2⟩:=hs1.out.k0 2 rfl rfl rfl rfl;go_wp2;exact sQ rfl
 ·have e3:=H.i 3;clear H;have hs1:=zh (HS2.out.call hbx);obtain⟨y0,y1,y2⟩:=hs1.out.k0 1 rfl rfl rfl rfl;go_wp2;exact sQ rfl
 ·have e6:=H.r 1 6;clear H
  go_wp2_with fail
  refine(NG.out _).mono ?_
  rintro e w8 ⟨rfl,hb8⟩;go_wp2;exact StepQ.mk _ hb8 rfl
 ·have e5:=H.r 0 5;have e7:=H.r 2 7;clear H
  go_wp2_with fail
  refine(AD.out _).mono ?_
  rintro e w8 ⟨rfl,hb8⟩;go_wp2;exact StepQ.mk _ hb8 rfl
 intro xx w6 hb9 hv
 simp only[List.take,List.drop,a0h,Act.put]
 simp only[vQ hv 0,vQ hv 1,vQ hv 2,vQ hv 3]
 clear hv
 have HS6:=zh (HS2.out.call hb9)
 clear hb9 HS2
 obtain⟨x1,x2,x3⟩:=HS6.out.k0 0 rfl rfl rfl rfl
 obtain⟨x4,x5,x6⟩:=HS6.out.f0 0 rfl
 have x7:=cN HS6 0 1
 have x8:=cN HS6 1 0
 have x9:=cN HS6 0 2
 have x10:=cN HS6 2 0
 go_wp2
 have HS7:Hid (St w [⟨w.heap.size+1+1,#[.bool nr,.string (bs br),.string (bs dr)],39⟩,_,_] _):=zh (St.set (St.set (St.set (HS6.out) 0 rfl 0 _) 0 rfl 1 _) 0 rfl 2 _)
 refine bodyPost_ret (a0f rfl _ _ _ _ _ _ rfl (HS7.out.blk 0 rfl)) rfl ?_
 exact⟨rfl,HS7.out.below⟩
structure Rtr where
 n:Bool
 a:List UInt8
 b:List UInt8
def Rtr.enc(t:Rtr):List Value:=[.bool t.n,.string (bs t.a),.string (bs t.b)]
def Rtr.val(t:Rtr):Rat:=decR t.n t.a t.b
abbrev RatsL(w:World)(v:Value)(l:List Rtr):Prop:=Slc Rtr.enc 3 w v l
theorem b9m(t:Rtr):t.enc.length=3:=rfl
section
variable {α : Type} {enc : α -> List Value} {k : Nat}
theorem c7j(hk:∀x,(enc x).length=k):∀ (xs:List α) (j:Nat) (x x':α),xs[j]? =some x->∀ (i:Nat) (u:Value),i<k->(enc x).set i u=enc x'->(flat enc xs).set (j*k+i) u=flat enc (xs.set j x')
 | [],j,x,_,h,_,_,_,_=>by simp at h
 | y::ys,0,x,x',h,i,u,hi,he=>by
  have e:y=x:=by simpa using h
  subst e
  rw[List.set_cons_zero,flat,flat,Nat.zero_mul,Nat.zero_add,List.set_append_left _ _ (by rw[hk];exact hi),he]
 | y::ys,j+1,x,x',h,i,u,hi,he=>by
  have e:(j+1)*k+i=(enc y).length+(j*k+i):=by rw[hk,Nat.add_mul];omega
  rw[List.set_cons_succ,flat,flat,e,List.set_append_right _ _ (by omega),Nat.add_sub_cancel_left,c7j hk ys j x x' (by simpa using h) i u hi he]
end
def rowA(rs:List Rtr):Array Value:=(flat Rtr.enc rs).toArray
def rtr0:Rtr:=⟨false,[],[]⟩
theorem c9x(rs:List Rtr):(rowA rs).size=rs.length*3:=by
 unfold rowA;rw[List.size_toArray,a6e b9m]
theorem b1f{rs:List Rtr}{j:Nat}{x:Rtr}(h:rs[j]? =some x){i:Nat}{u:Value}(hu:x.enc[i]? =some u):(rowA rs)[j*3+i]? =some u:=by
 unfold rowA;rw[List.getElem?_toArray];exact a4a b9m rs j x h i u hu
theorem b9n{rs:List Rtr}{j:Nat}{x x':Rtr}(h:rs[j]? =some x){i:Nat}{u:Value}(hi:i<3)(he:x.enc.set i u=x'.enc):(rowA rs).setIfInBounds (j*3+i) u=rowA (rs.set j x'):=by
 unfold rowA
 rw[List.setIfInBounds_toArray,c7j b9m rs j x x' h i u hi he]
theorem St.setRow{w0 w:World}{R:List Own}(h:St w0 R w)(k:Nat){g:Nat}{rs:List Rtr}{t:TypeId}(hk:R[k]? =some ⟨g,rowA rs,t⟩)(j:Nat)(x:Rtr)(hj:j<rs.length) :
  St w0 (R.set k ⟨g,rowA (rs.set j x),t⟩) (((w.setCell ⟨g,j*3,none⟩ (.bool x.n)).setCell ⟨g,j*3+1,none⟩ (.string (bs x.a))).setCell ⟨g,j*3+2,none⟩ (.string (bs x.b))):=by
 have hl:=(List.getElem?_eq_some_iff.1 hk).1
 have hq:rs[j]? =some rs[j]:=List.getElem?_eq_getElem hj
 have h1:=h.set k hk (j*3) (.bool x.n)
 have e1:=b9n (x':=⟨x.n,rs[j].a,rs[j].b⟩) hq (i:=0) (u:=.bool x.n) (by decide) rfl
 rw[Nat.add_zero]at e1
 rw[e1]at h1
 have hj1:j<(rs.set j (⟨x.n,rs[j].a,rs[j].b⟩:Rtr)).length:=by rw[List.length_set];exact hj
 have h2:=h1.set k (g:=g) (t:=t) (by rw[List.getElem?_set_self hl]) (j*3+1) (.string (bs x.a))
 rw[b9n (x:=⟨x.n,rs[j].a,rs[j].b⟩) (x':=⟨x.n,x.a,rs[j].b⟩) (by rw[List.getElem?_set_self hj]) (by decide) rfl]at h2
 simp only[List.set_set]at h2
 have h3:=h2.set k (g:=g) (t:=t) (by rw[List.getElem?_set_self (by simpa using hl)]) (j*3+2) (.string (bs x.b))
 rw[b9n (x:=⟨x.n,x.a,rs[j].b⟩) (x':=x) (by rw[List.getElem?_set_self hj]) (by decide) rfl]at h3
 simp only[List.set_set]at h3
 exact h3
theorem St.rowCells{w0 w:World}{R:List Own}(h:St w0 R w)(k:Nat){g:Nat}{rs:List Rtr}{t:TypeId}(hk:R[k]? =some ⟨g,rowA rs,t⟩){j:Nat}{x:Rtr}(hx:rs[j]? =some x) :
  w.cell? ⟨g,j*3,none⟩=some (.bool x.n)/\w.cell? ⟨g,j*3+1,none⟩=some (.string (bs x.a))/\w.cell? ⟨g,j*3+2,none⟩=some (.string (bs x.b)):=by
 refine⟨h.cell k hk _ ?_,h.cell k hk _ (b1f hx rfl),h.cell k hk _ (b1f hx rfl)⟩
 have:=b1f hx (i:=0) rfl
 exact this
theorem St.rowL{w0 w:World}{R:List Own}(h:St w0 R w)(k:Nat){g:Nat}{rs:List Rtr}{t:TypeId}(hk:R[k]? =some ⟨g,rowA rs,t⟩){n:Nat}(hn:rs.length=n)(h9:n<=9223372036854775807):RatsL w (.slice (some ⟨g,0,none⟩) n n) rs :=
 Slc.of_blk b9m (h.blk k hk) (by unfold rowA;rfl) hn (Nat.le_refl _) h9
theorem d1j(n:Nat):madeCells #[.bool false,.string (bs []),.string (bs [])] (n*3)=rowA (List.replicate n rtr0):=by
 apply Array.ext
 ·rw[size_madeCells,c9x,List.length_replicate]
 intro i h1 h2
 rw[size_madeCells]at h1
 have h3:i/3<n:=by omega
 have hq:(List.replicate n rtr0)[i/3]? =some rtr0:=by rw[List.getElem?_replicate,if_pos h3]
 have hm:i%3=0\/i%3=1\/i%3=2:=by omega
 have hd:i/3*3+i%3=i:=by omega
 have key:∀u,rtr0.enc[i%3]? =some u->(rowA (List.replicate n rtr0))[i]=u:=fun u hu=>by
  have:=b1f hq hu
  rw[hd,Array.getElem?_eq_getElem h2]at this
  exact Option.some.inj this
 have hL:(madeCells #[.bool false,.string (bs []),.string (bs [])] (n*3))[i]? =some ((#[.bool false,.string (bs []),.string (bs [])]:Array Value)[i%3]!):=by
  unfold madeCells
  rw[Array.getElem?_map,Array.getElem?_range,if_pos h1];rfl
 rw[Array.getElem?_eq_getElem (by rw[size_madeCells];exact h1)]at hL
 rw[Option.some.inj hL]
 rcases hm with e | e | e
 ·rw[key (.bool false) (by rw[e];rfl),e];rfl
 ·rw[key (.string (bs [])) (by rw[e];rfl),e];rfl
 rw[key (.string (bs [])) (by rw[e];rfl),e];rfl
theorem d1u:(Tryz.prog.info? 39).map (fun i=>(i.zero,i.size,i.bytes))=some (some (.agg #[.bool false,.string (bs []),.string (bs [])]),3,40):=by kernel_rfl
theorem c3a(n:Nat)(hn:n<=1000)(W:World) :
  (Instr.makeSlice 37 (.int .i64 (n:Int)) (.int .i64 (n:Int))).run Tryz.prog W=.ok (.slice (some ⟨W.heap.size,0,none⟩) n n) (W.alloc (.cells (rowA (List.replicate n rtr0)) 39)):=by
 obtain⟨i,hi,hzz⟩:=Option.map_eq_some_iff.1 d1u
 simp only[Prod.mk.injEq]at hzz
 obtain⟨hz,hs,hb⟩:=hzz
 have:=Go.run_make (P:=Tryz.prog) W 37 39 i _ Tryz.underlying37 hi hz .i64 .i64 (n:Int) (n:Int) (by omega) (Int.le_refl _) (by rw[hb];omega) (by omega)
 rw[hs,Int.toNat_natCast,show(Value.agg #[.bool false,.string (bs []),.string (bs [])]).cells=#[.bool false,.string (bs []),.string (bs [])]from rfl,d1j]at this
 exact this
theorem ref_Less(p q:Rat)(w:World)(sp:Sized 17179869184 p)(sq:Sized 17179869184 q) :
  Calls Tryz.prog 80 #[rat p,rat q] w fun e w'=>e=.returned (.bool (decide (sgn (p-q).num<0)))/\Below w.heap.size w w':=by
 have mi:=fun W=>a8p p q W sp sq
 have sg:=fun W=>b8d (negB (p-q)) (numB (p-q)) (a0a (p-q)) W
 rw[sgnR_dec]at sg
 clear sp sq
 generalize sgn (p-q).num=s at *
 generalize p-q=r at *
 unfold rat raw at *
 generalize negB p=np at *
 generalize numB p=bp at *
 generalize a0a p=dp at *
 generalize negB q=nq at *
 generalize numB q=bq at *
 generalize a0a q=dq at *
 generalize negB r=nr at *
 generalize numB r=br at *
 generalize a0a r=dr at *
 have MI:=zh mi
 have SG:=zh sg
 clear mi sg
 go_enter Tryz.func80,Tryz.ntmps80
 have HS:=zh (St.start w)
 go_wp2_with fail
 have HS2:=aL (aL HS #[.bool np,.string (bs bp),.string (bs dp)] 39 w.heap.size) #[.bool nq,.string (bs bq),.string (bs dq)] 39 (w.heap.size+1)
 refine cL (MI.out _) HS2 fun w3 HS3=>?_
 clear HS HS2
 go_wp2_with fail
 refine cL (SG.out _) HS3 fun w4 HS4=>?_
 clear HS3
 go_wp2
 go_ret
 have HS5:=zh HS4.out
 exact⟨rfl,HS5.out.below⟩
structure Pt where
 c:Nat
 q:Rat
def totR:List Pt->Rat
 | []=>0
 | p::P=>p.q+totR P
theorem c1k:∀ (P:List Pt) (p:Pt),totR (P++[p])=totR P+p.q
 | [],p=>by show p.q+0=0+p.q;grind
 | x::P,p=>by
  show x.q+totR (P++[p])=x.q+totR P+p.q
  rw[c1k P p];grind
def minQ(a b:Rat):Rat:=if a<b then a else b
def getQ(D:List Rat)(i:Nat):Rat:=D.getD i 0
def a2k(D:List Rat)(c:Nat)(x:Rat):List Rat:=D.set c (getQ D c+x)
def a2x(tot take:Rat)(P:List Pt)(D:List Rat):List Rat:=P.foldl (fun D p=>a2k D p.c (p.q/tot*take)) D
def a1u:List (List Pt)->Rat->List Rat->List Rat
 | [],_,D=>D
 | P::L,m,D=>if totR P=0 then a1u L m D else a1u L (m-minQ m (totR P)) (a2x (totR P) (minQ m (totR P)) P D)
theorem a5f(D:List Rat)(c:Nat)(x:Rat):(a2k D c x).length=D.length:=List.length_set
theorem a4u(tot take:Rat):∀ (P:List Pt) (D:List Rat),(a2x tot take P D).length=D.length
 | [],_=>rfl
 | p::P,D=>by
  show(a2x tot take P (a2k D p.c (p.q/tot*take))).length=_
  rw[a4u tot take P,a5f]
theorem c0b:∀ (L:List (List Pt)) (m:Rat) (D:List Rat),(a1u L m D).length=D.length
 | [],_,_=>rfl
 | P::L,m,D=>by
  rw[a1u]
  split
  ·exact c0b L m D
  rw[c0b L,a4u]
theorem a7t{D:List Rat}{c i:Nat}{x:Rat}(hc:c<D.length):getQ (D.set c x) i=if i=c then x else getQ D i:=by
 unfold getQ
 rw[List.getD_eq_getElem?_getD,List.getD_eq_getElem?_getD,List.getElem?_set]
 by_cases h:i=c
 ·subst h;rw[if_pos rfl,if_pos rfl,if_pos hc];rfl
 rw[if_neg (fun e=>h e.symm),if_neg h]
theorem a4q{D:List Rat}{i:Nat}{x:Rat}(h:D[i]? =some x):getQ D i=x:=by
 unfold getQ
 rw[List.getD_eq_getElem?_getD,h];rfl
theorem b5a{tot take:Rat}{P:List Pt}{k:Nat}{p:Pt}{D:List Rat}(h:P[k]? =some p):a2x tot take (P.take (k+1)) D=a2k (a2x tot take (P.take k) D) p.c (p.q/tot*take):=by
 unfold a2x
 rw[a3g h,List.foldl_append];rfl
theorem c2n{L:List (List Pt)}{t:Nat}{P:List Pt}{m:Rat}{D:List Rat}(h:L[t]? =some P):a1u (L.drop t) m D=if totR P=0 then a1u (L.drop (t+1)) m D else a1u (L.drop (t+1)) (m-minQ m (totR P)) (a2x (totR P) (minQ m (totR P)) P D):=by
 rw[c5f h,a1u]
def PosP(P:List Pt):Prop:=∀p∈P,0<=p.q
def InP(n:Nat)(P:List Pt):Prop:=∀p∈P,p.c<n
theorem b9e:∀ {P:List Pt},PosP P->0<=totR P
 | [],_=>by show(0:Rat)<=0;grind
 | p::P,h=>by
  show 0<=p.q+totR P
  have h1:=h p (List.mem_cons_self ..)
  have h2:=b9e (P:=P) fun x hx=>h x (List.mem_cons_of_mem _ hx)
  grind
theorem c1j:∀ {P:List Pt},PosP P->totR P=0->∀p∈P,p.q=0
 | [],_,_,p,hp=>by cases hp
 | x::P,h,h0,p,hp=>by
  have h1:=h x (List.mem_cons_self ..)
  have hP:PosP P:=fun y hy=>h y (List.mem_cons_of_mem _ hy)
  have h2:=b9e hP
  have h3:x.q+totR P=0:=h0
  rcases List.mem_cons.1 hp with rfl | hp
  ·grind
  exact c1j hP (by grind) p hp
theorem b8t{a b c:Rat}(ha:0<=a)(hb:0<b)(hc:0<=c):0<=a/b*c:=by
 have h1:0<=a/b:=by
  rw[Rat.div_def]
  exact Rat.mul_nonneg ha (Rat.le_of_lt (Rat.inv_pos.2 hb))
 exact Rat.mul_nonneg h1 hc
theorem b1b{tot take:Rat}(ht:0<tot)(hk:0<=take):∀ (P:List Pt) (D:List Rat),PosP P->InP D.length P->∀i,getQ D i<=getQ (a2x tot take P D) i
 | [],D,_,_,i=>Rat.le_refl
 | p::P,D,h,hin,i=>by
  show _<=getQ (a2x tot take P (a2k D p.c (p.q/tot*take))) i
  have h1:=b1b ht hk P (a2k D p.c (p.q/tot*take)) (fun x hx=>h x (List.mem_cons_of_mem _ hx)) (by rw[a5f];exact fun x hx=>hin x (List.mem_cons_of_mem _ hx)) i
  refine Rat.le_trans ?_ h1
  have h2:=b8t (h p (List.mem_cons_self ..)) ht hk
  unfold a2k
  rw[a7t (hin p (List.mem_cons_self ..))]
  by_cases e:i=p.c
  ·rw[if_pos e,e];grind
  rw[if_neg e];exact Rat.le_refl
theorem a7k{tot take:Rat}:∀ (P:List Pt) (D:List Rat),InP D.length P->∀i,(∀p∈P,p.c≠i)->getQ (a2x tot take P D) i=getQ D i
 | [],D,_,i,_=>rfl
 | p::P,D,hin,i,hn=>by
  show getQ (a2x tot take P (a2k D p.c (p.q/tot*take))) i=_
  rw[a7k P _ (by rw[a5f];exact fun x hx=>hin x (List.mem_cons_of_mem _ hx)) i fun x hx=>hn x (List.mem_cons_of_mem _ hx)]
  unfold a2k
  rw[a7t (hin p (List.mem_cons_self ..)),if_neg (fun e=>hn p (List.mem_cons_self ..) e.symm)]
theorem b4z{tot:Rat}:∀ (P:List Pt) (D:List Rat),InP D.length P->∀i,getQ (a2x tot 0 P D) i=getQ D i
 | [],D,_,i=>rfl
 | p::P,D,hin,i=>by
  show getQ (a2x tot 0 P (a2k D p.c (p.q/tot*0))) i=_
  rw[b4z P _ (by rw[a5f];exact fun x hx=>hin x (List.mem_cons_of_mem _ hx)) i]
  unfold a2k
  rw[a7t (hin p (List.mem_cons_self ..)),Rat.mul_zero]
  by_cases e:i=p.c
  ·rw[if_pos e,e];grind
  rw[if_neg e]
theorem b5b{tot take:Rat}(ht:0<tot)(hk:0<=take):∀ (P:List Pt) (D:List Rat),PosP P->InP D.length P->∀p∈P,getQ D p.c+p.q/tot*take<=getQ (a2x tot take P D) p.c
 | [],D,_,_,p,hp=>by cases hp
 | x::P,D,h,hin,p,hp=>by
  show _<=getQ (a2x tot take P (a2k D x.c (x.q/tot*take))) p.c
  have hP:PosP P:=fun y hy=>h y (List.mem_cons_of_mem _ hy)
  have hinP:InP (a2k D x.c (x.q/tot*take)).length P:=by rw[a5f];exact fun y hy=>hin y (List.mem_cons_of_mem _ hy)
  rcases List.mem_cons.1 hp with rfl | hp
  ·have h1:=b1b ht hk P (a2k D p.c (p.q/tot*take)) hP hinP p.c
   refine Rat.le_trans ?_ h1
   unfold a2k
   rw[a7t (hin p (List.mem_cons_self ..)),if_pos rfl]
   exact Rat.le_refl
  have h1:=b5b ht hk P (a2k D x.c (x.q/tot*take)) hP hinP p hp
  refine Rat.le_trans ?_ h1
  have h2:=b8t (h x (List.mem_cons_self ..)) ht hk
  unfold a2k
  rw[a7t (hin x (List.mem_cons_self ..))]
  by_cases e:p.c=x.c
  ·rw[if_pos e,e];grind
  rw[if_neg e];exact Rat.le_refl
theorem c0h{a b:Rat}(ha:0<=a)(hb:0<=b):0<=minQ a b:=by unfold minQ;split<;>assumption
theorem b5w{a b:Rat}:minQ a b<=a:=by unfold minQ;split<;>grind
def PosL(L:List (List Pt)):Prop:=∀P∈L,PosP P
def InL(n:Nat)(L:List (List Pt)):Prop:=∀P∈L,InP n P
theorem b9d{P:List Pt}(h:PosP P)(h0:totR P≠0):0<totR P:=by have:=b9e h;grind
theorem b2m:∀ (L:List (List Pt)) (m:Rat) (D:List Rat),PosL L->InL D.length L->0<=m->∀i,getQ D i<=getQ (a1u L m D) i
 | [],m,D,_,_,_,i=>Rat.le_refl
 | P::L,m,D,h,hin,hm,i=>by
  have hL:PosL L:=fun x hx=>h x (List.mem_cons_of_mem _ hx)
  have hinL:InL D.length L:=fun x hx=>hin x (List.mem_cons_of_mem _ hx)
  rw[a1u]
  by_cases h0:totR P=0
  ·rw[if_pos h0];exact b2m L m D hL hinL hm i
  rw[if_neg h0]
  have ht:=b9d (h P (List.mem_cons_self ..)) h0
  have hk:=c0h hm (Rat.le_of_lt ht)
  have h1:=b5w (a:=m) (b:=totR P)
  exact Rat.le_trans (b1b ht hk P D (h P (List.mem_cons_self ..)) (hin P (List.mem_cons_self ..)) i) (b2m L _ _ hL (by rw[a4u];exact hinL) (by grind) i)
theorem b5r:∀ (L:List (List Pt)) (m:Rat) (D:List Rat),InL D.length L->∀i,(∀P∈L,∀p∈P,p.c≠i)->getQ (a1u L m D) i=getQ D i
 | [],m,D,_,i,_=>rfl
 | P::L,m,D,hin,i,hn=>by
  have hinL:InL D.length L:=fun x hx=>hin x (List.mem_cons_of_mem _ hx)
  have hnL:∀P∈L,∀p∈P,p.c≠i:=fun x hx=>hn x (List.mem_cons_of_mem _ hx)
  rw[a1u]
  split
  ·exact b5r L m D hinL i hnL
  rw[b5r L _ _ (by rw[a4u];exact hinL) i hnL,a7k P D (hin P (List.mem_cons_self ..)) i (hn P (List.mem_cons_self ..))]
theorem b5q:∀ (L:List (List Pt)) (D:List Rat),PosL L->InL D.length L->∀i,getQ (a1u L 0 D) i=getQ D i
 | [],D,_,_,i=>rfl
 | P::L,D,h,hin,i=>by
  have hL:PosL L:=fun x hx=>h x (List.mem_cons_of_mem _ hx)
  have hinL:InL D.length L:=fun x hx=>hin x (List.mem_cons_of_mem _ hx)
  rw[a1u]
  by_cases h0:totR P=0
  ·rw[if_pos h0];exact b5q L D hL hinL i
  rw[if_neg h0]
  have ht:=b9d (h P (List.mem_cons_self ..)) h0
  have e:minQ 0 (totR P)=0:=by unfold minQ;rw[if_pos ht]
  rw[e,show(0:Rat)-0=0 by grind,b5q L _ hL (by rw[a4u];exact hinL) i,b4z P D (hin P (List.mem_cons_self ..)) i]
theorem b2n:∀ (L1:List (List Pt)) (P:List Pt) (L2:List (List Pt)) (m:Rat) (D:List Rat) (p:Pt) (j:Nat),PosL (L1++P::L2)->InL D.length (L1++P::L2)->0<=m->p∈P->(∀Q∈L1,∀x∈Q,x.c≠j)->(∀x∈P,x.c≠j) ->
  getQ D j<getQ (a1u (L1++P::L2) m D) j->getQ D p.c+p.q<=getQ (a1u (L1++P::L2) m D) p.c
 | [],P,L2,m,D,p,j,h,hin,hm,hp,_,hj,hgt=>by
  rw[List.nil_append]at h hin hgt ⊢
  have hP:=h P (List.mem_cons_self ..)
  have hiP:=hin P (List.mem_cons_self ..)
  have hL:PosL L2:=fun x hx=>h x (List.mem_cons_of_mem _ hx)
  have hinL:InL D.length L2:=fun x hx=>hin x (List.mem_cons_of_mem _ hx)
  by_cases h0:totR P=0
  ·have e:=c1j hP h0 p hp
   have:=b2m (P::L2) m D h hin hm p.c
   rw[e];grind
  have ht:=b9d hP h0
  rw[a1u,if_neg h0]at hgt ⊢
  have hk:=c0h hm (Rat.le_of_lt ht)
  have hl:=b5w (a:=m) (b:=totR P)
  have hinS:InL (a2x (totR P) (minQ m (totR P)) P D).length L2:=by rw[a4u];exact hinL
  by_cases hz:m-minQ m (totR P)=0
  ·rw[hz,b5q L2 _ hL hinS,a7k P D hiP j hj]at hgt
   grind
  have hm':0<=m-minQ m (totR P):=by grind
  have e:minQ m (totR P)=totR P:=by
   unfold minQ at hz ⊢
   split
   ·rename_i hlt;rw[if_pos hlt]at hz;grind
   rfl
  have h1:=b5b ht hk P D hP hiP p hp
  have h2:=b2m L2 _ _ hL hinS hm' p.c
  have h3:p.q/totR P*minQ m (totR P)=p.q:=by rw[e];exact Rat.div_mul_cancel h0
  rw[h3]at h1
  exact Rat.le_trans h1 h2
 | Q::L1,P,L2,m,D,p,j,h,hin,hm,hp,hL1,hj,hgt=>by
  rw[List.cons_append]at h hin hgt ⊢
  have hQ:=h Q (List.mem_cons_self ..)
  have hiQ:=hin Q (List.mem_cons_self ..)
  have hL:PosL (L1++P::L2):=fun x hx=>h x (List.mem_cons_of_mem _ hx)
  have hinL:InL D.length (L1++P::L2):=fun x hx=>hin x (List.mem_cons_of_mem _ hx)
  have hL1':∀Q∈L1,∀x∈Q,x.c≠j:=fun x hx=>hL1 x (List.mem_cons_of_mem _ hx)
  by_cases h0:totR Q=0
  ·rw[a1u,if_pos h0]at hgt ⊢
   exact b2n L1 P L2 m D p j hL hinL hm hp hL1' hj hgt
  have ht:=b9d hQ h0
  have hk:=c0h hm (Rat.le_of_lt ht)
  have hl:=b5w (a:=m) (b:=totR Q)
  rw[a1u,if_neg h0]at hgt ⊢
  have h1:=b1b ht hk Q D hQ hiQ p.c
  have h2:=b2n L1 P L2 (m-minQ m (totR Q)) (a2x (totR Q) (minQ m (totR Q)) Q D) p j hL (by rw[a4u];exact hinL) (by grind) hp hL1' hj (by rw[a7k Q D hiQ j (hL1 Q (List.mem_cons_self ..))];exact hgt)
  exact Rat.le_trans (by grind) h2
set_option maxHeartbeats 2000000
theorem less_dec{p q:Rat}:decide (sgn (p-q).num<0)=decide (p<q):=by
 rw[Bool.eq_iff_iff,decide_eq_true_eq,decide_eq_true_eq]
 constructor
 ·intro h
  refine Classical.byContradiction fun hn=>?_
  exact b7z (q:=p-q) (by grind) h
 intro h
 refine Classical.byContradiction fun hn=>?_
 have:=c9t (q:=p-q) (by omega)
 grind
theorem b1j(p q:Rat)(w:World)(sp:Sized 17179869184 p)(sq:Sized 17179869184 q) :
  Calls Tryz.prog 80 #[rat p,rat q] w fun e w'=>e=.returned (.bool (decide (p<q)))/\Below w.heap.size w w':=by
 rw[<- less_dec]
 exact ref_Less p q w sp sq
theorem neg_pos{p:Rat}(h:0<=p):negB p=false:=by
 unfold negB
 exact decide_eq_false (by grind)
def Pt.enc(p:Pt):List Value:=[.int .i64 (p.c:Nat),.bool (negB p.q),.string (bs (numB p.q)),.string (bs (a0a p.q))]
theorem a8t(p:Pt):p.enc.length=4:=rfl
abbrev PtsL(w:World)(v:Value)(P:List Pt):Prop:=Slc Pt.enc 4 w v P
def TrsL:World->Value->List (List Pt)->Prop:=NstL PtsL
theorem TrsL.below{w w':World}{v:Value}{L:List (List Pt)}(h:TrsL w v L)(hb:Below w.heap.size w w'):TrsL w' v L:=NstL.below (fun _ _ _ _ h hb=>Slc.below h hb) h hb
def SzP(r:Nat)(P:List Pt):Prop:=∀p∈P,Sized r p.q
theorem b2d{r:Nat}:∀ {P:List Pt},SzP r P->Sized (P.length*(r+1)+1) (totR P)
 | [],_=>by rw[show totR []=0 from rfl];exact sized_zero.mono (by omega)
 | p::P,h=>by
  have h1:=h p (List.mem_cons_self ..)
  have h2:=b2d (P:=P) fun x hx=>h x (List.mem_cons_of_mem _ hx)
  refine(h1.add h2).mono ?_
  rw[List.length_cons,Nat.add_mul];omega
theorem enc0q3:negB (0:Rat)=false/\numB (0:Rat)=[]/\a0a (0:Rat)=[]:=by decide +kernel
theorem c8b(p q:Rat)(w:World)(sp:Sized 17179869184 p)(sq:Sized 17179869184 q) :
  Calls Tryz.prog 89 #[rat p,rat q] w fun e w'=>e=.returned (rat (minQ p q))/\Below w.heap.size w w':=by
 have ls:=fun W=>b1j q p W sq sp
 have h1:decide (q<p)=true->minQ p q=q:=fun h=>by have:=of_decide_eq_true h;unfold minQ;rw[if_neg (by grind)]
 have h2:decide (q<p)=false->minQ p q=p:=fun h=>by have:=of_decide_eq_false h;unfold minQ;split<;>grind
 obtain⟨b,hb⟩:∃b,b=decide (q<p):=⟨_,rfl⟩
 rw[<- hb]at ls h1 h2
 have LS:=zh ls
 clear ls sp sq hb
 unfold rat raw at LS
 cases b
 ·rw[h2 rfl]
  clear h1 h2
  unfold rat raw
  go_enter Tryz.func89,Tryz.ntmps89
  have HS:=zh (St.start w)
  go_wp2_with fail
  have HS2:=aL (aL (aL HS #[.bool (negB (p)),.string (bs (numB (p))),.string (bs (a0a (p)))] 39 w.heap.size) #[.bool (negB (q)),.string (bs (numB (q))),.string (bs (a0a (q)))] 39 (w.heap.size+1)) #[.bool false,.string (bs []),.string (bs [])] 39 (w.heap.size+1+1)
  refine cL (LS.out _) HS2 fun w3 HS3=>?_
  clear HS HS2
  obtain⟨x1,x2,x3⟩:=HS3.out.k0 2 rfl rfl rfl rfl
  obtain⟨x4,x5,x6⟩:=HS3.out.k0 0 rfl rfl rfl rfl
  obtain⟨x7,x8,x9⟩:=HS3.out.f0 0 rfl
  have x10:=cN HS3 0 1
  have x11:=cN HS3 1 0
  have x12:=cN HS3 0 2
  have x13:=cN HS3 2 0
  go_wp2
  have HS4:Hid (St w [⟨w.heap.size+1+1,#[.bool (negB (p)),.string (bs (numB (p))),.string (bs (a0a (p)))],39⟩,_,_] _):=zh (St.set (St.set (St.set (HS3.out) 0 rfl 0 _) 0 rfl 1 _) 0 rfl 2 _)
  refine bodyPost_ret (a0f rfl _ _ _ _ _ _ rfl (HS4.out.blk 0 rfl)) rfl ?_
  exact⟨rfl,HS4.out.below⟩
 rw[h1 rfl]
 clear h1 h2
 unfold rat raw
 go_enter Tryz.func89,Tryz.ntmps89
 have HS:=zh (St.start w)
 go_wp2_with fail
 have HS2:=aL (aL (aL HS #[.bool (negB (p)),.string (bs (numB (p))),.string (bs (a0a (p)))] 39 w.heap.size) #[.bool (negB (q)),.string (bs (numB (q))),.string (bs (a0a (q)))] 39 (w.heap.size+1)) #[.bool false,.string (bs []),.string (bs [])] 39 (w.heap.size+1+1)
 refine cL (LS.out _) HS2 fun w3 HS3=>?_
 clear HS HS2
 obtain⟨x1,x2,x3⟩:=HS3.out.k0 1 rfl rfl rfl rfl
 obtain⟨x4,x5,x6⟩:=HS3.out.k0 0 rfl rfl rfl rfl
 obtain⟨x7,x8,x9⟩:=HS3.out.f0 0 rfl
 have x10:=cN HS3 0 1
 have x11:=cN HS3 1 0
 have x12:=cN HS3 0 2
 have x13:=cN HS3 2 0
 go_wp2
 have HS4:Hid (St w [⟨w.heap.size+1+1,#[.bool (negB (q)),.string (bs (numB (q))),.string (bs (a0a (q)))],39⟩,_,_] _):=zh (St.set (St.set (St.set (HS3.out) 0 rfl 0 _) 0 rfl 1 _) 0 rfl 2 _)
 refine bodyPost_ret (a0f rfl _ _ _ _ _ _ rfl (HS4.out.blk 0 rfl)) rfl ?_
 exact⟨rfl,HS4.out.below⟩
theorem c1y(p:Rat)(w:World)(hp:0<=p) :
  Calls Tryz.prog 58 #[rat p] w fun e w'=>e=.returned (rat p)/\Below w.heap.size w w':=by
 have hn:=neg_pos hp
 unfold rat raw
 rw[hn]
 clear hn hp
 go_enter Tryz.func58,Tryz.ntmps58
 have HS:=zh (St.start w)
 go_wp2
 have HS2:=aL (aL HS #[.bool false,.string (bs (numB p)),.string (bs (a0a p))] 39 w.heap.size) #[.bool false,.string (bs (numB p)),.string (bs (a0a p))] 39 (w.heap.size+1)
 refine bodyPost_ret (a0f rfl _ _ _ _ _ _ rfl (HS2.out.blk 0 rfl)) rfl ?_
 exact⟨rfl,HS2.out.below⟩
theorem c2e(p:Rat)(w:World)(hp:0<=p)(sp:Sized 17179869184 p) :
  Calls Tryz.prog 27 #[rat p] w fun e w'=>e=.returned (rat p)/\Below w.heap.size w w':=by
 have fx:=fun W=>b5h (negB p) (numB p) (a0a p) W (Nat.le_trans sp.num (by decide)) (Nat.le_trans sp.denom (by decide))
 rw[show decR (negB p) (numB p) (a0a p)=p from b2z p]at fx
 have ps:=fun W=>c1y p W hp
 unfold rat raw at fx ps ⊢
 have FX:=zh fx
 have PS:=zh ps
 clear fx ps hp sp
 go_enter Tryz.func27,Tryz.ntmps27
 have HS:=zh (St.start w)
 go_wp2_with fail
 have HS2:=aL (aL HS #[.bool (negB (p)),.string (bs (numB (p))),.string (bs (a0a (p)))] 39 w.heap.size) #[.bool false,.string (bs []),.string (bs [])] 39 (w.heap.size+1)
 refine cL (FX.out _) HS2 fun w3 HS3=>?_
 clear HS HS2
 go_wp2_with fail
 refine cL (PS.out _) HS3 fun w4 HS4=>?_
 clear HS3
 obtain⟨x1,x2,x3⟩:=HS4.out.k0 0 rfl rfl rfl rfl
 obtain⟨x4,x5,x6⟩:=HS4.out.f0 0 rfl
 have x7:=cN HS4 0 1
 have x8:=cN HS4 1 0
 go_wp2
 have HS5:Hid (St w [⟨w.heap.size+1,#[.bool (negB (p)),.string (bs (numB (p))),.string (bs (a0a (p)))],39⟩,_] _):=zh (St.set (St.set (St.set (HS4.out) 0 rfl 0 _) 0 rfl 1 _) 0 rfl 2 _)
 refine bodyPost_ret (a0f rfl _ _ _ _ _ _ rfl (HS5.out.blk 0 rfl)) rfl ?_
 exact⟨rfl,HS5.out.below⟩
theorem c9e{P:List Pt}{k:Nat}{p:Pt}(h:P[k]? =some p):totR (P.take (k+1))=totR (P.take k)+p.q:=by rw[a3g h,c1k]
theorem d0c(v:Value)(P:List Pt)(r:Nat)(w:World)(h:PtsL w v P)(hs:SzP r P)(hl:P.length<=1000)(hr:r<=1000000000)(hb:P.length*(r+1)+1<=17179869184) :
  Calls Tryz.prog 88 #[v] w fun e w'=>e=.returned (rat (totR P))/\Below w.heap.size w w':=by
 have H:=zh h
 obtain⟨A,c,rfl,_,_⟩:=Slc.slice h
 have LN:=zh hl
 have HP:=zh (fun(k:Nat) (p:Pt) (hk:k<P.length) (hp:P[k]? =some p) W=>a6k (totR (P.take k)) p.q W ((b2d (r:=r) (fun x hx=>hs x (List.mem_of_mem_take hx))).mono (by rw[List.length_take,Nat.min_eq_left (by omega)];exact Nat.le_trans (Nat.add_le_add_right (Nat.mul_le_mul_right _ (Nat.le_of_lt hk)) 1) hb)) ((hs p (List.mem_of_getElem? hp)).mono (by omega)))
 have H0:Hid ((rat (totR (P.take 0)))=.agg #[.bool false,.string (bs []),.string (bs [])]):=zh (by rw[List.take_zero,show totR []=0 from rfl];unfold rat raw;rw[enc0q3.1,enc0q3.2.1,enc0q3.2.2])
 obtain⟨tq,htq⟩:∃f:Nat->Rat,f=fun k=>totR (P.take k):=⟨_,rfl⟩
 have HTQ:=zh htq
 have HZ:Hid (#[Value.bool (negB (tq 0)),.string (bs (numB (tq 0))),.string (bs (a0a (tq 0)))]=#[.bool false,.string (bs []),.string (bs [])]):=zh (by have h0:=H0.out;rw[htq];dsimp only;unfold rat raw at h0;injection h0)
 rw[show totR P=tq P.length by rw[htq];dsimp only;rw[List.take_length]]
 unfold rat raw
 clear h hs hl hr hb htq
 go_enter Tryz.func88,Tryz.ntmps88
 have HS:=zh (St.start w)
 go_wp2
 go_loopw [4] (fun i_ wr=>∃k:Nat,k<=P.length/\i_=.int .i64 k/\Hid (St w [⟨w.heap.size+1,#[.bool (negB (tq k)),.string (bs (numB (tq k))),.string (bs (a0a (tq k)))],39⟩,⟨w.heap.size,#[.bool false,.string (bs []),.string (bs [])],39⟩] wr)) (fun i_ _=>P.length-(intOf i_).toNat)
 case atStart=>exact⟨0,Nat.zero_le _,rfl,by show St w _ _;rw[HZ.out];exact(St.alloc ((St.alloc (HS.out) #[.bool false,.string (bs []),.string (bs [])] 39 (w.heap.size) (by simp))) #[.bool false,.string (bs []),.string (bs [])] 39 (w.heap.size+1) (by simp))⟩
 case round =>
  obtain⟨k,hk,rfl,HS⟩:=hrel
  by_cases hkn:k<P.length
  ·obtain⟨b,o,x,rfl,hb,hq,hx⟩:=Slc.at_ H.out hkn
   have hpl:=HP.out k x hkn hq
   have hst:tq (k+1)=tq k+x.q:=by rw[HTQ.out];exact c9e hq
   rw[show totR (P.take k)=tq k by rw[HTQ.out],<-hst]at hpl
   unfold rat raw at hpl
   have HPL:=zh hpl
   unfold Pt.enc at hx
   have HX:=zh hx
   have e0:(0:Int)<=((k:Nat):Int):=by omega
   have e1:((k:Nat):Int)<(P.length:Int):=by omega
   have e2:decide (((k:Nat):Int)<(P.length:Int))=true:=decide_eq_true e1
   have e5:IntKind.i64.wrap ((k:Int)+1)=((k+1:Nat):Int):=by have:=LN.out;rw[IntWalk.i64_in _ (by omega)];rfl
   clear hx hq hpl hst
   go_wp2
   refine a0e 7 [.agg #[.bool (negB (tq k)),.string (bs (numB (tq k))),.string (bs (a0a (tq k)))],.slice (some ⟨b,o,none⟩) P.length c,.int .i64 (k:Nat),.pointer (some ⟨b,o+k*4,none⟩),.pointer (some ⟨b,o+k*4+1,none⟩),.agg #[.bool (negB (x.q)),.string (bs (numB (x.q))),.string (bs (a0a (x.q)))],.agg #[.bool (negB (tq (k+1))),.string (bs (numB (tq (k+1)))),.string (bs (a0a (tq (k+1))))]] rfl (by kernel_rfl) (by kernel_rfl) (by kernel_rfl) ?_ ?_
   refine⟨?_,?_,?_,?_,?_,?_,?_,trivial⟩<;>(intro xx af wv hbx hev hev0 hd;have H:=SH.mk hev hev0 hd;clear hev hev0 hd)
   ·have e3:=H.i 3;clear H;have hs1:=zh (HS.out.call hbx);obtain⟨y0,y1,y2⟩:=hs1.out.k0 0 rfl rfl rfl rfl;go_wp2;exact sQ rfl
   ·have e0:=H.i 0;clear H;go_wp2;exact sQ rfl
   ·have e4:=H.i 4;clear H;go_wp2;exact sQ rfl
   ·have e13:=H.r 1 13;have e14:=H.r 2 14;clear H;go_wp2;exact sQ rfl
   ·have e15:=H.r 3 15;clear H;go_wp2;exact sQ rfl
   ·have e16:=H.r 4 16;clear H;have hs1:=zh (HS.out.call hbx);obtain⟨y0,y1,y2⟩:=kE1 (HX.out _ hs1.out.below) rfl rfl rfl;go_wp2;exact sQ rfl
   ·have e12:=H.r 0 12;have e17:=H.r 5 17;clear H
    go_wp2_with fail
    refine(HPL.out _).mono ?_
    rintro e w8 ⟨rfl,hb8⟩;go_wp2;exact StepQ.mk _ hb8 rfl
   intro xx w2 hb9 hv
   simp only[List.take,List.drop,a0h,Act.put]
   simp only[vQ hv 0,vQ hv 1,vQ hv 2,vQ hv 3,vQ hv 4,vQ hv 5,vQ hv 6]
   clear hv
   have HS2:=zh (HS.out.call hb9)
   clear hb9 HS
   obtain⟨x1,x2,x3⟩:=HS2.out.k0 0 rfl rfl rfl rfl
   obtain⟨x4,x5,x6⟩:=HS2.out.f0 0 rfl
   have x7:=cN HS2 0 1
   have x8:=cN HS2 1 0
   go_wp2
   have HS3:Hid (St w [⟨w.heap.size+1,#[.bool (negB (tq (k+1))),.string (bs (numB (tq (k+1)))),.string (bs (a0a (tq (k+1))))],39⟩,_] _):=zh (St.set (St.set (St.set (HS2.out) 0 rfl 0 _) 0 rfl 1 _) 0 rfl 2 _)
   go_roundw
   case rel=>exact⟨k+1,by omega,by go_num,HS3.out⟩
   case measure=>simp[intOf];omega
  have hke:k=P.length:=by omega
  rw[hke]at HS ⊢
  have e2:decide (((P.length:Nat):Int)<(P.length:Int))=false:=decide_eq_false (by omega)
  clear hke hk hkn
  obtain⟨x1,x2,x3⟩:=HS.out.k0 0 rfl rfl rfl rfl
  obtain⟨x4,x5,x6⟩:=HS.out.k0 1 rfl rfl rfl rfl
  obtain⟨x7,x8,x9⟩:=HS.out.f0 1 rfl
  have x10:=cN HS 1 0
  have x11:=cN HS 0 1
  go_wp2
  have HS2:Hid (St w [_,⟨w.heap.size,#[.bool (negB (tq P.length)),.string (bs (numB (tq P.length))),.string (bs (a0a (tq P.length)))],39⟩] _):=zh (St.set (St.set (St.set (HS.out) 1 rfl 0 _) 1 rfl 1 _) 1 rfl 2 _)
  refine bodyPost_ret (a0f rfl _ _ _ _ _ _ rfl (HS2.out.blk 1 rfl)) rfl ?_
  exact⟨rfl,HS2.out.below⟩
end Go.Proofs.YtjmiicjialkpiaaGreatDoor
