/-
Part 24 of the base.
-/
import Derived.Laws.OwnMore
import Derived.Deep.AppendLies
import Derived.Test.YtjmiicjialkpiaaGreatDoorRf23
namespace Go.Proofs.YtjmiicjialkpiaaGreatDoor
open Go.RowKit
structure CAd where
 g:Nat
 v1:Value
 v2:Value
 mc:Nat
 mkb:Nat
 ml:Nat
 nc:Nat
 vb:Value
 vp:Value
 vr:Value
 gsb:List Nat
 gsp:List Nat
 ex:List Own
structure CCo where
 B:Nat->Nat->Bool
 P:Nat->Nat->Bool
 R:List Int
 Sk:List UInt8->Bool
 fk:List UInt8->Value
 nk:Nat
 Sl:Int->Bool
 fl:Int->Value
 nl:Nat
def optI:Option Nat->Int
 | some i=>(i:Nat)
 | none => -1
def CAd.cells(A:CAd):Array Value:=#[A.v1,A.v2,.map (some A.mc),.map (some A.mkb),A.vb,A.vp,.map (some A.ml),A.vr]
def CAd.own(A:CAd)(n:Nat)(C:CCo):List Own:=⟨A.g,A.cells,69⟩::(a1t 4 n A.gsb C.B++(a1t 4 n A.gsp C.P++A.ex))
structure Cst(w0:World)(cl:List Nmd)(l:List Cls)(A:CAd)(C:CCo)(w:World):Prop where
 st:St w0 (A.own cl.length C) w
 lb:A.gsb.length=cl.length
 lp:A.gsp.length=cl.length
 ob:World.ownsRow w w0.heap.size 54 1 A.vb cl.length (flat (slcE cl.length) A.gsb)
 op:World.ownsRow w w0.heap.size 54 1 A.vp cl.length (flat (slcE cl.length) A.gsp)
 or_:World.ownsRow w w0.heap.size 3 1 A.vr cl.length (C.R.map (.int .i64))
 mc:RMap Tryz.prog 9 strL w A.mc A.nc (fun s=>(a0g cl s).isSome) (fun s=>.int .i64 (optI (a0g cl s)))
 mkb:RMap Tryz.prog 9 strL w A.mkb C.nk C.Sk C.fk
 ml:RMap Tryz.prog 3 intL w A.ml C.nl C.Sl C.fl
 ne:A.mc≠A.mkb/\A.mc≠A.ml/\A.mkb≠A.ml
 ge:w0.heap.size<=A.mkb/\w0.heap.size<=A.ml
 h1:NmdL w0 A.v1 cl
 h2:ClsL w0 A.v2 l
 ext:∀x,x∈A.ex->x.t≠3
theorem a1m{w:World}{base k n g:Nat}{e t:TypeId}{v:Value}{xs:List Value}{cs:Array Value}(h:World.ownsRow w base e k v n xs)(hB:Blk w g cs t)(ht:t≠e):v.ownBlock≠some g:=by
 rcases h.2 with ⟨rfl,_⟩ | ⟨g',cap,cur,rfl,_,hg,_⟩
 ·simp[Value.ownBlock]
 intro e1
 have e2:g'=g:=by simpa [Value.ownBlock]using e1
 subst e2
 unfold Blk at hB
 rw[hB]at hg
 have:=Option.some.inj hg
 injection this with _ e3
 exact ht e3
theorem a1v{w:World}{base k n g i:Nat}{e t:TypeId}{v:Value}{xs:List Value}{cs:Array Value}(h:World.ownsRow w base e k v n xs)(hB:Blk w g cs t)(ht:t≠e)(u:Value):World.ownsRow (w.setCell ⟨g,i,none⟩ u) base e k v n xs :=
 h.kept (a4f w ⟨g,i,none⟩ u) (.inr (a1m h hB ht))
variable {w0 w w' : World} {cl : List Nmd} {l : List Cls} {A : CAd} {C : CCo}
theorem Cst.size(h:Cst w0 cl l A C w):w0.heap.size<=w.heap.size:=h.st.below.size
theorem Cst.below(h:Cst w0 cl l A C w)(hb:Below w.heap.size w w'):Cst w0 cl l A C w' :=
 ⟨h.st.call hb,h.lb,h.lp,Grows.below h.ob hb,Grows.below h.op hb,Grows.below h.or_ hb,h.mc.below hb,h.mkb.below hb,h.ml.below hb,h.ne,h.ge,h.h1,h.h2,h.ext⟩
theorem Cst.n1(h:Cst w0 cl l A C w):NmdL w A.v1 cl:=Slc.below h.h1 h.st.below
theorem Cst.n2(h:Cst w0 cl l A C w):ClsL w A.v2 l:=h.h2.below h.st.below
theorem Cst.fld(h:Cst w0 cl l A C w)(j:Nat){v:Value}(hv:A.cells[j]? =some v):w.cell? ⟨A.g,j,none⟩=some v:=h.st.cell 0 rfl j hv
theorem Cst.lt(h:Cst w0 cl l A C w):A.g<w.heap.size:=h.st.lt 0 rfl
theorem CAd.atB{A:CAd}{C:CCo}{n i:Nat}(hi:i<A.gsb.length):(A.own n C)[i+1]? =some ⟨A.gsb.getD i 0,rowE .bool n (C.B i),4⟩:=by
 unfold CAd.own
 rw[List.getElem?_cons_succ,List.getElem?_append_left (by unfold a1t;rw[a1a];exact hi)]
 exact a9p hi
theorem CAd.atP{A:CAd}{C:CCo}{n i:Nat}(hi:i<A.gsp.length):(A.own n C)[A.gsb.length+i+1]? =some ⟨A.gsp.getD i 0,rowE .bool n (C.P i),4⟩:=by
 unfold CAd.own
 have hl:(a1t 4 n A.gsb C.B).length=A.gsb.length:=by unfold a1t;rw[a1a]
 rw[List.getElem?_cons_succ,List.getElem?_append_right (by rw[hl];omega),hl,Nat.add_sub_cancel_left,List.getElem?_append_left (by unfold a1t;rw[a1a];exact hi)]
 exact a9p hi
theorem Cst.blkB(h:Cst w0 cl l A C w){i:Nat}(hi:i<cl.length):Blk w (A.gsb.getD i 0) (rowE .bool cl.length (C.B i)) 4:=h.st.blk _ (CAd.atB (by rw[h.lb];exact hi))
theorem Cst.blkP(h:Cst w0 cl l A C w){i:Nat}(hi:i<cl.length):Blk w (A.gsp.getD i 0) (rowE .bool cl.length (C.P i)) 4:=h.st.blk _ (CAd.atP (by rw[h.lp];exact hi))
theorem Cst.atB(h:Cst w0 cl l A C w){i k:Nat}(hi:i<cl.length)(hk:k<cl.length):w.cell? ⟨A.gsb.getD i 0,k,none⟩=some (.bool (C.B i k)):=(h.blkB hi).cell k _ (a8m hk)
theorem Cst.atP(h:Cst w0 cl l A C w){i k:Nat}(hi:i<cl.length)(hk:k<cl.length):w.cell? ⟨A.gsp.getD i 0,k,none⟩=some (.bool (C.P i k)):=(h.blkP hi).cell k _ (a8m hk)
theorem CAd.atE{A:CAd}{C:CCo}{n i:Nat}:(A.own n C)[A.gsb.length+(A.gsp.length+i)+1]? =A.ex[i]? :=by
 unfold CAd.own
 have hl:(a1t 4 n A.gsb C.B).length=A.gsb.length:=by unfold a1t;rw[a1a]
 have hl2:(a1t 4 n A.gsp C.P).length=A.gsp.length:=by unfold a1t;rw[a1a]
 rw[List.getElem?_cons_succ,List.getElem?_append_right (by rw[hl];omega),hl,Nat.add_sub_cancel_left,List.getElem?_append_right (by rw[hl2];omega),hl2,Nat.add_sub_cancel_left]
theorem b4g{w:World}{base n:Nat}{e:TypeId}{v:Value}{gs:List Nat}(h:World.ownsRow w base e 1 v n (flat (slcE n) gs))(hn:0<n)(hg:gs.length=n) :
  ∃go cap,v=.slice (some ⟨go,0,none⟩) n cap/\base<=go/\go<w.heap.size/\n<=cap/\∀i,i<n->w.cell? ⟨go,i,none⟩=some (.slice (some ⟨gs.getD i 0,0,none⟩) n n):=by
 obtain⟨A,c,hv,hl,_⟩:=(Slc.of_own (b4h n) h hg).slice
 obtain⟨go,cap,rfl,h1,h2⟩:=World.ownsRow.form h hn
 refine⟨go,cap,rfl,h1,h2,?_,fun i hi=>?_⟩
 ·injection hv with _ _ h3
  omega
 rw[World.ownsRow.cellAt h i (by omega)]
 have hgi:gs[i]? =some (gs.getD i 0):=by rw[List.getD_eq_getElem?_getD,List.getElem?_eq_getElem (by omega)];rfl
 have:=a4a (b4h n) gs i _ hgi 0 _ rfl
 rwa[Nat.mul_one,Nat.add_zero]at this
theorem Cst.formB(h:Cst w0 cl l A C w)(hn:0<cl.length):∃go cap,A.vb=.slice (some ⟨go,0,none⟩) cl.length cap/\w0.heap.size<=go/\go<w.heap.size/\cl.length<=cap/\∀i,i<cl.length->w.cell? ⟨go,i,none⟩=some (.slice (some ⟨A.gsb.getD i 0,0,none⟩) cl.length cl.length):=b4g h.ob hn h.lb
theorem Cst.formP(h:Cst w0 cl l A C w)(hn:0<cl.length):∃go cap,A.vp=.slice (some ⟨go,0,none⟩) cl.length cap/\w0.heap.size<=go/\go<w.heap.size/\cl.length<=cap/\∀i,i<cl.length->w.cell? ⟨go,i,none⟩=some (.slice (some ⟨A.gsp.getD i 0,0,none⟩) cl.length cl.length):=b4g h.op hn h.lp
theorem Cst.lenR(h:Cst w0 cl l A C w):C.R.length=cl.length:=by have:=h.or_.1;rw[List.length_map]at this;omega
theorem Cst.formR(h:Cst w0 cl l A C w)(hn:0<cl.length):∃gr cap,A.vr=.slice (some ⟨gr,0,none⟩) cl.length cap/\w0.heap.size<=gr/\gr<w.heap.size/\∀ (i:Nat) (r:Int),C.R[i]? =some r->w.cell? ⟨gr,i,none⟩=some (.int .i64 r):=by
 obtain⟨gr,cap,hv,h1,h2⟩:=World.ownsRow.form h.or_ hn
 have ho:=h.or_
 rw[hv]at ho
 refine⟨gr,cap,hv,h1,h2,fun i r hr=>?_⟩
 rw[World.ownsRow.cellAt ho i (by have:=(List.getElem?_eq_some_iff.1 hr).1;have:=h.lenR;omega),List.getElem?_map,hr]
 rfl
theorem c6m{M:Nat->Nat->Bool}{i k:Nat}{v:Bool}:(fun x=>if x=i then putA (M i) k v else M x)=putM M i k v:=by
 funext x y
 unfold putM putA
 by_cases hx:x=i
 ·subst hx
  rw[if_pos rfl]
  by_cases hy:y=k
  ·rw[if_pos hy,if_pos ⟨rfl,hy⟩]
  rw[if_neg hy,if_neg (fun h=>hy h.2)]
 rw[if_neg hx,if_neg (fun h=>hx h.1)]
theorem c1t{α:Type}{a b:List α}{i n:Nat}{x:α}(hn:a.length=n):(a++b).set (n+i) x=a++b.set i x:=by
 subst hn
 rw[List.set_append_right _ _ (by omega),Nat.add_sub_cancel_left]
theorem Cst.setB(h:Cst w0 cl l A C w){i k:Nat}(hi:i<cl.length)(v:Bool):Cst w0 cl l A {C with B:=putM C.B i k v} (w.setCell ⟨A.gsb.getD i 0,k,none⟩ (.bool v)):=by
 have hB:=h.blkB hi
 have hib:i<A.gsb.length:=by rw[h.lb];exact hi
 refine⟨?_,h.lb,h.lp,a1v h.ob hB (by decide) _,a1v h.op hB (by decide) _,a1v h.or_ hB (by decide) _,h.mc.setCell hB _,h.mkb.setCell hB _,h.ml.setCell hB _,h.ne,h.ge,h.h1,h.h2,h.ext⟩
 have h2:=h.st.setE (i+1) (CAd.atB hib) k v
 have e:(A.own cl.length C).set (i+1) ⟨A.gsb.getD i 0,rowE .bool cl.length (putA (C.B i) k v),4⟩=A.own cl.length {C with B:=putM C.B i k v}:=by
  unfold CAd.own
  rw[List.set_cons_succ,List.set_append_left _ _ (by unfold a1t;rw[a1a];exact hib),b5e,c6m]
 rw[e]at h2
 exact h2
theorem Cst.setP(h:Cst w0 cl l A C w){i k:Nat}(hi:i<cl.length)(v:Bool):Cst w0 cl l A {C with P:=putM C.P i k v} (w.setCell ⟨A.gsp.getD i 0,k,none⟩ (.bool v)):=by
 have hB:=h.blkP hi
 have hib:i<A.gsp.length:=by rw[h.lp];exact hi
 refine⟨?_,h.lb,h.lp,a1v h.ob hB (by decide) _,a1v h.op hB (by decide) _,a1v h.or_ hB (by decide) _,h.mc.setCell hB _,h.mkb.setCell hB _,h.ml.setCell hB _,h.ne,h.ge,h.h1,h.h2,h.ext⟩
 have h2:=h.st.setE (A.gsb.length+i+1) (CAd.atP hib) k v
 have e:(A.own cl.length C).set (A.gsb.length+i+1) ⟨A.gsp.getD i 0,rowE .bool cl.length (putA (C.P i) k v),4⟩=A.own cl.length {C with P:=putM C.P i k v}:=by
  unfold CAd.own
  rw[List.set_cons_succ,c1t (by unfold a1t;rw[a1a]),List.set_append_left _ _ (by unfold a1t;rw[a1a];exact hib),b5e,c6m]
 rw[e]at h2
 exact h2
theorem CAd.types{A:CAd}{n:Nat}{C:CCo}{x:Own}(hx:x∈A.own n C):x.t=69\/x.t=4\/x∈A.ex:=by
 unfold CAd.own a1t b5d at hx
 rcases List.mem_cons.1 hx with rfl | hx
 ·exact .inl rfl
 rcases List.mem_append.1 hx with hx | hx
 ·obtain⟨_,_,rfl⟩:=List.mem_map.1 hx;exact .inr (.inl rfl)
 rcases List.mem_append.1 hx with hx | hx
 ·obtain⟨_,_,rfl⟩:=List.mem_map.1 hx;exact .inr (.inl rfl)
 exact .inr (.inr hx)
theorem d0q{w:World}{base k n g cap:Nat}{e:TypeId}{xs:List Value}(h:World.ownsRow w base e k (.slice (some ⟨g,0,none⟩) n cap) n xs):∃cs,Blk w g cs e:=by
 rcases h.2 with ⟨h1,_⟩ | ⟨g',cap',cur,h1,_,hg,_⟩
 ·cases h1
 have e1:g=g':=by
  injection h1 with h1
  injection h1 with h1
  injection h1
 subst e1
 exact⟨cur,hg⟩
theorem Cst.setR(h:Cst w0 cl l A C w){i gr cap:Nat}(hv:A.vr=.slice (some ⟨gr,0,none⟩) cl.length cap)(r:Int):Cst w0 cl l A {C with R:=C.R.set i r} (w.setCell ⟨gr,i,none⟩ (.int .i64 r)):=by
 have ho:=h.or_
 rw[hv]at ho
 obtain⟨cs,hB⟩:=d0q ho
 have hge:=(World.ownsRow.lt ho gr rfl).1
 refine⟨h.st.turnedR (a4f w ⟨gr,i,none⟩ _) hge (fun x hx e=>?_),h.lb,h.lp,a1v h.ob hB (by decide) _,a1v h.op hB (by decide) _,?_,h.mc.setCell hB _,h.mkb.setCell hB _,h.ml.setCell hB _,h.ne,h.ge,h.h1,h.h2,h.ext⟩
 ·have e':gr=x.g:=e
  have h2:=(h.st.ok x hx).1
  rw[<- e']at h2
  unfold Blk at hB h2
  rw[hB]at h2
  have:=Option.some.inj h2
  injection this with _ e3
  rcases CAd.types hx with h4 | h4 | h4
  ·rw[h4]at e3;exact absurd e3 (by decide)
  ·rw[h4]at e3;exact absurd e3 (by decide)
  exact h.ext x h4 e3.symm
 rw[hv,List.map_set]
 exact(World.ownsRow.stored ho i _).1
theorem RMap.ne_own{P:Program}{kt:TypeId}{κ:Type}{kl:κ->Lit}{S:κ->Bool}{f:κ->Value}{b n base k m:Nat}{e:TypeId}{v:Value}{xs:List Value}(h:RMap P kt kl w b n S f)(ho:World.ownsRow w base e k v m xs):v.ownBlock≠some b:=by
 rcases ho.2 with ⟨rfl,_⟩ | ⟨g',cap,cur,rfl,_,hg,_⟩
 ·simp[Value.ownBlock]
 intro e1
 have e2:g'=b:=by simpa [Value.ownBlock]using e1
 exact h.ne_blk (show Blk w g' cur e from hg) e2.symm
theorem Cst.putClass(h:Cst w0 cl l A C w){n':Nat}{S':List UInt8->Bool}{f':List UInt8->Value}(hm:RMap Tryz.prog 9 strL w' A.mkb n' S' f')(hg:w.grownBy w' (some A.mkb)):Cst w0 cl l A {C with nk:=n',Sk:=S',fk:=f'} w' :=
 ⟨h.st.turnedM h.mkb hg h.ge.1,h.lb,h.lp,h.ob.kept hg (.inr (h.mkb.ne_own h.ob)),h.op.kept hg (.inr (h.mkb.ne_own h.op)),h.or_.kept hg (.inr (h.mkb.ne_own h.or_)),h.mc.kept hg (fun e=>h.ne.1 (Option.some.inj e)),hm,h.ml.kept hg (fun e=>h.ne.2.2 (Option.some.inj e).symm),h.ne,h.ge,h.h1,h.h2,h.ext⟩
theorem Cst.putLim(h:Cst w0 cl l A C w){n':Nat}{S':Int->Bool}{f':Int->Value}(hm:RMap Tryz.prog 3 intL w' A.ml n' S' f')(hg:w.grownBy w' (some A.ml)):Cst w0 cl l A {C with nl:=n',Sl:=S',fl:=f'} w' :=
 ⟨h.st.turnedM h.ml hg h.ge.2,h.lb,h.lp,h.ob.kept hg (.inr (h.ml.ne_own h.ob)),h.op.kept hg (.inr (h.ml.ne_own h.op)),h.or_.kept hg (.inr (h.ml.ne_own h.or_)),h.mc.kept hg (fun e=>h.ne.2.1 (Option.some.inj e)),h.mkb.kept hg (fun e=>h.ne.2.2 (Option.some.inj e)),hm,h.ne,h.ge,h.h1,h.h2,h.ext⟩
theorem Cst.below0(h:Cst w0 cl l A C w):Below w0.heap.size w0 w:=h.st.below
def rawL(u:Value):List Value:=[u]
theorem a9q(u:Value):(rawL u).length=1:=rfl
theorem a6r:∀us:List Value,flat rawL us=us
 | []=>rfl
 | u::us=>by rw[flat,a6r us];rfl
abbrev PartL(w:World)(v:Value)(ps:List Prt):Prop:=Slc Prt.enc 5 w v ps
def NstL{α:Type}(P:World->Value->α->Prop)(w:World)(v:Value)(xs:List α):Prop:=∃us:List Value,us.length=xs.length/\Slc rawL 1 w v us/\∀ (i:Nat) (x:α) (u:Value),xs[i]? =some x->us[i]? =some u->P w u x
section
variable {α : Type} {P : World -> Value -> α -> Prop} {w w' : World} {v : Value} {xs : List α}
theorem NstL.below(hP:∀w w' v x,P w v x->Below w.heap.size w w'->P w' v x)(h:NstL P w v xs)(hb:Below w.heap.size w w'):NstL P w' v xs:=by
 obtain⟨us,h1,h2,h3⟩:=h
 exact⟨us,h1,h2.below hb,fun i x u hx hu=>hP _ _ _ _ (h3 i x u hx hu) hb⟩
theorem NstL.slice(h:NstL P w v xs):∃A c,v=.slice A xs.length c/\xs.length<=c/\c<=9223372036854775807:=by
 obtain⟨us,h1,h2,_⟩:=h
 rw[<- h1]
 exact h2.slice
theorem NstL.nil_(w:World)(A:Option Addr)(c:Nat)(hc:c<=9223372036854775807):NstL P w (.slice A 0 c) []:=⟨[],rfl,Slc.nil_ _ _ _ _ _ hc,fun i x u hx=>by simp at hx⟩
theorem NstL.at_{A:Option Addr}{n c:Nat}(h:NstL P w (.slice A n c) xs){j:Nat}(hj:j<xs.length) :
  ∃b o u x,A=some ⟨b,o,none⟩/\b<w.heap.size/\xs[j]? =some x/\P w u x/\∀w',Below w.heap.size w w'->∀i y,[u][i]? =some y->w'.cell? ⟨b,o+j+i,none⟩=some y:=by
 obtain⟨us,h1,h2,h3⟩:=h
 obtain⟨b,o,u,hA,hb,hu,hx⟩:=h2.at_ (j:=j) (by omega)
 refine⟨b,o,u,_,hA,hb,List.getElem?_eq_getElem hj,h3 j _ u (List.getElem?_eq_getElem hj) hu,fun w' hw i y hy=>?_⟩
 have:=hx w' hw i y hy
 rwa[Nat.mul_one]at this
end
def TierL:World->Value->List (List Prt)->Prop:=NstL PartL
def AgrL:World->Value->List (List (List Prt))->Prop:=NstL TierL
theorem TierL.below{w w':World}{v:Value}{T:List (List Prt)}(h:TierL w v T)(hb:Below w.heap.size w w'):TierL w' v T:=NstL.below (fun _ _ _ _ h hb=>Slc.below h hb) h hb
theorem AgrL.below{w w':World}{v:Value}{A:List (List (List Prt))}(h:AgrL w v A)(hb:Below w.heap.size w w'):AgrL w' v A:=NstL.below (fun _ _ _ _ h hb=>TierL.below h hb) h hb
theorem a3b{w w':World}{base k n:Nat}{e:TypeId}{v:Value}{xs:List Value}{o:Option Nat}(h:World.ownsRow w base e k v n xs)(hg:w.grownBy w' o)(ho:∀g,o=some g->∃cs t,Blk w g cs t/\t≠e):World.ownsRow w' base e k v n xs:=by
 refine h.kept hg ?_
 cases hv:v.ownBlock with
 | none=>exact .inl rfl
 | some g =>
  right
  intro e1
  obtain⟨cs,t,hB,ht⟩:=ho g e1.symm
  exact a1m h hB ht hv
theorem c2s{w:World}{base k n:Nat}{e:TypeId}{v:Value}{xs:List Value}(h:World.ownsRow w base e k v n xs):∀g,v.ownBlock=some g->∃cs t,Blk w g cs t/\t=e:=by
 intro g hg
 rcases h.2 with ⟨rfl,_⟩ | ⟨g',cap,cur,rfl,_,hB,_⟩
 ·cases hg
 have e2:g'=g:=by simpa [Value.ownBlock]using hg
 subst e2
 exact⟨cur,e,hB,rfl⟩
theorem a3x{w:World}{base k n:Nat}{e t:TypeId}{v:Value}{xs:List Value}(h:World.ownsRow w base e k v n xs)(ht:e≠t):∀g,v.ownBlock=some g->∃cs t',Blk w g cs t'/\t'≠t:=by
 intro g hg
 obtain⟨cs,t',hB,rfl⟩:=c2s h g hg
 exact⟨cs,_,hB,ht⟩
theorem c4k{w:World}{base k n:Nat}{e:TypeId}{v:Value}{xs:List Value}(h:World.ownsRow w base e k v n xs):v.oneCell'=true:=by
 rcases h.2 with ⟨rfl,_⟩ | ⟨g',cap,cur,rfl,_⟩<;>rfl
theorem a6m{w:World}{B B' n k:Nat}{e:TypeId}{v:Value}{xs:List Value}(h:World.ownsRow w B e k v n xs)(hb:B'<=B):World.ownsRow w B' e k v n xs:=by
 refine⟨h.1,?_⟩
 rcases h.2 with ⟨rfl,h0⟩ | ⟨g,cap,cur,rfl,hbl,hrest⟩
 ·exact .inl ⟨rfl,h0⟩
 exact .inr ⟨g,cap,cur,rfl,Nat.le_trans hb hbl,hrest⟩
abbrev c5r(w:World)(base:Nat)(u:Value)(ps:List Prt):Prop:=World.ownsRow w base 81 5 u ps.length (flat Prt.enc ps)
def b2b(a b:Value):Prop:=∀g,a.ownBlock=some g->b.ownBlock≠some g
structure TirU(w:World)(base:Nat)(v:Value)(us:List Value)(T:List (List Prt)):Prop where
 len:us.length=T.length
 out:World.ownsRow w base 79 1 v us.length us
 inn:∀ (t:Nat) (u:Value) (ps:List Prt),us[t]? =some u->T[t]? =some ps->c5r w base u ps
 apart:us.Pairwise b2b
def Tir(w:World)(base:Nat)(v:Value)(T:List (List Prt)):Prop:=∃us,TirU w base v us T
section
variable {w w' : World} {base : Nat} {v : Value} {us : List Value} {T : List (List Prt)}
theorem Tir.nil(w:World)(base:Nat):Tir w base (.slice none 0 0) []:=⟨[],rfl,World.ownsRow_nil _ _ _ _,fun t u ps h=>by simp at h,List.Pairwise.nil⟩
theorem TirU.at_(h:TirU w base v us T){t:Nat}(ht:t<T.length):∃u ps,us[t]? =some u/\T[t]? =some ps/\c5r w base u ps:=by
 have h1:t<us.length:=by rw[h.len];exact ht
 exact⟨_,_,List.getElem?_eq_getElem h1,List.getElem?_eq_getElem ht,h.inn t _ _ (List.getElem?_eq_getElem h1) (List.getElem?_eq_getElem ht)⟩
theorem TirU.one(h:TirU w base v us T):∀u∈us,u.oneCell'=true:=by
 intro u hu
 obtain⟨t,ht⟩:=List.mem_iff_getElem?.1 hu
 have h1:=(List.getElem?_eq_some_iff.1 ht).1
 exact c4k (h.inn t u _ ht (List.getElem?_eq_getElem (by rw[<- h.len];exact h1)))
theorem TirU.below(h:TirU w base v us T)(hb:Below w.heap.size w w'):TirU w' base v us T :=
 ⟨h.len,Grows.below h.out hb,fun t u ps h1 h2=>Grows.below (h.inn t u ps h1 h2) hb,h.apart⟩
theorem Tir.below(h:Tir w base v T)(hb:Below w.heap.size w w'):Tir w' base v T:=by
 obtain⟨us,hu⟩:=h
 exact⟨us,hu.below hb⟩
theorem TirU.mono{base':Nat}(h:TirU w base v us T)(hb:base'<=base):TirU w base' v us T:=⟨h.len,a6m h.out hb,fun t u ps h1 h2=>a6m (h.inn t u ps h1 h2) hb,h.apart⟩
theorem Tir.grown{o:Option Nat}(h:Tir w base v T)(hg:w.grownBy w' o)(ho:∀g,o=some g->∃cs t,Blk w g cs t/\t≠79/\t≠81):Tir w' base v T:=by
 obtain⟨us,h⟩:=h
 exact⟨us,h.len,a3b h.out hg (fun g e=>by obtain⟨cs,t,h1,h2,_⟩:=ho g e;exact⟨cs,t,h1,h2⟩),fun t u ps h1 h2=>a3b (h.inn t u ps h1 h2) hg (fun g e=>by obtain⟨cs,t,h1,_,h2⟩:=ho g e;exact⟨cs,t,h1,h2⟩),h.apart⟩
theorem Tir.toL(h:Tir w base v T):TierL w v T:=by
 obtain⟨us,h⟩:=h
 exact⟨us,h.len,Slc.of_own a9q (by rw[a6r];exact h.out) rfl,fun i x u hx hu=>Slc.of_own prt_len (h.inn i u x hu hx) rfl⟩
theorem TirU.put{u v':Value}{ps:List Prt}(h:TirU w base v us T)(hu:c5r w base u ps)(hnew:∀a∈us,b2b a u)(ho:World.ownsRow w' base 79 1 v' (us.length+1) (us++[u]))(hg:w.grownBy w' v.ownBlock):Tir w' base v' (T++[ps]):=by
 refine⟨us++[u],by rw[List.length_append,List.length_append,h.len];rfl,by rw[List.length_append];exact ho,fun t a qs ha hq=>?_,?_⟩
 ·have key:c5r w base a qs->c5r w' base a qs:=fun hp=>a3b hp hg (a3x h.out (by decide))
  rw[List.getElem?_append]at ha hq
  by_cases ht:t<us.length
  ·rw[if_pos ht]at ha
   rw[if_pos (by rw[<- h.len];exact ht)]at hq
   exact key (h.inn t a qs ha hq)
  rw[if_neg ht]at ha
  rw[if_neg (by rw[<- h.len];exact ht),<-h.len]at hq
  cases hd:t-us.length with
  | zero =>
   rw[hd]at ha hq
   obtain rfl:u=a:=by simpa using ha
   obtain rfl:ps=qs:=by simpa using hq
   exact key hu
  | succ m=>rw[hd]at ha;simp at ha
 rw[List.pairwise_append]
 exact⟨h.apart,List.pairwise_singleton _ _,fun a ha b hb=>by obtain rfl:=List.mem_singleton.1 hb;exact hnew a ha⟩
theorem d2y(a:Value):b2b a (.slice none 0 0):=fun g _=>by simp[Value.ownBlock]
theorem TirU.young{base':Nat}{u:Value}{ps:List Prt}(h:TirU w base v us T)(hb:w.heap.size<=base'){w2:World}(hu:c5r w2 base' u ps):∀a∈us,b2b a u:=by
 intro a ha g hg e
 obtain⟨t,ht⟩:=List.mem_iff_getElem?.1 ha
 have h1:=(List.getElem?_eq_some_iff.1 ht).1
 have h2:=World.ownsRow.lt (h.inn t a _ ht (List.getElem?_eq_getElem (by rw[<- h.len];exact h1))) g hg
 have h3:=World.ownsRow.lt hu g e
 omega
theorem TirU.app{t go cap g':Nat}{u u':Value}{ps:List Prt}{p:Prt}{w1:World}(h:TirU w base (.slice (some ⟨go,0,none⟩) us.length cap) us T)(hu:us[t]? =some u)(hT:T[t]? =some ps)(hg:w.grownBy w1 u.ownBlock)(hat:u.ownBlock=some g'\/w.heap.size<=g')(he:u'.ownBlock=some g')
  (hu':World.ownsRow w1 base 81 5 u' (ps.length+1) (flat Prt.enc (ps++[p]))):TirU (w1.setCell ⟨go,t,none⟩ u') base (.slice (some ⟨go,0,none⟩) us.length cap) (us.set t u') (T.set t (ps++[p])):=by
 have hup:=h.inn t u ps hu hT
 have htl:=(List.getElem?_eq_some_iff.1 hu).1
 have ho1:World.ownsRow w1 base 79 1 (.slice (some ⟨go,0,none⟩) us.length cap) us.length us:=a3b h.out hg (a3x hup (by decide))
 obtain⟨ho2,hg2⟩:=World.ownsRow.stored ho1 t u'
 have key:∀ {a:Value} {n:Nat} {xs:List Value},World.ownsRow w1 base 81 5 a n xs->World.ownsRow (w1.setCell ⟨go,t,none⟩ u') base 81 5 a n xs:=fun ha=>a3b ha hg2 (fun g e=>by
  obtain⟨cs,hB⟩:=d0q ho1
  obtain rfl:=Option.some.inj e
  exact⟨cs,_,hB,by decide⟩)
 have hother:∀ (s:Nat) (a:Value),s≠t->us[s]? =some a->∀g,a.ownBlock=some g->u.ownBlock≠some g:=by
  intro s a hs ha g hag hug
  have hsl:=(List.getElem?_eq_some_iff.1 ha).1
  have hA:=List.pairwise_iff_getElem.1 h.apart
  rcases Nat.lt_or_ge s t with hlt | hge
  ·have:=hA s t hsl htl hlt
   rw[(List.getElem?_eq_some_iff.1 ha).2,(List.getElem?_eq_some_iff.1 hu).2]at this
   exact this g hag hug
  have:=hA t s htl hsl (by omega)
  rw[(List.getElem?_eq_some_iff.1 ha).2,(List.getElem?_eq_some_iff.1 hu).2]at this
  exact this g hug hag
 have hkeep:∀ (s:Nat) (a:Value) (qs:List Prt),s≠t->us[s]? =some a->T[s]? =some qs->c5r w1 base a qs:=fun s a qs hs ha hq=>by
  refine(h.inn s a qs ha hq).kept hg ?_
  cases hav:a.ownBlock with
  | none=>exact .inl rfl
  | some g=>right;intro e1;exact hother s a hs ha g hav e1.symm
 refine⟨by rw[List.length_set,List.length_set,h.len],by rw[List.length_set];exact ho2,fun s a qs ha hq=>?_,?_⟩
 ·by_cases hs:s=t
  ·subst hs
   rw[List.getElem?_set_self htl]at ha
   rw[List.getElem?_set_self (by rw[<- h.len];exact htl)]at hq
   obtain rfl:=Option.some.inj ha
   obtain rfl:=Option.some.inj hq
   refine key ?_
   rw[List.length_append];exact hu'
  rw[List.getElem?_set_ne (fun e=>hs e.symm)]at ha hq
  exact key (hkeep s a qs hs ha hq)
 rw[List.pairwise_iff_getElem]
 intro a b ha hb hab g h1 h2
 rw[List.length_set]at ha hb
 have low:∀ (s:Nat) (hs:s<us.length),s≠t->∀g,(us[s]).ownBlock=some g->g≠g':=by
  intro s hs hst g hg1 e
  subst e
  rcases hat with hat | hat
  ·exact hother s _ hst (List.getElem?_eq_getElem hs) g hg1 hat
  have:=(World.ownsRow.lt (h.inn s _ _ (List.getElem?_eq_getElem hs) (List.getElem?_eq_getElem (by rw[<- h.len];exact hs))) g hg1).2
  omega
 rw[List.getElem_set]at h1 h2
 by_cases e1:t=a
 ·rw[if_pos e1,he]at h1
  rw[if_neg (by omega)]at h2
  exact low b hb (by omega) g h2 (Option.some.inj h1).symm
 rw[if_neg e1]at h1
 by_cases e2:t=b
 ·rw[if_pos e2,he]at h2
  exact low a ha (by omega) g h1 (Option.some.inj h2).symm
 rw[if_neg e2]at h2
 exact List.pairwise_iff_getElem.1 h.apart a b ha hb hab g h1 h2
end
theorem Tir.mono{w:World}{base base':Nat}{v:Value}{T:List (List Prt)}(h:Tir w base v T)(hb:base'<=base):Tir w base' v T:=by
 obtain⟨us,hu⟩:=h
 exact⟨us,hu.mono hb⟩
theorem c4m{w w':World}{base k n g:Nat}{e:TypeId}{v:Value}{xs:List Value}(h:World.ownsRow w base e k v n xs)(hg:w.grownBy w' (some g))(hlt:g<base):World.ownsRow w' base e k v n xs:=by
 refine h.kept hg ?_
 cases hv:v.ownBlock with
 | none=>exact .inl rfl
 | some q =>
  right
  intro e1
  have:=(World.ownsRow.lt h q hv).1
  have:=Option.some.inj e1
  omega
theorem Tir.far{w w':World}{base g:Nat}{v:Value}{T:List (List Prt)}(h:Tir w base v T)(hg:w.grownBy w' (some g))(hlt:g<base):Tir w' base v T:=by
 obtain⟨us,h⟩:=h
 exact⟨us,h.len,c4m h.out hg hlt,fun t u ps h1 h2=>c4m (h.inn t u ps h1 h2) hg hlt,h.apart⟩
def Agr(w:World)(base:Nat)(v:Value)(A:List (List (List Prt))):Prop:=∃us:List Value,us.length=A.length/\World.ownsRow w base 78 1 v us.length us/\∀ (k:Nat) (u:Value) (T:List (List Prt)),us[k]? =some u->A[k]? =some T->Tir w base u T
section
variable {w w' : World} {base : Nat} {v : Value} {A : List (List (List Prt))}
theorem Agr.nil(w:World)(base:Nat):Agr w base (.slice none 0 0) []:=⟨[],rfl,World.ownsRow_nil _ _ _ _,fun k u T h=>by simp at h⟩
theorem Agr.below(h:Agr w base v A)(hb:Below w.heap.size w w'):Agr w' base v A:=by
 obtain⟨us,h1,h2,h3⟩:=h
 exact⟨us,h1,Grows.below h2 hb,fun k u T hu hT=>(h3 k u T hu hT).below hb⟩
theorem Agr.toL(h:Agr w base v A):AgrL w v A:=by
 obtain⟨us,h1,h2,h3⟩:=h
 exact⟨us,h1,Slc.of_own a9q (by rw[a6r];exact h2) rfl,fun i x u hx hu=>(h3 i u x hu hx).toL⟩
theorem Agr.put{us:List Value}{u v':Value}{T:List (List Prt)}(h1:us.length=A.length)(h2:World.ownsRow w base 78 1 v us.length us)(h3:∀ (k:Nat) (u:Value) (T:List (List Prt)),us[k]? =some u->A[k]? =some T->Tir w base u T)
  (hu:Tir w base u T) (ho:World.ownsRow w' base 78 1 v' (us.length+1) (us++[u])) (hg:w.grownBy w' v.ownBlock):Agr w' base v' (A++[T]):=by
 have hk:∀g,v.ownBlock=some g->∃cs t,Blk w g cs t/\t≠79/\t≠81:=fun g e=>by
  obtain⟨cs,t,hB,rfl⟩:=c2s h2 g e
  exact⟨cs,_,hB,by decide,by decide⟩
 refine⟨us++[u],by rw[List.length_append,List.length_append,h1];rfl,by rw[List.length_append];exact ho,fun k a S ha hS=>?_⟩
 rw[List.getElem?_append]at ha hS
 by_cases ht:k<us.length
 ·rw[if_pos ht]at ha
  rw[if_pos (by rw[<- h1];exact ht)]at hS
  exact(h3 k a S ha hS).grown hg hk
 rw[if_neg ht]at ha
 rw[if_neg (by rw[<- h1];exact ht),<-h1]at hS
 cases hd:k-us.length with
 | zero =>
  rw[hd]at ha hS
  obtain rfl:u=a:=by simpa using ha
  obtain rfl:T=S:=by simpa using hS
  exact hu.grown hg hk
 | succ m=>rw[hd]at ha;simp at ha
theorem Agr.far{g i:Nat}(h:Agr w base v A)(hlt:g<base)(y:Value):Agr (w.setCell ⟨g,i,none⟩ y) base v A:=by
 obtain⟨us,h1,h2,h3⟩:=h
 exact⟨us,h1,c4m h2 (a4f w ⟨g,i,none⟩ y) hlt,fun k u T hu hT=>(h3 k u T hu hT).far (a4f w ⟨g,i,none⟩ y) hlt⟩
end
theorem d1w:(Tryz.prog.info? 81).map (fun i=>(i.zero,i.size,i.bytes))=some (some (.agg #[.int .i64 0,.bool false,.bool false,.string (bs []),.string (bs [])]),5,56):=by kernel_rfl
theorem d0k:∃i,Tryz.prog.info? 81=some i/\i.zero=some (.agg #[.int .i64 0,.bool false,.bool false,.string (bs []),.string (bs [])])/\i.size=5/\i.bytes=56:=by
 obtain⟨i,hi,hzz⟩:=Option.map_eq_some_iff.1 d1w
 simp only[Prod.mk.injEq]at hzz
 exact⟨i,hi,hzz⟩
theorem d1v:(Tryz.prog.info? 79).map (fun i=>(i.zero,i.size,i.bytes))=some (some (.slice none 0 0),1,24):=by kernel_rfl
theorem d0j:∃i,Tryz.prog.info? 79=some i/\i.zero=some (.slice none 0 0)/\i.size=1/\i.bytes=24:=by
 obtain⟨i,hi,hzz⟩:=Option.map_eq_some_iff.1 d1v
 simp only[Prod.mk.injEq]at hzz
 exact⟨i,hi,hzz⟩
theorem c7h:(Tryz.prog.info? 78).map (fun i=>(i.zero,i.size,i.bytes))=some (some (.agg #[.slice none 0 0]),1,24):=by kernel_rfl
theorem agr_info:∃i,Tryz.prog.info? 78=some i/\i.zero=some (.agg #[.slice none 0 0])/\i.size=1/\i.bytes=24:=by
 obtain⟨i,hi,hzz⟩:=Option.map_eq_some_iff.1 c7h
 simp only[Prod.mk.injEq]at hzz
 exact⟨i,hi,hzz⟩
theorem prt_one(p:Prt):∀u∈p.enc,u.oneCell'=true:=by
 intro u hu
 simp only[Prt.enc,List.mem_cons,List.not_mem_nil,or_false]at hu
 rcases hu with rfl | rfl | rfl | rfl | rfl<;>rfl
theorem c1c{w:World}{g:Nat}{cs:Array Value}{t:TypeId}{news:List Value}(h:Blk w g cs t)(hc:cs.toList=news):∀j u,news[j]? =some u->w.cell? ((⟨g,0,none⟩:Addr).add j)=some u:=by
 intro j u hu
 rw[Addr.add_lit,Nat.zero_add]
 exact h.cell j u (by rw[<- Array.getElem?_toList,hc];exact hu)
def agrU(n:Nat)(r cn:Nat->Nat->Bool)(lev:Nat->Nat)(part:Nat->Prt)(k:Nat):List (List (List Prt)):=((List.range k).filter (a7d n r cn)).map (b0c n lev cn part)
def tirU(n:Nat)(cn:Nat->Nat->Bool)(lev:Nat->Nat)(part:Nat->Prt)(k t:Nat):List (List Prt):=((List.range t).map (a4r n lev cn part k)).filter fun t=>!t.isEmpty
theorem c3v{n:Nat}{r cn:Nat->Nat->Bool}{lev:Nat->Nat}{part:Nat->Prt}{k:Nat}(h:a7d n r cn k=false):agrU n r cn lev part (k+1)=agrU n r cn lev part k:=by
 unfold agrU
 rw[a0v,if_neg (by rw[h];decide),List.append_nil]
theorem agrU_add{n:Nat}{r cn:Nat->Nat->Bool}{lev:Nat->Nat}{part:Nat->Prt}{k:Nat}(h:a7d n r cn k=true):agrU n r cn lev part (k+1)=agrU n r cn lev part k++[tirU n cn lev part k n]:=by
 unfold agrU
 rw[a0v,if_pos h,List.map_append]
 rfl
theorem agrU_len(n:Nat)(r cn:Nat->Nat->Bool)(lev:Nat->Nat)(part:Nat->Prt)(k:Nat):(agrU n r cn lev part k).length<=k:=by
 unfold agrU
 rw[List.length_map]
 exact Nat.le_trans (List.length_filter_le _ _) (by rw[List.length_range];exact Nat.le_refl _)
theorem c9g{w:World}{base g i:Nat}{v u:Value}{cs:Array Value}{T:List (List Prt)}(h:Tir w base v T)(hB:Blk w g cs 78):Tir (w.setCell ⟨g,i,none⟩ u) base v T :=
 h.grown (a4f w ⟨g,i,none⟩ u) (fun g' e=>by obtain rfl:=Option.some.inj e;exact⟨cs,_,hB,by decide,by decide⟩)
structure Fit(cl:List Nmd)(l:List Cls):Prop where
 ncl:cl.length<=1000
 nl:l.length<=1000
 nmd:∀x∈cl,x.id.length<=9223372036854775807/\x.am.a.length<=17179869184/\x.am.b.length<=17179869184
 cls:∀x∈l,x.name.length<=9223372036854775807/\x.other.length<=9223372036854775807/\x.list.length<=1000/\(∀s∈x.list,s.length<=9223372036854775807)/\x.am.a.length<=17179869184/\x.am.b.length<=17179869184
def zE(r:Int):List Value:=[.int .i64 r]
theorem zE_len(r:Int):(zE r).length=1:=rfl
theorem d2c:∀R:List Int,flat zE R=R.map (.int .i64)
 | []=>rfl
 | r::R=>by rw[flat,d2c R];rfl
abbrev IntsL(w:World)(v:Value)(R:List Int):Prop:=Slc zE 1 w v R
theorem c9u{P:Program}(ats:Array TypeId)(ty:TypeId)(a b:Int)(W:World):(Builtin.max_ ats ty #[.int .i64 a,.int .i64 b]).run P W=.ok (.int .i64 (max a b)) W:=by
 have h:(if b>a then b else a)=max a b:=by split<;>omega
 unfold Builtin.max_
 simp[Builtin.max2,h]
theorem prg_info:(Tryz.prog.info? 32).map (·.size)=some 2:=by kernel_rfl
theorem prg_load{w:World}{g:Nat}{a b:Value}(h:Blk w g #[a,b] 32):(loadVar 32 ⟨g,0,none⟩).run Tryz.prog w=.ok (.agg #[a,b]) w :=
 run_loadVar_row w g _ _ _ _ _ h Tryz.underlying32 rfl prg_info
theorem a7q{fn:Func}{p u v:Tmp}(h:fn.results=#[.cell p 32,.tmp u,.tmp v])(tmps:Array Value)(w:World)(g:Nat){a b:Value}
  (hp:tmps.getD p undef=.pointer (some ⟨g,0,none⟩)) (hg:Blk w g #[a,b] 32):(results fn tmps).run Tryz.prog w=.ok (.tuple #[.agg #[a,b],tmps.getD u undef,tmps.getD v undef]) w:=by
 have hp':tmps[p]?.getD undef=.pointer (some ⟨g,0,none⟩):=by simpa using hp
 simp[results,h,hp',asAddr,prg_load hg]
def CmpR(cl:List Nmd)(l:List Cls)(w:World)(e:Ending)(w':World):Prop:=∃ (vr va:Value) (R:List Int) (A:List (List (List Prt))) (i:Nat) (er:Int),e=.returned (.tuple #[.agg #[vr,va],.int .i64 (i:Nat),.int .i64 er])/\IntsL w' vr R/\AgrL w' va A/\Comp cl l R A i er/\Below w.heap.size w w'
theorem c0m(w:World):IntsL w (.slice none 0 0) []:=Slc.nil_ _ _ _ _ _ (by decide)
theorem c1e(w:World):AgrL w (.slice none 0 0) []:=NstL.nil_ _ _ _ (by decide)
theorem Fit.uses{cl:List Nmd}{l:List Cls}(h:Fit cl l){x:Cls}(hx:x∈l):(a5c x).length<=1000/\∀s∈a5c x,s.length<=9223372036854775807:=by
 obtain⟨a,b,c,d,_⟩:=h.cls x hx
 unfold a5c
 split
 ·exact⟨c,d⟩
 split
 ·exact⟨(by show 2<=1000;decide),fun s hs=>by rcases List.mem_cons.1 hs with rfl | hs;exact a;rw[List.mem_singleton.1 hs];exact b⟩
 exact⟨(by show 1<=1000;decide),fun s hs=>by rw[List.mem_singleton.1 hs];exact a⟩
theorem pass_ok1{cl:List Nmd}{l:List Cls}(h:Pass cl l 1):Ok1 cl l:=pass1_iff.1 fun i c hc=>((h i (List.getElem?_eq_some_iff.1 hc).1 c hc).1 rfl).symm
end Go.Proofs.YtjmiicjialkpiaaGreatDoor
