/-
Part 12 of the base.
-/
import Derived.Test.YtjmiicjialkpiaaGreatDoorRf11
import Derived.Deep.AppendSrc
import Derived.Laws.Slices
import Derived.Maps.RangeWalk
import Derived.Maps.OwnSet
namespace Go.Proofs.YtjmiicjialkpiaaGreatDoor
open Go.RowKit
section
variable {w0 w : World} {R : List Own} {g : Nat} {cs : Array Value} {t : TypeId}
theorem St.k0{a b c:Value}(h:St w0 R w)(k:Nat)(hk:R[k]? =some ⟨g,cs,t⟩)(h0:cs[0]? =some a)(h1:cs[1]? =some b)(h2:cs[2]? =some c):w.cell? ⟨g,0,none⟩=some a/\w.cell? ⟨g,1,none⟩=some b/\w.cell? ⟨g,2,none⟩=some c:=⟨h.cell k hk 0 h0,h.cell k hk 1 h1,h.cell k hk 2 h2⟩
theorem St.k1{a b c:Value}(h:St w0 R w)(k:Nat)(hk:R[k]? =some ⟨g,cs,t⟩)(h0:cs[1]? =some a)(h1:cs[2]? =some b)(h2:cs[3]? =some c):w.cell? ⟨g,1,none⟩=some a/\w.cell? ⟨g,2,none⟩=some b/\w.cell? ⟨g,3,none⟩=some c:=⟨h.cell k hk 1 h0,h.cell k hk 2 h1,h.cell k hk 3 h2⟩
theorem St.k4{a b c:Value}(h:St w0 R w)(k:Nat)(hk:R[k]? =some ⟨g,cs,t⟩)(h0:cs[4]? =some a)(h1:cs[5]? =some b)(h2:cs[6]? =some c):w.cell? ⟨g,4,none⟩=some a/\w.cell? ⟨g,5,none⟩=some b/\w.cell? ⟨g,6,none⟩=some c:=⟨h.cell k hk 4 h0,h.cell k hk 5 h1,h.cell k hk 6 h2⟩
theorem St.kA{a0 a1 a2 a3 a4 a5 a6 a7 a8 a9 aA:Value}(h:St w0 R w)(k:Nat)(hk:R[k]? =some ⟨g,cs,t⟩)(h0:cs[0]? =some a0)(h1:cs[1]? =some a1)(h2:cs[2]? =some a2)(h3:cs[3]? =some a3)(h4:cs[4]? =some a4)(h5:cs[5]? =some a5)(h6:cs[6]? =some a6)(h7:cs[7]? =some a7)(h8:cs[8]? =some a8)(h9:cs[9]? =some a9)(hA:cs[10]? =some aA) :
  w.cell? ⟨g,0,none⟩=some a0/\w.cell? ⟨g,1,none⟩=some a1/\w.cell? ⟨g,2,none⟩=some a2/\w.cell? ⟨g,3,none⟩=some a3/\w.cell? ⟨g,4,none⟩=some a4/\w.cell? ⟨g,5,none⟩=some a5/\w.cell? ⟨g,6,none⟩=some a6/\w.cell? ⟨g,7,none⟩=some a7/\w.cell? ⟨g,8,none⟩=some a8/\w.cell? ⟨g,9,none⟩=some a9/\w.cell? ⟨g,10,none⟩=some aA :=
 ⟨h.cell k hk 0 h0,h.cell k hk 1 h1,h.cell k hk 2 h2,h.cell k hk 3 h3,h.cell k hk 4 h4,h.cell k hk 5 h5,h.cell k hk 6 h6,h.cell k hk 7 h7,h.cell k hk 8 h8,h.cell k hk 9 h9,h.cell k hk 10 hA⟩
theorem St.f0(h:St w0 R w)(k:Nat)(hk:R[k]? =some ⟨g,cs,t⟩):w.frozen? ⟨g,0,none⟩=false/\w.frozen? ⟨g,1,none⟩=false/\w.frozen? ⟨g,2,none⟩=false:=⟨h.frozen k hk 0,h.frozen k hk 1,h.frozen k hk 2⟩
theorem St.f4(h:St w0 R w)(k:Nat)(hk:R[k]? =some ⟨g,cs,t⟩):w.frozen? ⟨g,4,none⟩=false/\w.frozen? ⟨g,5,none⟩=false/\w.frozen? ⟨g,6,none⟩=false:=⟨h.frozen k hk 4,h.frozen k hk 5,h.frozen k hk 6⟩
theorem St.f7(h:St w0 R w)(k:Nat)(hk:R[k]? =some ⟨g,cs,t⟩):w.frozen? ⟨g,7,none⟩=false/\w.frozen? ⟨g,8,none⟩=false/\w.frozen? ⟨g,9,none⟩=false:=⟨h.frozen k hk 7,h.frozen k hk 8,h.frozen k hk 9⟩
end
theorem kE0{w:World}{b o:Nat}{l:List Value}{a0 a1 a2:Value}(h:∀i u,l[i]? =some u->w.cell? ⟨b,o+i,none⟩=some u)(h0:l[0]? =some a0)(h1:l[1]? =some a1)(h2:l[2]? =some a2):w.cell? ⟨b,o,none⟩=some a0/\w.cell? ⟨b,o+1,none⟩=some a1/\w.cell? ⟨b,o+2,none⟩=some a2:=⟨h 0 _ h0,h 1 _ h1,h 2 _ h2⟩
theorem kE1{w:World}{b o:Nat}{l:List Value}{a0 a1 a2:Value}(h:∀i u,l[i]? =some u->w.cell? ⟨b,o+i,none⟩=some u)(h0:l[1]? =some a0)(h1:l[2]? =some a1)(h2:l[3]? =some a2):w.cell? ⟨b,o+1,none⟩=some a0/\w.cell? ⟨b,o+2,none⟩=some a1/\w.cell? ⟨b,o+3,none⟩=some a2:=⟨h 1 _ h0,h 2 _ h1,h 3 _ h2⟩
theorem kE4{w:World}{b o:Nat}{l:List Value}{a0 a1 a2:Value}(h:∀i u,l[i]? =some u->w.cell? ⟨b,o+i,none⟩=some u)(h0:l[4]? =some a0)(h1:l[5]? =some a1)(h2:l[6]? =some a2):w.cell? ⟨b,o+4,none⟩=some a0/\w.cell? ⟨b,o+5,none⟩=some a1/\w.cell? ⟨b,o+6,none⟩=some a2:=⟨h 4 _ h0,h 5 _ h1,h 6 _ h2⟩
def eQ(x:Value):World->Value->Prop:=fun _ v=>v=x
theorem stE{x:Value}(w1 w2:World)(v:Value)(h:eQ x w1 v)(_:Below w1.heap.size w1 w2):eQ x w2 v:=h
theorem sQ{a1:Act}{d:Option Tmp}{w1:World}{p:World->Value->Prop}{v:Value}(h:p w1 v):StepQ a1 d w1 p .normal (a1.put d v) w1:=StepQ.mk v (Below.refl _ _) h
theorem stb_eq:∀V:List Value,stb (V.map eQ)
 | []=>trivial
 | _::V=>⟨pP,stb_eq V⟩
theorem a0e{P:Program}{id:Nat}{Q:Exit->Act->World->Prop}{a:Act}{w:World}{l:List Oper}(n:Nat)(V:List Value)(hm:P.follows .mixedOrders=true)(hB:invB l.toArray n=true)(hD:a6u (l.take n)=true)
  (hS:(l.take n).all (fun o=>match o.dst with | some d=>decide (d<a.tmps.size) | none=>true)=true)
  (hstep:b2f (StepR P l n (fun i=>(V.map eQ).getD i (fun _ _=>True)) a w) (l.take n) 0)
  (hend:∀x w1,Below w.heap.size w w1->(∀i,i<n->((V.map eQ).getD i (fun _ _=>True)) w1 (x i))->wpList P l.toArray Q (l.drop n) (a0h (l.take n) 0 x a) w1):(Code.region id l.toArray true).wp P Q a w :=
 a0d n (V.map eQ) hm hB hD hS (stb_eq V) hstep hend
section
variable {α : Type} {enc : α -> List Value} {k : Nat}
theorem c0q(hk:∀x,(enc x).length=k):∀ (xs:List α) (j:Nat) (u:Value),(flat enc xs)[j]? =some u->∃q i x,j=q*k+i/\xs[q]? =some x/\(enc x)[i]? =some u
 | [],j,u,h=>by simp[flat]at h
 | x::xs,j,u,h=>by
  have h':(enc x++flat enc xs)[j]? =some u:=h
  by_cases hj:j<k
  ·rw[List.getElem?_append_left (by rw[hk];exact hj)]at h'
   exact⟨0,j,x,by omega,rfl,h'⟩
  rw[List.getElem?_append_right (by rw[hk];omega),hk]at h'
  obtain⟨q,i,y,h1,h2,h3⟩:=c0q hk xs (j-k) u h'
  exact⟨q+1,i,y,by rw[Nat.add_mul];omega,by simpa using h2,h3⟩
theorem Slc.none_nil{w:World}{n c:Nat}{xs:List α}(h:Slc enc k w (.slice none n c) xs):xs=[]:=by
 obtain⟨A,c',e,_,_,hr⟩:=h
 injection e with e1 e2 e3
 subst e1
 rcases Nat.eq_zero_or_pos xs.length with h0 | h0
 ·exact List.length_eq_zero_iff.1 h0
 obtain⟨b,o,e,_⟩:=hr h0
 cases e
theorem Slc.flat_cells(hk:∀x,(enc x).length=k){w w':World}{ad:Addr}{n c:Nat}{xs:List α}(h:Slc enc k w (.slice (some ad) n c) xs)(hb:Below w.heap.size w w'):∀j u,(flat enc xs)[j]? =some u->w'.cell? (ad.add j)=some u:=by
 intro j u hj
 obtain⟨q,i,x,rfl,hq,hi⟩:=c0q hk xs j u hj
 have hql:q<xs.length:=(List.getElem?_eq_some_iff.1 hq).1
 obtain⟨b,o,y,e,hbb,hy,hx⟩:=h.at_ hql
 injection e with e
 subst e
 rw[hq]at hy
 injection hy with hy
 subst hy
 have:=hx w' hb i u hi
 rw[Addr.add_lit,<-Nat.add_assoc]
 exact this
theorem Slc.first{w:World}{A:Option Addr}{n c h:Nat}{xs:List α}(hs:Slc enc k w (.slice A n c) xs)(hhn:h<=xs.length):Slc enc k w (.slice A h c) (xs.take h):=by
 obtain⟨A',c',e,h1,h2,hr⟩:=hs
 injection e with e1 e2 e3
 subst e1;subst e2;subst e3
 have hlen:(xs.take h).length=h:=by rw[List.length_take];omega
 refine⟨A,c,by rw[hlen],by rw[hlen];omega,h2,fun hpos=>?_⟩
 rw[hlen]at hpos
 obtain⟨b,o,e,hb,hx⟩:=hr (by omega)
 refine⟨b,o,e,hb,fun j x hj i u hu=>hx j x ?_ i u hu⟩
 have hlt:j<h:=by
  rcases Nat.lt_or_ge j h with h3 | h3
  ·exact h3
  rw[List.getElem?_eq_none (by rw[hlen];omega)]at hj;cases hj
 rwa[List.getElem?_take,if_pos hlt]at hj
theorem Slc.sliced{w:World}{A:Option Addr}{n c l h:Nat}{xs:List α}(hs:Slc enc k w (.slice A n c) xs)(hlh:l<=h)(hhn:h<=xs.length):Slc enc k w (Go.sliced A l h c k) ((xs.take h).drop l):=by
 obtain⟨A',c',e,h1,h2,hr⟩:=hs
 injection e with e1 e2 e3
 subst e1;subst e2;subst e3
 have hlen:((xs.take h).drop l).length=h-l:=by rw[List.length_drop,List.length_take];omega
 unfold Go.sliced
 refine⟨if c=l then A else A.map (·.add (l*k)),c-l,by rw[hlen],by rw[hlen];omega,by omega,fun hpos=>?_⟩
 rw[hlen]at hpos
 obtain⟨b,o,e,hb,hx⟩:=hr (by omega)
 subst e
 rw[if_neg (by omega)]
 refine⟨b,o+l*k,by simp[Addr.add_lit],hb,fun j x hj i u hu=>?_⟩
 have hj':xs[l+j]? =some x:=by
  rw[List.getElem?_drop]at hj
  have hlt:l+j<h:=by
   rcases Nat.lt_or_ge (l+j) h with h3 | h3
   ·exact h3
   rw[List.getElem?_eq_none (by rw[List.length_take];omega)]at hj;cases hj
  rwa[List.getElem?_take,if_pos hlt]at hj
 have:=hx (l+j) x hj' i u hu
 rw[show o+l*k+j*k+i=o+(l+j)*k+i by rw[Nat.add_mul];omega]
 exact this
end
def rawE(v:Value):Option (DataW Value×List MemPlace):=some (.held v,[])
theorem b9y{v:Value}{d:DataW Value}{ps:List MemPlace}{x:Value}(h:rawE v=some (d,ps))(hd:d=.held x):v=x:=by
 unfold rawE at h
 have h1:=(Prod.mk.inj (Option.some.inj h)).1
 rw[hd]at h1
 injection h1
structure KeyW(P:Program)(k:TypeId){κ:Type}(kv:κ->Value)(kl:κ->Lit)(ok:κ->Prop):Prop where
 law:Maps.Keyed P k
 of:∀x,ok x->keyOf P k (kv x)=some (kl x)
 inv:∀key l,keyOf P k key=some l->∃x,key=kv x/\l=kl x/\ok x
 inj:∀x y,kl x=kl y->x=y
 key:∀x,WideAt.IsKeyLit (kl x)
 same:∀x,(kl x).sameKey (kl x)=true
def strV(s:List UInt8):Value:=.string (bs s)
def strL(s:List UInt8):Lit:=.string s
def intV(p:Int):Value:=.int .i64 p
def intL(p:Int):Lit:=.int .i64 p
theorem key_str{P:Program}{k:TypeId}(hk:P.underlying k=some .string):KeyW P k strV strL (fun s=>s.length<=maxLen) where
 law:=Maps.string_keyed hk
 of:=fun x hx=>by
  unfold keyOf strV strL
  rw[hk]
  show mapKey P k (.string (bs x))=_
  unfold mapKey
  rw[hk]
  have:(bs x).size<=maxLen:=hx
  simp only[this,if_true]
  rfl
 inv:=fun key l h=>by
  cases key<;>simp[keyOf,hk,mapKey]at h
  rename_i s
  obtain⟨h1,rfl⟩:=h
  exact⟨s.data.toList,by unfold strV;cases s;rfl,rfl,by rw[a1f];exact h1⟩
 inj:=fun x y h=>by unfold strL at h;injection h
 key:=fun _=>trivial
 same:=fun x=>by simp[strL,Lit.sameKey]
theorem key_int{P:Program}{k:TypeId}(hk:P.underlying k=some (.int .i64)):KeyW P k intV intL (fun p=>(Lit.int .i64 p).wf=true) where
 law:=Maps.int_keyed hk
 of:=fun x hx=>Maps.keyOf_int_mk hk hx
 inv:=fun key l h=>by obtain⟨x,h1,h2,h3⟩:=Maps.keyOf_int_inv hk h;exact⟨x,h1,h2,h3⟩
 inj:=fun x y h=>by unfold intL at h;exact(Lit.int.inj h).2
 key:=fun _=>trivial
 same:=fun x=>by simp[intL,Lit.sameKey]
section
variable {κ : Type} {kv : κ -> Value} {kl : κ -> Lit} {ok : κ -> Prop}
def putK[DecidableEq κ](S:κ->Bool)(p q:κ):Bool:=S q||decide (q=p)
def putV[DecidableEq κ](f:κ->Value)(p:κ)(y:Value)(q:κ):Value:=if q=p then y else f q
structure TiedR(kl:κ->Lit)(D:DataW Value)(S:κ->Bool)(f:κ->Value):Prop where
 has:∀p,Maps.has D (kl p)=S p
 val:∀p z,S p=true->D.atKey (kl p) z=.held (f p)
theorem TiedR.at_{D:DataW Value}{S:κ->Bool}{f:κ->Value}(h:TiedR kl D S f)(p:κ)(z:Value):D.atKey (kl p) (.held z)=.held (if S p then f p else z):=by
 cases hs:S p with
 | true=>rw[h.val p _ hs];rfl
 | false=>rw[Maps.atKey_of_not_has (by rw[h.has,hs])];rfl
theorem TiedR.empty(f:κ->Value):TiedR kl (.map []) (fun _=>false) f:=⟨fun _=>rfl,fun _ _ h=>by cases h⟩
theorem TiedR.put[DecidableEq κ]{D:DataW Value}{S:κ->Bool}{f:κ->Value}(hinj:∀x y,kl x=kl y->x=y)(hkey:∀x,WideAt.IsKeyLit (kl x))(hm:Maps.IsMap D)(h:TiedR kl D S f)(p:κ)(y:Value):TiedR kl (D.put (kl p) (.held y)) (putK S p) (putV f p y):=by
 refine⟨fun q=>?_,fun q z hq=>?_⟩
 all_goals simp only[putK,putV]at *
 ·by_cases hqp:q=p
  ·subst hqp
   rw[Maps.has_put_same hm (hkey q)];simp
  rw[Maps.has_put_other (fun e=>hqp (hinj _ _ e)),h.has]
  simp[hqp]
 by_cases hqp:q=p
 ·subst hqp
  rw[Maps.atKey_put_same hm (hkey q),if_pos rfl]
 rw[Maps.atKey_put_other (fun e=>hqp (hinj _ _ e)),if_neg hqp]
 refine h.val q z ?_
 have h2:(S q||decide (q=p))=true:=hq
 rw[decide_eq_false hqp,Bool.or_false]at h2
 exact h2
def RMap(P:Program)(kt:TypeId)(kl:κ->Lit)(w:World)(b n:Nat)(S:κ->Bool)(f:κ->Value):Prop:=∃D:DataW Value,w.ownsMap P kt rawE b n D/\TiedR kl D S f
def RRng(P:Program)(kt:TypeId)(kl:κ->Lit)(w:World)(b r n:Nat)(S:κ->Bool)(f:κ->Value)(L:κ->Bool)(cnt:Nat):Prop :=
 ∃ (D:DataW Value) (left:Lit->Bool),w.ranges P kt rawE b r n D left cnt/\TiedR kl D S f/\(∀p,left (kl p)=L p)/\∀p,L p=true->S p=true
variable {P : Program} {kt et t : TypeId} {w w' : World} {b r n cnt : Nat} {S L : κ -> Bool} {f : κ -> Value}
theorem RMap.kept(h:RMap P kt kl w b n S f){row:Option Nat}(hg:w.grownBy w' row)(hne:some b≠row):RMap P kt kl w' b n S f:=by
 obtain⟨D,h1,h2⟩:=h
 exact⟨D,h1.kept hg hne,h2⟩
theorem RMap.below(h:RMap P kt kl w b n S f)(hb:Below w.heap.size w w'):RMap P kt kl w' b n S f:=h.kept (b8j hb none) (by simp)
theorem RMap.made(w:World)(f:κ->Value){b:Nat}(hb:w.heap.size=b):RMap P kt kl (w.alloc (.map #[] 0)) b 0 (fun _=>false) f:=by subst hb;exact⟨_,World.ownsMap_made w P kt _,TiedR.empty f⟩
theorem RMap.lt(h:RMap P kt kl w b n S f):b<w.heap.size:=by obtain⟨D,h1,_⟩:=h;exact h1.lt
theorem RMap.congr{S':κ->Bool}{f':κ->Value}(h:RMap P kt kl w b n S f)(hS:∀p,S p=S' p)(hf:∀p,S p=true->f p=f' p):RMap P kt kl w b n S' f':=by
 obtain⟨D,h1,h2⟩:=h
 exact⟨D,h1,⟨fun p=>by rw[h2.has,hS],fun p z hp=>by rw[<- hS]at hp;rw[h2.val p z hp,hf p hp]⟩⟩
theorem RRng.own(h:RRng P kt kl w b r n S f L cnt):RMap P kt kl w b n S f:=by
 obtain⟨D,left,h1,h2,_⟩:=h
 exact⟨D,h1.owns,h2⟩
theorem RRng.kept(h:RRng P kt kl w b r n S f L cnt){row:Option Nat}(hg:w.grownBy w' row)(hb:some b≠row)(hr:some r≠row):RRng P kt kl w' b r n S f L cnt:=by
 obtain⟨D,left,h1,h2⟩:=h
 exact⟨D,left,h1.kept hg hb hr,h2⟩
theorem RRng.lt(h:RRng P kt kl w b r n S f L cnt):r<w.heap.size:=by obtain⟨D,left,h1,_⟩:=h;exact h1.lt
theorem RRng.left_eq(h:RRng P kt kl w b r n S f L cnt):w.rangeLeft b r=cnt:=by obtain⟨D,left,h1,_⟩:=h;exact h1.left_eq
theorem RRng.below(h:RRng P kt kl w b r n S f L cnt)(hb:Below w.heap.size w w'):RRng P kt kl w' b r n S f L cnt:=h.kept (b8j hb none) (by simp) (by simp)
theorem RMap.ne_blk(h:RMap P kt kl w b n S f){g:Nat}{cs:Array Value}{ty:TypeId}(hB:Blk w g cs ty):¬b=g:=by
 obtain⟨D,⟨es,clock,hb,_⟩,_⟩:=h
 rintro rfl
 unfold Blk at hB
 rw[hB]at hb
 cases hb
theorem RRng.ne_blk(h:RRng P kt kl w b r n S f L cnt){g:Nat}{cs:Array Value}{ty:TypeId}(hB:Blk w g cs ty):¬r=g:=by
 obtain⟨D,left,⟨es,clock,since,seen,c0,_,_,_,_,hr,_⟩,_⟩:=h
 rintro rfl
 unfold Blk at hB
 rw[hB]at hr
 cases hr
theorem a4f(w:World)(p:Addr)(v:Value):w.grownBy (w.setCell p v) (some p.block) :=
 ⟨rfl,rfl,rfl,by rw[a9m];exact Nat.le_refl _,fun i _ hi=>Below.heap_setCell w p v i (fun e=>hi (by rw[e]))⟩
theorem RMap.setCell(h:RMap P kt kl w b n S f){g i:Nat}{cs:Array Value}{ty:TypeId}(hB:Blk w g cs ty)(v:Value):RMap P kt kl (w.setCell ⟨g,i,none⟩ v) b n S f :=
 h.kept (a4f w _ v) (fun e=>h.ne_blk hB (by injection e))
theorem RRng.setCell(h:RRng P kt kl w b r n S f L cnt){g i:Nat}{cs:Array Value}{ty:TypeId}(hB:Blk w g cs ty)(v:Value):RRng P kt kl (w.setCell ⟨g,i,none⟩ v) b r n S f L cnt :=
 h.kept (a4f w _ v) (fun e=>h.own.ne_blk hB (by injection e)) (fun e=>h.ne_blk hB (by injection e))
theorem St.turnedR{w0:World}{R:List Own}(h:St w0 R w){row:Nat}(hg:w.grownBy w' (some row))(h0:w0.heap.size<=row)(hne:∀x∈R,¬row=x.g):St w0 R w':=by
 refine⟨h.below.grown hg h.below.size (fun k hk=>by injection hk with hk;omega),fun x hx=>⟨?_,(h.ok x hx).2⟩,h.apart⟩
 have:=(h.ok x hx).1
 unfold Blk at *
 exact(hg.block x.g (h.ok x hx).1.lt (fun e=>hne x hx (by injection e with e;exact e.symm))).trans this
theorem St.turnedM{w0:World}{R:List Own}(h:St w0 R w)(hm:RMap P kt kl w b n S f)(hg:w.grownBy w' (some b))(h0:w0.heap.size<=b):St w0 R w' :=
 h.turnedR hg h0 fun x hx=>hm.ne_blk (h.ok x hx).1
theorem St.turnedN{w0:World}{R:List Own}(h:St w0 R w)(hm:RRng P kt kl w b r n S f L cnt)(hg:w.grownBy w' (some r))(h0:w0.heap.size<=r):St w0 R w' :=
 h.turnedR hg h0 fun x hx=>hm.ne_blk (h.ok x hx).1
end
section
variable {κ : Type} {kv : κ -> Value} {kl : κ -> Lit} {ok : κ -> Prop}
variable {P : Program} {w : World} {ops : Array Oper} {rest : List Oper} {o : Oper} {a : Act} {Q : Exit -> Act -> World -> Prop} {b r n cnt : Nat} {S L : κ -> Bool} {f : κ -> Value}
theorem a0t(hg:o.guard=none)(m x:Operand)(t:TypeId)(hop:o.op=Op.lookup t m x true)
  (k e:TypeId) (K:KeyW P k kv kl ok) (ht:P.underlying t=some (.map k e)) {z:Value} (hz:(zeroValue e).run P w=.ok z w)
  (hown:RMap P k kl w b n S f) (hm:a.eval m=.map (some b)) (p:κ) (hx:a.eval x=kv p) (hp:ok p) (y:Value) (s:Bool) (hy:(if S p then f p else z)=y) (hs:S p=s)
  (hK:wpList P ops Q rest (a.put o.dst (.tuple #[y,.bool s])) w):wpList P ops Q (o::rest) a w:=by
 obtain⟨D,h1,h2⟩:=hown
 rw[<- hy,<-hs]at hK
 refine wpList_lookup_own_ok w hg m x t hop k e K.law ht rawE hz (.held z) [] rfl b n D hm h1 _ _ hx (K.of p hp) (fun v ps hv=>?_)
 have:=b9y hv (h2.at_ p z)
 subst this
 rw[h2.has]
 exact hK
theorem a2b(hg:o.guard=none)(m x:Operand)(t:TypeId)(hop:o.op=Op.lookup t m x false)
  (k e:TypeId) (K:KeyW P k kv kl ok) (ht:P.underlying t=some (.map k e)) {z:Value} (hz:(zeroValue e).run P w=.ok z w)
  (hown:RMap P k kl w b n S f) (hm:a.eval m=.map (some b)) (p:κ) (hx:a.eval x=kv p) (hp:ok p) (y:Value) (hy:(if S p then f p else z)=y)
  (hK:wpList P ops Q rest (a.put o.dst y) w):wpList P ops Q (o::rest) a w:=by
 obtain⟨D,h1,h2⟩:=hown
 rw[<- hy]at hK
 refine wpList_plain hg fun K' hK'=>?_
 obtain⟨v,ps,hrun,hv⟩:=h1.lookup K.law ht hz (show rawE z=some (.held z,[])from rfl) (K.of p hp)
 have:=b9y hv (h2.at_ p z)
 subst this
 unfold Oper.wp
 simp[execOp,hop,hm,hx,hrun,Result.andThen]
 exact hK' _ _ hK
theorem a3k[DecidableEq κ](hg:o.guard=none)(m x v:Operand)(t:TypeId)(hop:o.op=Op.mapUpdate t m x v)
  (k e:TypeId) (K:KeyW P k kv kl ok) (ht:P.underlying t=some (.map k e))
  (hown:RMap P k kl w b n S f) (hn:n<maxLen) (hm:a.eval m=.map (some b)) (p:κ) (hx:a.eval x=kv p) (hp:ok p) (y:Value) (hv:a.eval v=y)
  (hK:∀w',RMap P k kl w' b (n+1) (putK S p) (putV f p y)->w.grownBy w' (some b)->wpList P ops Q rest (a.put o.dst undef) w'):wpList P ops Q (o::rest) a w:=by
 obtain⟨D,h1,h2⟩:=hown
 exact wpList_mapUpdate_own w hg m x v t hop k e K.law ht rawE b n D hm h1 hn _ _ _ hx hv (K.of p hp) _ [] rfl
  (fun w' h3 h4=>hK w' ⟨_,h3,h2.put K.inj K.key h1.isMap p y⟩ h4)
theorem b2c(hg:o.guard=none)(m:Operand)(t:TypeId)(hop:o.op=Op.range t m)(k e:TypeId)(K:KeyW P k kv kl ok)(ht:P.underlying t=some (.map k e))
  (hown:RMap P k kl w b n S f) (hm:a.eval m=.map (some b))
  (hK:∀w' c,RRng P k kl w' b w.heap.size n S f S c->w.grownBy w' none->w'.heap.size=w.heap.size+1->wpList P ops Q rest (a.put o.dst (.pointer (some ⟨w.heap.size,0,none⟩))) w'):wpList P ops Q (o::rest) a w:=by
 obtain⟨D,h1,h2⟩:=hown
 exact wpList_range_own w hg m t hop k e K.law ht rawE b n D hm h1 (fun w' h3 h4 h5=>hK w' _ ⟨D,_,h3,h2,h2.has,fun _ h=>h⟩ h4 h5)
theorem b3p[DecidableEq κ](hg:o.guard=none)(it:Operand)(hop:o.op=Op.next it false)(k:TypeId)(K:KeyW P k kv kl ok)
  (h:RRng P k kl w b r n S f L cnt) (hit:a.eval it=.pointer (some ⟨r,0,none⟩))
  (hDone:(∀p,L p=false)->wpList P ops Q rest (a.put o.dst (.tuple #[.bool false])) w)
  (hMore:∀ (p:κ) (w':World) (cnt':Nat),L p=true->ok p->RRng P k kl w' b r n S f (fun q=>L q && !decide (q=p)) cnt'->cnt'<cnt->w.grownBy w' (some r)->w'.heap.size=w.heap.size ->
   (Instr.entry (.pointer (some ⟨r,0,none⟩))).run P w'=.ok (.tuple #[kv p,f p]) w'->wpList P ops Q rest (a.put o.dst (.tuple #[.bool true,kv p,f p])) w'):wpList P ops Q (o::rest) a w:=by
 obtain⟨D,left,h1,h2,h3,h4⟩:=h
 refine wpList_next_ranges w hg it hop k K.law rawE kv (fun v:Value=>v) (fun key l hkey=>by obtain⟨x,h1,_⟩:=K.inv key l hkey;exact⟨x,h1⟩) (fun v y _=>⟨v,rfl⟩)
  b r n D left cnt hit h1 (fun _ hl=>hDone fun p=>by rw[<- h3];exact hl _) (fun x c l y w' cnt' hkey hlk hv hat hrg hlt hgr hsz hen=>?_)
 obtain⟨x',ex,rfl,hox⟩:=K.inv _ _ hkey
 have hkv:kv x=kv x':=ex
 have hS:S x'=true:=h4 x' (by rw[<- h3];exact hlk)
 have hy:y.1=.held (f x'):=(hat (.held c)).symm.trans (h2.val x' _ hS)
 have hc:c=f x':=by
  obtain⟨y1,y2⟩:=y
  exact b9y hv hy
 subst hc
 rw[hkv]at hen ⊢
 refine hMore x' w' cnt' (by rw[<- h3];exact hlk) hox ⟨D,_,hrg,h2,fun p=>?_,fun p hp=>h4 p ?_⟩ hlt hgr hsz hen
 ·show(left (kl p) && !(kl p).sameKey (kl x'))=_
  rw[h3]
  congr 2
  rw[Bool.eq_iff_iff,decide_eq_true_eq]
  constructor
  ·intro hs
   refine Classical.byContradiction fun hne=>?_
   rw[Maps.sameKey_ne (fun e=>hne (K.inj _ _ e))]at hs
   cases hs
  rintro rfl
  exact K.same p
 rw[Bool.and_eq_true]at hp;exact hp.1
end
end Go.Proofs.YtjmiicjialkpiaaGreatDoor
