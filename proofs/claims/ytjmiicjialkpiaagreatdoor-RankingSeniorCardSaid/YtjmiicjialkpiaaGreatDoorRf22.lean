/-
Part 22 of the base.
-/
import Derived.Test.YtjmiicjialkpiaaGreatDoorRf20
namespace Go.Proofs.YtjmiicjialkpiaaGreatDoor
open Go.RowKit
def lvE(f:Nat->Nat)(x:Nat):Int:=(f x:Nat)
theorem c0e{w:World}{b o:Nat}{u:Value}(h:∀w',Below w.heap.size w w'->w'.cell? ⟨b,o,none⟩=some u):∀w',Below w.heap.size w w'->∀ (j:Nat) (v:Value),[u][j]? =some v->w'.cell? ⟨b,o+j,none⟩=some v:=by
 intro w' hb j v hv
 have hj:j=0:=by have:=(List.getElem?_eq_some_iff.1 hv).1;simpa using this
 subst hj
 obtain rfl:u=v:=by simpa using hv
 exact h w' hb
def sumC(c:Nat->Int):Nat->Nat
 | 0=>0
 | n+1=>sumC c n+(c n+1).toNat
theorem c5y{c:Nat->Int}{i:Nat}{v:Int}:∀ {n:Nat},n<=i->sumC (putA c i v) n=sumC c n
 | 0,_=>rfl
 | n+1,h=>by rw[sumC,sumC,c5y (by omega),a5t (show n≠i by omega)]
theorem c5x{c:Nat->Int}{i:Nat}{v:Int}(h1 : -1<=v)(h2:v<c i):∀ {n:Nat},i<n->sumC (putA c i v) n<sumC c n
 | 0,h=>absurd h (Nat.not_lt_zero _)
 | n+1,h=>by
  rw[sumC,sumC]
  by_cases hin:i<n
  ·have:=c5x h1 h2 hin
   rw[a5t (show n≠i by omega)]
   omega
  obtain rfl:i=n:=by omega
  rw[c5y (Nat.le_refl _),b5n]
  omega
structure Low(r:Nat->Nat->Prop)(n a b:Nat)(c0 c:Nat->Int)(more:Bool):Prop where
 cmp:Cmp r n c
 no:more=false->c=c0/\∀i j,(i<a\/(i=a/\j<b))->(r i j\/r j i)->c i<=c j
 yes:more=true->sumC c n<sumC c0 n
theorem Low.start{r:Nat->Nat->Prop}{n:Nat}{c:Nat->Int}(h:Cmp r n c):Low r n 0 0 c c false:=⟨h,fun _=>⟨rfl,fun i j h=>by omega⟩,fun h=>by cases h⟩
theorem Low.old{r:Nat->Nat->Prop}{n a b:Nat}{c0 c:Nat->Int}{more:Bool}(h:Low r n a b c0 c more)(ho:(r a b\/r b a)->c a<=c b):Low r n a (b+1) c0 c more:=by
 refine⟨h.cmp,fun hm=>⟨(h.no hm).1,fun i j hij hr=>?_⟩,h.yes⟩
 by_cases he:i=a/\j=b
 ·obtain⟨rfl,rfl⟩:=he;exact ho hr
 exact(h.no hm).2 i j (by omega) hr
theorem Low.new{r:Nat->Nat->Prop}{n a b:Nat}{c0 c:Nat->Int}{more:Bool}(h:Low r n a b c0 c more)(ha:a<n)(hb:b<n)(hr:r a b\/r b a)(hlt:c b<c a):Low r n a (b+1) c0 (putA c a (c b)) true:=by
 have hle : -1<=c b:=by
  have:=h.cmp b hb
  by_cases hp:∃j,r b j\/r j b
  ·obtain⟨m,hm,_⟩:=this.2 hp;omega
  have:=this.1 hp;omega
 refine⟨h.cmp.lower hb hr hlt,fun hm=>(by cases hm),fun _=>?_⟩
 have h1:=c5x (n:=n) hle hlt ha
 cases more with
 | true=>exact Nat.lt_trans h1 (h.yes rfl)
 | false=>rw[<- (h.no rfl).1];exact h1
theorem Low.row{r:Nat->Nat->Prop}{n a:Nat}{c0 c:Nat->Int}{more:Bool}(hb:∀i j,r i j->i<n/\j<n)(h:Low r n a n c0 c more):Low r n (a+1) 0 c0 c more:=by
 refine⟨h.cmp,fun hm=>⟨(h.no hm).1,fun i j hij hr=>?_⟩,h.yes⟩
 have hj:j<n:=by
  rcases hr with hr | hr
  ·exact(hb _ _ hr).2
  exact(hb _ _ hr).1
 exact(h.no hm).2 i j (by omega) hr
theorem info_cls:(Tryz.prog.info? 51).map (fun i=>(i.zero,i.size,i.bytes))=some (some (.agg #[.int .i64 0,.string (bs []),.string (bs []),.slice none 0 0,.bool false,.string (bs []),.string (bs []),.int .i64 0]),8,112):=by kernel_rfl
theorem c7m:∃i,Tryz.prog.info? 51=some i/\i.zero=some (.agg #[.int .i64 0,.string (bs []),.string (bs []),.slice none 0 0,.bool false,.string (bs []),.string (bs []),.int .i64 0])/\i.size=8/\i.bytes=112:=by
 obtain⟨i,hi,hzz⟩:=Option.map_eq_some_iff.1 info_cls
 simp only[Prod.mk.injEq]at hzz
 exact⟨i,hi,hzz⟩
end Go.Proofs.YtjmiicjialkpiaaGreatDoor
