/-
Part 14 of the base.
-/
import Derived.Below
import Derived.Test.YtjmiicjialkpiaaGreatDoorRf11
namespace Go.Proofs.YtjmiicjialkpiaaGreatDoor
inductive Way{α:Type}(r:α->α->Prop):α->α->Prop
 | one {a b:α}:r a b->Way r a b
 | more {a b c:α}:Way r a b->r b c->Way r a c
theorem Way.trans{α:Type}{r:α->α->Prop}{a b c:α}(h:Way r a b)(h2:Way r b c):Way r a c:=by
 induction h2 with
 | one h3=>exact .more h h3
 | more _ h3 ih=>exact .more ih h3
theorem Way.mono{α:Type}{r s:α->α->Prop}(hs:∀a b,r a b->s a b){a b:α}(h:Way r a b):Way s a b:=by
 induction h with
 | one h3=>exact .one (hs _ _ h3)
 | more _ h3 ih=>exact .more ih (hs _ _ h3)
theorem Way.closed{α:Type}{r:α->α->Prop}{S:α->Prop}{a b:α}(h:Way r a b)(h1:∀x,r a x->S x)(h2:∀x y,S x->r x y->S y):S b:=by
 induction h with
 | one h3=>exact h1 _ h3
 | more _ h3 ih=>exact h2 _ _ ih h3
theorem Way.head{α:Type}{r:α->α->Prop}{a b c:α}(h:r a b)(h2:Way r b c):Way r a c:=(Way.one h).trans h2
theorem way_add{r:Nat->Nat->Prop}{a b i k:Nat}:Way (fun x y=>r x y\/(x=a/\y=b)) i k↔Way r i k\/((i=a\/Way r i a)/\(k=b\/Way r b k)):=by
 constructor
 ·intro h
  induction h with
  | one h3 =>
   rcases h3 with h3 | ⟨h3,h4⟩
   ·exact .inl (.one h3)
   exact .inr ⟨.inl h3,.inl h4⟩
  | more _ h3 ih =>
   rcases ih with ih | ⟨ih1,ih2⟩<;>rcases h3 with h3 | ⟨h3,h4⟩
   ·exact .inl (.more ih h3)
   ·subst h3;exact .inr ⟨.inr ih,.inl h4⟩
   ·refine .inr ⟨ih1,.inr ?_⟩
    rcases ih2 with rfl | ih2
    ·exact .one h3
    exact .more ih2 h3
   exact .inr ⟨ih1,.inl h4⟩
 intro h
 have hm:∀ {x y},Way r x y->Way (fun x y=>r x y\/(x=a/\y=b)) x y:=fun h=>h.mono fun _ _ h=>.inl h
 have hs:Way (fun x y=>r x y\/(x=a/\y=b)) a b:=.one (.inr ⟨rfl,rfl⟩)
 rcases h with h | ⟨h1,h2⟩
 ·exact hm h
 have h3:Way (fun x y=>r x y\/(x=a/\y=b)) i b:=by
  rcases h1 with rfl | h1
  ·exact hs
  exact(hm h1).trans hs
 rcases h2 with rfl | h2
 ·exact h3
 exact h3.trans (hm h2)
theorem c8y{r:Nat->Nat->Prop}{a b i:Nat}(h:Way (fun x y=>r x y\/(x=a/\y=b)) i i):Way r i i\/a=b\/Way r b a:=by
 rcases way_add.1 h with h | ⟨h1,h2⟩
 ·exact .inl h
 rcases h1 with rfl | h1
 ·rcases h2 with h2 | h2
  ·exact .inr (.inl h2)
  exact .inr (.inr h2)
 rcases h2 with rfl | h2
 ·exact .inr (.inr h1)
 exact .inr (.inr (h2.trans h1))
theorem a5z:∀ (n:Nat) (l:List Nat),l.Nodup->(∀x∈l,x<n)->l.length<=n
 | 0,l,_,h=>by
  cases l with
  | nil=>exact Nat.le_refl _
  | cons x t=>exact absurd (h x (List.mem_cons_self ..)) (by omega)
 | n+1,l,hn,h=>by
  by_cases hm:n∈l
  ·have h1:=a5z n (l.erase n) (hn.erase n) (fun x hx=>by
    have h2:=(hn.mem_erase_iff).1 hx
    have h3:=h x h2.2
    have h4:=h2.1
    omega)
   have h5:=List.length_erase_of_mem hm
   have h6:0<l.length:=List.length_pos_of_mem hm
   omega
  have h1:=a5z n l hn (fun x hx=>by
   have h3:=h x hx
   have h4:x≠n:=fun e=>hm (e▸hx)
   omega)
  omega
inductive Chain(r:Nat->Nat->Prop):Nat->Nat->Prop
 | zero (j:Nat):Chain r 0 j
 | succ {m i j:Nat}:Chain r m i->r i j->Chain r (m+1) j
theorem Chain.nodes{r:Nat->Nat->Prop}(hr:∀i,¬Way r i i){n:Nat}(hb:∀i j,r i j->i<n/\j<n){m j:Nat}(h:Chain r m j)(hj:j<n) :
  ∃l:List Nat,l.length=m+1/\l.Nodup/\(∀x∈l,x<n)/\∀x∈l,x=j\/Way r x j:=by
 induction h with
 | zero j=>exact⟨[j],rfl,by simp,by simpa using hj,by simp⟩
 | succ _ h3 ih =>
  rename_i m i j _
  obtain⟨l,h1,h2,h4,h5⟩:=ih (hb _ _ h3).1
  have hw:∀x∈l,Way r x j:=fun x hx=>by
   rcases h5 x hx with rfl | h6
   ·exact .one h3
   exact .more h6 h3
  refine⟨j::l,by rw[List.length_cons,h1],List.nodup_cons.2 ⟨fun hm=>hr j (hw j hm),h2⟩,?_,?_⟩
  ·intro x hx
   rcases List.mem_cons.1 hx with rfl | hx
   ·exact hj
   exact h4 x hx
  intro x hx
  rcases List.mem_cons.1 hx with rfl | hx
  ·exact .inl rfl
  exact .inr (hw x hx)
theorem Chain.short{r:Nat->Nat->Prop}(hr:∀i,¬Way r i i){n:Nat}(hb:∀i j,r i j->i<n/\j<n){m j:Nat}(h:Chain r m j)(hj:j<n):m<n:=by
 obtain⟨l,h1,h2,h3,_⟩:=h.nodes hr hb hj
 have:=a5z n l h2 h3
 omega
def Lv(r:Nat->Nat->Prop)(n:Nat)(lev:Nat->Nat):Prop:=(∀i j,r i j->lev i<lev j)/\∀j,j<n->lev j=0\/∃i,r i j/\lev j=lev i+1
theorem Lv.le{r:Nat->Nat->Prop}{n:Nat}{f g:Nat->Nat}(hb:∀i j,r i j->i<n/\j<n)(hf:Lv r n f)(hg:Lv r n g):∀ (k j:Nat),j<n->f j=k->f j<=g j:=by
 intro k
 induction k using Nat.strongRecOn with
 | ind k ih =>
  intro j hj hk
  rcases hf.2 j hj with h | ⟨i,h1,h2⟩
  ·omega
  have h3:=ih (f i) (by omega) i (hb _ _ h1).1 rfl
  have h4:=hg.1 i j h1
  omega
theorem Lv.unique{r:Nat->Nat->Prop}{n:Nat}{f g:Nat->Nat}(hb:∀i j,r i j->i<n/\j<n)(hf:Lv r n f)(hg:Lv r n g){j:Nat}(hj:j<n):f j=g j :=
 Nat.le_antisymm (hf.le hb hg _ j hj rfl) (hg.le hb hf _ j hj rfl)
theorem rise_way{r:Nat->Nat->Prop}{f:Nat->Nat}(hf:∀i j,r i j->f i<f j){i j:Nat}(h:Way r i j):f i<f j:=by
 induction h with
 | one h=>exact hf _ _ h
 | more _ h ih=>exact Nat.lt_trans ih (hf _ _ h)
theorem c1x{r:Nat->Nat->Prop}{f:Nat->Nat}(hf:∀i j,r i j->f i<f j)(i:Nat):¬Way r i i:=fun h=>Nat.lt_irrefl _ (rise_way hf h)
def Up(r:Nat->Nat->Prop)(f:Nat->Nat):Prop:=∀j,f j=0\/∃i,r i j/\f j<=f i+1
theorem Up.chain{r:Nat->Nat->Prop}{f:Nat->Nat}(h:Up r f):∀ (m j:Nat),m<=f j->Chain r m j
 | 0,j,_=>.zero j
 | m+1,j,hm=>by
  rcases h j with h0 | ⟨i,h1,h2⟩
  ·omega
  exact .succ (Up.chain h m i (by omega)) h1
theorem c9c{r:Nat->Nat->Prop}{n:Nat}{f:Nat->Nat}(h:Up r f)(hc:∀m j,Chain r m j->j<n->m<=f j)(hb:∀i j,r i j->i<n/\j<n):Lv r n f:=by
 have h1:∀i j,r i j->f i<f j:=fun i j hij=>hc (f i+1) j (.succ (h.chain (f i) i (Nat.le_refl _)) hij) (hb i j hij).2
 refine⟨h1,fun j _=>?_⟩
 rcases h j with h0 | ⟨i,h2,h3⟩
 ·exact .inl h0
 exact .inr ⟨i,h2,by have:=h1 i j h2;omega⟩
inductive Conn(r:Nat->Nat->Prop):Nat->Nat->Prop
 | refl (a:Nat):Conn r a a
 | step {a b c:Nat}:Conn r a b->(r b c\/r c b)->Conn r a c
theorem Conn.trans{r:Nat->Nat->Prop}{a b c:Nat}(h:Conn r a b)(h2:Conn r b c):Conn r a c:=by
 induction h2 with
 | refl=>exact h
 | step _ h3 ih=>exact .step ih h3
theorem Conn.symm{r:Nat->Nat->Prop}{a b:Nat}(h:Conn r a b):Conn r b a:=by
 induction h with
 | refl=>exact .refl _
 | step _ h3 ih=>exact(Conn.step (.refl _) h3.symm).trans ih
theorem Conn.lt{r:Nat->Nat->Prop}{n:Nat}(hb:∀i j,r i j->i<n/\j<n){a b:Nat}(h:Conn r a b)(ha:a<n):b<n:=by
 induction h with
 | refl=>exact ha
 | step _ h3 _ =>
  rcases h3 with h3 | h3
  ·exact(hb _ _ h3).2
  exact(hb _ _ h3).1
theorem Conn.closed{r:Nat->Nat->Prop}{S:Nat->Prop}{a:Nat}(ha:S a)(hs:∀x y,S x->(r x y\/r y x)->S y){b:Nat}(h:Conn r a b):S b:=by
 induction h with
 | refl=>exact ha
 | step _ h3 ih=>exact hs _ _ ih h3
theorem Conn.other{r:Nat->Nat->Prop}{a b:Nat}(h:Conn r a b)(hab:a≠b):∃c,r a c\/r c a:=by
 have h2:=h.symm
 cases h2 with
 | refl=>exact absurd rfl hab
 | step _ h3=>exact⟨_,h3.symm⟩
open Go.RowKit
structure Raw3 where
 n:Bool
 a:List UInt8
 b:List UInt8
deriving DecidableEq
def Raw3.val(t:Raw3):Rat:=decR t.n t.a t.b
def enc3(q:Rat):Raw3:=⟨negB q,numB q,a0a q⟩
def zero3:Raw3:=⟨false,[],[]⟩
theorem b1w(q:Rat):(enc3 q).val=q:=b2z q
def b2w(c:UInt8):Bool:=(decide (97<=c.toNat)&&decide (c.toNat<=122))||(decide (65<=c.toNat)&&decide (c.toNat<=90))
def digitB(c:UInt8):Bool:=decide (48<=c.toNat)&&decide (c.toNat<=57)
def a3y(c:UInt8):Bool:=b2w c||(digitB c||(decide (c.toNat=45)||decide (c.toNat=95)))
def b2r(s:List UInt8):Bool:=decide (1<=s.length)&&(decide (s.length<=32)&&(b2w (s.getD 0 0)&&s.all a3y))
structure Nmd where
 id:List UInt8
 rank:Int
 am:Raw3
def Nmd.enc(c:Nmd):List Value:=[.string (bs c.id),.int .i64 c.rank,.bool c.am.n,.string (bs c.am.a),.string (bs c.am.b)]
structure Cls where
 kind:Int
 name:List UInt8
 other:List UInt8
 list:List (List UInt8)
 am:Raw3
 at_:Int
structure Prt where
 claim:Int
 capped:Bool
 cap:Raw3
deriving DecidableEq
def Prt.enc(p:Prt):List Value:=[.int .i64 p.claim,.bool p.capped,.bool p.cap.n,.string (bs p.cap.a),.string (bs p.cap.b)]
def resv(s:List UInt8):Bool:=s==[99,108,97,115,115]||(s==[98,101,102,111,114,101]||(s==[108,105,109,105,116]||s==[115,117,98,111,114,100,105,110,97,116,101]))
def a7b(s:List UInt8):Bool:=b2r s && !resv s
def a0g(cl:List Nmd)(s:List UInt8):Option Nat:=cl.findIdx? fun c=>c.id==s
def a2g(pre:List Nmd)(c:Nmd):Int :=
 if a7b c.id=false then 11 else if(a0g pre c.id).isSome=true then 12 else if c.rank<0\/7<c.rank then 1 else if sgn c.am.val.num<0 then 7 else 0
def a1n:List Nmd->List Nmd->Int
 | _,[]=>0
 | pre,c::t=>if a2g pre c=0 then a1n (pre++[c]) t else a2g pre c
def a3a(l:List Nmd):Int:=if 24<l.length then 2 else a1n [] l
theorem b8k{l:List Nmd}{i:Nat}{c:Nmd}(h:l[i]? =some c) :
  a1n (l.take i) (l.drop i)=if a2g (l.take i) c=0 then a1n (l.take (i+1)) (l.drop (i+1))else a2g (l.take i) c:=by
 rw[c5f h,a3g h];rfl
theorem d1d{l:List Nmd}{i:Nat}(h:l.length<=i):a1n (l.take i) (l.drop i)=0:=by
 rw[List.drop_of_length_le h];rfl
theorem b5u:∀ (t pre:List Nmd),a1n pre t=0->∀ (i:Nat) (c:Nmd),t[i]? =some c->a2g (pre++t.take i) c=0
 | [],_,_,i,c,hc=>by simp at hc
 | x::t,pre,h,i,c,hc=>by
  rw[a1n]at h
  by_cases hx:a2g pre x=0
  ·rw[if_pos hx]at h
   cases i with
   | zero =>
    obtain rfl:x=c:=by simpa using hc
    simpa using hx
   | succ i =>
    have:=b5u t (pre++[x]) h i c (by simpa using hc)
    simpa using this
  rw[if_neg hx]at h;exact absurd h hx
theorem a4h{cl:List Nmd}{s:List UInt8}{i:Nat}(h:a0g cl s=some i):∃c,cl[i]? =some c/\c.id=s:=by
 unfold a0g at h
 rw[List.findIdx?_eq_some_iff_getElem]at h
 obtain⟨hl,he,_⟩:=h
 exact⟨cl[i],List.getElem?_eq_getElem hl,by simpa using he⟩
theorem a7x{cl:List Nmd}{s:List UInt8}{i:Nat}(h:a0g cl s=some i):i<cl.length:=by
 obtain⟨c,hc,_⟩:=a4h h
 exact(List.getElem?_eq_some_iff.1 hc).1
theorem b8v{cl:List Nmd}{s:List UInt8}(h:a0g cl s=none):∀ (i:Nat) (c:Nmd),cl[i]? =some c->c.id≠s:=by
 intro i c hc
 unfold a0g at h
 rw[List.findIdx?_eq_none_iff]at h
 have:=h c (List.mem_of_getElem? hc)
 simpa using this
theorem a9f{cl:List Nmd}{c:Nmd}{s:List UInt8}:a0g (cl++[c]) s=match a0g cl s with | some i=>some i | none=>if c.id=s then some cl.length else none:=by
 unfold a0g
 rw[List.findIdx?_append]
 cases List.findIdx? (fun c=>c.id==s) cl with
 | some i=>rfl
 | none =>
  by_cases h:c.id=s
  ·rw[if_pos h];simp[List.findIdx?_cons,h]
  rw[if_neg h];simp[List.findIdx?_cons,h]
theorem c0z{cl:List Nmd}(h:a3a cl=0){i:Nat}{c:Nmd}(hc:cl[i]? =some c):a0g cl c.id=some i:=by
 have hn:a1n [] cl=0:=by
  unfold a3a at h
  split at h
  ·cases h
  exact h
 have key:∀ (j k:Nat) (a b:Nmd),j<k->cl[j]? =some a->cl[k]? =some b->a.id≠b.id:=by
  intro j k a b hjk ha hb e
  have h0:=b5u cl [] hn k b hb
  rw[List.nil_append]at h0
  have h1:(a0g (cl.take k) b.id).isSome=true:=by
   cases hcl:a0g (cl.take k) b.id with
   | some _=>rfl
   | none =>
    have:=b8v hcl j a (by rw[List.getElem?_take,if_pos hjk];exact ha)
    exact absurd e this
  unfold a2g at h0
  split at h0
  ·cases h0
  first | cases h0 | (rw[if_pos h1]at h0;cases h0)
 cases hcl:a0g cl c.id with
 | none=>exact absurd rfl (b8v hcl i c hc)
 | some j =>
  obtain⟨d,hd,he⟩:=a4h hcl
  rcases Nat.lt_trichotomy j i with hlt | rfl | hlt
  ·exact absurd he (key j i d c hlt hd hc)
  ·rfl
  exact absurd he.symm (key i j c d hlt hc hd)
def a0q(l:List Cls)(s:List UInt8):Option Nat:=l.findIdx? fun c=>decide (c.kind=1)&&c.name==s
def memb(l:List Cls)(s:List UInt8):List (List UInt8):=match a0q l s with
 | some i=>(match l[i]? with | some c=>c.list | none=>[])
 | none=>[]
theorem a3u{l:List Cls}{s:List UInt8}{i:Nat}(h:a0q l s=some i):∃c,l[i]? =some c/\c.kind=1/\c.name=s:=by
 unfold a0q at h
 rw[List.findIdx?_eq_some_iff_getElem]at h
 obtain⟨hl,he,_⟩:=h
 rw[Bool.and_eq_true,decide_eq_true_eq]at he
 exact⟨l[i],List.getElem?_eq_getElem hl,he.1,by simpa using he.2⟩
theorem b4q{l:List Cls}{s:List UInt8}{i:Nat}(h:a0q l s=some i):i<l.length:=by
 obtain⟨c,hc,_⟩:=a3u h
 exact(List.getElem?_eq_some_iff.1 hc).1
theorem a9x{l:List Cls}{s:List UInt8}(h:a0q l s=none):∀ (i:Nat) (c:Cls),l[i]? =some c->c.kind=1->c.name≠s:=by
 intro i c hc hk
 unfold a0q at h
 rw[List.findIdx?_eq_none_iff]at h
 have:=h c (List.mem_of_getElem? hc)
 rw[decide_eq_true hk,Bool.true_and]at this
 simpa using this
theorem a9e{l:List Cls}{c:Cls}{s:List UInt8}:a0q (l++[c]) s=match a0q l s with | some i=>some i | none=>if c.kind=1/\c.name=s then some l.length else none:=by
 unfold a0q
 rw[List.findIdx?_append]
 cases List.findIdx? (fun c=>decide (c.kind=1)&&c.name==s) l with
 | some i=>rfl
 | none =>
  by_cases h:c.kind=1/\c.name=s
  ·rw[if_pos h];simp[List.findIdx?_cons,h.1,h.2]
  rw[if_neg h]
  have:(decide (c.kind=1)&&c.name==s)=false:=by
   rw[Bool.eq_false_iff]
   intro h2
   rw[Bool.and_eq_true,decide_eq_true_eq]at h2
   exact h ⟨h2.1,by simpa using h2.2⟩
  simp[List.findIdx?_cons,this]
def Mem(l:List Cls)(s m:List UInt8):Prop:=m∈memb l s
def Den(cl:List Nmd)(l:List Cls)(s:List UInt8)(i:Nat):Prop:=a0g cl s=some i\/(a0g cl s=none/\∃m,Way (Mem l) s m/\a0g cl m=some i)
theorem Den.lt{cl:List Nmd}{l:List Cls}{s:List UInt8}{i:Nat}(h:Den cl l s i):i<cl.length:=by
 rcases h with h | ⟨_,m,_,h⟩<;>exact a7x h
def err1(cl:List Nmd)(pre:List Cls)(c:Cls):Int :=
 if c.kind<1\/4<c.kind then 10 else if c.kind≠1 then 0 else if(a0g cl c.name).isSome=true\/(a0q pre c.name).isSome=true then 12
 else if a7b c.name=false then 11 else if c.list.length=0 then 21 else if 32<c.list.length then 2 else 0
def a5c(c:Cls):List (List UInt8):=if c.kind=1 then c.list else if c.kind=2 then[c.name,c.other]else[c.name]
def a6c(cl:List Nmd)(l:List Cls)(s:List UInt8):Bool:=(a0g cl s).isSome||(a0q l s).isSome
def err2(cl:List Nmd)(l:List Cls)(c:Cls):Int :=
 if c.kind=3/\a0g cl c.name=none then 11 else if(a5c c).all (a6c cl l)=true then 0 else 11
def Err3(l:List Cls)(c:Cls)(e:Int):Prop:=(c.kind=1/\Way (Mem l) c.name c.name->e=17)/\(¬ (c.kind=1/\Way (Mem l) c.name c.name)->e=0)
def Rel(cl:List Nmd)(l:List Cls)(k:Nat)(a b:Nat):Prop:=∃ (j:Nat) (c:Cls),j<k/\l[j]? =some c/\c.kind=2/\Den cl l c.name a/\Den cl l c.other b
def Stat(cl:List Nmd)(l:List Cls)(s:List UInt8):Prop:=∃ (i:Nat) (c:Nmd),Den cl l s i/\cl[i]? =some c/\c.rank<=1
def Circ(cl:List Nmd)(l:List Cls)(k:Nat):Prop:=∃x,Way (Rel cl l k) x x
def limB(l:List Cls)(k:Nat)(s:List UInt8):Bool:=(l.take k).any fun c=>decide (c.kind=3)&&c.name==s
def Err4(cl:List Nmd)(l:List Cls)(i:Nat)(c:Cls)(e:Int):Prop :=
 (c.kind=4->(Stat cl l c.name->e=18)/\(¬Stat cl l c.name->e=0)) /\
 (c.kind=2->(Stat cl l c.other->e=18)/\(¬Stat cl l c.other->Circ cl l (i+1)->e=17)/\(¬Stat cl l c.other->¬Circ cl l (i+1)->e=0)) /\
 (c.kind=3->e=if sgn c.am.val.num<0 then 7 else if limB l i c.name=true then 12 else 0) /\
 (c.kind≠2->c.kind≠3->c.kind≠4->e=0)
theorem Err3.one{l:List Cls}{c:Cls}{e e':Int}(h:Err3 l c e)(h':Err3 l c e'):e=e':=by
 by_cases hp:c.kind=1/\Way (Mem l) c.name c.name
 ·rw[h.1 hp,h'.1 hp]
 rw[h.2 hp,h'.2 hp]
theorem Err4.one{cl:List Nmd}{l:List Cls}{i:Nat}{c:Cls}{e e':Int}(h:Err4 cl l i c e)(h':Err4 cl l i c e'):e=e':=by
 obtain⟨a4,a2,a3,a0⟩:=h
 obtain⟨b4,b2,b3,b0⟩:=h'
 by_cases k4:c.kind=4
 ·by_cases hs:Stat cl l c.name
  ·rw[(a4 k4).1 hs,(b4 k4).1 hs]
  rw[(a4 k4).2 hs,(b4 k4).2 hs]
 by_cases k2:c.kind=2
 ·by_cases hs:Stat cl l c.other
  ·rw[(a2 k2).1 hs,(b2 k2).1 hs]
  by_cases hc:Circ cl l (i+1)
  ·rw[(a2 k2).2.1 hs hc,(b2 k2).2.1 hs hc]
  rw[(a2 k2).2.2 hs hc,(b2 k2).2.2 hs hc]
 by_cases k3:c.kind=3
 ·rw[a3 k3,b3 k3]
 rw[a0 k2 k3 k4,b0 k2 k3 k4]
def ErrS(cl:List Nmd)(l:List Cls)(s i:Nat)(e:Int):Prop:=∀c,l[i]? =some c ->
 (s=1->e=err1 cl (l.take i) c)/\(s=2->e=err2 cl l c)/\(s=3->Err3 l c e)/\(s=4->Err4 cl l i c e)
theorem ErrS.one{cl:List Nmd}{l:List Cls}{s i:Nat}{e e':Int}(hs:1<=s/\s<=4)(hi:i<l.length)(h:ErrS cl l s i e)(h':ErrS cl l s i e'):e=e':=by
 obtain⟨a1,a2,a3,a4⟩:=h _ (List.getElem?_eq_getElem hi)
 obtain⟨b1,b2,b3,b4⟩:=h' _ (List.getElem?_eq_getElem hi)
 have:s=1\/s=2\/s=3\/s=4:=by omega
 rcases this with k | k | k | k
 ·rw[a1 k,b1 k]
 ·rw[a2 k,b2 k]
 ·exact(a3 k).one (b3 k)
 exact(a4 k).one (b4 k)
def Pass(cl:List Nmd)(l:List Cls)(s:Nat):Prop:=∀i,i<l.length->ErrS cl l s i 0
def Fail(cl:List Nmd)(l:List Cls)(s i:Nat)(e:Int):Prop:=i<l.length/\e≠0/\ErrS cl l s i e/\∀j,j<i->ErrS cl l s j 0
theorem Fail.not{cl:List Nmd}{l:List Cls}{s i:Nat}{e:Int}(hs:1<=s/\s<=4)(h:Fail cl l s i e):¬Pass cl l s:=fun hp=>h.2.1 (ErrS.one hs h.1 h.2.2.1 (hp i h.1))
theorem Fail.one{cl:List Nmd}{l:List Cls}{s i i':Nat}{e e':Int}(hs:1<=s/\s<=4)(h:Fail cl l s i e)(h':Fail cl l s i' e'):i=i'/\e=e':=by
 rcases Nat.lt_trichotomy i i' with hlt | rfl | hlt
 ·exact absurd (ErrS.one hs h.1 h.2.2.1 (h'.2.2.2 i hlt)) h.2.1
 ·exact⟨rfl,ErrS.one hs h.1 h.2.2.1 h'.2.2.1⟩
 exact absurd (ErrS.one hs h'.1 h'.2.2.1 (h.2.2.2 i' hlt)) h'.2.1
def Ranks(cl:List Nmd)(l:List Cls)(k:Nat)(R:List Int):Prop:=R.length=cl.length/\∀ (i:Nat) (c:Nmd) (r:Int),cl[i]? =some c->R[i]? =some r ->
 ((∃ (j:Nat) (x:Cls),j<k/\l[j]? =some x/\x.kind=4/\Den cl l x.name i)->r=max c.rank 4)/\((¬ ∃ (j:Nat) (x:Cls),j<k/\l[j]? =some x/\x.kind=4/\Den cl l x.name i)->r=c.rank)
theorem Ranks.one{cl:List Nmd}{l:List Cls}{k:Nat}{R R':List Int}(h:Ranks cl l k R)(h':Ranks cl l k R'):R=R':=by
 refine List.ext_getElem? fun i=>?_
 by_cases hi:i<cl.length
 ·have h1:i<R.length:=by rw[h.1];exact hi
  have h2:i<R'.length:=by rw[h'.1];exact hi
  have a:=h.2 i _ _ (List.getElem?_eq_getElem hi) (List.getElem?_eq_getElem h1)
  have b:=h'.2 i _ _ (List.getElem?_eq_getElem hi) (List.getElem?_eq_getElem h2)
  rw[List.getElem?_eq_getElem h1,List.getElem?_eq_getElem h2]
  congr 1
  by_cases hp:∃ (j:Nat) (x:Cls),j<k/\l[j]? =some x/\x.kind=4/\Den cl l x.name i
  ·rw[a.1 hp,b.1 hp]
  rw[a.2 hp,b.2 hp]
 rw[List.getElem?_eq_none (by rw[h.1];omega),List.getElem?_eq_none (by rw[h'.1];omega)]
def limC(l:List Cls)(s:List UInt8):Option Cls:=l.find? fun c=>decide (c.kind=3)&&c.name==s
def a2e(cl:List Nmd)(l:List Cls)(i:Nat):Prt:=match cl[i]? with
 | none=>⟨i,false,zero3⟩
 | some c=>match limC l c.id with | none=>⟨i,false,zero3⟩ | some x=>⟨i,true,enc3 x.am.val⟩
def a4r(n:Nat)(lev:Nat->Nat)(cn:Nat->Nat->Bool)(part:Nat->Prt)(k t:Nat):List Prt:=((List.range n).filter fun i=>cn k i&&decide (lev i=t)).map part
def b0c(n:Nat)(lev:Nat->Nat)(cn:Nat->Nat->Bool)(part:Nat->Prt)(k:Nat):List (List Prt):=((List.range n).map (a4r n lev cn part k)).filter fun t=>!t.isEmpty
def a7d(n:Nat)(r cn:Nat->Nat->Bool)(k:Nat):Bool:=(List.range n).any (fun b=>r k b||r b k)&&(List.range k).all fun x=>!cn k x
def a8b(n:Nat)(r:Nat->Nat->Bool)(lev:Nat->Nat)(cn:Nat->Nat->Bool)(part:Nat->Prt):List (List (List Prt)):=((List.range n).filter (a7d n r cn)).map (b0c n lev cn part)
def Agrs(cl:List Nmd)(l:List Cls)(A:List (List (List Prt))):Prop:=∃ (r cn:Nat->Nat->Bool) (lev:Nat->Nat),(∀a b,r a b=true↔Rel cl l l.length a b)/\(∀a b,cn a b=true↔Conn (Rel cl l l.length) a b) /\
 Lv (Rel cl l l.length) cl.length lev/\A=a8b cl.length r lev cn (a2e cl l)
theorem Rel.lt{cl:List Nmd}{l:List Cls}{k a b:Nat}(h:Rel cl l k a b):a<cl.length/\b<cl.length:=by
 obtain⟨_,_,_,_,_,h1,h2⟩:=h
 exact⟨h1.lt,h2.lt⟩
theorem d3c{n:Nat}{r:Nat->Nat->Bool}{lev lev':Nat->Nat}{cn:Nat->Nat->Bool}{part:Nat->Prt}(h:∀j,j<n->lev j=lev' j):a8b n r lev cn part=a8b n r lev' cn part:=by
 have ht:∀k t,a4r n lev cn part k t=a4r n lev' cn part k t:=fun k t=>by
  unfold a4r
  congr 1
  refine List.filter_congr fun i hi=>?_
  rw[h i (List.mem_range.1 hi)]
 unfold a8b
 refine List.map_congr_left fun k _=>?_
 unfold b0c
 congr 1
 exact List.map_congr_left fun t _=>ht k t
theorem Agrs.one{cl:List Nmd}{l:List Cls}{A A':List (List (List Prt))}(h:Agrs cl l A)(h':Agrs cl l A'):A=A':=by
 obtain⟨r,cn,lev,h1,h2,h3,rfl⟩:=h
 obtain⟨r',cn',lev',g1,g2,g3,rfl⟩:=h'
 obtain rfl:r=r':=by
  funext a b
  rw[Bool.eq_iff_iff,h1,g1]
 obtain rfl:cn=cn':=by
  funext a b
  rw[Bool.eq_iff_iff,h2,g2]
 exact d3c fun j hj=>h3.unique (fun _ _ h=>h.lt) g3 hj
def Comp(cl:List Nmd)(l:List Cls)(R:List Int)(A:List (List (List Prt)))(i:Nat)(e:Int):Prop :=
 (a3a cl≠0/\R=[]/\A=[]/\i=0/\e=a3a cl) \/
 (a3a cl=0/\64<l.length/\R=[]/\A=[]/\i=0/\e=2) \/
 (a3a cl=0/\l.length<=64/\R=[]/\A=[]/\∃s,(1<=s/\s<=4)/\(∀t,1<=t->t<s->Pass cl l t)/\Fail cl l s i e) \/
 (a3a cl=0/\l.length<=64/\(∀t,1<=t->t<=4->Pass cl l t)/\i=0/\e=0/\Ranks cl l l.length R/\Agrs cl l A)
theorem Comp.one{cl:List Nmd}{l:List Cls}{R R':List Int}{A A':List (List (List Prt))}{i i':Nat}{e e':Int}(h:Comp cl l R A i e)(h':Comp cl l R' A' i' e'):R=R'/\A=A'/\i=i'/\e=e':=by
 rcases h with ⟨h1,rfl,rfl,rfl,rfl⟩ | ⟨h1,h2,rfl,rfl,rfl,rfl⟩ | ⟨h1,h2,rfl,rfl,s,hs,hp,hf⟩ | ⟨h1,h2,hp,rfl,rfl,hr,ha⟩
 ·rcases h' with ⟨g1,rfl,rfl,rfl,rfl⟩ | ⟨g1,_⟩ | ⟨g1,_⟩ | ⟨g1,_⟩
  ·exact⟨rfl,rfl,rfl,rfl⟩
  ·exact absurd g1 h1
  ·exact absurd g1 h1
  exact absurd g1 h1
 ·rcases h' with ⟨g1,_⟩ | ⟨g1,g2,rfl,rfl,rfl,rfl⟩ | ⟨g1,g2,_⟩ | ⟨g1,g2,_⟩
  ·exact absurd h1 g1
  ·exact⟨rfl,rfl,rfl,rfl⟩
  ·omega
  omega
 ·rcases h' with ⟨g1,_⟩ | ⟨g1,g2,_⟩ | ⟨g1,g2,rfl,rfl,s',hs',hp',hf'⟩ | ⟨g1,g2,gp,_⟩
  ·exact absurd h1 g1
  ·omega
  ·rcases Nat.lt_trichotomy s s' with hlt | rfl | hlt
   ·exact absurd (hp' s hs.1 hlt) (hf.not hs)
   ·obtain⟨e1,e2⟩:=hf.one hs hf'
    exact⟨rfl,rfl,e1,e2⟩
   exact absurd (hp s' hs'.1 hlt) (hf'.not hs')
  exact absurd (gp s hs.1 hs.2) (hf.not hs)
 rcases h' with ⟨g1,_⟩ | ⟨g1,g2,_⟩ | ⟨g1,g2,rfl,rfl,s',hs',hp',hf'⟩ | ⟨g1,g2,gp,rfl,rfl,gr,ga⟩
 ·exact absurd h1 g1
 ·omega
 ·exact absurd (hp s' hs'.1 hs'.2) (hf'.not hs')
 exact⟨hr.one gr,ha.one ga,rfl,rfl⟩
def putN(F:List UInt8->Bool)(m:List UInt8)(x:List UInt8):Bool:=F x||x==m
theorem putN_iff{F:List UInt8->Bool}{m x:List UInt8}:putN F m x=true↔F x=true\/x=m:=by
 unfold putN
 rw[Bool.or_eq_true,beq_iff_eq]
def allN(l:List Cls):List (List UInt8):=l.flatMap (·.list)
def a6h(l:List Cls)(F:List UInt8->Bool):Nat:=(allN l).countP fun m=>!F m
theorem b4n{l:List Cls}{s m:List UInt8}(h:Mem l s m):m∈allN l:=by
 unfold Mem memb at h
 cases hc:a0q l s with
 | none=>rw[hc]at h;cases h
 | some i =>
  obtain⟨c,h1,_⟩:=a3u hc
  rw[hc]at h
  dsimp only at h
  rw[h1]at h
  exact List.mem_flatMap.2 ⟨c,List.mem_of_getElem? h1,h⟩
theorem c8f{l:List Cls}{F G:List UInt8->Bool}(h:∀x,F x=true->G x=true):a6h l G<=a6h l F:=by
 unfold a6h
 refine List.countP_mono_left fun x _ hx=>?_
 cases hF:F x with
 | false=>rfl
 | true=>rw[h x hF]at hx;cases hx
theorem b6h{α:Type}{p q:α->Bool}:∀ {l:List α},(∀x∈l,p x=true->q x=true)->(∃x∈l,q x=true/\p x=false)->l.countP p<l.countP q
 | [],_,h=>by obtain⟨x,hx,_⟩:=h;cases hx
 | a::t,h,hx=>by
  rw[List.countP_cons,List.countP_cons]
  have h1:t.countP p<=t.countP q:=List.countP_mono_left fun x hx=>h x (List.mem_cons_of_mem _ hx)
  obtain⟨x,hm,hq,hp⟩:=hx
  rcases List.mem_cons.1 hm with rfl | hm
  ·rw[hq,hp];simp;omega
  have h2:=b6h (fun x hx=>h x (List.mem_cons_of_mem _ hx)) ⟨x,hm,hq,hp⟩
  have h3:=h a (List.mem_cons_self ..)
  cases hpa:p a with
  | false=>simp;omega
  | true=>rw[h3 hpa];simp;omega
theorem d0z{l:List Cls}{F:List UInt8->Bool}{s m:List UInt8}(hm:Mem l s m)(hf:F m=false):a6h l (putN F m)<a6h l F:=by
 unfold a6h
 refine b6h (fun x _ hx=>?_) ⟨m,b4n hm,by rw[hf];rfl,by unfold putN;simp⟩
 cases hF:F x with
 | false=>rfl
 | true=>unfold putN at hx;rw[hF]at hx;simp at hx
def ColS(l:List Cls)(s:List UInt8)(F F':List UInt8->Bool):Prop :=
 (∀m,F m=true->F' m=true)/\(∀m,Mem l s m->F' m=true)/\∀m,F' m=true->F m=true\/(Way (Mem l) s m/\∀k,Mem l m k->F' k=true)
def ColJ(l:List Cls)(s:List UInt8)(F:List UInt8->Bool)(j:Nat)(G:List UInt8->Bool):Prop :=
 (∀m,F m=true->G m=true)/\(∀q m,q<j->(memb l s)[q]? =some m->G m=true)/\∀m,G m=true->F m=true\/(Way (Mem l) s m/\∀k,Mem l m k->G k=true)
theorem ColJ.start(l:List Cls)(s:List UInt8)(F:List UInt8->Bool):ColJ l s F 0 F:=⟨fun _ h=>h,fun _ _ h=>absurd h (Nat.not_lt_zero _),fun _ h=>.inl h⟩
theorem ColJ.old{l:List Cls}{s:List UInt8}{F G:List UInt8->Bool}{j:Nat}{m:List UInt8}(h:ColJ l s F j G)(hm:(memb l s)[j]? =some m)(hg:G m=true):ColJ l s F (j+1) G:=by
 refine⟨h.1,fun q x hq hx=>?_,h.2.2⟩
 by_cases hqj:q<j
 ·exact h.2.1 q x hqj hx
 obtain rfl:q=j:=by omega
 rw[hm]at hx
 obtain rfl:m=x:=Option.some.inj hx
 exact hg
theorem ColJ.new{l:List Cls}{s:List UInt8}{F G G':List UInt8->Bool}{j:Nat}{m:List UInt8}(h:ColJ l s F j G)(hm:(memb l s)[j]? =some m)(hc:ColS l m (putN G m) G'):ColJ l s F (j+1) G':=by
 have hmm:Mem l s m:=List.mem_of_getElem? hm
 have hup:∀x,G x=true->G' x=true:=fun x hx=>hc.1 x (putN_iff.2 (.inl hx))
 have hm':G' m=true:=hc.1 m (putN_iff.2 (.inr rfl))
 refine⟨fun x hx=>hup x (h.1 x hx),fun q x hq hx=>?_,fun x hx=>?_⟩
 ·by_cases hqj:q<j
  ·exact hup x (h.2.1 q x hqj hx)
  obtain rfl:q=j:=by omega
  rw[hm]at hx
  obtain rfl:m=x:=Option.some.inj hx
  exact hm'
 rcases hc.2.2 x hx with h1 | ⟨h1,h2⟩
 ·rcases putN_iff.1 h1 with h1 | rfl
  ·rcases h.2.2 x h1 with h3 | ⟨h3,h4⟩
   ·exact .inl h3
   exact .inr ⟨h3,fun k hk=>hup k (h4 k hk)⟩
  exact .inr ⟨.one hmm,fun k hk=>hc.2.1 k hk⟩
 exact .inr ⟨.head hmm h1,h2⟩
theorem ColJ.done{l:List Cls}{s:List UInt8}{F G:List UInt8->Bool}(h:ColJ l s F (memb l s).length G):ColS l s F G:=by
 refine⟨h.1,fun m hm=>?_,h.2.2⟩
 obtain⟨q,hq⟩:=List.mem_iff_getElem?.1 hm
 exact h.2.1 q m (List.getElem?_eq_some_iff.1 hq).1 hq
theorem ColS.all{l:List Cls}{s:List UInt8}{F:List UInt8->Bool}(h:ColS l s (fun _=>false) F)(m:List UInt8):F m=true↔Way (Mem l) s m:=by
 constructor
 ·intro hm
  rcases h.2.2 m hm with h1 | ⟨h1,_⟩
  ·cases h1
  exact h1
 intro hw
 refine hw.closed (S:=fun x=>F x=true) (fun x hx=>h.2.1 x hx) fun x y hx hxy=>?_
 rcases h.2.2 x hx with h1 | ⟨_,h1⟩
 ·cases h1
 exact h1 y hxy
def lift(f:Nat->Nat)(i j:Nat)(x:Nat):Nat:=if x=j then max (f j) (f i+1)else f x
theorem c4v(f:Nat->Nat)(i j x:Nat):f x<=lift f i j x:=by
 unfold lift
 split
 ·rename_i h;subst h;omega
 exact Nat.le_refl _
theorem lift_at(f:Nat->Nat)(i j:Nat):f i+1<=lift f i j j:=by unfold lift;rw[if_pos rfl];omega
theorem c3c{f:Nat->Nat}{i j:Nat}(h:f i<f j):lift f i j=f:=by
 funext x
 unfold lift
 split
 ·rename_i hx;subst hx;omega
 rfl
theorem Up.lift{r:Nat->Nat->Prop}{f:Nat->Nat}(h:Up r f){i j:Nat}(hr:r i j):Up r (lift f i j):=by
 by_cases hlt:f i<f j
 ·rw[c3c hlt];exact h
 intro x
 have hge:=c4v f i j
 by_cases hx:x=j
 ·subst hx
  refine .inr ⟨i,hr,?_⟩
  have h1:=hge i
  have h2:Go.Proofs.YtjmiicjialkpiaaGreatDoor.lift f i x x=f i+1:=by unfold Go.Proofs.YtjmiicjialkpiaaGreatDoor.lift;rw[if_pos rfl];omega
  omega
 have h2:Go.Proofs.YtjmiicjialkpiaaGreatDoor.lift f i j x=f x:=by unfold Go.Proofs.YtjmiicjialkpiaaGreatDoor.lift;rw[if_neg hx]
 rcases h x with h0 | ⟨y,h1,h3⟩
 ·exact .inl (h2.trans h0)
 exact .inr ⟨y,h1,by have:=hge y;omega⟩
def Rnd(r:Nat->Nat->Prop)(n t a b:Nat)(f:Nat->Nat):Prop:=Up r f/\(∀m j,m<=t->j<n->Chain r m j->m<=f j)/\∀i j,(i<a\/(i=a/\j<b))->r i j->∀m,m<=t->Chain r m i->m+1<=f j
theorem Rnd.start{r:Nat->Nat->Prop}{n:Nat}:Rnd r n 0 0 0 (fun _=>0) :=
 ⟨fun _=>.inl rfl,fun m j hm _ _=>hm,fun i j h=>by omega⟩
theorem Rnd.lift{r:Nat->Nat->Prop}{n t a b:Nat}{f:Nat->Nat}(hb:∀i j,r i j->i<n/\j<n)(h:Rnd r n t a b f)(hr:r a b):Rnd r n t a (b+1) (lift f a b):=by
 refine⟨h.1.lift hr,fun m j hm hj hc=>Nat.le_trans (h.2.1 m j hm hj hc) (c4v ..),fun i j hij hrij m hm hc=>?_⟩
 by_cases he:i=a/\j=b
 ·obtain⟨rfl,rfl⟩:=he
  have:=h.2.1 m i hm (hb _ _ hr).1 hc
  have:=lift_at f i j
  omega
 exact Nat.le_trans (h.2.2 i j (by omega) hrij m hm hc) (c4v ..)
theorem Rnd.skip{r:Nat->Nat->Prop}{n t a b:Nat}{f:Nat->Nat}(h:Rnd r n t a b f)(hr:¬r a b):Rnd r n t a (b+1) f:=by
 refine⟨h.1,h.2.1,fun i j hij hrij m hm hc=>?_⟩
 by_cases he:i=a/\j=b
 ·obtain⟨rfl,rfl⟩:=he;exact absurd hrij hr
 exact h.2.2 i j (by omega) hrij m hm hc
theorem Rnd.row{r:Nat->Nat->Prop}{n t a:Nat}{f:Nat->Nat}(hb:∀i j,r i j->i<n/\j<n)(h:Rnd r n t a n f):Rnd r n t (a+1) 0 f:=by
 refine⟨h.1,h.2.1,fun i j hij hrij m hm hc=>?_⟩
 have:=(hb _ _ hrij).2
 exact h.2.2 i j (by omega) hrij m hm hc
theorem Rnd.round{r:Nat->Nat->Prop}{n t:Nat}{f:Nat->Nat}(hb:∀i j,r i j->i<n/\j<n)(h:Rnd r n t n 0 f):Rnd r n (t+1) 0 0 f:=by
 refine⟨h.1,fun m j hm hj hc=>?_,fun i j hij=>by omega⟩
 cases hc with
 | zero=>exact Nat.zero_le _
 | succ hc hr=>exact h.2.2 _ _ (.inl (hb _ _ hr).1) hr _ (by omega) hc
theorem Rnd.stands{r:Nat->Nat->Prop}{n t:Nat}{f:Nat->Nat}(hb:∀i j,r i j->i<n/\j<n)(hr:∀i,¬Way r i i)(h:Rnd r n t 0 0 f)(ht:n<=t):Lv r n f :=
 c9c h.1 (fun m j hc hj=>h.2.1 m j (by have:=hc.short hr hb hj;omega) hj hc) hb
theorem Up.low{r:Nat->Nat->Prop}{n:Nat}{f:Nat->Nat}(h:Up r f)(hb:∀i j,r i j->i<n/\j<n)(hr:∀i,¬Way r i i){j:Nat}(hj:j<n):f j<n:=(h.chain (f j) j (Nat.le_refl _)).short hr hb hj
end Go.Proofs.YtjmiicjialkpiaaGreatDoor
