/-
Part 0 of the base.
-/
import Derived.Test.YtjmiicjialkpiaaGreatDoorRfg
import Derived.Lib.BitFns
import Derived.Test.YtjmiicjialkpiaaGreatDoorProg
import Derived.Lib.Strings
import Derived.Lib.Slices
import Derived.Lib.Small
import Derived.Lib.Walk
import Derived.Lib.Bytealg
namespace Go.Proofs.YtjmiicjialkpiaaGreatDoor
def lv:List Nat->Nat
 | []=>0
 | x::xs=>x+4294967296*lv xs
def bv(l:List UInt8):Nat:=l.foldl (fun a b=>a*256+b.toNat) 0
def Small(xs:List Nat):Prop:=∀x∈xs,x<4294967296
theorem a2q:lv []=0:=rfl
theorem a1w(x:Nat)(xs:List Nat):lv (x::xs)=x+4294967296*lv xs:=rfl
theorem a8z(xs ys:List Nat):lv (xs++ys)=lv xs+4294967296^xs.length*lv ys:=by
 induction xs with
 | nil=>simp[lv]
 | cons x xs ih =>
  simp only[List.cons_append,a1w,ih,List.length_cons,Nat.pow_succ,Nat.mul_add]
  rw[Nat.mul_comm (4294967296^xs.length) 4294967296,Nat.mul_assoc,Nat.add_assoc]
theorem c4s(xs:List Nat)(x:Nat):lv (xs++[x])=lv xs+4294967296^xs.length*x:=by
 rw[a8z];simp[lv]
theorem a5h(xs:List Nat)(h:Small xs):lv xs<4294967296^xs.length:=by
 induction xs with
 | nil=>simp[lv]
 | cons x xs ih =>
  have hx:x<4294967296:=h x (by simp)
  have hs:=ih (fun y hy=>h y (by simp[hy]))
  simp only[a1w,List.length_cons,Nat.pow_succ]
  have:lv xs+1<=4294967296^xs.length:=hs
  have:=Nat.mul_le_mul_left 4294967296 this
  omega
theorem a5m(n:Nat):lv (List.replicate n 0)=0:=by
 induction n with
 | zero=>rfl
 | succ n ih=>simp[List.replicate_succ,a1w,ih]
theorem a3m:Small []:=by simp[Small]
theorem small_append{xs ys:List Nat}:Small (xs++ys)↔Small xs/\Small ys:=by
 simp[Small,or_imp,forall_and]
theorem small_cons{x:Nat}{xs:List Nat}:Small (x::xs)↔x<4294967296/\Small xs:=by simp[Small]
theorem Small.take{xs:List Nat}(h:Small xs)(k:Nat):Small (xs.take k):=fun x hx=>h x (List.mem_of_mem_take hx)
theorem Small.drop{xs:List Nat}(h:Small xs)(k:Nat):Small (xs.drop k):=fun x hx=>h x (List.mem_of_mem_drop hx)
theorem Small.get{xs:List Nat}(h:Small xs)(k:Nat):xs.getD k 0<4294967296:=by
 rw[List.getD_eq_getElem?_getD]
 rcases Nat.lt_or_ge k xs.length with hk | hk
 ·rw[List.getElem?_eq_getElem hk];exact h _ (List.getElem_mem hk)
 rw[List.getElem?_eq_none hk];decide
def limbsOf(n:Nat):List Nat :=
 if h:n=0 then[]else n%4294967296::limbsOf (n/4294967296)
termination_by n
decreasing_by omega
theorem a0u:limbsOf 0=[]:=by rw[limbsOf];simp
theorem a3p{n:Nat}(h:n≠0):limbsOf n=n%4294967296::limbsOf (n/4294967296):=by
 rw[limbsOf];simp[h]
theorem a0k(n:Nat):lv (limbsOf n)=n:=by
 induction n using limbsOf.induct with
 | case1=>rw[a0u];rfl
 | case2 n h ih=>rw[a3p h,a1w,ih];omega
theorem b0z(n:Nat):Small (limbsOf n):=by
 induction n using limbsOf.induct with
 | case1=>rw[a0u];exact a3m
 | case2 n h ih=>rw[a3p h,small_cons];exact⟨by omega,ih⟩
def a4z(xs:List Nat):Prop:=xs.getLast? ≠some 0
theorem a7c:∀ {xs:List Nat},xs≠[]->a4z xs->0<lv xs
 | [x],_,h=>by
  have:x≠0:=by intro e;subst e;exact h rfl
  simp[lv];omega
 | x::y::ys,_,h=>by
  have h':a4z (y::ys):=by simpa [a4z]using h
  have:=a7c (xs:=y::ys) (by simp) h'
  rw[a1w];omega
theorem b2v:∀ {xs:List Nat},Small xs->a4z xs->limbsOf (lv xs)=xs
 | [],_,_=>a0u
 | x::xs,hs,ht=>by
  have hp:=a7c (xs:=x::xs) (by simp) ht
  obtain⟨hx,hxs⟩:=small_cons.1 hs
  have ht':a4z xs:=by
   rcases xs with _ | ⟨y,ys⟩
   ·simp[a4z]
   simpa [a4z]using ht
  rw[a3p (by omega),a1w]
  have e1:(x+4294967296*lv xs)%4294967296=x:=by omega
  have e2:(x+4294967296*lv xs)/4294967296=lv xs:=by omega
  rw[e1,e2,b2v hxs ht']
theorem a5b{n:Nat}(h:n≠0):limbsOf n≠[]:=by rw[a3p h];simp
theorem limbsOf_eq_nil{n:Nat}:limbsOf n=[]↔n=0 :=
 ⟨fun h=>Decidable.byContradiction fun e=>a5b e h,fun h=>by subst h;exact a0u⟩
theorem a8d(n:Nat):a4z (limbsOf n):=by
 induction n using limbsOf.induct with
 | case1=>rw[a0u];simp[a4z]
 | case2 n h ih =>
  rw[a3p h]
  by_cases h2:n/4294967296=0
  ·rw[h2,a0u];simp[a4z];omega
  rw[a3p h2]at ih ⊢;simpa [a4z]using ih
theorem c0j(xs:List Nat)(n:Nat)(h:∀i,n<=i->xs.getD i 0=0):lv (xs.take n)=lv xs:=by
 have h2:lv (xs.drop n)=0:=by
  have:xs.drop n=List.replicate (xs.length-n) 0:=by
   refine List.ext_getElem (by simp) fun i h1 h2=>?_
   rw[List.getElem_drop,List.getElem_replicate]
   have:=h (n+i) (by omega)
   rw[List.getD_eq_getElem?_getD,List.getElem?_eq_getElem (by simp at h1;omega)]at this
   simpa using this
  rw[this,a5m]
 have h3:=a8z (xs.take n) (xs.drop n)
 rw[List.take_append_drop,h2]at h3
 omega
theorem b0y(xs:List Nat)(n:Nat)(hs:Small xs)(hn:n<=xs.length)(h:∀i,n<=i->xs.getD i 0=0)(h0:n=0\/xs.getD (n-1) 0≠0) :
  xs.take n=limbsOf (lv xs):=by
 rw[<- c0j xs n h,b2v (hs.take n)]
 rcases Nat.eq_zero_or_pos n with rfl | hp
 ·simp[a4z]
 have h1:=h0.resolve_left (by omega)
 rw[a4z,List.getLast?_eq_getElem?,List.getElem?_take]
 simp only[List.length_take]
 rw[if_pos (by omega),show min n xs.length-1=n-1 by omega]
 rw[List.getD_eq_getElem?_getD,List.getElem?_eq_getElem (by omega)]at h1
 rw[List.getElem?_eq_getElem (by omega)]
 simpa using h1
theorem b8m(xs:List Nat)(i x:Nat)(h:i<xs.length):lv (xs.set i x)+4294967296^i*xs.getD i 0=lv xs+4294967296^i*x:=by
 induction xs generalizing i with
 | nil=>simp at h
 | cons y ys ih =>
  cases i with
  | zero=>simp[a1w];omega
  | succ i =>
   have:=ih i (by simpa using h)
   simp only[List.set_cons_succ,a1w,List.getD_cons_succ,Nat.pow_succ]
   have e:∀a b:Nat,a*4294967296*b=4294967296*(a*b):=fun a b=>by rw[Nat.mul_comm a,Nat.mul_assoc]
   rw[e,e];omega
theorem b5x{xs ys:List Nat}(hx:Small xs)(hy:Small ys)(hl:xs.length=ys.length)(h:lv xs=lv ys):xs=ys:=by
 induction xs generalizing ys with
 | nil=>cases ys<;>simp_all
 | cons x xs ih =>
  rcases ys with _ | ⟨y,ys⟩
  ·simp at hl
  rw[small_cons]at hx hy
  rw[a1w,a1w]at h
  have:x=y:=by omega
  subst this
  rw[ih hx.2 hy.2 (by simpa using hl) (by omega)]
/-! ### bytes -/
theorem c7n(l:List UInt8)(a:Nat):l.foldl (fun a b=>a*256+b.toNat) a=a*256^l.length+bv l:=by
 induction l generalizing a with
 | nil=>simp[bv]
 | cons x xs ih =>
  simp only[List.foldl_cons,List.length_cons,bv,Nat.zero_mul,Nat.zero_add]
  rw[ih,ih x.toNat,Nat.pow_succ,Nat.add_mul,Nat.mul_assoc,Nat.mul_comm 256,Nat.add_assoc]
theorem c3r:bv []=0:=rfl
theorem a9h(x:UInt8)(xs:List UInt8):bv (x::xs)=x.toNat*256^xs.length+bv xs:=by
 show List.foldl _ _ _=_
 rw[List.foldl_cons,c7n];simp
theorem c3s(xs ys:List UInt8):bv (xs++ys)=bv xs*256^ys.length+bv ys:=by
 show List.foldl _ _ _=_
 rw[List.foldl_append,c7n];rfl
theorem d2w(xs:List UInt8)(x:UInt8):bv (xs++[x])=bv xs*256+x.toNat:=by
 rw[c3s];simp[bv]
theorem b4c(l:List UInt8):bv l<256^l.length:=by
 induction l with
 | nil=>simp[bv]
 | cons x xs ih =>
  rw[a9h,List.length_cons,Nat.pow_succ]
  have hx:x.toNat<=255:=by have:=x.toNat_lt;omega
  have:=Nat.mul_le_mul_right (256^xs.length) hx
  omega
def bytesOf(n:Nat):List UInt8 :=
 if _h:n=0 then[]else bytesOf (n/256)++[UInt8.ofNat (n%256)]
termination_by n
decreasing_by omega
theorem a0y:bytesOf 0=[]:=by rw[bytesOf];simp
theorem a6f{n:Nat}(h:n≠0):bytesOf n=bytesOf (n/256)++[UInt8.ofNat (n%256)]:=by
 rw[bytesOf];simp[h]
theorem a0c(n:Nat):bv (bytesOf n)=n:=by
 induction n using bytesOf.induct with
 | case1=>rw[a0y];rfl
 | case2 n h ih =>
  rw[a6f h,d2w,ih]
  have:(UInt8.ofNat (n%256)).toNat=n%256:=by simp
  omega
def norm(l:List UInt8):List UInt8:=l.dropWhile (· ==0)
theorem a9t:norm []=[]:=rfl
theorem a8w(x:UInt8)(xs:List UInt8):norm (x::xs)=if x=0 then norm xs else x::xs:=by
 unfold norm;rw[List.dropWhile_cons];by_cases h:x=0<;>simp[h]
theorem rev_ind{α:Type}{P:List α->Prop}(h0:P [])(h1:∀xs x,P xs->P (xs++[x]))(l:List α):P l:=by
 have:∀n,∀l:List α,l.length=n->P l:=by
  intro n
  induction n with
  | zero=>intro l hl;rw[List.length_eq_zero_iff]at hl;subst hl;exact h0
  | succ n ih =>
   intro l hl
   rcases List.eq_nil_or_concat l with rfl | ⟨xs,x,rfl⟩
   ·exact h0
   rw[List.length_concat]at hl
   rw[List.concat_eq_append]
   exact h1 _ _ (ih _ (by omega))
 exact this _ l rfl
theorem b6t:∀ (xs:List UInt8) (x:UInt8),x≠0->bytesOf (bv (x::xs))=x::xs:=by
 refine rev_ind ?_ ?_
 ·intro x hx
  have h0:x.toNat≠0:=fun e=>hx (UInt8.toNat_inj.1 (by simpa using e))
  have hx2:=x.toNat_lt
  rw[a9h];simp only[List.length_nil,Nat.pow_zero,Nat.mul_one,c3r,Nat.add_zero]
  rw[a6f h0,show x.toNat/256=0 by omega,a0y]
  simp[Nat.mod_eq_of_lt hx2]
 intro xs y ih x hx
 have e:bv (x::(xs++[y]))=bv (x::xs)*256+y.toNat:=by rw[<- List.cons_append,d2w]
 have hy:=y.toNat_lt
 have hne:bv (x::xs)≠0:=by
  rw[a9h]
  have h0:x.toNat≠0:=fun e=>hx (UInt8.toNat_inj.1 (by simpa using e))
  have:=Nat.mul_pos (Nat.pos_of_ne_zero h0) (Nat.pow_pos (n:=xs.length) (show 0<256 by decide))
  omega
 rw[e,a6f (by omega),show(bv (x::xs)*256+y.toNat)/256=bv (x::xs) by omega,ih x hx,
  show(bv (x::xs)*256+y.toNat)%256=y.toNat by omega]
 simp
theorem a5g(l:List UInt8):norm l=bytesOf (bv l):=by
 induction l with
 | nil=>rw[a9t,c3r,a0y]
 | cons x xs ih =>
  rw[a8w]
  by_cases h:x=0
  ·subst h;rw[if_pos rfl,ih,a9h];simp
  rw[if_neg h,b6t xs x h]
theorem b3e(n:Nat):norm (bytesOf n)=bytesOf n:=by rw[a5g,a0c]
theorem bytesOf_eq_nil{n:Nat}:bytesOf n=[]↔n=0 :=
 ⟨fun h=>by have:=a0c n;rw[h,c3r]at this;omega,fun h=>by subst h;exact a0y⟩
theorem a4y{a b:Nat}(h:bytesOf a=bytesOf b):a=b:=by rw[<- a0c a,h,a0c]
theorem c4u{a b:Nat}(h:limbsOf a=limbsOf b):a=b:=by rw[<- a0k a,h,a0k]
theorem a0p(n:Nat)(k:Nat)(h:n<256^k):(bytesOf n).length<=k:=by
 induction n using bytesOf.induct generalizing k with
 | case1=>rw[a0y];simp
 | case2 n h0 ih =>
  rw[a6f h0,List.length_append]
  rcases k with _ | k
  ·simp at h;omega
  have:=ih k (by rw[Nat.pow_succ]at h;omega)
  simp;omega
theorem a2t(n:Nat):n<256^(bytesOf n).length:=by have:=b4c (bytesOf n);rwa[a0c]at this
theorem a3z(n:Nat):n<4294967296^(limbsOf n).length:=by have:=a5h _ (b0z n);rwa[a0k]at this
theorem a1z(n:Nat)(k:Nat)(h:n<4294967296^k):(limbsOf n).length<=k:=by
 induction n using limbsOf.induct generalizing k with
 | case1=>rw[a0u];simp
 | case2 n h0 ih =>
  rw[a3p h0,List.length_cons]
  rcases k with _ | k
  ·simp at h;omega
  have:=ih k (by rw[Nat.pow_succ]at h;omega)
  omega
theorem a4x(n:Nat)(h:n≠0):4294967296^((limbsOf n).length-1)<=n:=by
 rcases Nat.lt_or_ge n (4294967296^((limbsOf n).length-1))with h1 | h1
 ·have:=a1z n _ h1
  have:(limbsOf n).length≠0:=fun e=>a5b h (List.length_eq_zero_iff.1 e)
  omega
 exact h1
theorem a7h(n:Nat)(h:n≠0):256^((bytesOf n).length-1)<=n:=by
 rcases Nat.lt_or_ge n (256^((bytesOf n).length-1))with h1 | h1
 ·have:=a0p n _ h1
  have:(bytesOf n).length≠0:=fun e=>h (bytesOf_eq_nil.1 (List.length_eq_zero_iff.1 e))
  omega
 exact h1
theorem a1j{a b:Nat}(h:(limbsOf a).length<(limbsOf b).length):a<b:=by
 have hb:b≠0:=by intro e;subst e;rw[a0u]at h;simp at h
 have h1:=a3z a
 have h2:=a4x b hb
 have h3:4294967296^(limbsOf a).length<=4294967296^((limbsOf b).length-1):=Nat.pow_le_pow_right (by decide) (by omega)
 omega
theorem a7g{a b:Nat}(h:(bytesOf a).length<(bytesOf b).length):a<b:=by
 have hb:b≠0:=by intro e;subst e;rw[a0y]at h;simp at h
 have h1:=a2t a
 have h2:=a7h b hb
 have h3:256^(bytesOf a).length<=256^((bytesOf b).length-1):=Nat.pow_le_pow_right (by decide) (by omega)
 omega
/-! ### Knuth's estimate of a digit. X = B^(n-2); D = (d1*B+d2)*X + D'; U = (top*B+u2)*X + U'. -/
theorem c5b{B X d1 d2 D' top u2 U' D U:Nat}(hX:0<X)(hB:0<B)(hd1:0<d1)
  (hD:D=(d1*B+d2)*X+D') (hU:U=(top*B+u2)*X+U') (hu2:u2<B) (hU':U'<X):U/D<=top/d1:=by
 have hDpos:0<D:=by
  have:=Nat.mul_pos (Nat.mul_pos hd1 hB) hX
  rw[hD,Nat.add_mul];omega
 rw[Nat.le_div_iff_mul_le hd1]
 have h1:U/D*D<=U:=Nat.div_mul_le_self U D
 have h2:U/D*d1*(B*X)<=U/D*D:=by
  rw[Nat.mul_assoc]
  apply Nat.mul_le_mul_left
  rw[hD,Nat.add_mul,Nat.mul_assoc];omega
 have h3:U<(top+1)*(B*X):=by
  have:(u2+1)*X<=B*X:=Nat.mul_le_mul_right X hu2
  rw[hU,Nat.add_mul,Nat.add_mul,Nat.mul_assoc,Nat.one_mul]
  rw[Nat.add_mul,Nat.one_mul]at this
  omega
 have h4:U/D*d1*(B*X)<(top+1)*(B*X):=by omega
 exact Nat.lt_succ_iff.1 (Nat.lt_of_mul_lt_mul_right h4)
theorem c8t{B X d1 d2 D' top u2 U' D U g:Nat}(hD:D=(d1*B+d2)*X+D')(hU:U=(top*B+u2)*X+U')(hU':U'<X)
  (hDpos:0<D) (h:top*B+u2<g*(d1*B+d2)):U/D<g:=by
 rw[Nat.div_lt_iff_lt_mul hDpos]
 have h1:(top*B+u2+1)*X<=g*(d1*B+d2)*X:=Nat.mul_le_mul_right X h
 have h2:g*(d1*B+d2)*X<=g*D:=by
  rw[Nat.mul_assoc]
  apply Nat.mul_le_mul_left
  omega
 rw[Nat.add_mul,Nat.one_mul]at h1
 omega
theorem d2a{B X d1 d2 D' top u2 U' D U g:Nat}(hD:D=(d1*B+d2)*X+D')(hU:U=(top*B+u2)*X+U')(hD':D'<X)
  (hB:0<B) (hd1:0<d1) (hg:g<=B) (h:g*(d1*B+d2)<=top*B+u2):g*D<U+D:=by
 have h1:g*(d1*B+d2)*X<=(top*B+u2)*X:=Nat.mul_le_mul_right X h
 have h2:g*D'<=B*X:=by
  have:=Nat.mul_le_mul hg (Nat.le_of_lt hD')
  exact this
 have h3:B*X<=d1*B*X:=by
  rw[Nat.mul_assoc];exact Nat.le_mul_of_pos_left _ hd1
 have h4:g*D=g*(d1*B+d2)*X+g*D':=by rw[hD,Nat.mul_add,Nat.mul_assoc]
 have h5:(d1*B+d2)*X=d1*B*X+d2*X:=Nat.add_mul _ _ _
 by_cases hD0:D'=0
 ·subst hD0
  simp at h4
  rcases Nat.eq_zero_or_pos X with h0 | h0
  ·omega
  have:0<d1*B*X:=Nat.mul_pos (Nat.mul_pos hd1 hB) h0
  omega
 omega
theorem c8u{U D g:Nat}(hD:0<D)(h1:U/D<=g)(h2:g*D<U+D):g=U/D\/g=U/D+1:=by
 have h3:=Nat.div_add_mod U D
 have h4:=Nat.mod_lt U hD
 by_cases e:g<=U/D+1
 ·omega
 exfalso
 have:(U/D+2)*D<=g*D:=Nat.mul_le_mul_right D (by omega)
 rw[Nat.add_mul]at this
 rw[Nat.mul_comm]at h3
 omega
/-! ### A rational number as the program holds it: a sign, a numerator, a denominator (none: 1) -/
def denB(n:Nat):List UInt8:=if n=1 then[]else bytesOf n
def denN(l:List UInt8):Nat:=if l=[]then 1 else bv l
def negB(q:Rat):Bool:=decide (q<0)
def numB(q:Rat):List UInt8:=bytesOf q.num.natAbs
def a0a(q:Rat):List UInt8:=denB q.den
theorem a1d:bytesOf 1=[1]:=by rw[a6f (by decide),a0y];rfl
def a2p(neg:Bool)(num den:List UInt8):Bool :=
 norm num==num&&norm den==den&&(if num=[]then !neg&&den==[]else den==[]||(!(den==[1])&&Nat.gcd (bv num) (bv den)==1))
def signed(neg:Bool)(n:Nat):Int:=if neg then -(n:Int)else n
def decR(neg:Bool)(num den:List UInt8):Rat:=if a2p neg num den then mkRat (signed neg (bv num)) (denN den)else 0
theorem a4d(q:Rat):q<0↔q.num<0:=by
 have:=@Rat.num_nonneg q
 constructor
 ·intro h
  rcases Int.lt_or_le q.num 0 with h1 | h1
  ·exact h1
  exact absurd (this.1 h1) (Rat.not_le.2 h)
 intro h
 exact Rat.not_le.1 (fun h1=>by have:=this.2 h1;omega)
theorem a3q(q:Rat):signed (negB q) q.num.natAbs=q.num:=by
 unfold signed negB
 by_cases h:q<0
 ·have:=(a4d q).1 h;simp[h];omega
 have:¬q.num<0:=fun h1=>h ((a4d q).2 h1)
 simp[h];omega
theorem a7f(q:Rat):denN (a0a q)=q.den:=by
 unfold denN a0a denB
 have:=q.den_nz
 by_cases h:q.den=1
 ·simp[h]
 rw[if_neg h,if_neg (fun e=>this (bytesOf_eq_nil.1 e)),a0c]
theorem c9b(q:Rat):a2p (negB q) (numB q) (a0a q)=true:=by
 have hd:=q.den_nz
 have hr:Nat.gcd q.num.natAbs q.den=1:=q.reduced
 unfold a2p numB a0a denB
 rw[b3e,a0c]
 by_cases h1:q.den=1
 ·rw[if_pos h1]
  by_cases h0:q.num.natAbs=0
  ·have:q.num=0:=by omega
   have hn:negB q=false:=by
    unfold negB;have:=(a4d q);simp;intro h;have:=(a4d q).1 h;omega
   rw[h0,a0y,hn];simp[a9t]
  have:=mt bytesOf_eq_nil.1 h0
  simp[this,a9t]
 rw[if_neg h1,b3e,a0c]
 have h0:q.num.natAbs≠0:=by
  intro e;rw[e,Nat.gcd_zero_left]at hr;exact h1 hr
 have h2:=mt bytesOf_eq_nil.1 h0
 have h3:bytesOf q.den≠[1]:=by rw[<- a1d];exact fun e=>h1 (a4y e)
 simp[h2,h3,hr]
theorem b2z(q:Rat):decR (negB q) (numB q) (a0a q)=q:=by
 unfold decR
 rw[if_pos (c9b q),a7f]
 show mkRat (signed _ (bv (bytesOf _))) _=_
 rw[a0c,a3q,Rat.mkRat_self]
theorem b3m{den:List UInt8}(h:norm den=den):denN den≠0:=by
 unfold denN
 by_cases e:den=[]
 ·simp[e]
 rw[if_neg e]
 intro h0
 rw[a5g,h0,a0y]at h
 exact e h.symm
theorem gcd_denN{num den:List UInt8}{neg:Bool}(h:a2p neg num den=true):Nat.gcd (bv num) (denN den)=1:=by
 unfold a2p at h
 simp only[Bool.and_eq_true,beq_iff_eq]at h
 obtain⟨⟨h1,h2⟩,h3⟩:=h
 unfold denN
 by_cases e:num=[]
 ·rw[if_pos e]at h3;simp at h3;simp[h3.2,e]
 rw[if_neg e]at h3
 by_cases e2:den=[]
 ·simp[e2]
 rw[if_neg e2];simp[e2]at h3;exact h3.2
theorem b2p{n:Int}{d:Nat}(hd:d≠0)(h:Nat.gcd n.natAbs d=1):(mkRat n d).num=n/\(mkRat n d).den=d:=by
 rw[Rat.num_mkRat,Rat.den_mkRat,if_neg hd,if_neg hd,Nat.gcd_comm,h];simp
theorem a3t(b:Bool)(n:Nat):(signed b n).natAbs=n:=by unfold signed;cases b<;>simp
theorem d2m{neg:Bool}{num den:List UInt8}(h:a2p neg num den=true) :
  negB (decR neg num den)=neg/\numB (decR neg num den)=num/\a0a (decR neg num den)=den:=by
 have hg:=gcd_denN h
 have h':=h
 unfold a2p at h
 simp only[Bool.and_eq_true,beq_iff_eq]at h
 obtain⟨⟨h1,h2⟩,h3⟩:=h
 have hd:=b3m h2
 have e:=b2p (n:=signed neg (bv num)) (d:=denN den) hd (by rw[a3t];exact hg)
 unfold decR
 rw[if_pos h']
 refine⟨?_,?_,?_⟩
 ·have:=a4d (mkRat (signed neg (bv num)) (denN den))
  rw[e.1]at this
  unfold negB
  rw[Bool.eq_iff_iff,decide_eq_true_iff,this]
  unfold signed
  by_cases e0:num=[]
  ·rw[if_pos e0]at h3;simp at h3;simp[h3.1]
  have:bv num≠0:=fun e1=>e0 (by rw[a5g,e1,a0y]at h1;exact h1.symm)
  cases neg<;>simp<;>omega
 ·unfold numB;rw[e.1,a3t,<-a5g];exact h1
 unfold a0a denB;rw[e.2]
 unfold denN
 by_cases e0:den=[]
 ·simp[e0]
 rw[if_neg e0]
 have:bv den≠1:=by
  intro e1
  have hd1:den=[1]:=by rw[a5g,e1,a1d]at h2;exact h2.symm
  by_cases e2:num=[]
  ·rw[if_pos e2]at h3;simp at h3;exact e0 h3.2
  rw[if_neg e2]at h3;simp[hd1]at h3
 rw[if_neg this,<-a5g];exact h2
theorem b6g{neg:Bool}{num den:List UInt8}(h:a2p neg num den=false):decR neg num den=0:=by
 unfold decR;rw[h];simp
theorem c0v:negB 0=false/\numB 0=[]/\a0a 0=[]:=by
 refine⟨by decide,?_,?_⟩
 ·show bytesOf 0=[];exact a0y
 show denB 1=[];rfl
theorem b6e{neg:Bool}{n d:Nat}(hd:d≠0) :
  (n=0->mkRat (signed neg n) d=0) /\
  (n≠0->negB (mkRat (signed neg n) d)=neg/\numB (mkRat (signed neg n) d)=bytesOf (n/Nat.gcd n d)/\a0a (mkRat (signed neg n) d)=denB (d/Nat.gcd n d)):=by
 refine⟨fun h=>by subst h;simp[signed],fun h=>⟨?_,?_,?_⟩⟩
 ·have hq:=a4d (mkRat (signed neg n) d)
  unfold negB
  rw[Bool.eq_iff_iff,decide_eq_true_iff,hq,Rat.num_mkRat,if_neg hd,a3t,Nat.gcd_comm]
  have hg:0<Nat.gcd n d:=Nat.gcd_pos_of_pos_right n (by omega)
  have hle:Nat.gcd n d<=n:=Nat.le_of_dvd (by omega) (Nat.gcd_dvd_left n d)
  have h1:0<n/Nat.gcd n d:=Nat.div_pos hle hg
  unfold signed
  cases neg
  ·simp;exact Int.ediv_nonneg (by omega) (by omega)
  simp only[if_true,iff_true]
  rw[Int.neg_ediv_of_dvd (by exact_mod_cast Nat.gcd_dvd_left n d)]
  have:((n/Nat.gcd n d:Nat):Int)=(n:Int)/(Nat.gcd n d:Int):=by simp
  omega
 ·unfold numB;rw[Rat.num_mkRat,if_neg hd,a3t,Nat.gcd_comm]
  congr 1
  unfold signed
  cases neg
  ·simp only[Bool.false_eq_true,if_false]
   rw[show(n:Int)/(Nat.gcd n d:Int)=((n/Nat.gcd n d:Nat):Int) by simp,Int.natAbs_natCast]
  simp only[if_true]
  rw[Int.neg_ediv_of_dvd (by exact_mod_cast Nat.gcd_dvd_left n d),Int.natAbs_neg,
   show(n:Int)/(Nat.gcd n d:Int)=((n/Nat.gcd n d:Nat):Int) by simp,Int.natAbs_natCast]
 unfold a0a;rw[Rat.den_mkRat,if_neg hd,a3t,Nat.gcd_comm]
theorem B_pow(n:Nat):(256:Nat)^n=4294967296^(n/4)*2^(8*(n%4)):=by
 have h:n=4*(n/4)+n%4:=by omega
 have e:(256:Nat)^n=256^(4*(n/4)+n%4):=congrArg _ h
 rw[e,Nat.pow_add,Nat.pow_mul,Nat.pow_mul]
theorem b8n(xs:List Nat)(j:Nat):4294967296^j*xs.getD j 0<=lv xs:=by
 induction xs generalizing j with
 | nil=>simp
 | cons x xs ih =>
  cases j with
  | zero=>simp[a1w]
  | succ j =>
   have:=ih j
   rw[List.getD_cons_succ,a1w,Nat.pow_succ,Nat.mul_comm (4294967296^j),Nat.mul_assoc]
   omega
theorem d0r{x b m:Nat}(hx:x<2^m):x ||| b*2^m=x+b*2^m:=by
 rw[Nat.or_comm,Nat.mul_comm b,<-Nat.two_pow_add_eq_or_of_lt hx,Nat.add_comm]
theorem a5p{a b c:Nat}(h:a*b<a*c):b<c:=Nat.lt_of_mul_lt_mul_left h
theorem b8g{xs:List Nat}{i x b:Nat}(hlt:lv xs<256^i)(hx:x=xs.getD (i/4) 0)(hi:i/4<xs.length)(hb:b<256) :
  x+b*2^(8*(i%4))<4294967296/\x ||| (b%4294967296*2^(8*(i%4))%4294967296)=x+b*2^(8*(i%4)) /\
  lv (xs.set (i/4) (x+b*2^(8*(i%4))))=lv xs+b*256^i:=by
 have h1:=b8n xs (i/4)
 rw[<- hx]at h1
 have h2:x<2^(8*(i%4)):=by
  refine a5p (a:=4294967296^(i/4)) ?_
  rw[<- B_pow];omega
 have h3:x+b*2^(8*(i%4))<256*2^(8*(i%4)):=by
  have:b*2^(8*(i%4))+2^(8*(i%4))<=256*2^(8*(i%4)):=by
   rw[<- Nat.succ_mul];exact Nat.mul_le_mul_right _ hb
  omega
 have h4:256*2^(8*(i%4))<=4294967296:=by
  have:2^(8*(i%4))<=2^24:=Nat.pow_le_pow_right (by decide) (by omega)
  have e:(2:Nat)^24=16777216:=by decide
  omega
 refine⟨by omega,?_,?_⟩
 ·rw[Nat.mod_eq_of_lt (show b<4294967296 by omega),Nat.mod_eq_of_lt (by omega),d0r h2]
 have:=b8m xs (i/4) (x+b*2^(8*(i%4))) hi
 rw[<- hx,Nat.mul_add]at this
 rw[B_pow i,Nat.mul_left_comm]
 omega
theorem a9g(l:List UInt8)(i:Nat)(hi:i<l.length):bv (l.drop (l.length-(i+1)))=bv (l.drop (l.length-i))+(l.getD (l.length-1-i) 0).toNat*256^i:=by
 have h:l.drop (l.length-(i+1))=l.getD (l.length-1-i) 0::l.drop (l.length-i):=by
  rw[show l.length-(i+1)=l.length-1-i by omega,List.drop_eq_getElem_cons (by omega)]
  congr 1
  ·rw[List.getD_eq_getElem?_getD,List.getElem?_eq_getElem (by omega)];rfl
  rw[show l.length-1-i+1=l.length-i by omega]
 rw[h,a9h,List.length_drop,show l.length-(l.length-i)=i by omega,Nat.add_comm]
theorem b8y(l:List UInt8)(i:Nat)(hi:i<=l.length):bv (l.drop (l.length-i))<256^i:=by
 have:=b4c (l.drop (l.length-i))
 rwa[List.length_drop,show l.length-(l.length-i)=i by omega]at this
theorem b4p(xs:List Nat)(hs:Small xs)(j:Nat):xs.getD j 0=lv xs/4294967296^j%4294967296:=by
 induction xs generalizing j with
 | nil=>simp[lv]
 | cons x xs ih =>
  obtain⟨hx,hxs⟩:=small_cons.1 hs
  cases j with
  | zero=>rw[List.getD_cons_zero,a1w];omega
  | succ j =>
   rw[List.getD_cons_succ,ih hxs,a1w,Nat.pow_succ,Nat.mul_comm (4294967296^j),<-Nat.div_div_eq_div_mul]
   congr 2;omega
theorem c9m(xs:List Nat)(hs:Small xs)(i:Nat):xs.getD (i/4) 0/2^(8*(i%4))%256=lv xs/256^i%256:=by
 rw[b4p xs hs,B_pow i,<-Nat.div_div_eq_div_mul]
 have h:(4294967296:Nat)=2^(8*(i%4))*(256*2^(24-8*(i%4))):=by
  have:(256:Nat)=2^8:=by decide
  rw[this,<-Nat.pow_add,<-Nat.pow_add,show 8*(i%4)+(8+(24-8*(i%4)))=32 by omega]
 have e:∀M:Nat,M%4294967296/2^(8*(i%4))%256=M/2^(8*(i%4))%256:=fun M=>by
  rw[h,Nat.mod_mul_right_div_self,Nat.mod_mod_of_dvd _ (Nat.dvd_mul_right _ _)]
 exact e _
theorem c9k(l:List UInt8)(N i:Nat)(b:UInt8)(hi:i<l.length)(h:bv (l.drop (l.length-i))=N%256^i)(hb:b.toNat=N/256^i%256) :
  bv ((l.set (l.length-1-i) b).drop (l.length-(i+1)))=N%256^(i+1):=by
 have e:=a9g (l.set (l.length-1-i) b) i (by rw[List.length_set];exact hi)
 rw[List.length_set]at e
 rw[e,List.drop_set_of_lt (by omega),h]
 rw[show(l.set (l.length-1-i) b).getD (l.length-1-i) 0=b by rw[List.getD_eq_getElem?_getD,List.getElem?_set_self (by omega)];rfl,hb,Nat.pow_succ,Nat.mod_mul,Nat.mul_comm]
theorem a0n(l:List Nat)(i:Nat):lv (l.take (i+1))=lv (l.take i)+4294967296^i*l.getD i 0:=by
 rcases Nat.lt_or_ge i l.length with h | h
 ·rw[List.take_succ_eq_append_getElem h,c4s,List.length_take,Nat.min_eq_left (by omega),List.getD_eq_getElem?_getD,List.getElem?_eq_getElem h];rfl
 rw[List.take_of_length_le (by omega),List.take_of_length_le (by omega),List.getD_eq_getElem?_getD,List.getElem?_eq_none h];simp
theorem b9g(l:List Nat)(i x:Nat):(l.set i x).take i=l.take i:=by
 rw[List.take_set_of_le (by omega)]
theorem b1t(l:List Nat)(i x:Nat)(h:i<l.length):(l.set i x).getD i 0=x:=by
 rw[List.getD_eq_getElem?_getD,List.getElem?_set_self h];rfl
theorem getD_set_ne{l:List Nat}{i j x:Nat}(h:i≠j):(l.set i x).getD j 0=l.getD j 0:=by
 rw[List.getD_eq_getElem?_getD,List.getD_eq_getElem?_getD,List.getElem?_set_ne h]
theorem a4e(l:List Nat)(i x:Nat)(h:i<l.length):lv ((l.set i x).take (i+1))=lv (l.take i)+4294967296^i*x:=by
 rw[a0n,b9g,b1t l i x h]
theorem a0x{l:List Nat}{i:Nat}(h:l.length<=i):l.take i=l:=List.take_of_length_le h
theorem a1c(l:List UInt8):(limbsOf (bv l)).length<=(l.length+3)/4:=by
 apply a1z
 have h:=b4c l
 have e:(4294967296:Nat)^((l.length+3)/4)=256^(4*((l.length+3)/4)):=by rw[Nat.pow_mul]
 have:(256:Nat)^l.length<=256^(4*((l.length+3)/4)):=Nat.pow_le_pow_right (by decide) (by omega)
 omega
theorem b4r{outs xs ys:List Nat}{i c o:Nat}(hi:i<outs.length)(h:lv (outs.take i)+4294967296^i*c=lv (xs.take i)+lv (ys.take i))
  (ho:o=xs.getD i 0+ys.getD i 0+c) :
  lv ((outs.set i (o%4294967296)).take (i+1))+4294967296^(i+1)*(o/4294967296)=lv (xs.take (i+1))+lv (ys.take (i+1)):=by
 rw[a4e _ _ _ hi,a0n xs,a0n ys,Nat.pow_succ,Nat.mul_assoc]
 have e:4294967296^i*(o%4294967296)+4294967296^i*(4294967296*(o/4294967296))=4294967296^i*o:=by
  rw[<- Nat.mul_add,Nat.mod_add_div]
 rw[ho,Nat.mul_add,Nat.mul_add,<-ho]at e
 omega
theorem a9k{outs xs ys:List Nat}{i b d b':Nat}(hi:i<outs.length)(h:lv (outs.take i)+lv (ys.take i)=lv (xs.take i)+4294967296^i*b)
  (hd:d+ys.getD i 0+b=xs.getD i 0+4294967296*b') :
  lv ((outs.set i d).take (i+1))+lv (ys.take (i+1))=lv (xs.take (i+1))+4294967296^(i+1)*b':=by
 rw[a4e _ _ _ hi,a0n xs,a0n ys,Nat.pow_succ,Nat.mul_assoc]
 have e:=congrArg (fun t=>4294967296^i*t) hd
 simp only[Nat.mul_add]at e
 omega
def bor(x y c:Nat):Nat:=if x<y+c then 1 else 0
theorem bor_le(x y c:Nat):bor x y c<=1:=by unfold bor;split<;>omega
theorem bor_eq(x y c:Nat)(hx:x<4294967296)(hy:y<4294967296)(hc:c<=1):(x+4294967296-y-c)%4294967296+y+c=x+4294967296*bor x y c:=by
 unfold bor;split<;>omega
theorem top_bit(n:Nat)(h:n<4294967296):n/2147483648=if n.testBit 31 then 1 else 0:=by
 rw[Nat.testBit_eq_decide_div_mod_eq,show(2:Nat)^31=2147483648 by decide]
 have:n/2147483648<2:=by omega
 by_cases h1:n/2147483648%2=1
 ·simp[h1];omega
 simp[h1];omega
theorem c9f(n:Nat)(h:n<4294967296):n.testBit 31=decide (2147483648<=n):=by
 rw[Nat.testBit_eq_decide_div_mod_eq,show(2:Nat)^31=2147483648 by decide]
 congr 1;simp;omega
theorem c5n(x y c d:Nat)(hx:x<4294967296)(hy:y<4294967296)(hc:c<=1)(hd:d=(x+4294967296-y-c)%4294967296) :
  (((4294967295 ^^^ x) &&& y) ||| ((4294967295 ^^^ (x ^^^ y)) &&& d))/2147483648=bor x y c:=by
 have e:(4294967296:Nat)=2^32:=by decide
 have hm:4294967295<2^32:=by decide
 have hx':x<2^32:=by omega
 have hy':y<2^32:=by omega
 have hd':d<2^32:=by omega
 have h1:((4294967295 ^^^ x) &&& y) ||| ((4294967295 ^^^ (x ^^^ y)) &&& d)<2^32 :=
  Nat.or_lt_two_pow (Nat.and_lt_two_pow _ hy') (Nat.and_lt_two_pow _ hd')
 rw[top_bit _ (by omega)]
 simp only[Nat.testBit_or,Nat.testBit_and,Nat.testBit_xor]
 rw[c9f x hx,c9f y hy,c9f d (by omega),show(4294967295:Nat).testBit 31=true by decide]
 unfold bor
 by_cases a:2147483648<=x<;>by_cases b:2147483648<=y<;>by_cases f:2147483648<=d<;>by_cases g:x<y+c<;>simp[a,b,f,g]<;>omega
theorem a5n(xs:List Nat)(i:Nat)(h:i<=xs.length):lv xs=lv (xs.take i)+4294967296^i*lv (xs.drop i):=by
 have:=a8z (xs.take i) (xs.drop i)
 rw[List.take_append_drop,List.length_take,Nat.min_eq_left h]at this
 exact this
theorem a9c{xs:List Nat}{i:Nat}(h:i<xs.length):xs.drop i=xs.getD i 0::xs.drop (i+1):=by
 rw[List.drop_eq_getElem_cons h,List.getD_eq_getElem?_getD,List.getElem?_eq_getElem h];rfl
theorem a6p{xs ys:List Nat}{i:Nat}(hx:Small xs)(hi:i<xs.length)(hl:xs.length=ys.length)(ht:xs.drop (i+1)=ys.drop (i+1))(h:xs.getD i 0<ys.getD i 0) :
  lv xs<lv ys:=by
 rw[a5n xs i (by omega),a5n ys i (by omega),a9c (xs:=xs) hi,a9c (xs:=ys) (i:=i) (by omega),a1w,a1w,ht]
 have h1:=a5h _ (hx.take i)
 rw[List.length_take,Nat.min_eq_left (by omega)]at h1
 have h2:4294967296^i*(xs.getD i 0+4294967296*lv (ys.drop (i+1))+1)<=4294967296^i*(ys.getD i 0+4294967296*lv (ys.drop (i+1))):=Nat.mul_le_mul_left _ (by omega)
 rw[Nat.mul_add,Nat.mul_one]at h2
 omega
theorem b3h{xs ys:List Nat}(h:xs.drop 0=ys.drop 0):lv xs=lv ys:=by
 rw[List.drop_zero,List.drop_zero]at h;rw[h]
theorem b3k{xs ys:List Nat}{i:Nat}(hi:i<xs.length)(hl:xs.length=ys.length)(ht:xs.drop (i+1)=ys.drop (i+1))(h:xs.getD i 0=ys.getD i 0):xs.drop i=ys.drop i:=by
 rw[a9c (xs:=xs) hi,a9c (xs:=ys) (i:=i) (by omega),ht,h]
theorem c6y{outs ys:List Nat}{i k u v old c t R:Nat}(hi:i+k<outs.length)(hold:old=outs.getD (i+k) 0)(hv:v=ys.getD k 0)(ht:t=u*v+old+c)
  (h:lv outs+4294967296^(i+k)*c=R+4294967296^i*(u*lv (ys.take k))) :
  lv (outs.set (i+k) (t%4294967296))+4294967296^(i+(k+1))*(t/4294967296)=R+4294967296^i*(u*lv (ys.take (k+1))):=by
 have h1:=b8m outs (i+k) (t%4294967296) hi
 rw[<- hold]at h1
 have e:4294967296^(i+k)*(t%4294967296)+4294967296^(i+k)*(4294967296*(t/4294967296))=4294967296^(i+k)*t:=by
  rw[<- Nat.mul_add,Nat.mod_add_div]
 rw[show i+(k+1)=i+k+1 by omega,Nat.pow_succ,Nat.mul_assoc,a0n,<-hv,Nat.mul_add u,Nat.mul_add (4294967296^i),<-Nat.mul_assoc u,Nat.mul_comm u (4294967296^k),Nat.mul_assoc (4294967296^k),
  <- Nat.mul_assoc (4294967296^i) (4294967296^k),<-Nat.pow_add]
 rw[ht,Nat.mul_add,Nat.mul_add,<-ht]at e
 omega
theorem d1e{outs xs ys:List Nat}{i u c:Nat}(hi:i+ys.length<outs.length)(h0:outs.getD (i+ys.length) 0=0)(hu:u=xs.getD i 0)
  (h:lv outs+4294967296^(i+ys.length)*c=lv (xs.take i)*lv ys+4294967296^i*(u*lv (ys.take ys.length))) :
  lv (outs.set (i+ys.length) c)=lv (xs.take (i+1))*lv ys:=by
 have h1:=b8m outs (i+ys.length) c hi
 rw[h0,Nat.mul_zero,Nat.add_zero]at h1
 rw[h1,h,a0n,<-hu,a0x (Nat.le_refl _),Nat.add_mul,Nat.mul_assoc]
theorem c4t{xs:List Nat}(hs:Small xs){j:Nat}(h:lv xs<4294967296^j):xs.getD j 0=0:=by
 rw[b4p xs hs,Nat.div_eq_of_lt h]
theorem b2s{a b m n:Nat}(ha:a<4294967296^m)(hb:b<4294967296^n):a*b<4294967296^(m+n):=by
 rw[Nat.pow_add]
 rcases Nat.eq_zero_or_pos b with h | h
 ·subst h;rw[Nat.mul_zero];exact Nat.mul_pos (Nat.pow_pos (by decide)) (Nat.pow_pos (by decide))
 exact Nat.lt_of_lt_of_le (Nat.mul_lt_mul_of_pos_right ha h) (Nat.mul_le_mul_left _ (Nat.le_of_lt hb))
theorem a4w{u v o c:Nat}(hu:u<4294967296)(hv:v<4294967296)(ho:o<4294967296)(hc:c<4294967296):u*v<=18446744065119617025/\(u*v+o+c)/4294967296<4294967296:=by
 have h:u*v<=4294967295*4294967295:=Nat.mul_le_mul (by omega) (by omega)
 have e:4294967295*4294967295=18446744065119617025:=by decide
 rw[e]at h
 refine⟨h,?_⟩
 rw[Nat.div_lt_iff_lt_mul (by decide)]
 have e2:4294967296*4294967296=18446744073709551616:=by decide
 rw[e2];omega
theorem b3j{xs:List Nat}{i:Nat}(h:i<xs.length):lv (xs.drop i)=xs.getD i 0+4294967296*lv (xs.drop (i+1)):=by
 rw[a9c h,a1w]
theorem b0g{xs:List Nat}{i x:Nat}:(xs.set i x).drop (i+1)=xs.drop (i+1):=by
 rw[List.drop_set_of_lt (by omega)]
theorem b7v{outs xs:List Nat}{i d r x:Nat}(hd:0<d)(hi:i<xs.length)(hio:i<outs.length)(hx:x=xs.getD i 0)
  (hq:lv (outs.drop (i+1))=lv (xs.drop (i+1))/d) (hr:r=lv (xs.drop (i+1))%d) :
  lv ((outs.set i ((r*4294967296+x)/d)).drop i)=lv (xs.drop i)/d/\(r*4294967296+x)%d=lv (xs.drop i)%d:=by
 rw[b3j (by rw[List.length_set];exact hio),b0g,b1t _ _ _ hio,b3j hi,<-hx,hq]
 have h:=Nat.div_add_mod (lv (xs.drop (i+1))) d
 rw[<- hr]at h
 generalize lv (xs.drop (i+1))=M at *
 generalize hQ:M/d=q at *
 have e:x+4294967296*M=(r*4294967296+x)+d*(4294967296*q):=by
  rw[<- h,Nat.mul_add,Nat.mul_left_comm];omega
 rw[e,Nat.add_mul_div_left _ _ hd,Nat.add_mul_mod_self_left]
 exact⟨rfl,rfl⟩
theorem a6n{r x:Nat}(hx:x<4294967296):r*4294967296 ||| x=r*4294967296+x:=by
 have:=d0r (x:=x) (b:=r) (m:=32) hx
 rw[Nat.or_comm,Nat.add_comm]at this
 exact this
theorem b7w{r x d:Nat}(hr:r<d)(hx:x<4294967296):(r*4294967296+x)/d<4294967296:=by
 rw[Nat.div_lt_iff_lt_mul (by omega)]
 have:(r+1)*4294967296<=d*4294967296:=Nat.mul_le_mul_right _ hr
 rw[Nat.mul_comm 4294967296 d];omega
theorem b5p{s:Nat}(h:s<=32):(2:Nat)^s∣4294967296:=by
 have:(4294967296:Nat)=2^32:=by decide
 rw[this];exact Nat.pow_dvd_pow 2 h
theorem c6e{outs xs:List Nat}{i s u o t:Nat}(hs:s<32)(hso:Small outs)(hu:u=xs.getD i 0)(hu2:u<4294967296)(ho:o=outs.getD i 0)(hi:i<outs.length)(ht:t=u*2^s)
  (hxs:Small xs) (hix:i<xs.length) (h:lv outs=lv (xs.take i)*2^s) :
  o ||| t%4294967296=o+t%4294967296/\o+t%4294967296<4294967296/\outs.getD (i+1) 0=0/\t<4294967296*2^s/\t/4294967296<4294967296 /\
  (i+1<outs.length->lv ((outs.set i (o+t%4294967296)).set (i+1) (t/4294967296))=lv (xs.take (i+1))*2^s) /\
  (i+1=outs.length->lv xs*2^s<4294967296^outs.length->lv (outs.set i (o+t%4294967296))=lv (xs.take (i+1))*2^s):=by
 have h1:lv (xs.take i)<4294967296^i:=by
  have:=a5h _ (hxs.take i)
  rwa[List.length_take,Nat.min_eq_left (by omega)]at this
 have hp:0<2^s:=Nat.pow_pos (by decide)
 have h2:lv outs<4294967296^i*2^s:=by rw[h];exact Nat.mul_lt_mul_of_pos_right h1 hp
 have hle:(2:Nat)^s<=2^31:=Nat.pow_le_pow_right (by decide) (by omega)
 have e31:(2:Nat)^31=2147483648:=by decide
 have ho2:o<2^s:=by
  have:=b8n outs i
  rw[<- ho]at this
  exact a5p (a:=4294967296^i) (by omega)
 have h0:outs.getD (i+1) 0=0:=by
  apply c4t hso
  rw[Nat.pow_succ]
  have:4294967296^i*2^s<=4294967296^i*4294967296:=Nat.mul_le_mul_left _ (by omega)
  omega
 obtain⟨b,hb⟩:2^s∣t%4294967296:=(Nat.dvd_mod_iff (b5p (by omega))).2 (by rw[ht];exact Nat.dvd_mul_left _ _)
 have hor:o ||| t%4294967296=o+t%4294967296:=by rw[hb,Nat.mul_comm];exact d0r ho2
 have hlt:o+t%4294967296<4294967296:=by
  obtain⟨d,hd⟩:=b5p (s:=s) (by omega)
  have hm:t%4294967296<4294967296:=Nat.mod_lt _ (by decide)
  rw[hb]at hm ⊢
  have hbd:b<d:=by rw[hd]at hm;exact a5p hm
  have:2^s*(b+1)<=2^s*d:=Nat.mul_le_mul_left _ hbd
  rw[<- hd,Nat.mul_add,Nat.mul_one]at this
  omega
 have htb:t<4294967296*2^s:=by rw[ht];exact Nat.mul_lt_mul_of_pos_right hu2 hp
 have hdiv:t/4294967296<4294967296:=by
  rw[Nat.div_lt_iff_lt_mul (by decide)]
  have:4294967296*2^s<=4294967296*4294967296:=Nat.mul_le_mul_left _ (by omega)
  omega
 have e1:=b8m outs i (o+t%4294967296) hi
 rw[<- ho,Nat.mul_add]at e1
 have hmd:4294967296^i*(t%4294967296)+4294967296^i*(4294967296*(t/4294967296))=4294967296^i*t:=by rw[<- Nat.mul_add,Nat.mod_add_div]
 have hgoal:lv (xs.take (i+1))*2^s=lv outs+4294967296^i*t:=by
  rw[a0n,<-hu,Nat.add_mul,<-h,Nat.mul_assoc,<-ht]
 refine⟨hor,hlt,h0,htb,hdiv,fun hl=>?_,fun hl hfit=>?_⟩
 ·have e2:=b8m (outs.set i (o+t%4294967296)) (i+1) (t/4294967296) (by rw[List.length_set];exact hl)
  rw[getD_set_ne (by omega),h0,Nat.mul_zero,Nat.add_zero,Nat.pow_succ,Nat.mul_assoc]at e2
  rw[hgoal];omega
 have hx:lv (xs.take (i+1))<=lv xs:=by
  have:=a8z (xs.take (i+1)) (xs.drop (i+1))
  rw[List.take_append_drop]at this
  omega
 have:t<4294967296:=by
  have h3:4294967296^i*t<4294967296^i*4294967296:=by
   have:=Nat.mul_le_mul_right (2^s) hx
   rw[<- hl,Nat.pow_succ]at hfit
   omega
  exact a5p h3
 rw[hgoal]
 rw[Nat.mod_eq_of_lt this]at e1 ⊢
 omega
theorem c9r(xs:List Nat)(hs:Small xs)(i s:Nat)(h:s<=32):(xs.getD i 0+4294967296*xs.getD (i+1) 0)/2^s%4294967296=lv xs/2^s/4294967296^i%4294967296:=by
 rw[Nat.div_div_eq_div_mul (lv xs),Nat.mul_comm (2^s),<-Nat.div_div_eq_div_mul,b4p xs hs i,b4p xs hs (i+1),Nat.pow_succ,<-Nat.div_div_eq_div_mul]
 generalize lv xs/4294967296^i=M
 obtain⟨d,hd⟩:=b5p h
 have hp:0<2^s:=Nat.pow_pos (by decide)
 have e:M=(M%4294967296+4294967296*(M/4294967296%4294967296))+2^s*(4294967296*(d*(M/4294967296/4294967296))):=by
  have:2^s*(4294967296*(d*(M/4294967296/4294967296)))=4294967296*(4294967296*(M/4294967296/4294967296)):=by
   rw[Nat.mul_left_comm,<-Nat.mul_assoc (2^s),<-hd]
  rw[this];omega
 have e2:M/2^s%4294967296=(M%4294967296+4294967296*(M/4294967296%4294967296))/2^s%4294967296:=by
  have:=congrArg (fun t=>t/2^s%4294967296) e
  rw[this,Nat.add_mul_div_left _ _ hp,Nat.add_mul_mod_self_left]
 exact e2.symm
theorem c6d{outs xs:List Nat}(hs:Small xs){i s:Nat}(hsh:s<=32)(hi:i<outs.length)(h:lv (outs.take i)=lv xs/2^s%4294967296^i) :
  lv ((outs.set i ((xs.getD i 0+4294967296*xs.getD (i+1) 0)/2^s%4294967296)).take (i+1))=lv xs/2^s%4294967296^(i+1):=by
 rw[a4e _ _ _ hi,h,c9r xs hs i s hsh,Nat.pow_succ,Nat.mod_mul]
theorem b5v{zs z0 ds:List Nat}{k q c b r b' t:Nat}(hk:k<zs.length)(hz:zs.getD k 0=z0.getD k 0)(ht:t=q*ds.getD k 0+c)(hr:r+t%4294967296+b=zs.getD k 0+4294967296*b')
  (h:lv (zs.take k)+q*lv (ds.take k)=lv (z0.take k)+4294967296^k*(c+b)) :
  lv ((zs.set k r).take (k+1))+q*lv (ds.take (k+1))=lv (z0.take (k+1))+4294967296^(k+1)*(t/4294967296+b'):=by
 rw[a4e _ _ _ hk,a0n ds,a0n z0,Nat.pow_succ,Nat.mul_assoc,<-hz,Nat.mul_add q,Nat.mul_left_comm q]
 have hm:=Nat.mod_add_div t 4294967296
 have e:r+q*ds.getD k 0+(c+b)=zs.getD k 0+4294967296*(t/4294967296+b'):=by
  rw[Nat.mul_add];omega
 have e2:=congrArg (fun y=>4294967296^k*y) e
 simp only[Nat.mul_add]at e2 h ⊢
 omega
theorem b1p{zs z0 ds:List Nat}{n q c b r b':Nat}(hk:n<zs.length)(hz:zs.getD n 0=z0.getD n 0)(hr:r+c+b=zs.getD n 0+4294967296*b')
  (h:lv (zs.take n)+q*lv (ds.take n)=lv (z0.take n)+4294967296^n*(c+b)) :
  lv ((zs.set n r).take (n+1))+q*lv (ds.take n)=lv (z0.take (n+1))+4294967296^(n+1)*b':=by
 rw[a4e _ _ _ hk,a0n z0,Nat.pow_succ,Nat.mul_assoc,<-hz]
 have e2:=congrArg (fun y=>4294967296^n*y) hr
 simp only[Nat.mul_add]at e2 h ⊢
 omega
theorem b7s{U D q L P:Nat}(hD:0<D)(hq:U/D<=q)(h:L+q*D=U+P*0):q=U/D/\L=U%D:=by
 rw[Nat.mul_zero,Nat.add_zero]at h
 have h1:q<=U/D:=by rw[Nat.le_div_iff_mul_le hD];omega
 have h2:q=U/D:=by omega
 subst h2
 have:=Nat.div_add_mod U D
 rw[Nat.mul_comm]at this
 exact⟨rfl,by omega⟩
theorem c1r{U D q L P:Nat}(hD:0<D)(hq:U/D<=q)(hq2:q*D<U+D)(hL:L<P)(h:L+q*D=U+P*1):q-1=U/D/\1<=q/\L+D=U%D+P:=by
 rw[Nat.mul_one]at h
 have h1:U<q*D:=by omega
 have h2:U/D<q:=by rw[Nat.div_lt_iff_lt_mul hD];exact h1
 have h3:=Nat.div_add_mod U D
 rw[Nat.mul_comm]at h3
 have h4:=c8u hD hq hq2
 generalize U/D=Q at *
 rcases h4 with e | e
 ·omega
 subst e
 refine⟨rfl,by omega,?_⟩
 rw[Nat.add_mul,Nat.one_mul]at h
 omega
theorem b3n{zs z1 ds:List Nat}{n c D R:Nat}(hn:n<zs.length)(hz:zs.getD n 0=z1.getD n 0)(hs:Small (zs.take n))(hR:R<4294967296^(n+1))
  (h:lv (zs.take n)+4294967296^n*c=lv (z1.take n)+lv (ds.take n)) (hD:lv (ds.take n)=D) (hL:lv (z1.take (n+1))+D=R+4294967296^(n+1)) :
  lv ((zs.set n ((zs.getD n 0+c)%4294967296)).take (n+1))=R:=by
 rw[a4e _ _ _ hn]
 rw[a0n,<-hz]at hL
 have h1:=a5h _ hs
 rw[List.length_take,Nat.min_eq_left (by omega)]at h1
 have hm:=Nat.mod_add_div (zs.getD n 0+c) 4294967296
 have e:=congrArg (fun y=>4294967296^n*y) hm
 simp only[Nat.mul_add]at e
 rw[Nat.pow_succ]at hL hR
 rw[hD]at h
 have hx:(zs.getD n 0+c)%4294967296<4294967296:=Nat.mod_lt _ (by decide)
 generalize (zs.getD n 0+c)%4294967296=x at *
 generalize (zs.getD n 0+c)/4294967296=y at *
 generalize 4294967296^n=P at *
 have hk:lv (zs.take n)+P*x+P*(4294967296*y)=R+P*4294967296:=by omega
 have hlt:lv (zs.take n)+P*x<P*4294967296:=by
  have:P*(x+1)<=P*4294967296:=Nat.mul_le_mul_left _ hx
  rw[Nat.mul_add,Nat.mul_one]at this
  omega
 have hy:y=1:=by
  rw[<- Nat.mul_assoc]at hk
  rcases Nat.lt_or_ge y 1 with h0 | h0
  ·obtain rfl:y=0:=by omega
   rw[Nat.mul_zero]at hk;omega
  rcases Nat.lt_or_ge 1 y with h2 | h2
  ·have:P*4294967296*2<=P*4294967296*y:=Nat.mul_le_mul_left _ h2
   omega
  omega
 subst hy
 rw[Nat.mul_one]at hk
 omega
/-! ### The guess: X = B^(n-2); top: the two leading limbs of u; d1, d2 the two leading limbs of d. -/
structure Lead(U D top d1 d2 u2 X D' U':Nat):Prop where
 X0:0<X
 hD:D=(d1*4294967296+d2)*X+D'
 hU:U=(top*4294967296+u2)*X+U'
 hD':D'<X
 hU':U'<X
 hd1:0<d1
 hd2:d2<4294967296
 hu2:u2<4294967296
 less:U<D*4294967296
theorem Lead.Dpos{U D top d1 d2 u2 X D' U':Nat}(h:Lead U D top d1 d2 u2 X D' U'):0<D:=by
 have:=Nat.mul_pos (Nat.mul_pos h.hd1 (show 0<4294967296 by decide)) h.X0
 rw[h.hD,Nat.add_mul];omega
theorem Lead.top_le{U D top d1 d2 u2 X D' U':Nat}(h:Lead U D top d1 d2 u2 X D' U'):top<=d1*4294967296+d2:=by
 have h1:(top*4294967296+u2)*X<(d1*4294967296+d2+1)*4294967296*X:=by
  have e:D*4294967296<(d1*4294967296+d2+1)*X*4294967296:=by
   refine Nat.mul_lt_mul_of_pos_right ?_ (by decide)
   rw[h.hD,Nat.add_mul _ 1,Nat.one_mul];have:=h.hD';omega
  rw[Nat.mul_right_comm]
  have:=h.less
  have:=h.hU
  omega
 have h2:=Nat.lt_of_mul_lt_mul_right h1
 omega
theorem Lead.start{U D top d1 d2 u2 X D' U':Nat}(h:Lead U D top d1 d2 u2 X D' U'):U/D<=top/d1 :=
 c5b h.X0 (by decide) h.hd1 h.hD h.hU h.hu2 h.hU'
theorem Lead.down{U D top d1 d2 u2 X D' U' g r:Nat}(h:Lead U D top d1 d2 u2 X D' U')(ht:top=g*d1+r)(hg:U/D<=g)(hc:4294967296<=g\/r*4294967296+u2<g*d2) :
  1<=g/\U/D<=g-1/\top=(g-1)*d1+(r+d1):=by
 have h1:1<=g:=by
  rcases hc with hc | hc
  ·omega
  rcases Nat.eq_zero_or_pos g with e | e
  ·subst e;rw[Nat.zero_mul]at hc;omega
  exact e
 have h2:U/D<g:=by
  rcases hc with hc | hc
  ·have:U/D<4294967296:=by rw[Nat.div_lt_iff_lt_mul h.Dpos,Nat.mul_comm];exact h.less
   omega
  refine c8t h.hD h.hU h.hU' h.Dpos ?_
  rw[ht,Nat.mul_add,Nat.add_mul,Nat.mul_assoc]
  omega
 refine⟨h1,by omega,?_⟩
 obtain⟨g',rfl⟩:∃g',g=g'+1:=⟨g-1,by omega⟩
 rw[ht,Nat.add_mul,Nat.one_mul,Nat.add_sub_cancel];omega
theorem Lead.stop{U D top d1 d2 u2 X D' U' g r:Nat}(h:Lead U D top d1 d2 u2 X D' U')(ht:top=g*d1+r)(hg:g<4294967296)(hc:¬r*4294967296+u2<g*d2):g*D<U+D:=by
 refine d2a h.hD h.hU h.hD' (by decide) h.hd1 (Nat.le_of_lt hg) ?_
 rw[ht,Nat.mul_add,Nat.add_mul,Nat.mul_assoc]
 omega
theorem Lead.broke{U D top d1 d2 u2 X D' U' g r:Nat}(h:Lead U D top d1 d2 u2 X D' U')(ht:top=g*d1+r)(hr:4294967296<=r):g<4294967296/\g*D<U+D:=by
 have hg:g<4294967296:=by
  rcases Nat.lt_or_ge g 4294967296 with hg | hg
  ·exact hg
  have h1:=h.top_le
  have h2:=Nat.mul_le_mul_right d1 hg
  have:=h.hd2
  rw[Nat.mul_comm 4294967296]at h2
  omega
 refine⟨hg,h.stop ht hg ?_⟩
 have h1:g*d2<=4294967295*4294967295:=Nat.mul_le_mul (by omega) (by have:=h.hd2;omega)
 have e:4294967295*4294967295=18446744065119617025:=by decide
 have h2:=Nat.mul_le_mul_right 4294967296 hr
 have e2:4294967296*4294967296=18446744073709551616:=by decide
 omega
theorem d1r{zs ds:List Nat}{n:Nat}(hzs:Small zs)(hds:Small ds)(hn:2<=n)(hdl:ds.length=n)(hzl:n+1<=zs.length)(hd1:0<ds.getD (n-1) 0)(hless:lv (zs.take (n+1))<lv ds*4294967296) :
  Lead (lv (zs.take (n+1))) (lv ds) (zs.getD n 0*4294967296+zs.getD (n-1) 0) (ds.getD (n-1) 0) (ds.getD (n-2) 0) (zs.getD (n-2) 0) (4294967296^(n-2)) (lv (ds.take (n-2))) (lv (zs.take (n-2))):=by
 obtain⟨m,rfl⟩:∃m,n=m+2:=⟨n-2,by omega⟩
 have e1:m+2-1=m+1:=by omega
 have e2:m+2-2=m:=by omega
 rw[e1]at hd1
 rw[e1,e2]
 have hT:lv ds=lv (ds.take m)+4294967296^m*(ds.getD m 0+4294967296*ds.getD (m+1) 0):=by
  have:=a0n ds (m+1)
  rw[a0x (by omega),a0n]at this
  rw[this,Nat.mul_add,Nat.pow_succ,Nat.mul_assoc];omega
 have hZ:lv (zs.take (m+3))=lv (zs.take m)+4294967296^m*(zs.getD m 0+4294967296*(zs.getD (m+1) 0+4294967296*zs.getD (m+2) 0)):=by
  have p1:4294967296^(m+1)=4294967296^m*4294967296:=Nat.pow_succ ..
  have p2:4294967296^(m+2)=4294967296^m*4294967296*4294967296:=by rw[Nat.pow_succ,p1]
  rw[a0n,a0n,a0n,p1,p2,Nat.mul_add,Nat.mul_add 4294967296,Nat.mul_add (4294967296^m)]
  simp only[Nat.mul_assoc];omega
 refine⟨Nat.pow_pos (by decide),?_,?_,?_,?_,hd1,hds.get _,hzs.get _,hless⟩
 ·rw[hT,Nat.mul_comm (4294967296^m),Nat.mul_comm 4294967296,Nat.add_comm (ds.getD m 0)];omega
 ·rw[show m+2+1=m+3 by omega,hZ,Nat.mul_comm (4294967296^m)]
  have:zs.getD m 0+4294967296*(zs.getD (m+1) 0+4294967296*zs.getD (m+2) 0)=(zs.getD (m+2) 0*4294967296+zs.getD (m+1) 0)*4294967296+zs.getD m 0:=by omega
  rw[this];omega
 ·have:=a5h _ (hds.take m);rwa[List.length_take,Nat.min_eq_left (by omega)]at this
 have:=a5h _ (hzs.take m);rwa[List.length_take,Nat.min_eq_left (by omega)]at this
theorem a1x{xs ys:List Nat}{k:Nat}(h:xs.drop k=ys.drop k):xs.getD k 0=ys.getD k 0:=by
 have e:∀l:List Nat,l.getD k 0=(l.drop k).getD 0 0:=fun l=>by
  rw[List.getD_eq_getElem?_getD,List.getD_eq_getElem?_getD,List.getElem?_drop,Nat.add_zero]
 rw[e,h,<-e]
theorem a1p{xs ys:List Nat}{k x:Nat}(h:xs.drop k=ys.drop k):(xs.set k x).drop (k+1)=ys.drop (k+1):=by
 rw[b0g,<-List.drop_drop,h,List.drop_drop]
theorem c3t:∀ (k x:Nat),x<2^k->k<=32->x<2^Lib.bitLen x
 | 0,x,h,_=>by
  have:x=0:=by simpa using h
  subst this;exact Nat.pow_pos (by decide)
 | k+1,x,h,hk=>by
  rcases Nat.eq_zero_or_pos x with h0 | h0
  ·subst h0;exact Nat.pow_pos (by decide)
  have h64:x<2^64:=Nat.lt_of_lt_of_le h (Nat.pow_le_pow_right (by decide) (by omega))
  rw[Lib.bitLen_half x (by omega) h64,Nat.add_comm,Nat.pow_succ]
  have:=c3t k (x/2) (by rw[Nat.pow_succ]at h;omega) (by omega)
  omega
theorem b2a:∀ (k x:Nat),x<2^k->k<=32->0<x->0<Lib.bitLen x/\2^(Lib.bitLen x-1)<=x
 | 0,x,h,_,h0=>by
  have:x=0:=by simpa using h
  omega
 | k+1,x,h,hk,h0=>by
  have h64:x<2^64:=Nat.lt_of_lt_of_le h (Nat.pow_le_pow_right (by decide) (by omega))
  rw[Lib.bitLen_half x (by omega) h64]
  refine⟨by omega,?_⟩
  rw[Nat.add_sub_cancel_left]
  rcases Nat.eq_zero_or_pos (x/2)with h1 | h1
  ·rw[h1]
   have:Lib.bitLen 0=0:=by decide
   rw[this];exact h0
  obtain⟨h2,h3⟩:=b2a k (x/2) (by rw[Nat.pow_succ]at h;omega) (by omega) h1
  have e:Lib.bitLen (x/2)=Lib.bitLen (x/2)-1+1:=by omega
  rw[e,Nat.pow_succ]
  omega
theorem b8q{x:Nat}(hx:0<x)(hx2:x<4294967296):∃s:Nat,s<32/\(32-(Lib.bitLen x:Int))=(s:Int)/\2147483648<=x*2^s/\x*2^s<4294967296:=by
 have e32:(2:Nat)^32=4294967296:=by decide
 have e31:(2:Nat)^31=2147483648:=by decide
 have h1:=c3t 32 x (by omega) (by omega)
 obtain⟨h2,h3⟩:=b2a 32 x (by omega) (by omega) hx
 have h4:Lib.bitLen x<=32:=Lib.bitLen_le x 32 (by omega) (by omega)
 refine⟨32-Lib.bitLen x,by omega,by omega,?_,?_⟩
 ·have:=Nat.mul_le_mul_right (2^(32-Lib.bitLen x)) h3
  rw[<- Nat.pow_add,show Lib.bitLen x-1+(32-Lib.bitLen x)=31 by omega]at this
  omega
 have:=Nat.mul_lt_mul_of_pos_right h1 (show 0<2^(32-Lib.bitLen x)from Nat.pow_pos (by decide))
 rw[<- Nat.pow_add,show Lib.bitLen x+(32-Lib.bitLen x)=32 by omega]at this
 omega
theorem b1r(ys:List Nat)(n:Nat)(hn:ys.length=n+1):4294967296^n*ys.getD n 0<=lv ys:=by
 have h:=a0n ys n
 rw[a0x (by omega)]at h
 omega
theorem b7y(ys:List Nat)(s n:Nat)(hy:Small ys)(hn:ys.length=n+1)(h:ys.getD n 0*2^s<4294967296)(hs:s<32):lv ys*2^s<4294967296^(n+1):=by
 have h1:=a0n ys n
 rw[a0x (by omega)]at h1
 have h2:=a5h _ (hy.take n)
 rw[List.length_take,Nat.min_eq_left (by omega)]at h2
 rw[h1,Nat.add_mul,Nat.pow_succ]
 obtain⟨t,ht⟩:∃t,4294967296=t*2^s:=⟨2^(32-s),by rw[<- Nat.pow_add,show 32-s+s=32 by omega]⟩
 generalize ys.getD n 0=y at *
 generalize lv (ys.take n)=L at *
 generalize 4294967296^n=P at *
 have hp:0<2^s:=Nat.pow_pos (by decide)
 rw[ht]at h
 have h3:y+1<=t:=Nat.lt_of_mul_lt_mul_right h
 have h4:=Nat.mul_le_mul_left P (Nat.mul_le_mul_right (2^s) h3)
 rw[Nat.add_mul,Nat.one_mul,Nat.mul_add,<-ht]at h4
 have h5:=Nat.mul_lt_mul_of_pos_right h2 hp
 rw[Nat.mul_assoc]
 omega
theorem b8p{xs ys zs:List Nat}{s n m:Nat}(hx:Small xs)(hxl:xs.length=m)(hyl:ys.length=n+1)(hnm:n+1<=m)(hzl:zs.length=m+1)(hs:s<32)
  (htop:2147483648<=ys.getD n 0*2^s) (hz:lv zs=lv xs*2^s):lv (zs.drop (m-n))<lv ys*2^s:=by
 have h1:=a5n zs (m-n) (by omega)
 have h2:=a5h _ hx
 have h3:=b1r ys n hyl
 have hp:0<2^s:=Nat.pow_pos (by decide)
 have h231:(2:Nat)^s<=2147483648:=by
  have:=Nat.pow_le_pow_right (show 0<2 by decide) (show s<=31 by omega)
  have e:(2:Nat)^31=2147483648:=by decide
  omega
 rw[hxl]at h2
 refine Nat.lt_of_mul_lt_mul_left (a:=4294967296^(m-n)) ?_
 have h4:=Nat.mul_le_mul_right (2^s) h3
 have h5:=Nat.mul_le_mul_left (4294967296^(m-n)) h4
 have h6:=Nat.mul_lt_mul_of_pos_right h2 hp
 have h7:4294967296^(m-n)*(4294967296^n*ys.getD n 0*2^s)=4294967296^m*(ys.getD n 0*2^s):=by
  rw[<- Nat.mul_assoc,<-Nat.mul_assoc,<-Nat.pow_add,show m-n+n=m by omega,Nat.mul_assoc]
 have h8:=Nat.mul_le_mul_left (4294967296^m) (Nat.le_trans h231 htop)
 omega
theorem b2u{zs:List Nat}{D n i:Nat}(hzs:Small zs)(hi:i<zs.length)(hD:D<4294967296^n)(hlt:lv (zs.drop (i+1))<D)(hl:i+n+1<=zs.length) :
  lv ((zs.drop i).take (n+1))=lv (zs.drop i)/\lv (zs.drop i)<D*4294967296:=by
 have e:zs.drop i=zs.getD i 0::zs.drop (i+1):=by
  rw[List.drop_eq_getElem_cons hi,List.getD_eq_getElem?_getD,List.getElem?_eq_getElem hi];rfl
 have h1:lv (zs.drop i)<D*4294967296:=by
  rw[e,a1w]
  have:=hzs.get i
  omega
 refine⟨?_,h1⟩
 have h2:=a5n (zs.drop i) (n+1) (by rw[List.length_drop];omega)
 have h3:D*4294967296<=4294967296^(n+1):=by rw[Nat.pow_succ];exact Nat.mul_le_mul_right _ (Nat.le_of_lt hD)
 rcases Nat.eq_zero_or_pos (lv ((zs.drop i).drop (n+1)))with h0 | h0
 ·rw[h0,Nat.mul_zero]at h2;omega
 have:=Nat.mul_le_mul_left (4294967296^(n+1)) h0
 rw[Nat.mul_one]at this
 omega
theorem c3b{zs win' qs:List Nat}{D U n i:Nat}(hzs:Small zs)(hi:i<zs.length)(hD0:0<D)(hD:D<4294967296^n)(hlt:lv (zs.drop (i+1))<D)(hl:i+n+1<=zs.length)
  (hw1:win'.length=(zs.drop i).length) (hw2:win'.drop (n+1)=(zs.drop i).drop (n+1)) (hw3:lv (win'.take (n+1))=lv ((zs.drop i).take (n+1))%D)
  (hq:i<qs.length) (hq0:qs.getD i 0=0) (hinv:lv zs+D*lv qs=U) :
  lv win'<D/\lv (zs.take i++win')+D*lv (qs.set i (lv ((zs.drop i).take (n+1))/D))=U:=by
 obtain⟨h1,h2⟩:=b2u hzs hi hD hlt hl
 have hz0:lv ((zs.drop i).drop (n+1))=0:=by
  have h3:=a5n (zs.drop i) (n+1) (by rw[List.length_drop];omega)
  have hp:0<4294967296^(n+1):=Nat.pow_pos (by decide)
  rcases Nat.eq_zero_or_pos (lv ((zs.drop i).drop (n+1)))with h0 | h0
  ·exact h0
  have:=Nat.mul_pos hp h0;omega
 have h3:=a5n win' (n+1) (by rw[hw1,List.length_drop];omega)
 rw[hw2,hz0,Nat.mul_zero,Nat.add_zero,hw3]at h3
 have hm:=Nat.mod_lt (lv ((zs.drop i).take (n+1))) hD0
 refine⟨by omega,?_⟩
 have h4:=a5n zs i (by omega)
 have h5:=b8m qs i (lv ((zs.drop i).take (n+1))/D) hq
 rw[hq0,Nat.mul_zero,Nat.add_zero]at h5
 rw[a8z,List.length_take,Nat.min_eq_left (by omega),h5,h3]
 rw[<- h1]at h4
 have h6:=Nat.mod_add_div (lv ((zs.drop i).take (n+1))) D
 generalize lv ((zs.drop i).take (n+1))=W at *
 rw[h4]at hinv
 rw[<- hinv,Nat.mul_add D,Nat.mul_left_comm D]
 have h7:=congrArg (fun y=>4294967296^i*y) h6
 simp only[Nat.mul_add]at h7
 omega
theorem c7a{zs qs:List Nat}{a b s n:Nat}(hn:n<=zs.length)(hb:0<b)(hD:b*2^s<4294967296^n)(hlt:lv zs<b*2^s)(hinv:lv zs+b*2^s*lv qs=a*2^s) :
  lv qs=a/b/\lv (zs.take n)/2^s=a%b:=by
 have hp:0<2^s:=Nat.pow_pos (by decide)
 have h1:lv (zs.take n)=lv zs:=by
  have h2:=a5n zs n hn
  rcases Nat.eq_zero_or_pos (lv (zs.drop n))with h0 | h0
  ·rw[h0,Nat.mul_zero]at h2;omega
  have:=Nat.mul_le_mul_left (4294967296^n) h0
  rw[Nat.mul_one]at this;omega
 have h3:lv qs=a*2^s/(b*2^s):=by
  rw[<- hinv,Nat.add_mul_div_left _ _ (Nat.mul_pos hb hp),Nat.div_eq_of_lt hlt,Nat.zero_add]
 have h4:lv zs=a*2^s%(b*2^s):=by
  rw[<- hinv,Nat.add_mul_mod_self_left,Nat.mod_eq_of_lt hlt]
 refine⟨?_,?_⟩
 ·rw[h3,Nat.mul_div_mul_right _ _ hp]
 rw[h1,h4,Nat.mul_mod_mul_right,Nat.mul_div_cancel _ hp]
def Sized(N:Nat)(q:Rat):Prop:=(bytesOf q.num.natAbs).length<=N/\(bytesOf q.den).length<=N
theorem Sized.mono{M N:Nat}{q:Rat}(h:Sized M q)(hN:M<=N):Sized N q:=⟨Nat.le_trans h.1 hN,Nat.le_trans h.2 hN⟩
theorem Sized.num{N:Nat}{q:Rat}(h:Sized N q):(numB q).length<=N:=h.1
theorem Sized.denom{N:Nat}{q:Rat}(h:Sized N q):(a0a q).length<=N:=by
 unfold a0a denB
 split
 ·simp
 exact h.2
theorem a0w{a b m n:Nat}(ha:(bytesOf a).length<=m)(hb:(bytesOf b).length<=n):(bytesOf (a*b)).length<=m+n:=by
 refine a0p _ _ ?_
 have h1:=Nat.lt_of_lt_of_le (a2t a) (Nat.pow_le_pow_right (show 0<256 by decide) ha)
 have h2:=Nat.lt_of_lt_of_le (a2t b) (Nat.pow_le_pow_right (show 0<256 by decide) hb)
 rw[Nat.pow_add]
 rcases Nat.eq_zero_or_pos b with h0 | h0
 ·subst h0;rw[Nat.mul_zero];exact Nat.mul_pos (Nat.pow_pos (by decide)) (Nat.pow_pos (by decide))
 exact Nat.lt_of_lt_of_le (Nat.mul_lt_mul_of_pos_right h1 h0) (Nat.mul_le_mul_left _ (Nat.le_of_lt h2))
theorem a3f{a b n:Nat}(h:a<=b)(hb:(bytesOf b).length<=n):(bytesOf a).length<=n :=
 a0p _ _ (Nat.lt_of_le_of_lt h (Nat.lt_of_lt_of_le (a2t b) (Nat.pow_le_pow_right (by decide) hb)))
theorem b1z{a b n:Nat}(ha:(bytesOf a).length<=n)(hb:(bytesOf b).length<=n):(bytesOf (a+b)).length<=n+1:=by
 refine a0p _ _ ?_
 have h1:=Nat.lt_of_lt_of_le (a2t a) (Nat.pow_le_pow_right (show 0<256 by decide) ha)
 have h2:=Nat.lt_of_lt_of_le (a2t b) (Nat.pow_le_pow_right (show 0<256 by decide) hb)
 rw[Nat.pow_succ];omega
theorem sized_zero:Sized 1 0:=by
 refine⟨?_,?_⟩
 ·show(bytesOf 0).length<=1
  rw[a0y];simp
 show(bytesOf 1).length<=1
 rw[a1d];simp
theorem b0h{n:Int}{d N:Nat}(hd:d≠0)(hn:(bytesOf n.natAbs).length<=N)(hd2:(bytesOf d).length<=N):Sized N (mkRat n d):=by
 rw[<- Rat.normalize_eq_mkRat hd]
 refine⟨?_,?_⟩
 ·rw[Rat.num_normalize]
  refine a3f ?_ hn
  rw[Int.natAbs_ediv_of_dvd]
  ·exact Nat.div_le_self _ _
  exact Int.ofNat_dvd_left.2 (Nat.gcd_dvd_left _ _)
 rw[Rat.den_normalize]
 exact a3f (Nat.div_le_self _ _) hd2
theorem a8j{b:Bool}{n d N:Nat}(hd:d≠0)(hn:(bytesOf n).length<=N)(hd2:(bytesOf d).length<=N):Sized N (mkRat (signed b n) d) :=
 b0h hd (by rw[a3t];exact hn) hd2
theorem b1a{neg:Bool}{num den:List UInt8}{N:Nat}(hn:num.length<=N)(hd:den.length<=N)(h1:1<=N):Sized N (decR neg num den):=by
 unfold decR
 split
 ·rename_i hv
  have hnd:norm den=den:=by
   unfold a2p at hv
   simp only[Bool.and_eq_true,beq_iff_eq]at hv
   exact hv.1.2
  refine a8j (b3m hnd) (a0p _ _ (Nat.lt_of_lt_of_le (b4c num) (Nat.pow_le_pow_right (by decide) hn))) ?_
  unfold denN
  split
  ·rw[a1d];simpa using h1
  exact a0p _ _ (Nat.lt_of_lt_of_le (b4c den) (Nat.pow_le_pow_right (by decide) hd))
 exact sized_zero.mono h1
theorem c7t(p q:Rat):signed (!(negB p==negB q)) (p.num.natAbs*q.num.natAbs)=p.num*q.num:=by
 have hp:=a3q p
 have hq:=a3q q
 revert hp hq
 generalize p.num.natAbs=m
 generalize q.num.natAbs=n
 generalize p.num=x
 generalize q.num=y
 intro hp hq
 subst hp;subst hq
 unfold signed
 cases negB p<;>cases negB q<;>simp[Int.mul_neg,Int.neg_mul]
theorem d1f(p q:Rat):mkRat (signed (!(negB p==negB q)) (p.num.natAbs*q.num.natAbs)) (p.den*q.den)=p*q:=by
 rw[c7t,Rat.mul_def]
 exact(Rat.normalize_eq_mkRat _).symm
theorem d2n(p q:Rat)(hq:q≠0):mkRat (signed (!(negB p==negB q)) (p.num.natAbs*q.den)) (p.den*q.num.natAbs)=p/q:=by
 have hqn:q.num≠0:=fun h=>hq (Rat.num_eq_zero.1 h)
 have hqa:q.num.natAbs≠0:=fun h=>hqn (Int.natAbs_eq_zero.1 h)
 have key:mkRat (signed (!(negB p==negB q)) (p.num.natAbs*q.den)) (p.den*q.num.natAbs)*q=p:=by
  conv=>lhs;rhs;rw[<- Rat.mkRat_self q]
  conv=>rhs;rw[<- Rat.mkRat_self p]
  rw[Rat.mkRat_mul_mkRat]
  rw[Rat.mkRat_eq_iff (Nat.mul_ne_zero (Nat.mul_ne_zero p.den_nz hqa) q.den_nz) p.den_nz]
  have hp:=a3q p
  have hq:=a3q q
  revert hp hq
  generalize p.num.natAbs=m
  generalize q.num.natAbs=n
  generalize p.num=x
  generalize q.num=y
  generalize p.den=d
  generalize q.den=e
  intro hp hq
  subst hp;subst hq
  unfold signed
  cases negB p<;>cases negB q<;>simp[Int.mul_neg,Int.neg_mul]<;>ac_rfl
 conv=>lhs;rw[<- Rat.mul_div_cancel (a:=mkRat (signed (!(negB p==negB q)) (p.num.natAbs*q.den)) (p.den*q.num.natAbs)) hq]
 rw[key]
theorem Sized.mul{M N:Nat}{p q:Rat}(hp:Sized M p)(hq:Sized N q):Sized (M+N) (p*q):=by
 rw[<- d1f]
 exact a8j (Nat.mul_ne_zero p.den_nz q.den_nz) (a0w hp.1 hq.1) (a0w hp.2 hq.2)
theorem Sized.div{M N:Nat}{p q:Rat}(hp:Sized M p)(hq:Sized N q):Sized (M+N) (p/q):=by
 by_cases h0:q=0
 ·have e:p/q=0:=by rw[h0,Rat.div_def,Rat.inv_zero,Rat.mul_zero]
  rw[e]
  refine sized_zero.mono ?_
  have h1:(bytesOf p.den).length≠0:=fun h=>p.den_nz (bytesOf_eq_nil.1 (List.length_eq_zero_iff.1 h))
  have:=hp.2
  omega
 rw[<- d2n p q h0]
 have hqa:q.num.natAbs≠0:=fun h=>h0 (Rat.num_eq_zero.1 (Int.natAbs_eq_zero.1 h))
 exact a8j (Nat.mul_ne_zero p.den_nz hqa) (a0w hp.1 hq.2) (a0w hp.2 hq.1)
theorem Sized.neg{N:Nat}{q:Rat}(h:Sized N q):Sized N (-q):=by
 unfold Sized at *
 rw[Rat.neg_num,Rat.neg_den,Int.natAbs_neg]
 exact h
theorem Sized.add{M N:Nat}{p q:Rat}(hp:Sized M p)(hq:Sized N q):Sized (M+N+1) (p+q):=by
 rw[Rat.add_def,Rat.normalize_eq_mkRat]
 refine b0h (Nat.mul_ne_zero p.den_nz q.den_nz) ?_ (Nat.le_trans (a0w hp.2 hq.2) (Nat.le_succ _))
 have h1:(p.num*q.den+q.num*p.den).natAbs<=p.num.natAbs*q.den+q.num.natAbs*p.den:=by
  refine Nat.le_trans (Int.natAbs_add_le _ _) ?_
  rw[Int.natAbs_mul,Int.natAbs_mul,Int.natAbs_natCast,Int.natAbs_natCast]
  exact Nat.le_refl _
 refine a3f h1 (b1z (a0w hp.1 hq.2) ?_)
 rw[Nat.add_comm M N]
 exact a0w hq.1 hp.2
set_option maxRecDepth 100000
set_option maxHeartbeats 4000000
theorem bits_len(x:Int)(w:World)(h0:0<=x)(h1:x<=4294967295) :
    Calls Tryz.prog 134 #[.int .u32 x] w fun e w'=>e=.returned (.int .i64 (Lib.bitLen x.toNat))/\w'=w:=by
  go_enter Tryz.func134,Tryz.ntmps134
  go_wp2
  all_goals (go_ret;refine⟨congrArg Ending.returned (congrArg (Value.int IntKind.i64) ?_),rfl⟩)
  all_goals first
    | (rw[Lib.len8_of (x/65536/256%256) (by omega) (by omega)]
       have e:(x/65536/256%256).toNat=x.toNat/16777216:=by omega
       have l:=Lib.bitLen_le8' (x/65536/256%256) (by omega) (by omega)
       have s:=Lib.bitLen_shift24 x.toNat (by omega) (by omega)
       rw[e]at l ⊢
       omega)
    | (rw[Lib.len8_of (x/65536%256) (by omega) (by omega)]
       have e:(x/65536%256).toNat=x.toNat/65536:=by omega
       have l:=Lib.bitLen_le8' (x/65536%256) (by omega) (by omega)
       have s:=Lib.bitLen_shift16 x.toNat (by omega) (by omega)
       rw[e]at l ⊢
       omega)
    | (rw[Lib.len8_of (x/256%256) (by omega) (by omega)]
       have e:(x/256%256).toNat=x.toNat/256:=by omega
       have l:=Lib.bitLen_le8' (x/256%256) (by omega) (by omega)
       have s:=Lib.bitLen_shift8 x.toNat (by omega) (by omega)
       rw[e]at l ⊢
       omega)
    | (rw[Lib.len8_of (x%256) (by omega) (by omega)]
       have e:(x%256).toNat=x.toNat:=by omega
       have l:=Lib.bitLen_le8' (x%256) (by omega) (by omega)
       rw[e]at l ⊢
       omega)

theorem c8z(x:Int)(w:World)(h0:0<=x)(h1:x<=4294967295) :
  Calls Tryz.prog 139 #[.int .u32 x] w fun e w'=>e=.returned (.int .i64 (32-(Lib.bitLen x.toNat:Int)))/\w'=w:=by
 have l:=Lib.bitLen_le x.toNat 32 (by omega) (by omega)
 have e8:(32-(Lib.bitLen x.toNat:Int)+9223372036854775808)%18446744073709551616-9223372036854775808=32-(Lib.bitLen x.toNat:Int):=by omega
 go_enter Tryz.func139,Tryz.ntmps139
 go_wp2_with (go_at_call 134;refine(bits_len x _ h0 h1).mono ?_;rintro e w' ⟨rfl,rfl⟩)
 go_ret
 refine⟨?_,rfl⟩
 rw[<- e8]
 rfl
theorem c1b(a b:ByteArray)(w:World) :
  Calls Tryz.prog 100 #[.string a,.string b] w fun e w'=>e=.returned (.int .i64 (Lib.compareBytes a.data.toList b.data.toList))/\w'=w:=by
 go_enter Tryz.func100,Tryz.ntmps100
 go_wp2
 rw[run_callFunc_extern Tryz.func123 (by kernel_rfl) (by kernel_rfl) (by kernel_rfl) (e:=Extern.BytealgCompare.compare) (by kernel_rfl),Lib.run_compareString]
 simp only[Result.andThen]
 rw[Oper.upon_value]
 go_wp2
 go_ret
 exact⟨rfl,rfl⟩
theorem b6w(a b:ByteArray)(w:World) :
  Calls Tryz.prog 65 #[.string a,.string b] w fun e w'=>e=.returned (.int .i64 (Lib.compareBytes a.data.toList b.data.toList))/\w'=w:=by
 go_enter Tryz.func65,Tryz.ntmps65
 go_wp2_with (go_at_call 100;refine(c1b _ _ _).mono ?_;rintro e w' ⟨rfl,rfl⟩)
 go_ret
 exact⟨rfl,rfl⟩
end Go.Proofs.YtjmiicjialkpiaaGreatDoor
