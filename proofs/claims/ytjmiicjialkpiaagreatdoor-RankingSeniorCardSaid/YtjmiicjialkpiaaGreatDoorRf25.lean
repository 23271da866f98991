/-
Part 25 of the base.
-/
import Derived.Test.YtjmiicjialkpiaaGreatDoorRf24
namespace Go.Proofs.YtjmiicjialkpiaaGreatDoor
open Go.RowKit
structure Duo where
 a:Nat
 b:Nat
def Duo.enc(t:Duo):List Value:=[.int .u16 (t.a:Nat),.int .u16 (t.b:Nat)]
def Duo.ok(t:Duo):Prop:=t.a<=65535/\t.b<=65535
abbrev Duos(w:World)(v:Value)(ts:List Duo):Prop:=Slc Duo.enc 2 w v ts
theorem duo_len(t:Duo):t.enc.length=2:=rfl
structure Qua where
 a:Nat
 b:Nat
 c:Nat
 d:Nat
def Qua.enc(t:Qua):List Value:=[.int .u16 (t.a:Nat),.int .u16 (t.b:Nat),.int .u16 (t.c:Nat),.int .u16 (t.d:Nat)]
def Qua.ok(t:Qua):Prop:=t.a<=65535/\t.b<=65535/\t.c<=65535/\t.d<=65535
abbrev Quas(w:World)(v:Value)(ts:List Qua):Prop:=Slc Qua.enc 4 w v ts
theorem qua_len(t:Qua):t.enc.length=4:=rfl
def nmA(k:Nat):List UInt8:=[UInt8.ofNat (97+k)]
def nmZ(k:Nat):List UInt8:=[UInt8.ofNat (if k<6 then 97+k else 106+k)]
def namN(k:Nat)(t:Duo):Nmd:=⟨nmA k,1+(t.a:Int)%4,enc3 (a2f t.b)⟩
def namF:Nat->List Duo->List Nmd
 | _,[]=>[]
 | k,t::ts=>namN k t::namF (k+1) ts
def a7s(ts:List Duo):List Nmd:=namF 0 (ts.take 8)
theorem c0g:∀ (ts:List Duo) (k:Nat),(namF k ts).length=ts.length
 | [],_=>rfl
 | _::ts,k=>by rw[namF,List.length_cons,c0g ts (k+1),List.length_cons]
theorem c2x:∀ (ts:List Duo) (k:Nat) (t:Duo),namF k (ts++[t])=namF k ts++[namN (k+ts.length) t]
 | [],k,t=>by simp[namF]
 | u::ts,k,t=>by
  rw[List.cons_append,namF,c2x ts (k+1) t,namF,List.cons_append,List.length_cons,show k+1+ts.length=k+(ts.length+1) by omega]
theorem c8g{ts:List Duo}{k:Nat}{t:Duo}(h:ts[k]? =some t):namF 0 (ts.take (k+1))=namF 0 (ts.take k)++[namN k t]:=by
 have hl:=(List.getElem?_eq_some_iff.1 h).1
 rw[a3g h,c2x,Nat.zero_add,List.length_take,Nat.min_eq_left (by omega)]
theorem c6x:∀ (ts:List Duo) (k:Nat) (x:Nmd),x∈namF k ts->∃j t,x=namN j t/\t∈ts
 | [],_,x,h=>by simp[namF]at h
 | u::ts,k,x,h=>by
  rw[namF]at h
  rcases List.mem_cons.1 h with rfl | h
  ·exact⟨k,u,rfl,List.mem_cons_self ..⟩
  obtain⟨j,t,h1,h2⟩:=c6x ts (k+1) x h
  exact⟨j,t,h1,List.mem_cons_of_mem _ h2⟩
theorem c2v{ts:List Duo}{x:Nmd}(h:x∈a7s ts):∃j t,x=namN j t/\t∈ts:=by
 obtain⟨j,t,h1,h2⟩:=c6x _ _ _ h
 exact⟨j,t,h1,List.mem_of_mem_take h2⟩
theorem c2w(ts:List Duo):(a7s ts).length<=8:=by
 unfold a7s
 rw[c0g,List.length_take];omega
def memZ(x:Qua)(k:Nat):List UInt8:=nmZ (x.c/16^k%16%9)
def b0p(x:Qua)(n:Nat):List (List UInt8):=(List.range n).map (memZ x)
def clsN(x:Qua):Cls :=
 if x.a%4=0 then⟨1,nmZ (6+x.b%3),[],b0p x (1+x.d%3),zero3,0⟩
 else if x.a%4=1 then⟨2,nmZ (x.b%9),nmZ (x.c%9),[],zero3,0⟩
 else if x.a%4=2 then⟨3,nmZ (x.b%6),[],[],enc3 (a2f x.c),0⟩
 else⟨4,nmZ (x.b%9),[],[],zero3,0⟩
def a3d(xs:List Qua):List Cls:=(xs.take 10).map clsN
theorem b6r(xs:List Qua):(a3d xs).length<=10:=by
 unfold a3d
 rw[List.length_map,List.length_take];omega
theorem c8k(x:Qua)(n:Nat):b0p x (n+1)=b0p x n++[memZ x n]:=by
 unfold b0p
 rw[List.range_succ,List.map_append];rfl
theorem a9a(x:Qua)(n:Nat):(b0p x n).length=n:=by
 unfold b0p
 rw[List.length_map,List.length_range]
theorem c3p{xs:List Qua}{k:Nat}{x:Qua}(h:xs[k]? =some x):(xs.take (k+1)).map clsN=(xs.take k).map clsN++[clsN x]:=by
 rw[a3g h,List.map_append];rfl
theorem nmA_len(k:Nat):(nmA k).length=1:=rfl
theorem b2q(k:Nat):(nmZ k).length=1:=rfl
theorem c0w{q:Rat}(h:Sized 8 q):(enc3 q).a.length<=17179869184/\(enc3 q).b.length<=17179869184:=by
 unfold enc3
 dsimp only
 exact⟨Nat.le_trans h.num (by decide),Nat.le_trans h.denom (by decide)⟩
theorem clsN_fit{x:Qua}(hx:x.ok):(clsN x).name.length<=9223372036854775807/\(clsN x).other.length<=9223372036854775807/\(clsN x).list.length<=1000/\(∀s∈(clsN x).list,s.length<=9223372036854775807)/\(clsN x).am.a.length<=17179869184/\(clsN x).am.b.length<=17179869184:=by
 have hc:=c0w (a3v hx.2.2.1)
 unfold clsN
 split
 ·refine⟨(by dsimp only;rw[b2q];decide),(Nat.zero_le _),(by dsimp only;rw[a9a];omega),fun s hs=>?_,(Nat.zero_le _),(Nat.zero_le _)⟩
  dsimp only at hs
  unfold b0p at hs
  obtain⟨k,_,rfl⟩:=List.mem_map.1 hs
  unfold memZ
  rw[b2q];decide
 split
 ·exact⟨(by dsimp only;rw[b2q];decide),(by dsimp only;rw[b2q];decide),(Nat.zero_le _),(fun s hs=>by cases hs),(Nat.zero_le _),(Nat.zero_le _)⟩
 split
 ·exact⟨(by dsimp only;rw[b2q];decide),(Nat.zero_le _),(Nat.zero_le _),(fun s hs=>by cases hs),hc.1,hc.2⟩
 exact⟨(by dsimp only;rw[b2q];decide),(Nat.zero_le _),(Nat.zero_le _),(fun s hs=>by cases hs),(Nat.zero_le _),(Nat.zero_le _)⟩
theorem d2x{ts:List Duo}{xs:List Qua}(h1:∀t∈ts,t.ok)(h2:∀x∈xs,x.ok):Fit (a7s ts) (a3d xs):=by
 refine⟨Nat.le_trans (c2w ts) (by decide),Nat.le_trans (b6r xs) (by decide),fun x hx=>?_,fun x hx=>?_⟩
 ·obtain⟨j,t,rfl,ht⟩:=c2v hx
  have hc:=c0w (a3v (h1 t ht).2)
  exact⟨(by show(nmA j).length<=_;rw[nmA_len];decide),hc.1,hc.2⟩
 unfold a3d at hx
 obtain⟨y,hy,rfl⟩:=List.mem_map.1 hx
 exact clsN_fit (h2 y (List.mem_of_mem_take hy))
theorem Comp.okay{cl:List Nmd}{l:List Cls}{R:List Int}{A:List (List (List Prt))}{i:Nat}(h:Comp cl l R A i 0):a3a cl=0/\l.length<=64/\Okay cl l/\Ranks cl l l.length R/\Agrs cl l A:=by
 rcases h with ⟨h1,_,_,_,h2⟩ | ⟨_,_,_,_,_,h2⟩ | ⟨_,_,_,_,s,hs,_,hf⟩ | ⟨h1,h2,hp,_,_,hr,ha⟩
 ·exact absurd h2.symm h1
 ·cases h2
 ·exact absurd rfl hf.2.1
 exact⟨h1,h2,passes_iff.1 hp,hr,ha⟩
theorem Comp.bad{cl:List Nmd}{l:List Cls}{R:List Int}{A:List (List (List Prt))}{i:Nat}{e:Int}(h:Comp cl l R A i e)(he:e≠0):R=[]/\A=[]:=by
 rcases h with ⟨_,h1,h2,_⟩ | ⟨_,_,h1,h2,_⟩ | ⟨_,_,h1,h2,_⟩ | ⟨_,_,_,_,h0,_⟩
 ·exact⟨h1,h2⟩
 ·exact⟨h1,h2⟩
 ·exact⟨h1,h2⟩
 exact absurd h0 he
theorem c1s{cl:List Nmd}{l:List Cls}{R:List Int}{i:Nat}{c:Nmd}{r:Int}(h:Okay cl l)(hr:Ranks cl l l.length R)(hc:cl[i]? =some c)(hR:R[i]? =some r):(r=c.rank\/r=4)/\c.rank<=r/\(c.rank<=1->r=c.rank):=by
 by_cases hp:∃ (j:Nat) (x:Cls),j<l.length/\l[j]? =some x/\x.kind=4/\Den cl l x.name i
 ·have h1:=(hr.2 i c r hc hR).1 hp
  refine⟨by omega,by omega,fun h2=>?_⟩
  obtain⟨j,x,_,hx,hk,hd⟩:=hp
  exact absurd ⟨i,c,hd,hc,h2⟩ (h.sub x (List.mem_of_getElem? hx) hk)
 have h1:=(hr.2 i c r hc hR).2 hp
 exact⟨.inl h1,by omega,fun _=>h1⟩
set_option maxRecDepth 100000
open Go.ChangeShapes Go.WideShapes Go.ChangeAt Go.ChangeMaps Go.RowKit
section
variable {H : Type} {enc : TypeId × Value -> H} {W : World} {base : Nat} {sp : Nat -> Bool} {held : Bool}
theorem b8x:Tryz.prog.cellsOf 60=2:=by kernel_rfl
theorem dec_arr2{n:Nat}{cs:List Value}{y:DataW H×List MemPlace}(h:DataW.trod enc Tryz.prog W base sp held n 60 cs=some y):∃t:Duo,cs=t.enc/\t.ok:=by
 obtain⟨xs,m,rfl,hx,hl,hxl,hf⟩:=DataW.trod_array Tryz.underlying60 h
 rw[b8x]at hl
 obtain⟨c0,c1,rfl⟩:=list2 hl
 obtain⟨y0,y1,rfl⟩:=list2 (show xs.length=2 from hxl)
 have h0:=hf 0 (by decide)
 have h1:=hf 1 (by decide)
 rw[c3q]at h0 h1
 obtain⟨a,e0,_,w0⟩:=DataW.trod_int Tryz.underlying24 (show DataW.trod enc Tryz.prog W base sp held m 24 [c0]=some y0 from h0)
 obtain⟨b,e1,_,w1⟩:=DataW.trod_int Tryz.underlying24 (show DataW.trod enc Tryz.prog W base sp held m 24 [c1]=some y1 from h1)
 injection e0 with e0
 injection e1 with e1
 subst e0;subst e1
 obtain⟨a0,a1⟩:=a5v w0
 obtain⟨b0,b1⟩:=a5v w1
 refine⟨⟨a.toNat,b.toNat⟩,?_,?_⟩
 ·unfold Duo.enc
  dsimp only
  rw[Int.toNat_of_nonneg a0,Int.toNat_of_nonneg b0]
 unfold Duo.ok
 dsimp only
 omega
theorem b8w:Tryz.prog.cellsOf 61=4:=by kernel_rfl
theorem dec_arr4{n:Nat}{cs:List Value}{y:DataW H×List MemPlace}(h:DataW.trod enc Tryz.prog W base sp held n 61 cs=some y):∃t:Qua,cs=t.enc/\t.ok:=by
 obtain⟨xs,m,rfl,hx,hl,hxl,hf⟩:=DataW.trod_array Tryz.underlying61 h
 rw[b8w]at hl
 obtain⟨c0,c1,c2,c3,rfl⟩:=list4 hl
 obtain⟨y0,y1,y2,y3,rfl⟩:=list4 (show xs.length=4 from hxl)
 have h0:=hf 0 (by decide)
 have h1:=hf 1 (by decide)
 have h2:=hf 2 (by decide)
 have h3:=hf 3 (by decide)
 rw[c3q]at h0 h1 h2 h3
 obtain⟨a,e0,_,w0⟩:=DataW.trod_int Tryz.underlying24 (show DataW.trod enc Tryz.prog W base sp held m 24 [c0]=some y0 from h0)
 obtain⟨b,e1,_,w1⟩:=DataW.trod_int Tryz.underlying24 (show DataW.trod enc Tryz.prog W base sp held m 24 [c1]=some y1 from h1)
 obtain⟨c,e2,_,w2⟩:=DataW.trod_int Tryz.underlying24 (show DataW.trod enc Tryz.prog W base sp held m 24 [c2]=some y2 from h2)
 obtain⟨d,e3,_,w3⟩:=DataW.trod_int Tryz.underlying24 (show DataW.trod enc Tryz.prog W base sp held m 24 [c3]=some y3 from h3)
 injection e0 with e0
 injection e1 with e1
 injection e2 with e2
 injection e3 with e3
 subst e0;subst e1;subst e2;subst e3
 obtain⟨a0,a1⟩:=a5v w0
 obtain⟨b0,b1⟩:=a5v w1
 obtain⟨c0,c1⟩:=a5v w2
 obtain⟨d0,d1⟩:=a5v w3
 refine⟨⟨a.toNat,b.toNat,c.toNat,d.toNat⟩,?_,?_⟩
 ·unfold Qua.enc
  dsimp only
  rw[Int.toNat_of_nonneg a0,Int.toNat_of_nonneg b0,Int.toNat_of_nonneg c0,Int.toNat_of_nonneg d0]
 unfold Qua.ok
 dsimp only
 omega
end
end Go.Proofs.YtjmiicjialkpiaaGreatDoor
