/-
Part 11 of the base.
-/
import Derived.Deep.OwnRows
import Derived.Deep.AppendLies
import Derived.Test.YtjmiicjialkpiaaGreatDoorRf8
import Derived.DeepKeys
import Derived.DeepKeys4
import Derived.Maps.OwnSet
import Derived.Maps.OwnOps
import Derived.Maps.Views
import Derived.IntWalk
import Derived.Deep.Slices
import Derived.Deep.Fields
import Derived.ChangeSame
import Derived.Carry
import Derived.Test.YtjmiicjialkpiaaGreatDoorRows
import Derived.Test.YtjmiicjialkpiaaGreatDoorCards
import Derived.Test.YtjmiicjialkpiaaGreatDoorTie
import Derived.ProofKit
import Derived.Lay
import Derived.SevenTiedAt
import Derived.ChangeMaps5
import Derived.OpenShut
namespace Go.Proofs.YtjmiicjialkpiaaGreatDoor
open Go.RowKit
def Slc{α:Type}(enc:α->List Value)(k:Nat)(w:World)(v:Value)(xs:List α):Prop :=
 ∃A c,v=.slice A xs.length c/\xs.length<=c/\c<=9223372036854775807 /\
  (0<xs.length->∃b o,A=some ⟨b,o,none⟩/\b<w.heap.size/\∀j x,xs[j]? =some x->∀i u,(enc x)[i]? =some u->w.cell? ⟨b,o+j*k+i,none⟩=some u)
section
variable {α : Type} {enc : α -> List Value} {k : Nat} {w w' : World} {v : Value} {xs : List α}
theorem Slc.below(h:Slc enc k w v xs)(hb:Below w.heap.size w w'):Slc enc k w' v xs:=by
 obtain⟨A,c,rfl,hl,hc,hx⟩:=h
 refine⟨A,c,rfl,hl,hc,fun h0=>?_⟩
 obtain⟨b,o,e,hbb,hcell⟩:=hx h0
 exact⟨b,o,e,Nat.lt_of_lt_of_le hbb hb.size,fun j x hj i u hu=>by rw[hb.cell (p:=⟨b,o+j*k+i,none⟩) hbb];exact hcell j x hj i u hu⟩
theorem Slc.nil_(enc:α->List Value)(k:Nat)(w:World)(A:Option Addr)(c:Nat)(hc:c<=9223372036854775807):Slc enc k w (.slice A 0 c) [] :=
 ⟨A,c,rfl,Nat.zero_le _,hc,fun h=>absurd h (by simp)⟩
theorem Slc.slice(h:Slc enc k w v xs):∃A c,v=.slice A xs.length c/\xs.length<=c/\c<=9223372036854775807:=by
 obtain⟨A,c,e,h1,h2,_⟩:=h
 exact⟨A,c,e,h1,h2⟩
theorem Slc.at_{A:Option Addr}{n c:Nat}(h:Slc enc k w (.slice A n c) xs){j:Nat}(hj:j<xs.length) :
  ∃b o x,A=some ⟨b,o,none⟩/\b<w.heap.size/\xs[j]? =some x/\∀w',Below w.heap.size w w'->∀i u,(enc x)[i]? =some u->w'.cell? ⟨b,o+j*k+i,none⟩=some u:=by
 obtain⟨A',c',e,hl,hc,hx⟩:=h
 injection e with e1 e2 e3
 subst e1
 obtain⟨b,o,e,hb,hcell⟩:=hx (by omega)
 exact⟨b,o,xs[j],e,hb,List.getElem?_eq_getElem hj,fun w' hw i u hu=>(hw.cell (p:=⟨b,o+j*k+i,none⟩) hb).trans (hcell j _ (List.getElem?_eq_getElem hj) i u hu)⟩
theorem Slc.cellAt{b o n c:Nat}(h:Slc enc k w (.slice (some ⟨b,o,none⟩) n c) xs){j:Nat}{x:α}(hx:xs[j]? =some x){w':World}(hw:Below w.heap.size w w'){i:Nat}{u:Value}(hu:(enc x)[i]? =some u) :
  w'.cell? ⟨b,o+j*k+i,none⟩=some u:=by
 obtain⟨hj,_⟩:=List.getElem?_eq_some_iff.1 hx
 obtain⟨b',o',x',e,_,hx',hc⟩:=h.at_ hj
 injection e with e
 injection e with e1 e2
 subst e1;subst e2
 have:x=x':=Option.some.inj (hx.symm.trans hx')
 subst this
 exact hc w' hw i u hu
end
theorem take_all{α:Type}{f:α->Bool}{xs:List α}{i:Nat}{x:α}(h:xs[i]? =some x):(xs.take (i+1)).all f=((xs.take i).all f&&f x):=by
 rw[List.take_add_one,h,List.all_append];simp
theorem c5f{α:Type}{l:List α}{i:Nat}{x:α}(h:l[i]? =some x):l.drop i=x::l.drop (i+1):=by
 obtain⟨hi,e⟩:=List.getElem?_eq_some_iff.1 h
 rw[List.drop_eq_getElem_cons hi,e]
theorem a3g{α:Type}{l:List α}{i:Nat}{x:α}(h:l[i]? =some x):l.take (i+1)=l.take i++[x]:=by
 rw[List.take_add_one,h];rfl
def flat{α:Type}(enc:α->List Value):List α->List Value
 | []=>[]
 | x::xs=>enc x++flat enc xs
section
variable {α : Type} {enc : α -> List Value} {k : Nat}
theorem a2s(xs ys:List α):flat enc (xs++ys)=flat enc xs++flat enc ys:=by
 induction xs with
 | nil=>rfl
 | cons x xs ih=>simp[flat,ih]
theorem a6e(hk:∀x,(enc x).length=k)(xs:List α):(flat enc xs).length=xs.length*k:=by
 induction xs with
 | nil=>simp[flat]
 | cons x xs ih=>simp[flat,ih,hk,Nat.add_mul];omega
theorem a4a(hk:∀x,(enc x).length=k):∀ (xs:List α) (j:Nat) (x:α),xs[j]? =some x->∀ (i:Nat) (u:Value),(enc x)[i]? =some u->(flat enc xs)[j*k+i]? =some u
 | [],j,x,h,_,_,_=>by simp at h
 | y::ys,0,x,h,i,u,hu=>by
  have e:y=x:=by simpa using h
  subst e
  obtain⟨hi,_⟩:=List.getElem?_eq_some_iff.1 hu
  rw[flat,Nat.zero_mul,Nat.zero_add,List.getElem?_append_left hi,hu]
 | y::ys,j+1,x,h,i,u,hu=>by
  have h':ys[j]? =some x:=by simpa using h
  have ih:=a4a hk ys j x h' i u hu
  rw[flat,List.getElem?_append_right (by rw[hk,Nat.add_mul];omega),hk]
  rw[show(j+1)*k+i-k=j*k+i by rw[Nat.add_mul];omega]
  exact ih
theorem Slc.of_blk(hk:∀x,(enc x).length=k){w:World}{g:Nat}{cs:Array Value}{t:TypeId}{xs:List α}(h:Blk w g cs t)(hcs:cs.toList=flat enc xs){n c:Nat}(hn:xs.length=n)(hl:n<=c)(hc:c<=9223372036854775807) :
  Slc enc k w (.slice (some ⟨g,0,none⟩) n c) xs:=by
 subst hn
 refine⟨_,c,rfl,hl,hc,fun _=>⟨g,0,rfl,h.lt,fun j x hj i u hu=>?_⟩⟩
 rw[Nat.zero_add]
 refine h.cell _ _ ?_
 rw[<- Array.getElem?_toList,hcs]
 exact a4a hk xs j x hj i u hu
theorem Slc.of_own(hk:∀x,(enc x).length=k){w:World}{base:Nat}{e:TypeId}{v:Value}{n:Nat}{xs:List α}(h:w.ownsRow base e k v n (flat enc xs))(hn:xs.length=n):Slc enc k w v xs:=by
 subst hn
 rcases h.2 with ⟨rfl,h0⟩ | ⟨g,cap,cur,rfl,hb,hg,hc,hm,_,_⟩
 ·have:xs=[]:=List.length_eq_zero_iff.1 h0
  subst this
  exact Slc.nil_ _ _ _ _ _ (by decide)
 refine⟨_,cap,rfl,hc,by unfold maxLen at hm;omega,fun _=>⟨g,0,rfl,(h.lt g rfl).2,fun j x hj i u hu=>?_⟩⟩
 have:=h.cells (g:=g) rfl (j*k+i) u (a4a hk xs j x hj i u hu)
 rw[Addr.add_lit]at this
 rw[Nat.add_assoc]
 exact this
end
section
variable {α : Type} {enc : α -> List Value} {P : Program}
theorem b6v(w:World){ops:Array Oper}{rest:List Oper}{o:Oper}{a:Act}{Q:Exit->Act->World->Prop}(hgd:o.guard=none)(s x:Operand)(t:TypeId)
  (ho:o.op=.call {callee:=.builtin .append,args:=#[s,x],argTypes:=#[t,t]})
  (base:Nat) (e:TypeId) (i:TypeInfo) (z:Value) (size bytes:Nat) (ht:P.underlying t=some (.slice e)) (hi:P.info? e=some i) (hz:i.zero=some z)
  (hsize:i.size=size) (hby:i.bytes=bytes) (hzs:z.cells.size=size) (hsz:0<size) (hk:∀y,(enc y).length=size)
  (v:Value) (n:Nat) (xs:List α) (hs:a.eval s=v) (hown:w.ownsRow base e size v n (flat enc xs)) (y:α) (g:Nat) (cs:Array Value) (hB:Blk w g cs e) (hcs:cs.toList=enc y) (hx:a.eval x=.slice (some ⟨g,0,none⟩) 1 1)
  (h1:∀u∈enc y,u.oneCell'=true) (h63:n+1<=maxLen) (hbytes:(n+1)*bytes<=140737488355328) (hbase:base<=w.heap.size)
  (h:∀v' w',w'.ownsRow base e size v' (n+1) (flat enc (xs++[y]))->Below base w w'->wpList P ops Q rest (a.put o.dst v') w'):wpList P ops Q (o::rest) a w:=by
 refine wpList_append_own w hgd s x t ho base e i z size bytes ht hi hz hsize hby hzs hsz v n (flat enc xs) hs hown ⟨g,0,none⟩ 1 1 (enc y) hx (by rw[hk,Nat.one_mul]) ?_ h1 h63 hbytes hbase ?_
 ·intro j u hu
  rw[Addr.add_lit,Nat.zero_add,hB.cell j u]
  rw[<- Array.getElem?_toList,hcs];exact hu
 intro v' w' hown' hg _
 refine h v' w' (by rw[a2s];simpa [flat]using hown') ?_
 refine(Below.refl base w).grown hg hbase (fun k hk=>?_)
 rcases hown.2 with ⟨rfl,_⟩ | ⟨g,cap,cur,rfl,hb,_⟩
 ·simp[Value.ownBlock]at hk
 have:g=k:=by simpa [Value.ownBlock]using hk
 omega
end
theorem b8j{a w:World}(h:Below a.heap.size a w)(row:Option Nat):a.grownBy w row:=⟨h.os,h.tape,h.output,h.size,fun i hi _=>h.block i hi⟩
theorem laidOut:laidOutB Tryz.prog=true:=by kernel_rfl
theorem c9q:Sized 1 (1:Rat):=by
 refine⟨?_,?_⟩<;>exact a0p _ _ (by decide)
theorem c9t{q:Rat}(h:0<=sgn q.num):0<=q:=by
 rw[<- Rat.num_nonneg]
 unfold sgn at h
 split at h
 ·omega
 split at h<;>omega
theorem b7z{q:Rat}(h:0<=q):¬sgn q.num<0:=by
 rw[<- Rat.num_nonneg]at h
 unfold sgn
 split
 ·omega
 split<;>omega
set_option maxRecDepth 100000
theorem c1z(q:Rat)(w:World) :
  Calls Tryz.prog 117 #[rat q] w fun e w'=>e=.returned (rat (-q))/\Below w.heap.size w w':=by
 by_cases h0:q=0
 have f1:=a2j (numB_nil.2 h0)
 have e : -q=q:=by rw[h0];rfl
 rw[e]
 unfold rat raw
 clear h0 e
 rotate_left
 have f1:=a0r (mt numB_nil.1 h0)
 have e1:=d0y h0
 have e2:=d0x q
 have e3:=c4p q
 unfold rat raw
 rw[e1,e2,e3]
 clear h0 e1 e2 e3
 rotate_left
 all_goals
  go_enter Tryz.func117,Tryz.ntmps117
  go_wp2
 ·exact bodyPost_ret (a0f rfl _ _ _ _ _ _ rfl (Blk.new1 w _ _ _)) rfl ⟨rfl,Ext.alloc (Ext.alloc (Below.refl _ _) _) _⟩
 exact bodyPost_ret (a0f rfl _ _ _ _ _ _ rfl (Blk.new1 w _ _ _)) rfl ⟨rfl,Ext.alloc (Ext.alloc (Below.refl _ _) _) _⟩
def a2f(x:Nat):Rat:=if x%5=0 then mkRat ((x:Int)/5%23) (1+x/115%6)else if x%5=1 then((10*((x:Int)/5%4):Int):Rat)else(((x:Int)/5%13:Int):Rat)
theorem a3v{x:Nat}(_:x<=65535):Sized 8 (a2f x):=by
 have hp:(256:Nat)^8=18446744073709551616:=by decide
 have hi:∀n:Int,n.natAbs<256^8->Sized 8 (n:Rat):=by
  intro n hn
  refine⟨?_,?_⟩
  ·rw[Rat.num_intCast];exact a0p _ _ hn
  rw[Rat.den_intCast];exact a0p _ _ (by decide)
 unfold a2f
 split
 ·exact b0h (by omega) (a0p _ _ (by omega)) (a0p _ _ (by omega))
 split
 ·exact hi _ (by omega)
 exact hi _ (by omega)
theorem b0q(x:Nat)(w:World)(hx:x<=65535) :
  Calls Tryz.prog 10 #[.int .u16 (x:Nat)] w fun e w'=>e=.returned (rat (a2f x))/\Below w.heap.size w w':=by
 have k0:Raw (w.alloc (Obj.cells #[.bool false,.string (bs []),.string (bs [])] 39)) w.heap.size false [] []:=Blk.new w _ _
 have hbw:Hid (Below w.heap.size w (w.alloc (Obj.cells #[.bool false,.string (bs []),.string (bs [])] 39))):=Ext.alloc (Below.refl _ _) _
 have e1:Int.tmod (x:Int) 5=(x:Int)%5:=Int.tmod_eq_emod_of_nonneg (by omega)
 have e2:Int.tdiv (x:Int) 5=(x:Int)/5:=Int.tdiv_eq_ediv_of_nonneg (by omega)
 have e3:Int.tdiv (x:Int) 115=(x:Int)/115:=Int.tdiv_eq_ediv_of_nonneg (by omega)
 have e4:Int.tmod ((x:Int)/5) 23=(x:Int)/5%23:=Int.tmod_eq_emod_of_nonneg (by omega)
 have e5:Int.tmod ((x:Int)/115) 6=(x:Int)/115%6:=Int.tmod_eq_emod_of_nonneg (by omega)
 have e6:Int.tmod ((x:Int)/5) 4=(x:Int)/5%4:=Int.tmod_eq_emod_of_nonneg (by omega)
 have e7:Int.tmod ((x:Int)/5) 13=(x:Int)/5%13:=Int.tmod_eq_emod_of_nonneg (by omega)
 have v1:IntKind.u16.wrap ((x:Int)/5)=(x:Int)/5:=by rw[IntKind.wrap_u16];omega
 have v2:IntKind.u16.wrap ((x:Int)/115)=(x:Int)/115:=by rw[IntKind.wrap_u16];omega
 have v3:IntKind.i64.wrap ((x:Int)/5%23)=(x:Int)/5%23:=IntWalk.i64_in _ (by omega)
 have v4:IntKind.i64.wrap ((x:Int)/115%6)=(x:Int)/115%6:=IntWalk.i64_in _ (by omega)
 have v5:IntKind.i64.wrap (1+(x:Int)/115%6)=1+(x:Int)/115%6:=IntWalk.i64_in _ (by omega)
 have v6:IntKind.i64.wrap ((x:Int)/5%4)=(x:Int)/5%4:=IntWalk.i64_in _ (by omega)
 have v7:IntKind.i64.wrap (10*((x:Int)/5%4))=10*((x:Int)/5%4):=IntWalk.i64_in _ (by omega)
 have v8:IntKind.i64.wrap ((x:Int)/5%13)=(x:Int)/5%13:=IntWalk.i64_in _ (by omega)
 have hR:=fun W=>c8n ((x:Int)/5%23) (1+(x:Int)/115%6) W (by omega) (by omega) (by omega) (by omega)
 rw[show(1+(x:Int)/115%6).toNat=1+x/115%6 by omega]at hR
 have hA:=fun W=>b8r (10*((x:Int)/5%4)) W (by omega) (by omega)
 have hB:=fun W=>b8r ((x:Int)/5%13) W (by omega) (by omega)
 by_cases h0:x%5=0
 have c1:(x:Int)%5=0:=by omega
 have hq:a2f x=mkRat ((x:Int)/5%23) (1+x/115%6):=by unfold a2f;rw[if_pos h0]
 rw[hq]
 generalize mkRat ((x:Int)/5%23) (1+x/115%6)=q at *
 have HF:=zh hR
 clear hA hB hR hq h0
 have K0:=zh k0
 clear k0
 unfold rat raw at *
 rotate_left
 by_cases h1:x%5=1
 have c1:(x:Int)%5=1:=by omega
 have hq:a2f x=((10*((x:Int)/5%4):Int):Rat):=by unfold a2f;rw[if_neg h0,if_pos h1]
 rw[hq]
 generalize ((10*((x:Int)/5%4):Int):Rat)=q at *
 have HF:=zh hA
 clear hA hB hR hq h0 h1
 have K0:=zh k0
 clear k0
 unfold rat raw at *
 rotate_left
 have c0:((x:Int)%5==0)=false:=by rw[beq_eq_false_iff_ne];omega
 have c1:((x:Int)%5==1)=false:=by rw[beq_eq_false_iff_ne];omega
 have c2:¬ (x:Int)%5=0:=by omega
 have c3:¬ (x:Int)%5=1:=by omega
 have hq:a2f x=(((x:Int)/5%13:Int):Rat):=by unfold a2f;rw[if_neg h0,if_neg h1]
 rw[hq]
 generalize (((x:Int)/5%13:Int):Rat)=q at *
 have HF:=zh hB
 clear hA hB hR hq h0 h1
 have K0:=zh k0
 clear k0
 unfold rat raw at *
 rotate_left
 all_goals
  go_enter Tryz.func10,Tryz.ntmps10
  go_wp2_with fail
  refine(HF.out _).mono ?_
  rintro e w2 ⟨rfl,hb2⟩
  have k1:=K0.out.below hb2 (Raw.lt K0.out)
  have z0:=k1.frozen 0
  have z1:=k1.frozen 1
  have z2:=k1.frozen 2
  have d0:=k1.c0
  have d1:=k1.c1
  have d2:=k1.c2
  have K1:=zh k1
  have HB:=zh (Ext.trans hbw.out hb2)
  clear k1 hb2
  go_wp2
 ·exact bodyPost_ret (a0f rfl _ _ _ _ _ _ rfl (K1.out.put _ _ _)) rfl ⟨rfl,a1k HB.out (Nat.le_refl _) _ _ _⟩
 ·exact bodyPost_ret (a0f rfl _ _ _ _ _ _ rfl (K1.out.put _ _ _)) rfl ⟨rfl,a1k HB.out (Nat.le_refl _) _ _ _⟩
 exact bodyPost_ret (a0f rfl _ _ _ _ _ _ rfl (K1.out.put _ _ _)) rfl ⟨rfl,a1k HB.out (Nat.le_refl _) _ _ _⟩
theorem b7n(x:Nat):0<=a2f x:=by
 unfold a2f
 split
 ·rw[<- Rat.num_nonneg,<-Rat.normalize_eq_mkRat (by omega),Rat.num_normalize]
  exact Int.ediv_nonneg (by omega) (by omega)
 split
 ·rw[<- Rat.num_nonneg,Rat.num_intCast];omega
 rw[<- Rat.num_nonneg,Rat.num_intCast];omega
open Go.ChangeShapes Go.WideShapes Go.Deep Go.RowKit
section
variable {H : Type} {enc : TypeId × Value -> H} {P : Program} {W : World} {held : Bool}
theorem c9p{w:World}{a:Addr}{v:Value}(h:w.cell? a=some v):a=⟨a.block,a.off,none⟩/\a.block<w.heap.size:=by
 unfold World.cell? at h
 split at h
 ·rename_i c _ _ hb
  split at h
  ·cases h
  rename_i hs
  refine⟨?_,(Array.getElem?_eq_some_iff.1 hb).1⟩
  cases a with
  | mk b o s=>cases s with
   | none=>rfl
   | some _=>simp at hs
 cases h
theorem c6r{α:Type}(d:α){f:α->List Value}{k:Nat}(Good:α->Prop){t e:TypeId}{fuel:Nat}{cs:List Value}{x:DataW H×List MemPlace}(ht:P.underlying t=some (.slice e))(hk0:0<k)(hk:P.cellsOf e=k)
  (hf:∀z,(f z).length=k) (hdec:∀n cs' y,DataW.trod enc P W 0 (fun _=>true) held n e cs'=some y->∃z:α,cs'=f z/\Good z) (h:DataW.trod enc P W 0 (fun _=>true) held fuel t cs=some x) :
  ∃v xs,cs=[v]/\Slc f k W v xs/\∀z∈xs,Good z:=by
 rcases open_slice ht h with ⟨rfl,_⟩ | ⟨a,len,cap,m,n,D,Pl,rfl,hb,hl,hm,hmm,hx,hi⟩
 ·exact⟨_,[],rfl,Slc.nil_ _ _ _ _ _ (by decide),by simp⟩
 have hm':m=cap:=by simpa using hmm
 subst hm'
 rw[hk]at hi
 have hch:∀i,∃z:α,i<m->Good z/\∀j u,(f z)[j]? =some u->W.cell? ((a.add (i*k)).add j)=some u:=by
  intro i
  by_cases him:i<m
  ·obtain⟨cs',hc,ht'⟩:=hi i him
   obtain⟨z,rfl,hg⟩:=hdec _ _ _ ht'
   obtain⟨_,hcl,hat⟩:=World.cells?_some hc
   refine⟨z,fun _=>⟨hg,fun j u hu=>?_⟩⟩
   have hj:j<k:=by rw[<- hcl];exact(List.getElem?_eq_some_iff.1 hu).1
   rw[hat j hj,hu]
  exact⟨d,fun h=>absurd h him⟩
 obtain⟨z,hz⟩:=Classical.axiomOfChoice hch
 refine⟨_,(List.range len).map z,rfl,⟨some a,m,by simp,by simpa using hl,by unfold maxLen at hm;omega,fun h0=>?_⟩,?_⟩
 ·have h0':0<len:=by simpa using h0
  have hfz:∃u,(f (z 0))[0]? =some u:=⟨(f (z 0))[0]'(by rw[hf];exact hk0),List.getElem?_eq_getElem _⟩
  obtain⟨u,hu⟩:=hfz
  have hc:=(hz 0 (by omega)).2 0 u hu
  rw[Nat.zero_mul]at hc
  have hs:=c9p (a:=a) (by simpa [Addr.add]using hc)
  refine⟨a.block,a.off,by rw[<- hs.1],hs.2,fun j y hj i u hu=>?_⟩
  rw[List.getElem?_map]at hj
  have hjl:j<len:=by
   rcases Nat.lt_or_ge j len with h | h
   ·exact h
   rw[List.getElem?_eq_none (by simpa using h)]at hj;cases hj
  rw[List.getElem?_range hjl]at hj
  have e:z j=y:=by simpa using hj
  subst e
  have hc:=(hz j (by omega)).2 i u hu
  rw[hs.1,Addr.add_lit,Addr.add_lit]at hc
  exact hc
 intro y hy
 rw[List.mem_map]at hy
 obtain⟨j,hj,rfl⟩:=hy
 have:j<len:=by simpa using hj
 exact(hz j (by omega)).1
end
theorem list2{α:Type}{l:List α}(h:l.length=2):∃a b,l=[a,b]:=by
 match l,h with
 | [a,b],_=>exact⟨a,b,rfl⟩
open Go.ChangeShapes Go.WideShapes Go.ChangeAt Go.ChangeMaps Go.RowKit
theorem own_knob:ownKnob Tryz.prog.godebug=none:=by kernel_rfl
def c4y : List (String × DataW Unit) := [("unicode/utf8.acceptRanges", Rows.laid_unicode_utf8_acceptRanges), ("unicode/utf8.first", Rows.laid_unicode_utf8_first)]
section
variable {H : Type} {enc : TypeId × Value -> H} {P : Program} {W W' : World}
theorem b0x(hl:laidOutB P=true)(hb:Below W.heap.size W W'):∀ {ts:List TypeId} {vs:List Value} {ds:List (DataW H)} {ps:List MemPlace},DataW.TrodAll enc P W 0 (fun _=>true) true ts vs ds ps ->
  (∀t∈ts,P.readableRec t=true/\t<P.types.size)->(∀x∈ps,x.block<W.heap.size)->DataW.TrodAll enc P W' 0 (fun b=>decide (b<W.heap.size)) true ts vs ds ps
 | [],[],[],_,h,_,_=>h
 | t::ts,v::vs,d::ds,ps,⟨p,q,h,hs,e⟩,hr,hlt=>by
  subst e
  exact⟨p,q,Below.trod hl (hr t (by simp)).1 (hr t (by simp)).2 h hb (fun x hx=>hlt x (by simp[hx])),b0x hl hb hs (fun u hu=>hr u (by simp[hu])) (fun x hx=>hlt x (by simp[hx])),rfl⟩
end
theorem a5v{a:Int}(h:(Lit.int .u16 a).wf=true):0<=a/\a<=65535:=by
 simpa [Lit.wf,IntKind.min,IntKind.max,IntKind.signed,IntKind.bits]using h
theorem c4x(os:Os)(args:Array Value):((World.laidAll Tryz.prog os c4y).forCall (fun _ _=>0) ⟨#[],args,[]⟩).Shaped Tryz.prog :=
 World.shaped_of_ZipB (by kernel_rfl) (by kernel_rfl)
theorem laid_met(os:Os)(args:Array Value):laidMetH Tryz.prog c4y ((World.laidAll Tryz.prog os c4y).forCall (fun _ _=>0) ⟨#[],args,[]⟩).memory:=by
 rw[MakeChecks.laidMetH_plain _ _ _ (by kernel_rfl)]
 exact laidMet_laidAll _ (by kernel_rfl) (by kernel_rfl)
theorem list4{α:Type}{l:List α}(h:l.length=4):∃a b c d,l=[a,b,c,d]:=by
 match l,h with
 | [a,b,c,d],_=>exact⟨a,b,c,d,rfl⟩
section
variable {H : Type} {enc : TypeId × Value -> H} {W : World} {base : Nat} {sp : Nat -> Bool} {held : Bool}
theorem c3q:Tryz.prog.cellsOf 24=1:=by kernel_rfl
end
end Go.Proofs.YtjmiicjialkpiaaGreatDoor
