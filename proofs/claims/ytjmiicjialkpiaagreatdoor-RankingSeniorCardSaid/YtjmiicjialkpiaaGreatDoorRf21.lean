/-
Part 21 of the base.
-/
import Derived.Test.YtjmiicjialkpiaaGreatDoorRf12
import Derived.Deep.Upon
namespace Go.Proofs.YtjmiicjialkpiaaGreatDoor
open Go.RowKit
def rowF(n:Nat)(f:Nat->Value):Array Value:=((List.range n).map f).toArray
theorem b1e{n k:Nat}{f:Nat->Value}(hk:k<n):(rowF n f)[k]? =some (f k):=by
 unfold rowF
 rw[List.getElem?_toArray,List.getElem?_map,List.getElem?_range hk]
 rfl
theorem b1d(n:Nat)(f:Nat->Value):(rowF n f).size=n:=by unfold rowF;simp
theorem rowF_set{n k:Nat}{f:Nat->Value}(v:Value):(rowF n f).setIfInBounds k v=rowF n (fun x=>if x=k then v else f x):=by
 refine Array.ext_getElem? fun i=>?_
 rw[Array.getElem?_setIfInBounds,b1d]
 by_cases hi:i<n
 ·rw[b1e hi,b1e hi]
  by_cases hk:k=i
  ·subst hk;simp[hi]
  rw[if_neg hk,if_neg (fun e=>hk e.symm)]
 have h1:(rowF n f)[i]? =none:=Array.getElem?_eq_none (by rw[b1d];omega)
 have h2:(rowF n (fun x=>if x=k then v else f x))[i]? =none:=Array.getElem?_eq_none (by rw[b1d];omega)
 rw[h1,h2]
 split
 ·split
  ·omega
  rfl
 rfl
theorem b8a{n:Nat}{f g:Nat->Value}(h:∀k,k<n->f k=g k):rowF n f=rowF n g:=by
 unfold rowF
 congr 1
 exact List.map_congr_left fun k hk=>h k (List.mem_range.1 hk)
def b5d(t:TypeId)(n:Nat)(gs:List Nat)(m:Nat->Nat->Value):List Own:=(List.range gs.length).map fun i=>⟨gs.getD i 0,rowF n (m i),t⟩
theorem a9n{t:TypeId}{n i:Nat}{gs:List Nat}{m:Nat->Nat->Value}(hi:i<gs.length):(b5d t n gs m)[i]? =some ⟨gs.getD i 0,rowF n (m i),t⟩:=by
 unfold b5d
 rw[List.getElem?_map,List.getElem?_range hi]
 rfl
theorem a1a{t:TypeId}{n:Nat}{gs:List Nat}{m:Nat->Nat->Value}:(b5d t n gs m).length=gs.length:=by unfold b5d;simp
theorem c9v{t:TypeId}{n i:Nat}{gs:List Nat}{m:Nat->Nat->Value}(f:Nat->Value):(b5d t n gs m).set i ⟨gs.getD i 0,rowF n f,t⟩=b5d t n gs (fun x=>if x=i then f else m x):=by
 refine List.ext_getElem? fun j=>?_
 rw[List.getElem?_set,a1a]
 by_cases hj:j<gs.length
 ·rw[a9n hj,a9n hj]
  by_cases hi:i=j
  ·subst hi;simp[hj]
  rw[if_neg hi,if_neg (fun e=>hi e.symm)]
 rw[List.getElem?_eq_none (by rw[a1a];omega),List.getElem?_eq_none (by rw[a1a];omega)]
 split
 ·split
  ·omega
  rfl
 rfl
theorem c1v{t:TypeId}{n g:Nat}{gs:List Nat}{m:Nat->Nat->Value}(f:Nat->Value):b5d t n (gs++[g]) (fun x=>if x=gs.length then f else m x)=b5d t n gs m++[⟨g,rowF n f,t⟩]:=by
 refine List.ext_getElem? fun j=>?_
 rw[List.getElem?_append,a1a]
 by_cases hj:j<gs.length
 ·rw[a9n (by rw[List.length_append];omega),if_pos hj,a9n hj,if_neg (by omega)]
  congr 2
  rw[List.getD_eq_getElem?_getD,List.getD_eq_getElem?_getD,List.getElem?_append_left hj]
 rw[if_neg hj]
 by_cases hj2:j=gs.length
 ·subst hj2
  rw[a9n (by rw[List.length_append];simp),if_pos rfl,Nat.sub_self]
  congr 2
  rw[List.getD_eq_getElem?_getD,List.getElem?_append_right (Nat.le_refl _),Nat.sub_self]
  rfl
 rw[List.getElem?_eq_none (by rw[a1a,List.length_append];simp;omega),List.getElem?_eq_none (by simp;omega)]
section
variable {β : Type}
def rowE(e:β->Value)(n:Nat)(f:Nat->β):Array Value:=rowF n fun x=>e (f x)
def putA(f:Nat->β)(i:Nat)(b:β):Nat->β:=fun x=>if x=i then b else f x
theorem b5n{f:Nat->β}{i:Nat}{b:β}:putA f i b i=b:=if_pos rfl
theorem a5t{f:Nat->β}{i j:Nat}{b:β}(h:j≠i):putA f i b j=f j:=if_neg h
theorem a8m{e:β->Value}{n k:Nat}{f:Nat->β}(hk:k<n):(rowE e n f)[k]? =some (e (f k)):=b1e hk
theorem rowE_set{e:β->Value}{n i:Nat}{f:Nat->β}(b:β):(rowE e n f).setIfInBounds i (e b)=rowE e n (putA f i b):=by
 unfold rowE
 rw[rowF_set]
 refine b8a fun k _=>?_
 unfold putA
 split<;>rfl
theorem St.setE{w0 w:World}{R:List Own}(h:St w0 R w)(k:Nat){g:Nat}{e:β->Value}{n:Nat}{f:Nat->β}{t:TypeId}(hk:R[k]? =some ⟨g,rowE e n f,t⟩)(i:Nat)(b:β) :
  St w0 (R.set k ⟨g,rowE e n (putA f i b),t⟩) (w.setCell ⟨g,i,none⟩ (e b)):=by
 have:=h.set k hk i (e b)
 rw[rowE_set]at this
 exact this
theorem St.cellE{w0 w:World}{R:List Own}(h:St w0 R w)(k:Nat){g:Nat}{e:β->Value}{n:Nat}{f:Nat->β}{t:TypeId}(hk:R[k]? =some ⟨g,rowE e n f,t⟩){i:Nat}(hi:i<n):w.cell? ⟨g,i,none⟩=some (e (f i)) :=
 h.cell k hk i (a8m hi)
end
theorem c6z(v:Value)(n:Nat):madeCells #[v] n=rowF n (fun _=>v):=by
 apply Array.ext_getElem?
 intro i
 by_cases hi:i<n
 ·rw[b1e hi]
  unfold madeCells
  rw[Array.getElem?_map,Array.getElem?_range,if_pos hi]
  simp[Nat.mod_one]
 rw[Array.getElem?_eq_none (by rw[size_madeCells];omega),Array.getElem?_eq_none (by rw[b1d];omega)]
theorem d1y:(Tryz.prog.info? 4).map (fun i=>(i.zero,i.size,i.bytes))=some (some (.bool false),1,1):=by kernel_rfl
theorem c7g:(Tryz.prog.info? 3).map (fun i=>(i.zero,i.size,i.bytes))=some (some (.int .i64 0),1,8):=by kernel_rfl
theorem c0n:∃i,Tryz.prog.info? 3=some i/\i.zero=some (.int .i64 0)/\i.size=1/\i.bytes=8:=by
 obtain⟨i,hi,hzz⟩:=Option.map_eq_some_iff.1 c7g
 simp only[Prod.mk.injEq]at hzz
 exact⟨i,hi,hzz⟩
theorem d1t:(Tryz.prog.info? 9).map (fun i=>(i.zero,i.size,i.bytes))=some (some (.string (bs [])),1,16):=by kernel_rfl
theorem b9h:∃i,Tryz.prog.info? 9=some i/\i.zero=some (.string (bs []))/\i.size=1/\i.bytes=16:=by
 obtain⟨i,hi,hzz⟩:=Option.map_eq_some_iff.1 d1t
 simp only[Prod.mk.injEq]at hzz
 exact⟨i,hi,hzz⟩
def intE(c:Nat):List Value:=[.int .i64 (c:Nat)]
theorem a2h(c:Nat):(intE c).length=1:=rfl
def outN(sn:Nat->Bool)(n:Nat):Nat:=(List.range n).countP fun j=>!sn j
theorem c6q{sn:Nat->Bool}{n c:Nat}(hc:c<n)(h:sn c=false):outN (putA sn c true) n+1=outN sn n:=by
 unfold outN
 induction n with
 | zero=>omega
 | succ n ih =>
  rw[List.range_succ,List.countP_append,List.countP_append,List.countP_singleton,List.countP_singleton]
  by_cases hcn:c<n
  ·have:=ih hcn
   rw[a5t (show n≠c by omega)]
   omega
  obtain rfl:c=n:=by omega
  rw[b5n,h]
  have e:(List.range c).countP (fun j=>!putA sn c true j)=(List.range c).countP fun j=>!sn j:=by
   refine List.countP_congr fun j hj=>?_
   rw[a5t (show j≠c by have:=List.mem_range.1 hj;omega)]
  rw[e]
  simp
theorem outN_le(sn:Nat->Bool)(n:Nat):outN sn n<=n:=by
 have:=List.countP_le_length (p:=fun j=>!sn j) (l:=List.range n)
 rwa[List.length_range]at this
theorem a5u(n:Nat)(hn:n<=1000000)(W:World) :
  (Instr.makeSlice 54 (.int .i64 (n:Int)) (.int .i64 (n:Int))).run Tryz.prog W=.ok (.slice (some ⟨W.heap.size,0,none⟩) n n) (W.alloc (.cells (rowE .bool n (fun _=>false)) 4)):=by
 obtain⟨i,hi,hzz⟩:=Option.map_eq_some_iff.1 d1y
 simp only[Prod.mk.injEq]at hzz
 obtain⟨hz,hs,hb⟩:=hzz
 have:=Go.run_make (P:=Tryz.prog) W 54 4 i _ Tryz.underlying54 hi hz .i64 .i64 (n:Int) (n:Int) (by omega) (Int.le_refl _) (by rw[hb];omega) (by omega)
 rw[hs,Int.toNat_natCast,show(Value.bool false).cells=#[.bool false]from rfl,Nat.mul_one,c6z]at this
 exact this
theorem d1h(n:Nat)(hn:n<=1000000)(W:World) :
  (Instr.makeSlice 29 (.int .i64 (n:Int)) (.int .i64 (n:Int))).run Tryz.prog W=.ok (.slice (some ⟨W.heap.size,0,none⟩) n n) (W.alloc (.cells (rowE (.int .i64) n (fun _=>0)) 3)):=by
 obtain⟨i,hi,hzz⟩:=Option.map_eq_some_iff.1 c7g
 simp only[Prod.mk.injEq]at hzz
 obtain⟨hz,hs,hb⟩:=hzz
 have:=Go.run_make (P:=Tryz.prog) W 29 3 i _ Tryz.underlying29 hi hz .i64 .i64 (n:Int) (n:Int) (by omega) (Int.le_refl _) (by rw[hb];omega) (by omega)
 rw[hs,Int.toNat_natCast,show(Value.int .i64 0).cells=#[.int .i64 0]from rfl,Nat.mul_one,c6z]at this
 exact this
section
variable {α : Type} {enc : α -> List Value} {k : Nat}
def Que(enc:α->List Value)(k base g:Nat)(w:World)(v:Value)(xs:List α):Prop :=
 ∃p cap,v=.slice (some ⟨g,p,none⟩) xs.length cap/\base<=g/\g<w.heap.size/\xs.length<=cap/\cap<=maxLen/\(∀j u,(flat enc xs)[j]? =some u->w.cell? ⟨g,p+j,none⟩=some u) /\
  ∀j,j<cap*k->(w.cell? ⟨g,p+j,none⟩).isSome=true/\w.frozen? ⟨g,p+j,none⟩=false
theorem Que.kept{base g:Nat}{w w':World}{v:Value}{xs:List α}(h:Que enc k base g w v xs)(hg:w'.heap[g]? =w.heap[g]?)(hs:w.heap.size<=w'.heap.size):Que enc k base g w' v xs:=by
 obtain⟨p,cap,rfl,h1,h2,h3,h4,h5,h6⟩:=h
 have hc:∀j,w'.cell? ⟨g,p+j,none⟩=w.cell? ⟨g,p+j,none⟩:=fun j=>World.cell?_of_block (a:=⟨g,p+j,none⟩) hg
 have hf:∀j,w'.frozen? ⟨g,p+j,none⟩=w.frozen? ⟨g,p+j,none⟩:=fun j=>World.frozen?_of_block (a:=⟨g,p+j,none⟩) hg
 exact⟨p,cap,rfl,h1,by omega,h3,h4,fun j u hu=>by rw[hc];exact h5 j u hu,fun j hj=>by rw[hc,hf];exact h6 j hj⟩
theorem Que.lt{base g:Nat}{w:World}{v:Value}{xs:List α}(h:Que enc k base g w v xs):base<=g/\g<w.heap.size:=by
 obtain⟨p,cap,rfl,h1,h2,_⟩:=h
 exact⟨h1,h2⟩
theorem Que.below{base g:Nat}{w w':World}{v:Value}{xs:List α}(h:Que enc k base g w v xs)(hb:Below w.heap.size w w'):Que enc k base g w' v xs:=h.kept (hb.block g h.lt.2) hb.size
theorem Que.far{base g:Nat}{w:World}{v:Value}{xs:List α}(h:Que enc k base g w v xs){a:Addr}(ha:g≠a.block)(u:Value):Que enc k base g (w.setCell a u) v xs :=
 h.kept (Below.heap_setCell w a u g ha) (by rw[a9m];exact Nat.le_refl _)
theorem Que.of_blk(hk:∀x,(enc x).length=k){base:Nat}{w:World}{g:Nat}{cs:Array Value}{t:TypeId}{xs:List α}(h:Blk w g cs t)(hb:base<=g)(hcs:cs.toList=flat enc xs){n c:Nat}(hn:xs.length=n)(hc:n=c)(hm:n<=maxLen) :
  Que enc k base g w (.slice (some ⟨g,0,none⟩) n c) xs:=by
 subst hn
 subst hc
 refine⟨0,_,rfl,hb,h.lt,Nat.le_refl _,hm,fun j u hu=>?_,fun j hj=>?_⟩
 ·rw[Nat.zero_add]
  refine h.cell _ _ ?_
  rw[<- Array.getElem?_toList,hcs]
  exact hu
 rw[Nat.zero_add]
 refine⟨?_,h.frozen j⟩
 have hl:j<cs.size:=by rw[<- Array.length_toList,hcs,a6e hk];exact hj
 rw[h.cell j cs[j] (Array.getElem?_eq_getElem hl)];rfl
theorem Que.slc(hk:∀x,(enc x).length=k){base g:Nat}{w:World}{v:Value}{xs:List α}(h:Que enc k base g w v xs):Slc enc k w v xs:=by
 obtain⟨p,cap,rfl,h1,h2,h3,h4,h5,h6⟩:=h
 refine⟨_,cap,rfl,h3,by unfold maxLen at h4;omega,fun _=>⟨g,p,rfl,h2,fun j x hj i u hu=>?_⟩⟩
 rw[Nat.add_assoc]
 exact h5 _ u (a4a hk xs j x hj i u hu)
theorem Que.len{base g:Nat}{w:World}{v:Value}{xs:List α}(h:Que enc k base g w v xs):∃p cap,v=.slice (some ⟨g,p,none⟩) xs.length cap/\xs.length<=cap/\cap<=9223372036854775807:=by
 obtain⟨p,cap,rfl,h1,h2,h3,h4,_⟩:=h
 exact⟨p,cap,rfl,h3,by unfold maxLen at h4;omega⟩
theorem Que.pop(hk:∀x,(enc x).length=k){base g:Nat}{w:World}{v:Value}{x:α}{t:List α}(h:Que enc k base g w v (x::t)) :
  ∃p cap,v=.slice (some ⟨g,p,none⟩) (t.length+1) cap/\t.length+1<=cap/\cap<=9223372036854775807/\(∀i u,(enc x)[i]? =some u->w.cell? ⟨g,p+i,none⟩=some u)/\Que enc k base g w (Go.sliced (some ⟨g,p,none⟩) 1 (t.length+1) cap k) t:=by
 obtain⟨p,cap,rfl,h1,h2,h3,h4,h5,h6⟩:=h
 rw[List.length_cons]at h3
 have hx:∀i u,(enc x)[i]? =some u->w.cell? ⟨g,p+i,none⟩=some u:=fun i u hu=>h5 i u (by
  rw[flat,List.getElem?_append_left (List.getElem?_eq_some_iff.1 hu).1];exact hu)
 refine⟨p,cap,rfl,h3,by unfold maxLen at h4;omega,hx,?_⟩
 unfold Go.sliced
 rw[Nat.add_sub_cancel]
 by_cases hc:cap=1
 ·subst hc
  obtain rfl:t=[]:=List.length_eq_zero_iff.1 (by omega)
  rw[if_pos rfl]
  exact⟨p,0,rfl,h1,h2,Nat.le_refl _,Nat.zero_le _,fun j u hu=>by simp[flat]at hu,fun j hj=>by omega⟩
 rw[if_neg hc]
 refine⟨p+k,cap-1,by simp[Addr.add_lit],h1,h2,by omega,by omega,fun j u hu=>?_,fun j hj=>?_⟩
 ·rw[Nat.add_assoc]
  refine h5 (k+j) u ?_
  rw[flat,List.getElem?_append_right (by rw[hk];omega),hk,Nat.add_sub_cancel_left]
  exact hu
 rw[Nat.add_assoc]
 refine h6 (k+j) ?_
 rw[Nat.sub_mul]at hj
 have:1*k<=cap*k:=Nat.mul_le_mul_right _ (by omega)
 omega
end
theorem b4t{P:Program}{c:Code}{Q:Exit->Act->World->Prop}{a:Act}{w0 w:World}{R:List Own}{X:World->Prop}(h:St w0 R w)(hx:X w)(k:∀w',St w0 R w'->X w'->c.wp P Q a w'):c.wp P Q a w:=k w h hx
theorem b7x(b:Nat):∀ (vs:List Value) (o:Nat) (w:World),(w.setCells b o vs).heap.size=w.heap.size
 | [],_,_=>rfl
 | v::r,o,w=>by rw[World.setCells,b7x b r (o+1) (w.setCell ⟨b,o,none⟩ v),a9m]
theorem b7r(b:Nat):∀ (vs:List Value) (o:Nat) (w:World),(w.setCells b o vs).tape=w.tape
 | [],_,_=>rfl
 | v::r,o,w=>by rw[World.setCells,b7r b r (o+1) (w.setCell ⟨b,o,none⟩ v)];rfl
section
variable {α : Type} {enc : α -> List Value} {P : Program}
theorem b6x(base:Nat)(t ty e:TypeId)(i:TypeInfo)(z:Value)(size bytes:Nat)(ht:P.underlying t=some (.slice e))(hi:P.info? e=some i)(hz:i.zero=some z)
  (hsize:i.size=size) (hby:i.bytes=bytes) (hzs:z.cells.size=size) (hk:∀x,(enc x).length=size)
  {w:World} {g:Nat} {v:Value} {xs:List α} (hq:Que enc size base g w v xs) (x:Value) (ys:List α) (hs:Src P size t x ys.length (flat enc ys) w) (h63:xs.length+ys.length<=maxLen) (hbytes:(xs.length+ys.length)*bytes<=140737488355328) (hbase:base<=w.heap.size) :
  ∃v' w' g',(Builtin.append_ #[t,t] ty #[v,x]).run P w=.ok v' w'/\Que enc size base g' w' v' (xs++ys)/\w.grownBy w' (some g)/\(g'=g\/w.heap.size<=g'):=by
 subst hsize
 subst hby
 obtain⟨p,cap,rfl,h1,h2,h3,h4,h5,h6⟩:=hq
 have hfl:=a6e hk xs
 have hfy:=a6e hk ys
 by_cases hroom:xs.length+ys.length<=cap
 ·have hfit:(xs.length+ys.length)*i.size<=cap*i.size:=Nat.mul_le_mul_right _ hroom
  rw[Nat.add_mul]at hfit
  have hthere:∀j,j<(flat enc ys).length->(w.cell? ⟨g,p+xs.length*i.size+j,none⟩).isSome=true:=fun j hj=>by rw[Nat.add_assoc];exact(h6 _ (by omega)).1
  have hr:=run_append_room_src (P:=P) w t t ty e i ht hi g p xs.length cap x ys.length (flat enc ys) hs hroom hthere (fun j hj=>by rw[Nat.add_assoc];exact(h6 _ (by omega)).2)
  have hsz:(w.setCells g (p+xs.length*i.size) (flat enc ys)).heap.size=w.heap.size:=b7x _ _ _ _
  refine⟨_,_,g,hr,⟨p,cap,by rw[List.length_append],h1,by rw[hsz];exact h2,by rw[List.length_append];exact hroom,h4,fun j u hu=>?_,fun j hj=>?_⟩,?_,.inl rfl⟩
  ·rw[a2s]at hu
   by_cases hj:j<xs.length*i.size
   ·rw[List.getElem?_append_left (by omega)]at hu
    rw[World.cell?_setCells_out g _ _ _ _ (fun _ _=>.inl (by show p+j<_;omega))]
    exact h5 j u hu
   rw[List.getElem?_append_right (by omega),hfl]at hu
   obtain⟨hl,he⟩:=List.getElem?_eq_some_iff.1 hu
   have:=World.cell?_setCells_in g (flat enc ys) (p+xs.length*i.size) w hthere (j-xs.length*i.size) hl
   rw[show p+xs.length*i.size+(j-xs.length*i.size)=p+j by omega,he]at this
   exact this
  ·exact⟨World.isSome_setCells g _ _ _ _ (h6 j hj).1,by rw[World.frozen?_setCells];exact(h6 j hj).2⟩
  have hK:=World.keptBut_setCells g (may:=fun _=>True) (flat enc ys) (p+xs.length*i.size) w (fun _ _=>trivial)
  exact⟨World.os_setCells _ _ _ _,b7r _ _ _ _,World.output_setCells _ _ _ _,by rw[hsz];exact Nat.le_refl _,fun q hq hne=>World.heap_setCells_other _ _ _ _ hq (fun e=>hne (by rw[e]))⟩
 have hbig:(xs.length+ys.length:Nat)<=9223372036854775807:=by unfold maxLen at h63;omega
 have hold:=run_firstCells_some (P:=P) w.drew i.size xs.length ⟨g,p,none⟩ xs.length cap (flat enc xs) hfl (by intro j u hu;rw[Addr.add_lit];simpa using h5 j u hu)
 have hr:=run_append_grow_src (P:=P) w t t ty e i z ht hi hz (some ⟨g,p,none⟩) xs.length cap (flat enc xs) hold x ys.length (flat enc ys) hs (by omega) (by omega) (growslice_fits (by omega) hbytes)
 have hge:=grownCap_ge w (xs.length+ys.length) cap e
 have hB:Blk (w.drew.alloc (.cells ((flat enc xs++flat enc ys).toArray++Builtin.zeroCells z.cells (grownCap w (xs.length+ys.length) cap e-(xs.length+ys.length))) e)) w.heap.size ((flat enc xs++flat enc ys).toArray++Builtin.zeroCells z.cells (grownCap w (xs.length+ys.length) cap e-(xs.length+ys.length))) e:=Blk.new w.drew _ e
 have hcs:((flat enc xs++flat enc ys).toArray++Builtin.zeroCells z.cells (grownCap w (xs.length+ys.length) cap e-(xs.length+ys.length))).size=grownCap w (xs.length+ys.length) cap e*i.size:=by
  simp only[Array.size_append,List.size_toArray,List.length_append,size_zeroCells,hzs,hfl,hfy,<-Nat.add_mul]
  congr 1
  omega
 refine⟨_,_,w.heap.size,hr,⟨0,grownCap w (xs.length+ys.length) cap e,by rw[List.length_append],hbase,hB.lt,by rw[List.length_append];exact hge,grownCap_le_maxLen _ _ _ _ h63,fun j u hu=>?_,fun j hj=>?_⟩,⟨rfl,rfl,rfl,by simp,fun q hq _=>Below.heap_alloc w.drew _ q hq⟩,.inr (Nat.le_refl _)⟩
 ·rw[Nat.zero_add]
  refine hB.cell j u ?_
  rw[a2s]at hu
  have hl:=(List.getElem?_eq_some_iff.1 hu).1
  rw[Array.getElem?_append_left (by simpa using hl)]
  simpa using hu
 rw[Nat.zero_add]
 refine⟨?_,hB.frozen j⟩
 rw[hB.cell j _ (Array.getElem?_eq_getElem (by rw[hcs];exact hj))];rfl
theorem a9j(w:World){ops:Array Oper}{rest:List Oper}{o:Oper}{a:Act}{Q:Exit->Act->World->Prop}(hgd:o.guard=none)(s x:Operand)(t:TypeId)
  (ho:o.op=.call {callee:=.builtin .append,args:=#[s,x],argTypes:=#[t,t]})
  (base:Nat) (e:TypeId) (i:TypeInfo) (z:Value) (size bytes:Nat) (ht:P.underlying t=some (.slice e)) (hi:P.info? e=some i) (hz:i.zero=some z)
  (hsize:i.size=size) (hby:i.bytes=bytes) (hzs:z.cells.size=size) (hk:∀y,(enc y).length=size)
  {g:Nat} {v:Value} {xs:List α} (hs:a.eval s=v) (hq:Que enc size base g w v xs) (u:Value) (ys:List α) (hx:a.eval x=u) (hsrc:Src P size t u ys.length (flat enc ys) w)
  (h63:xs.length+ys.length<=maxLen) (hbytes:(xs.length+ys.length)*bytes<=140737488355328) (hbase:base<=w.heap.size)
  (h:∀v' w' g',Que enc size base g' w' v' (xs++ys)->w.grownBy w' (some g)->(g'=g\/w.heap.size<=g')->wpList P ops Q rest (a.put o.dst v') w'):wpList P ops Q (o::rest) a w:=by
 refine wpList_plain hgd fun K hK=>?_
 obtain⟨v',w',g',hrun,r1,r2,r3⟩:=b6x (P:=P) base t o.type e i z size bytes ht hi hz hsize hby hzs hk hq u ys hsrc h63 hbytes hbase
 unfold Oper.wp
 simp[execOp,ho,resolve,invoke,builtin,hs,hx,hrun,Result.andThen]
 exact hK _ _ (h v' w' g' r1 r2 r3)
theorem a6z(w:World){ops:Array Oper}{rest:List Oper}{o:Oper}{a:Act}{Q:Exit->Act->World->Prop}(hgd:o.guard=none)(s lo:Operand)(t:TypeId)(ho:o.op=.slice t s (some lo) none none)
  (base:Nat) (e:TypeId) (i:TypeInfo) (size:Nat) (ht:P.underlying t=some (.slice e)) (hi:P.info? e=some i) (hsize:i.size=size) (hk:∀y,(enc y).length=size)
  {g:Nat} {v:Value} {x:α} {xs:List α} (hs:a.eval s=v) (hlo:a.eval lo=.int .i64 1) (hq:Que enc size base g w v (x::xs))
  (h:∀v',Que enc size base g w v' xs->wpList P ops Q rest (a.put o.dst v') w):wpList P ops Q (o::rest) a w:=by
 subst hsize
 obtain⟨p,cap,rfl,hc,hm,_,hq'⟩:=hq.pop hk
 have he:P.elem t=e:=by unfold Program.elem;rw[ht]
 have hr:=run_slice_l (P:=P) w t (some ⟨g,p,none⟩) (xs.length+1) cap (by rw[he];exact ht) .i64 1 (by decide) (by omega)
 rw[he,show(1:Int).toNat=1 from rfl]at hr
 have hz:(sizeOf e).run P w=.ok i.size w:=by simp[sizeOf,typeInfo,hi]
 rw[hz]at hr
 refine wpList_plain hgd fun K hK=>?_
 unfold Oper.wp
 simp only[execOp,ho,Option.map,hs,hlo,Sem.run_bind,run_sliceAt_slice w t _ _ _ _ (show P.underlying t=some (.slice (P.elem t)) by rw[he];exact ht),hr,Result.andThen_ok,Sem.run_pure]
 exact hK _ _ (h _ hq')
theorem Src.of_slc{size:Nat}{t e:TypeId}(ht:P.underlying t=some (.slice e))(hk:∀y,(enc y).length=size){w w0:World}{u:Value}{ys:List α}(h:Slc enc size w0 u ys)(hb:Below w0.heap.size w0 w)(h1:∀y∈ys,∀c∈enc y,c.oneCell'=true):Src P size t u ys.length (flat enc ys) w:=by
 obtain⟨A,c,rfl,_,_⟩:=h.slice
 cases A with
 | some ad =>
  refine Src.ofSlice w ht ad ys.length c (flat enc ys) (a6e hk ys) (h.flat_cells hk hb) fun c' hc'=>?_
  obtain⟨j,hj⟩:=List.mem_iff_getElem?.1 hc'
  obtain⟨q,i',y,_,hq,hi'⟩:=c0q hk ys j c' hj
  exact h1 y (List.mem_of_getElem? hq) c' (List.mem_of_getElem? hi')
 | none =>
  obtain rfl:=h.none_nil
  exact Src.ofNil w ht c
end
theorem St.perm{w0 w:World}{R R':List Own}(h:St w0 R w)(hp:R.Perm R'):St w0 R' w :=
 ⟨h.below,fun r hr=>h.ok r (hp.mem_iff.2 hr),(hp.pairwise_iff (fun h=>h.symm)).1 h.apart⟩
theorem c2q{α:Type}{x:α}:∀ {l:List α} {i:Nat},l[i]? =some x->l.Perm (x::l.eraseIdx i)
 | [],_,h=>by simp at h
 | a::l,0,h=>by
  obtain rfl:a=x:=by simpa using h
  exact List.Perm.refl _
 | a::l,i+1,h=>by
  have:=c2q (l:=l) (i:=i) (by simpa using h)
  exact(this.cons a).trans (List.Perm.swap x a _)
theorem c2p{α:Type}{y:α}:∀ {l:List α} {i:Nat},i<l.length->(y::l.eraseIdx i).Perm (l.set i y)
 | [],_,h=>absurd h (Nat.not_lt_zero _)
 | a::l,0,_=>List.Perm.refl _
 | a::l,i+1,h=>(List.Perm.swap a y _).trans ((c2p (l:=l) (i:=i) (by simpa using h)).cons a)
def a1t(t:TypeId)(n:Nat)(gs:List Nat)(M:Nat->Nat->Bool):List Own:=b5d t n gs fun i j=>.bool (M i j)
theorem a9p{t:TypeId}{n i:Nat}{gs:List Nat}{M:Nat->Nat->Bool}(hi:i<gs.length):(a1t t n gs M)[i]? =some ⟨gs.getD i 0,rowE .bool n (M i),t⟩:=a9n hi
theorem b5e{t:TypeId}{n i:Nat}{gs:List Nat}{M:Nat->Nat->Bool}(f:Nat->Bool):(a1t t n gs M).set i ⟨gs.getD i 0,rowE .bool n f,t⟩=a1t t n gs (fun x=>if x=i then f else M x):=by
 unfold a1t rowE
 rw[c9v]
 congr 1
 funext x
 dsimp only
 by_cases h:x=i
 ·simp only[if_pos h]
 simp only[if_neg h]
theorem b5f{t:TypeId}{n:Nat}{gs:List Nat}{M M':Nat->Nat->Bool}(h:∀i j,i<gs.length->j<n->M i j=M' i j):a1t t n gs M=a1t t n gs M':=by
 unfold a1t b5d
 refine List.map_congr_left fun i hi=>?_
 congr 1
 exact b8a fun k hk=>congrArg Value.bool (h i k (List.mem_range.1 hi) hk)
theorem St.pull{w0 w:World}{R:List Own}{t:TypeId}{n i:Nat}{gs:List Nat}{M:Nat->Nat->Bool}(h:St w0 (R++a1t t n gs M) w)(hi:i<gs.length):St w0 (⟨gs.getD i 0,rowE .bool n (M i),t⟩::R++(a1t t n gs M).eraseIdx i) w :=
 h.perm (((c2q (a9p hi)).append_left R).trans List.perm_middle)
theorem St.push{w0 w:World}{R:List Own}{t:TypeId}{n i:Nat}{gs:List Nat}{M:Nat->Nat->Bool}{f:Nat->Bool}(h:St w0 (⟨gs.getD i 0,rowE .bool n f,t⟩::R++(a1t t n gs M).eraseIdx i) w)(hi:i<gs.length):St w0 (R++a1t t n gs (fun x=>if x=i then f else M x)) w:=by
 rw[<- b5e]
 exact h.perm (List.perm_middle.symm.trans ((c2p (by unfold a1t;rw[a1a];exact hi)).append_left R))
theorem St.turnedO{w0 w w':World}{R:List Own}(h:St w0 R w){o:Option Nat}(hg:w.grownBy w' o)(h0:∀q,o=some q->w0.heap.size<=q)(hne:∀x∈R,o≠some x.g):St w0 R w' :=
 ⟨h.below.grown hg h.below.size h0,fun r hr=>⟨(hg.block r.g (h.ok r hr).1.lt (fun e=>hne r hr e.symm)).trans (h.ok r hr).1,(h.ok r hr).2⟩,h.apart⟩
theorem St.addRow{w0 w:World}{t:TypeId}{n g:Nat}{gs:List Nat}{R:List Own}(h:St w0 (⟨g,rowE .bool n (fun _=>false),t⟩::R++a1t t n gs (fun _ _=>false)) w):St w0 (R++a1t t n (gs++[g]) (fun _ _=>false)) w:=by
 have e:a1t t n (gs++[g]) (fun _ _=>false)=a1t t n gs (fun _ _=>false)++[⟨g,rowE .bool n (fun _=>false),t⟩]:=by
  have:=c1v (t:=t) (n:=n) (g:=g) (gs:=gs) (m:=fun _ _=>.bool false) (fun _=>.bool false)
  rw[show(fun x=>if x=gs.length then(fun _=>Value.bool false)else(fun(_ _:Nat)=>Value.bool false) x)=fun(_ _:Nat)=>Value.bool false from funext fun x=>by split<;>rfl]at this
  exact this
 rw[e]
 refine h.perm ?_
 rw[<- List.append_assoc]
 exact(List.perm_append_singleton _ _).symm
theorem c8r:(Tryz.prog.info? 54).map (fun i=>(i.zero,i.size,i.bytes))=some (some (.slice none 0 0),1,24):=by kernel_rfl
theorem b8z:∃i,Tryz.prog.info? 54=some i/\i.zero=some (.slice none 0 0)/\i.size=1/\i.bytes=24:=by
 obtain⟨i,hi,hzz⟩:=Option.map_eq_some_iff.1 c8r
 simp only[Prod.mk.injEq]at hzz
 exact⟨i,hi,hzz⟩
def slcE(n g:Nat):List Value:=[.slice (some ⟨g,0,none⟩) n n]
theorem b4h(n g:Nat):(slcE n g).length=1:=rfl
def MatB(w:World)(v:Value)(n:Nat)(M:Nat->Nat->Bool):Prop:=∃gs:List Nat,gs.length=n/\Slc (slcE n) 1 w v gs/\∀i g,gs[i]? =some g->∃t,Blk w g (rowE .bool n (M i)) t
theorem MatB.below{w w':World}{v:Value}{n:Nat}{M:Nat->Nat->Bool}(h:MatB w v n M)(hb:Below w.heap.size w w'):MatB w' v n M:=by
 obtain⟨gs,h1,h2,h3⟩:=h
 refine⟨gs,h1,h2.below hb,fun i g hg=>?_⟩
 obtain⟨t,ht⟩:=h3 i g hg
 exact⟨t,ht.below hb ht.lt⟩
theorem MatB.slice{w:World}{v:Value}{n:Nat}{M:Nat->Nat->Bool}(h:MatB w v n M):∃A c,v=.slice A n c/\n<=c/\c<=9223372036854775807:=by
 obtain⟨gs,rfl,h2,_⟩:=h
 exact h2.slice
theorem MatB.at_{w:World}{A:Option Addr}{n c:Nat}{M:Nat->Nat->Bool}(h:MatB w (.slice A n c) n M){i:Nat}(hi:i<n) :
  ∃b o g,A=some ⟨b,o,none⟩/\b<w.heap.size/\g<w.heap.size/\(∀w',Below w.heap.size w w'->w'.cell? ⟨b,o+i,none⟩=some (.slice (some ⟨g,0,none⟩) n n))/\∀w',Below w.heap.size w w'->∀j,j<n->w'.cell? ⟨g,j,none⟩=some (.bool (M i j)):=by
 obtain⟨gs,h1,h2,h3⟩:=h
 rw[<- h1]at h2
 obtain⟨b,o,g,hA,hb,hg,hx⟩:=Slc.at_ (n:=gs.length) (c:=c) h2 (j:=i) (by omega)
 obtain⟨t,ht⟩:=h3 i g hg
 refine⟨b,o,g,hA,hb,ht.lt,fun w' hw=>?_,fun w' hw j hj=>(ht.below hw ht.lt).cell j _ (a8m hj)⟩
 have:=hx w' hw 0 _ rfl
 rw[Nat.mul_one,Nat.add_zero,h1]at this
 exact this
end Go.Proofs.YtjmiicjialkpiaaGreatDoor
