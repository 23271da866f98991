/-
Part 2 of the base.
-/
import Derived.Test.YtjmiicjialkpiaaGreatDoorProg
import Derived.Test.YtjmiicjialkpiaaGreatDoorRf0
import Derived.WalkKit
import Derived.WalkSpells
import Derived.WalkLawsBesides
import Derived.Lib.Hide
import Derived.Deep.QuietTactic
import Derived.BigQuiet
import Derived.Test.YtjmiicjialkpiaaGreatDoorRf1
import Derived.Deep.OwnRows
import Derived.Laws.BytesArg
import Derived.Deep.DeepCutAuto
import Derived.Deep.CutBlock
import Derived.Deep.RegionWith
import Derived.OwnWalk
set_option maxRecDepth 100000
set_option maxHeartbeats 4000000
namespace Go.Proofs.YtjmiicjialkpiaaGreatDoor
open Go.RowKit
def Limbs(w:World)(v:Value)(xs:List Nat):Prop :=
 Small xs/\∃A c,v=.slice A xs.length c/\xs.length<=c/\c<=9223372036854775807 /\
  (0<xs.length->∃b o,A=some ⟨b,o,none⟩/\b<w.heap.size/\∀j,j<xs.length->w.cell? ⟨b,o+j,none⟩=some (.int .u32 (xs.getD j 0:Nat)))
theorem a7e{xs:List Nat}{k j:Nat}(h:j<k):(xs.take k).getD j 0=xs.getD j 0:=by
 rw[List.getD_eq_getElem?_getD,List.getD_eq_getElem?_getD,List.getElem?_take,if_pos h]
theorem Limbs.take{w:World}{A:Option Addr}{c:Nat}{xs:List Nat}(h:Limbs w (.slice A xs.length c) xs){k:Nat}(hk:k<=xs.length):Limbs w (.slice A k c) (xs.take k):=by
 obtain⟨hs,A',c',e,hl,hc,hx⟩:=h
 injection e with e1 e2 e3
 subst e1;subst e3
 have hlen:(xs.take k).length=k:=by rw[List.length_take];omega
 refine⟨hs.take k,A,c,by rw[hlen],by omega,hc,fun h0=>?_⟩
 obtain⟨b,o,e,hb,hcell⟩:=hx (by omega)
 exact⟨b,o,e,hb,fun j hj=>by rw[hcell j (by omega),a7e (by omega)]⟩
theorem Limbs.below{w w':World}{v:Value}{xs:List Nat}(h:Limbs w v xs)(hb:Below w.heap.size w w'):Limbs w' v xs:=by
 obtain⟨hs,A,c,rfl,hl,hc,hx⟩:=h
 refine⟨hs,A,c,rfl,hl,hc,fun h0=>?_⟩
 obtain⟨b,o,e,hbb,hcell⟩:=hx h0
 exact⟨b,o,e,Nat.lt_of_lt_of_le hbb hb.size,fun j hj=>by rw[hb.cell (p:=⟨b,o+j,none⟩) hbb];exact hcell j hj⟩
theorem Limbs.nil_(w:World)(A:Option Addr)(c:Nat)(hc:c<=9223372036854775807):Limbs w (.slice A 0 c) [] :=
 ⟨a3m,A,c,rfl,Nat.zero_le _,hc,fun h=>absurd h (by simp)⟩
theorem Limbs.slice{w:World}{v:Value}{xs:List Nat}(h:Limbs w v xs):∃A c,v=.slice A xs.length c/\xs.length<=c/\c<=9223372036854775807:=by
 obtain⟨_,A,c,e,h1,h2,_⟩:=h
 exact⟨A,c,e,h1,h2⟩
theorem Limbs.at_{w:World}{A:Option Addr}{c n:Nat}{xs:List Nat}(h:Limbs w (.slice A n c) xs){j:Nat}(hj:j<xs.length) :
  ∃b o x,A=some ⟨b,o,none⟩/\b<w.heap.size/\x=xs.getD j 0/\x<4294967296/\∀w',Below w.heap.size w w'->w'.cell? ⟨b,o+j,none⟩=some (.int .u32 (x:Nat)):=by
 obtain⟨hs,A',c',e,hl,hc,hx⟩:=h
 injection e with e1 e2 e3
 subst e1
 obtain⟨b,o,e,hb,hcell⟩:=hx (by omega)
 exact⟨b,o,_,e,hb,rfl,hs.get _,fun w' hw=>(hw.cell (p:=⟨b,o+j,none⟩) hb).trans (hcell j hj)⟩
theorem Limbs.cellAt{w:World}{b o c n:Nat}{xs:List Nat}(h:Limbs w (.slice (some ⟨b,o,none⟩) n c) xs){j:Nat}(hj:j<xs.length)(hb:b<w.heap.size)(w':World)(hw:Below w.heap.size w w') :
  w'.cell? ⟨b,o+j,none⟩=some (.int .u32 (xs.getD j 0:Nat)):=by
 obtain⟨_,A',c',e,_,_,hx⟩:=h
 injection e with e1 e2 e3
 subst e1
 obtain⟨b',o',e,_,hcell⟩:=hx (by omega)
 injection e with e
 injection e with e1 e2
 subst e1;subst e2
 exact(hw.cell (p:=⟨b,o+j,none⟩) hb).trans (hcell j hj)
theorem Limbs.small{w:World}{v:Value}{xs:List Nat}(h:Limbs w v xs):Small xs:=h.1
theorem Ext.trans{a b c:World}(h:Below a.heap.size a b)(k:Below b.heap.size b c):Below a.heap.size a c :=
 h.trans (k.mono h.size)
def Row(w:World)(g:Nat)(xs:List Nat):Prop:=w.heap[g]? =some (.cells ((xs.map fun x=>Value.int .u32 (x:Nat)).toArray) 124 (0,0))
section
variable {w w' : World} {g : Nat} {xs : List Nat}
theorem Row.lt(h:Row w g xs):g<w.heap.size:=by
 rcases Nat.lt_or_ge g w.heap.size with hlt | hge
 ·exact hlt
 unfold Row at h;rw[Array.getElem?_eq_none hge]at h;cases h
theorem Row.cell(h:Row w g xs){i:Nat}(hi:i<xs.length):w.cell? ⟨g,i,none⟩=some (.int .u32 (xs.getD i 0:Nat)):=by
 rw[cell_of_row w g i _ _ _ h]
 simp[List.getD_eq_getElem?_getD,hi]
theorem Row.frozen(h:Row w g xs)(i:Nat):w.frozen? ⟨g,i,none⟩=false:=by
 unfold Row at h
 simp[World.frozen?,h]
theorem Row.set_(h:Row w g xs)(i x:Nat):Row (w.setCell ⟨g,i,none⟩ (.int .u32 (x:Nat))) g (xs.set i x):=by
 unfold Row at h ⊢
 simp[World.setCell,Array.getElem?_modify,h,List.map_set]
theorem Row.below{B:Nat}(h:Row w g xs)(hb:Below B w w')(hg:g<B):Row w' g xs:=(hb.block g hg).trans h
theorem Row.drew(h:Row w g xs):Row w.drew g xs:=h
theorem Row.alloc(h:Row w g xs)(o:Obj):Row (w.alloc o) g xs:=(Below.heap_alloc w o g h.lt).trans h
theorem Row.far(h:Row w g xs){p:Addr}(hp:g≠p.block)(u:Value):Row (w.setCell p u) g xs:=(Below.heap_setCell w p u g hp).trans h
theorem Row.made(w:World)(n:Nat):Row (w.alloc (.cells (madeCells #[.int .u32 0] n) 124)) w.heap.size (List.replicate n 0):=by
 unfold Row
 rw[heap_alloc_new]
 congr 2
 apply Array.ext
 ·simp[madeCells]
 intro i h1 h2
 simp[madeCells,Nat.mod_one]
theorem Row.limbs(h:Row w g xs)(hs:Small xs)(c:Nat)(hl:xs.length<=c)(hc:c<=9223372036854775807):Limbs w (.slice (some ⟨g,0,none⟩) xs.length c) xs :=
 ⟨hs,_,c,rfl,hl,hc,fun _=>⟨g,0,rfl,h.lt,fun j hj=>by rw[Nat.zero_add];exact h.cell hj⟩⟩
end
def bs(l:List UInt8):ByteArray:=⟨l.toArray⟩
theorem a3w(l:List UInt8):(bs l).data.toList=l:=rfl
theorem a2u(l:List UInt8):(bs l).size=l.length:=by simp[bs,ByteArray.size]
theorem bs_of(s:ByteArray):bs s.data.toList=s:=rfl
def BRow(w:World)(g:Nat)(l:List UInt8):Prop:=w.heap[g]? =some (.cells ((l.map fun x=>Value.int .u8 (x.toNat:Nat)).toArray) 5 (0,0))
section
variable {w w' : World} {g : Nat} {l : List UInt8}
theorem BRow.lt(h:BRow w g l):g<w.heap.size:=by
 rcases Nat.lt_or_ge g w.heap.size with hlt | hge
 ·exact hlt
 unfold BRow at h;rw[Array.getElem?_eq_none hge]at h;cases h
theorem BRow.cell(h:BRow w g l){i:Nat}(hi:i<l.length):w.cell? ⟨g,i,none⟩=some (.int .u8 ((l.getD i 0).toNat:Nat)):=by
 rw[cell_of_row w g i _ _ _ h]
 simp[List.getD_eq_getElem?_getD,hi]
theorem BRow.frozen(h:BRow w g l)(i:Nat):w.frozen? ⟨g,i,none⟩=false:=by
 unfold BRow at h
 simp[World.frozen?,h]
theorem BRow.set_(h:BRow w g l)(i:Nat)(x:UInt8):BRow (w.setCell ⟨g,i,none⟩ (.int .u8 (x.toNat:Nat))) g (l.set i x):=by
 unfold BRow at h ⊢
 simp[World.setCell,Array.getElem?_modify,h,List.map_set]
theorem BRow.made(w:World)(n:Nat):BRow (w.alloc (.cells (madeCells #[.int .u8 0] n) 5)) w.heap.size (List.replicate n 0):=by
 unfold BRow
 rw[heap_alloc_new]
 congr 2
 apply Array.ext
 ·simp[madeCells]
 intro i h1 h2
 simp[madeCells,Nat.mod_one]
end
theorem a0j{B:Nat}{a w:World}(h:Below B a w)(n:Nat):Below B a (w.drewN n):=⟨h.os,h.tape,h.output,h.size,h.block⟩
theorem Row.limbsN{w:World}{g n:Nat}{xs:List Nat}(h:Row w g xs)(hs:Small xs)(hn:xs.length=n)(hc:n<=9223372036854775807):Limbs w (.slice (some ⟨g,0,none⟩) n n) xs:=by
 subst hn;exact h.limbs hs _ (Nat.le_refl _) hc
theorem c8v(w:World)(r:Option Nat):w.grownBy w r:=World.grownBy.refl w r
theorem c5c{a w:World}{r:Option Nat}(h:a.grownBy w r)(n:Nat):a.grownBy (w.drewN n) r:=⟨h.os,h.tape,h.output,h.size,h.block⟩
theorem a4p{a w:World}{g:Nat}(h:a.grownBy w (some g))(i:Nat)(u:Value):a.grownBy (w.setCell ⟨g,i,none⟩ u) (some g) :=
 ⟨h.os,h.tape,h.output,by simpa [World.setCell]using h.size,fun k hk hne=>(Below.heap_setCell w _ u k (by rintro rfl;exact hne rfl)).trans (h.block k hk hne)⟩
theorem b5z{a b c:World}{r:Option Nat}(h:a.grownBy b r)(k:b.grownBy c r):a.grownBy c r :=
 ⟨k.os.trans h.os,k.tape.trans h.tape,k.output.trans h.output,Nat.le_trans h.size k.size,fun i hi hne=>(k.block i (Nat.lt_of_lt_of_le hi h.size) hne).trans (h.block i hi hne)⟩
theorem b8s{a w:World}{r:Option Nat}(h:a.grownBy w r){b o:Nat}(hb:b<a.heap.size)(hne:some b≠r):w.cell? ⟨b,o,none⟩=a.cell? ⟨b,o,none⟩ :=
 World.cell?_of_block (h.block b hb hne)
theorem a0m{xs:List Nat}(h:Small xs)(i:Nat){x:Nat}(hx:x<4294967296):Small (xs.set i x):=fun y hy=>by
 rcases List.mem_or_eq_of_mem_set hy with h1 | h1
 ·exact h y h1
 subst h1;exact hx
theorem a1h(n:Nat):Small (List.replicate n 0):=fun x hx=>by
 rw[List.eq_of_mem_replicate hx];decide
theorem c7f:(Tryz.prog.info? 124).map (fun i=>(i.zero,i.size,i.bytes))=some (some (.int .u32 0),1,4):=by kernel_rfl
theorem d1s:(Tryz.prog.info? 5).map (fun i=>(i.zero,i.size,i.bytes))=some (some (.int .u8 0),1,1):=by kernel_rfl
theorem a6d{xs:List Nat}{i:Nat}(h:xs.length<=i):xs.getD i 0=0:=by
 simp[List.getD_eq_getElem?_getD,List.getElem?_eq_none h]
theorem a3n(v:Value)(xs:List Nat)(w:World)(h:Limbs w v xs) :
  Calls Tryz.prog 101 #[v] w fun e w'=>(∃v',e=.returned v'/\Limbs w v' (limbsOf (lv xs)))/\w=w':=by
 have H:=zh h
 obtain⟨hs,A,c,rfl,hl,hc,hx⟩:=h
 go_enter Tryz.func101,Tryz.ntmps101
 go_wp2
 go_loop [3] (fun i=>∃k:Nat,k<=xs.length/\i=.int .i64 k/\Hid (∀i,k<=i->xs.getD i 0=0)) (fun i=>(intOf i).toNat)
 case atStart=>exact⟨xs.length,Nat.le_refl _,rfl,fun i hi=>a6d hi⟩
 case round =>
  obtain⟨k,hk,rfl,hz⟩:=hrel
  rcases Nat.eq_zero_or_pos k with rfl | hp
  ·go_wp2
   go_ret
   exact⟨⟨_,rfl,by rw[<- b0y xs 0 hs (Nat.zero_le _) hz.out (.inl rfl)];exact H.out.take (Nat.zero_le _)⟩,rfl⟩
  obtain⟨b,o,rfl,hb,hcell⟩:=hx (by omega)
  have hck:=hcell (k-1) (by omega)
  obtain⟨x,hxk⟩:∃x,x=xs.getD (k-1) 0:=⟨_,rfl⟩
  rw[<- hxk]at hck
  have HX:=zh hxk
  clear hxk hcell hx
  go_wp2
  ·have h0:((x:Int)==0)=true:=by assumption
   go_round
   case rel =>
    refine⟨k-1,by omega,by congr 1;omega,fun i hi=>?_⟩
    by_cases e:i=k-1
    ·subst e;rw[<- HX.out];simpa using h0
    exact hz.out i (by omega)
   case measure=>simp[intOf];omega
  have h0:((x:Int)==0)=false:=by assumption
  go_ret
  exact⟨⟨_,rfl,by rw[<- b0y xs k hs hk hz.out (.inr (by rw[<- HX.out];simpa using h0))];exact H.out.take hk⟩,rfl⟩
theorem a1s(T:TypeId)(hT:Tryz.prog.underlying T=some (.slice 124))(x:Int)(n:Nat)(hx:x=n)(hn:n<=4398046511104)(W:World) :
  (Instr.makeSlice T (.int .i64 x) (.int .i64 x)).run Tryz.prog W=.ok (.slice (some ⟨W.heap.size,0,none⟩) n n) (W.alloc (.cells (madeCells #[.int .u32 0] n) 124)):=by
 subst hx
 exact run_make_row' (P:=Tryz.prog) T 124 (.int .u32 0) 4 hT c7f rfl .i64 .i64 n (by omega) (by omega) W
theorem a8f(T:TypeId)(hT:Tryz.prog.underlying T=some .string)(s:ByteArray)(x:Int)(j:Nat)(hx:x=j)(hj:j<s.size) :
  ∃b:Nat,b=(s.data.toList.getD j 0).toNat/\∀W,(Instr.index T (.string s) (.int .i64 x)).run Tryz.prog W=.ok (.int .u8 (b:Int)) W:=by
 refine⟨_,rfl,fun W=>?_⟩
 subst hx
 have e:s[j]=s.data[j]:=rfl
 rw[run_index_string W T s .i64 j hT,dif_pos ⟨by omega,by omega⟩]
 simp[hj,e]
theorem a1f(s:ByteArray):s.data.toList.length=s.size:=by simp
theorem a1g(s:ByteArray)(w:World)(hsz:s.size<=1099511627776) :
  Calls Tryz.prog 66 #[.string s] w fun e w'=>∃v',e=.returned v'/\Limbs w' v' (limbsOf (bv s.data.toList))/\Below w.heap.size w w':=by
 have hmk:=a1s 122 Tryz.underlying122 (((s.size:Int)+4-1)/4) ((s.size+3)/4) (by omega) (by omega)
 obtain⟨k,hk⟩:∃k,k=(s.size+3)/4:=⟨_,rfl⟩
 rw[<- hk]at hmk
 have hk1:4*k<=s.size+3:=by omega
 have hk2:s.size<=4*k:=by omega
 clear hk
 go_enter Tryz.func66,Tryz.ntmps66
 go_wp2
 go_loopw [13] (fun i wr=>∃ (i':Nat) (xs:List Nat),i'<=s.size/\i=.int .i64 i'/\xs.length=k/\Row wr w.heap.size xs/\Small xs/\Hid (lv xs=bv (s.data.toList.drop (s.size-i')))/\Below w.heap.size w wr) (fun i _=>s.size-(intOf i).toNat)
 case atStart =>
  refine⟨0,List.replicate k 0,Nat.zero_le _,rfl,by simp,Row.made _ _,a1h _,?_,(Below.refl _ _).alloc (Nat.le_refl _) _⟩
  show lv _=bv _
  rw[a5m,List.drop_of_length_le (by simp)];rfl
 case round =>
  obtain⟨i,xs,hi,rfl,hlen,hrow,hs,hv,hb⟩:=hrel
  by_cases hlt:i<s.size
  ·obtain⟨b,hbs,hidx⟩:=a8f 9 Tryz.underlying9 s ((s.size:Int)-1-i) (s.size-1-i) (by omega) (by omega)
   have hcell:=hrow.cell (i:=i/4) (by omega)
   have hfr:=hrow.frozen (i/4)
   obtain⟨x,hx⟩:∃x,x=xs.getD (i/4) 0:=⟨_,rfl⟩
   rw[<- hx]at hcell
   have hm0:(0:Int)<=8*((i:Int)%4):=by omega
   have hxs:x<4294967296:=by rw[hx];exact hs.get _
   obtain⟨hy,hor,hlv⟩:=b8g (b:=b) (by rw[hv.out];have:=b8y s.data.toList i (by rw[a1f];omega);rwa[a1f]at this) hx (by omega) (by rw[hbs];exact UInt8.toNat_lt _)
   obtain⟨y,hyy⟩:∃y,y=x+b*2^(8*(i%4)):=⟨_,rfl⟩
   rw[<- hyy]at hy hor hlv
   have hbit:bits .or .u32 (x:Int) ((b:Int)%4294967296*2^(8*(i%4))%4294967296)=(y:Int):=by
    rw[<- hor,<-u32_or_nat x _ hxs (Nat.mod_lt _ (by decide))]
    simp only[Int.natCast_emod,Int.natCast_mul,Int.natCast_pow];rfl
   have hbv:=a9g s.data.toList i (by rw[a1f];omega)
   rw[a1f,<-hbs]at hbv
   have H:Hid (lv (xs.set (i/4) y)=bv (s.data.toList.drop (s.size-(i+1)))):=by
    show _=_
    rw[hlv,hbv,hv.out]
   have hrow':=hrow.set_ (i/4) y
   have hs':=a0m hs (i/4) hy
   clear hbs hor hlv hyy hbv hx hs hv
   go_wp2
   refine a4c 18 (by kernel_rfl) (by kernel_rfl) ?_
   simp only[List.take_succ_cons,List.take_zero,List.drop_succ_cons,List.drop_zero]
   repeat (go_big_quiet_step (fail))
   refine wpQuiet_nil ?_
   intro nq
   go_wp2
   go_roundw
   case rel=>exact⟨i+1,_,by omega,by go_num,by rw[List.length_set];exact hlen,hrow',hs',H,(a0j hb nq).setCell (Nat.le_refl _) _⟩
   case measure=>simp[intOf];omega
  have hi':i=s.size:=by omega
  subst hi'
  go_wp2_with fail
  subst hlen
  refine(a3n _ xs _ (hrow.limbs hs _ (Nat.le_refl _) (by omega))).mono ?_
  rintro e w' ⟨⟨v',rfl,hv'⟩,rfl⟩
  go_wp2
  go_ret
  rw[hv.out,Nat.sub_self,List.drop_zero]at hv'
  exact⟨_,rfl,hv',hb⟩
theorem b9j(r:ByteArray)(h:0<r.size):r.data.toList=r[0]::(r.extract 1 r.size).data.toList:=by
 have e:(r.extract 1 r.size).data.toList=r.data.toList.drop 1:=by
  rw[ByteArray.data_extract,Array.toList_extract,List.extract_eq_take_drop]
  rw[List.take_of_length_le (by simp)]
 rw[e]
 have hl:0<r.data.toList.length:=by simpa using h
 have h2:=List.drop_eq_getElem_cons hl
 rw[List.drop_zero]at h2
 exact h2
theorem str_nil(r:ByteArray)(h:¬0<r.size):r.data.toList=[]:=by
 have e:r.data.toList.length=r.size:=by simp
 exact List.length_eq_zero_iff.1 (by omega)
def strLen:Value->Nat | .string r=>r.size | _=>0
theorem c1h(s:ByteArray)(w:World)(_hsz:s.size<=9223372036854775807) :
  Calls Tryz.prog 119 #[.string s,.int .u8 0] w fun e w'=>e=.returned (.string (bs (norm s.data.toList)))/\w=w':=by
 go_enter Tryz.func119,Tryz.ntmps119
 go_wp2
 go_loop [0] (fun t=>∃r:ByteArray,r.size<=s.size/\t=.string r/\Hid (norm r.data.toList=norm s.data.toList)) (fun t=>strLen t)
 case atStart=>exact⟨s,Nat.le_refl _,rfl,rfl⟩
 case round =>
  obtain⟨r,hr,rfl,hn⟩:=hrel
  go_wp2
  ·have h0:0<r.size:=by assumption
   have h1:((r[0].toNat:Int)==0)=true:=by assumption
   go_round
   case rel =>
    refine⟨_,by simp;omega,rfl,?_⟩
    show _=_
    have h2:r[0]=0:=UInt8.toNat_inj.1 (by simpa using h1)
    rw[<- hn.out,b9j r h0,a8w,if_pos h2]
   case measure=>simp[strLen];omega
  ·have h0:0<r.size:=by assumption
   have h1:((r[0].toNat:Int)==0)=false:=by assumption
   go_ret
   have h2:¬r[0]=0:=fun e=>by rw[e]at h1;simp at h1
   rw[<- hn.out,b9j r h0,a8w,if_neg h2,<-b9j r h0,bs_of]
   exact⟨rfl,rfl⟩
  have h0:¬0<r.size:=by assumption
  go_ret
  have h1:=str_nil r h0
  rw[<- hn.out,h1,a9t,<-h1,bs_of]
  exact⟨rfl,rfl⟩
theorem trimLeft(s:ByteArray)(w:World)(hsz:s.size<=9223372036854775807) :
   Calls Tryz.prog 99 #[.string s,.string ⟨#[0]⟩] w fun e w'=>e=.returned (.string (bs (norm s.data.toList)))/\w=w':=by
 by_cases h:s.toList=[]
 have h2:s.data.toList=[]:=by rw[<- ByteArray.toList_eq];exact h
 have H:Hid (bs (norm s.data.toList)=s):=by
   show _=_
   rw[h2,a9t,<-h2];rfl
 have h3:s.toList.isEmpty=true:=by rw[h];rfl
 clear h2
 rotate_left
 have h3:s.toList.isEmpty=false:=by simpa using h
 rotate_left
 all_goals
   go_enter Tryz.func99,Tryz.ntmps99
 ·go_wp2_with fail
  go_ret
  rw[H.out]
  exact⟨rfl,rfl⟩
 go_wp2_with (go_at_call 119;refine(c1h _ _ (by omega)).mono ?_;rintro e w' ⟨rfl,rfl⟩)
 go_ret
 exact⟨rfl,rfl⟩
theorem a3s(s:ByteArray)(w:World)(hsz:s.size<=9223372036854775807) :
  Calls Tryz.prog 63 #[.string s] w fun e w'=>e=.returned (.string (bs (norm s.data.toList)))/\w=w':=by
 go_enter Tryz.func63,Tryz.ntmps63
 go_wp2_with (go_at_call 99;refine(trimLeft _ _ (by omega)).mono ?_;rintro e w' ⟨rfl,rfl⟩)
 go_ret
 exact⟨rfl,rfl⟩
def sgn(n:Int):Int:=if n<0 then -1 else if 0<n then 1 else 0
theorem a1y{n:Int}(h:n<0):sgn n = -1:=by unfold sgn;rw[if_pos h]
theorem a2y{n:Int}(h:0<n):sgn n=1:=by unfold sgn;rw[if_neg (by omega),if_pos h]
theorem b1c:sgn 0=0:=rfl
theorem b3f(n:Int)(w:World) :
  Calls Tryz.prog 64 #[.int .i64 n] w fun e w'=>e=.returned (.int .i64 (sgn n))/\w=w':=by
 go_enter Tryz.func64,Tryz.ntmps64
 go_wp2
 ·go_ret
  rw[a1y (by assumption)]
  exact⟨rfl,rfl⟩
 ·go_ret
  rw[a2y (by assumption)]
  exact⟨rfl,rfl⟩
 go_ret
 obtain rfl:n=0:=by omega
 exact⟨rfl,rfl⟩
theorem a4g(v:Value)(xs:List Nat)(w:World)(h:Limbs w v xs)(hsz:xs.length<=274877906944) :
  Calls Tryz.prog 67 #[v] w fun e w'=>e=.returned (.string (bs (bytesOf (lv xs))))/\Below w.heap.size w w':=by
 obtain⟨hs,A,c,rfl,hl,hc,hx⟩:=h
 have hmk:=fun W=>run_make_row' (P:=Tryz.prog) 152 5 (.int .u8 0) 1 Tryz.underlying152 d1s rfl .i64 .i64 (xs.length*4) (by omega) (by omega) W
 rw[show((xs.length*4:Nat):Int)=(xs.length:Int)*4 by omega]at hmk
 obtain⟨m,hm⟩:∃m,m=xs.length*4:=⟨_,rfl⟩
 rw[<- hm]at hmk
 have hm1:(m:Int)=xs.length*4:=by omega
 have HM:=zh hm1
 have hm2:(m:Int)<=xs.length*4:=by omega
 have hm3:(xs.length:Int)*4<=m:=by omega
 clear hm hm1
 go_enter Tryz.func67,Tryz.ntmps67
 go_wp2
 go_loopw [11] (fun i wr=>∃ (i':Nat) (l:List UInt8),i'<=m/\i=.int .i64 i'/\Hid (l.length=m)/\BRow wr w.heap.size l/\Hid (bv (l.drop (m-i'))=lv xs%256^i')/\Below w.heap.size w wr) (fun i _=>m-(intOf i).toNat)
 case atStart =>
  refine⟨0,List.replicate m 0,Nat.zero_le _,rfl,by simp[Hid],BRow.made _ _,?_,(Below.refl _ _).alloc (Nat.le_refl _) _⟩
  show bv _=_
  rw[List.drop_of_length_le (by simp),c3r,Nat.pow_zero,Nat.mod_one]
 case round =>
  obtain⟨i,l,hi,rfl,hlen,hrow,hv,hb⟩:=hrel
  by_cases hlt:i<m
  ·obtain⟨b,o,rfl,hbb,hcell⟩:=hx (by omega)
   have hck:=(hb.cell (p:=⟨b,o+i/4,none⟩) hbb).trans (hcell (i/4) (by omega))
   obtain⟨x,hxx⟩:∃x,x=xs.getD (i/4) 0:=⟨_,rfl⟩
   rw[<- hxx]at hck
   have hm0:(0:Int)<=8*((i:Int)%4):=by omega
   have hm8:8*((i:Int)%4)<32:=by omega
   have hfr:=hrow.frozen (m-1-i)
   have hcur:=hrow.cell (i:=m-1-i) (by have:=hlen.out;omega)
   obtain⟨y,hy⟩:∃y:UInt8,y=UInt8.ofNat (x/2^(8*(i%4))%256):=⟨_,rfl⟩
   have hyn:y.toNat=x/2^(8*(i%4))%256:=by rw[hy,UInt8.toNat_ofNat'];omega
   have hval:(x:Int)/2^(8*(i%4))%256=(y.toNat:Int):=by
    rw[hyn];simp only[Int.natCast_emod,Int.natCast_ediv,Int.natCast_pow];rfl
   have H:Hid (bv ((l.set (m-1-i) y).drop (m-(i+1)))=lv xs%256^(i+1)):=by
    show _=_
    have:=c9k l (lv xs) i y (by rw[hlen.out];exact hlt) (by rw[hlen.out];exact hv.out) (by rw[hyn,hxx,c9m xs hs])
    rwa[hlen.out]at this
   have hrow':=hrow.set_ (m-1-i) y
   clear hxx hcell hx hy hyn
   go_wp2
   go_roundw
   case rel=>exact⟨i+1,_,by omega,by go_num,by show _=_;rw[List.length_set];exact hlen.out,hrow',H,hb.setCell (Nat.le_refl _) _⟩
   case measure=>simp[intOf];omega
  obtain rfl:i=m:=by omega
  have hconv:=fun W (h:BRow W w.heap.size l)=>run_convert_bytes_arg (P:=Tryz.prog) W 152 5 Tryz.underlying152 Tryz.underlying5 w.heap.size 0 i i (l.map fun x=>(x.toNat:Int)) (by rw[List.length_map];exact hlen.out)
   (fun j hj=>by rw[Nat.zero_add,h.cell (by rw[hlen.out];exact hj)];simp[List.getD_eq_getElem?_getD,List.getElem?_map];cases l[j]? <;>simp) 9 Tryz.underlying9
  have hc2:=hconv wr hrow
  have e:strOfNums (l.map fun x=>(x.toNat:Int))=bs l:=by
   unfold strOfNums bs
   congr 2
   rw[List.map_map]
   conv=>rhs;rw[<- List.map_id l]
   congr 1
   funext x
   simp
  rw[e]at hc2
  have hlv:bv l=lv xs:=by
   have:=hv.out
   rw[Nat.sub_self,List.drop_zero]at this
   rw[this,Nat.mod_eq_of_lt]
   have h1:=a5h xs hs
   have h2:(256:Nat)^i=4294967296^xs.length:=by rw[show i=4*xs.length by omega,Nat.pow_mul]
   rw[h2];exact h1
  have HL:=zh hlv
  have hsz2:(bs l).size<=9223372036854775807:=by rw[a2u,hlen.out];omega
  clear hlv e hconv
  go_wp2_with fail
  refine(a3s _ _ hsz2).mono ?_
  rintro e w' ⟨rfl,rfl⟩
  go_wp2
  go_ret
  refine⟨?_,hb⟩
  rw[a3w,a5g,HL.out]
  rfl
theorem add32(x y c:Nat)(w:World)(hx:x<4294967296)(hy:y<4294967296)(hc:c<=1) :
  Calls Tryz.prog 105 #[.int .u32 x,.int .u32 y,.int .u32 c] w fun e w'=>e=.returned (.tuple #[.int .u32 ((x+y+c)%4294967296:Nat),.int .u32 ((x+y+c)/4294967296:Nat)])/\w=w':=by
 go_enter Tryz.func105,Tryz.ntmps105
 go_wp2
 go_ret2
 refine⟨?_,rfl⟩
 simp
theorem sub_bits(x y c:Nat)(hx:x<4294967296)(hy:y<4294967296)(hc:c<=1) :
  bits BinOp.or IntKind.u32 (bits BinOp.and IntKind.u32 (bits BinOp.xor IntKind.u32 IntKind.u32.max ↑x) ↑y)
   (bits BinOp.and IntKind.u32 (bits BinOp.xor IntKind.u32 IntKind.u32.max (bits BinOp.xor IntKind.u32 ↑x ↑y)) (((x:Int) - ↑y - ↑c)%4294967296))/2147483648=(bor x y c:Int):=by
 have hm:IntKind.u32.max=((4294967295:Nat):Int):=by decide
 have hd:((x:Int) - ↑y - ↑c)%4294967296=(((x+4294967296-y-c)%4294967296:Nat):Int):=by omega
 obtain⟨d,hdd⟩:∃d,d=(x+4294967296-y-c)%4294967296:=⟨_,rfl⟩
 rw[hm,hd,<-hdd]
 have e:(4294967296:Nat)=2^32:=by decide
 have l1:4294967295 ^^^ x<4294967296:=by rw[e];exact Nat.xor_lt_two_pow (by decide) (by omega)
 have l2:x ^^^ y<4294967296:=by rw[e];exact Nat.xor_lt_two_pow (by omega) (by omega)
 have l3:4294967295 ^^^ (x ^^^ y)<4294967296:=by rw[e];exact Nat.xor_lt_two_pow (by decide) (by omega)
 have l4:(4294967295 ^^^ x) &&& y<4294967296:=by rw[e];exact Nat.and_lt_two_pow _ (by omega)
 have l5:(4294967295 ^^^ (x ^^^ y)) &&& d<4294967296:=by rw[e];exact Nat.and_lt_two_pow _ (by omega)
 rw[u32_xor_nat _ _ (by decide) hx,u32_xor_nat _ _ hx hy,u32_xor_nat _ _ (by decide) l2,u32_and_nat _ _ l1 hy,u32_and_nat _ _ l3 (by omega),u32_or_nat _ _ l4 l5]
 rw[<- c5n x y c d hx hy hc hdd]
 simp
theorem sub32(x y c:Nat)(w:World)(hx:x<4294967296)(hy:y<4294967296)(hc:c<=1) :
  Calls Tryz.prog 124 #[.int .u32 x,.int .u32 y,.int .u32 c] w fun e w'=>e=.returned (.tuple #[.int .u32 ((x+4294967296-y-c)%4294967296:Nat),.int .u32 (bor x y c:Nat)])/\w=w':=by
 have hb:=sub_bits x y c hx hy hc
 have hs:IntKind.u32.signed=false:=rfl
 have hd:(((x:Int) - ↑y)%4294967296 - ↑c)%4294967296=(((x+4294967296-y-c)%4294967296:Nat):Int):=by omega
 have HB:=zh hb
 have HD:=zh hd
 clear hb hd
 go_enter Tryz.func124,Tryz.ntmps124
 go_wp2
 go_ret2
 rw[<- HB.out,<-HD.out]
 exact⟨rfl,rfl⟩
theorem d3d(x y c:Nat)(w:World)(hx:x<4294967296)(hy:y<4294967296)(hc:c<=1) :
  Calls Tryz.prog 105 #[.int .u32 x,.int .u32 y,.int .u32 c] w fun e w'=>(∃r k:Nat,e=.returned (.tuple #[.int .u32 r,.int .u32 k])/\Hid (r=(x+y+c)%4294967296)/\Hid (k=(x+y+c)/4294967296)/\r<4294967296/\k<=1)/\w=w' :=
 (add32 x y c w hx hy hc).mono fun _ _ ⟨he,hw⟩=>⟨⟨_,_,he,rfl,rfl,Nat.mod_lt _ (by decide),by omega⟩,hw⟩
theorem add32'0(x c:Nat)(w:World)(hx:x<4294967296)(hc:c<=1) :
  Calls Tryz.prog 105 #[.int .u32 x,.int .u32 0,.int .u32 c] w fun e w'=>(∃r k:Nat,e=.returned (.tuple #[.int .u32 r,.int .u32 k])/\Hid (r=(x+0+c)%4294967296)/\Hid (k=(x+0+c)/4294967296)/\r<4294967296/\k<=1)/\w=w' :=
 d3d x 0 c w hx (by decide) hc
theorem c5z(x y c:Nat)(w:World)(hx:x<4294967296)(hy:y<4294967296)(hc:c<=1) :
  Calls Tryz.prog 124 #[.int .u32 x,.int .u32 y,.int .u32 c] w fun e w'=>(∃r k:Nat,e=.returned (.tuple #[.int .u32 r,.int .u32 k])/\Hid (r+y+c=x+4294967296*k)/\r<4294967296/\k<=1)/\w=w' :=
 (sub32 x y c w hx hy hc).mono fun _ _ ⟨he,hw⟩=>⟨⟨_,_,he,bor_eq x y c hx hy hc,Nat.mod_lt _ (by decide),bor_le _ _ _⟩,hw⟩
theorem sub32'0(x c:Nat)(w:World)(hx:x<4294967296)(hc:c<=1) :
  Calls Tryz.prog 124 #[.int .u32 x,.int .u32 0,.int .u32 c] w fun e w'=>(∃r k:Nat,e=.returned (.tuple #[.int .u32 r,.int .u32 k])/\Hid (r+0+c=x+4294967296*k)/\r<4294967296/\k<=1)/\w=w' :=
 c5z x 0 c w hx (by decide) hc
theorem c4r(s t:ByteArray)(w:World)(hs:s.size<=68719476736)(ht:t.size<=68719476736) :
  Calls Tryz.prog 70 #[.string s,.string t] w fun e w'=>e=.returned (.string (bs (bytesOf (bv s.data.toList+bv t.data.toList))))/\Below w.heap.size w w':=by
 have ls:=a1c s.data.toList
 have lt:=a1c t.data.toList
 rw[a1f]at ls lt
 obtain⟨xs,hxs⟩:∃xs,xs=limbsOf (bv s.data.toList):=⟨_,rfl⟩
 obtain⟨ys,hys⟩:∃ys,ys=limbsOf (bv t.data.toList):=⟨_,rfl⟩
 have hN:bv s.data.toList+bv t.data.toList=lv xs+lv ys:=by rw[hxs,hys,a0k,a0k]
 have HN:=zh hN
 rw[<- hxs]at ls
 rw[<- hys]at lt
 have HX:=zh hxs
 have HY:=zh hys
 clear hxs hys hN
 go_enter Tryz.func70,Tryz.ntmps70
 go_wp2_with fail
 refine(a1g s _ (by omega)).mono ?_
 rintro e w1 ⟨v1,rfl,h1,hb1⟩
 rw[<- HX.out]at h1
 go_wp2_with fail
 refine(a1g t _ (by omega)).mono ?_
 rintro e w2 ⟨v2,rfl,h2,hb2⟩
 rw[<- HY.out]at h2
 have h1':=h1.below hb2
 have hb:=Ext.trans hb1 hb2
 obtain⟨A1,c1,rfl,hc1,hc1'⟩:=h1'.slice
 obtain⟨A2,c2,rfl,hc2,hc2'⟩:=h2.slice
 have H1:=zh h1'
 have H2:=zh h2
 clear h1 h1' h2 hb1 hb2
 go_upto_if 19 with (fail)
 go_cut [5,6] (fun va vb wx=>∃ps qs,Hid (Limbs w2 va ps)/\Hid (Limbs w2 vb qs)/\qs.length<=ps.length/\ps.length<=20000000000/\Hid (lv ps+lv qs=lv xs+lv ys)/\w2=wx)
 case first =>
  go_wp2
  ·go_meet
   case rel=>exact⟨ys,xs,H2,H1,by omega,by omega,Nat.add_comm _ _,rfl⟩
  go_meet
  case rel=>exact⟨xs,ys,H1,H2,by omega,by omega,rfl,rfl⟩
 case rest =>
  obtain⟨ps,qs,Ha,Hb,hl,hl2,Hs,rfl⟩:=hcut
  obtain⟨A,ca,rfl,hca,hca'⟩:=Ha.out.slice
  obtain⟨B,cb,rfl,hcb,hcb'⟩:=Hb.out.slice
  have hmk:=a1s 122 Tryz.underlying122 ((ps.length:Int)+1) (ps.length+1) (by omega) (by omega)
  clear hc1 hc1' hc2 hc2' H1 H2 ls lt
  go_wp2
  go_loopw [8,28] (fun c i wr=>∃ (i' cy:Nat) (outs:List Nat),i'<=ps.length/\i=.int .i64 i'/\c=.int .u32 cy/\cy<=1/\Hid (outs.length=ps.length+1)/\Row wr w2.heap.size outs/\Small outs /\
    Hid (lv (outs.take i')+4294967296^i'*cy=lv (ps.take i')+lv (qs.take i'))/\Below w2.heap.size w2 wr) (fun _ i _=>ps.length-(intOf i).toNat)
  case atStart =>
   exact⟨0,0,_,Nat.zero_le _,rfl,rfl,Nat.zero_le _,by simp[Hid],Row.made _ _,a1h _,by simp[Hid,a2q],(Below.refl _ _).alloc (Nat.le_refl _) _⟩
  case round =>
   obtain⟨i,cy,outs,hi,rfl,rfl,hcy,hlen,hrow,hso,hv,hbw⟩:=hrel
   by_cases hlt:i<ps.length
   ·obtain⟨b1,o1,x,rfl,hb1,hx,hx2,hx3⟩:=Ha.out.at_ hlt
    have hxc:=hx3 wr hbw
    have HX1:=zh hx
    have hcur:=hrow.cell (i:=i) (by have:=hlen.out;omega)
    have hfr:=hrow.frozen i
    clear hx hx3
    by_cases hlt2:i<qs.length
    ·obtain⟨b2,o2,y,rfl,hb2,hy,hy2,hy3⟩:=Hb.out.at_ hlt2
     have hyc:=hy3 wr hbw
     have HY1:=zh hy
     clear hy hy3
     go_wp2_with (go_at_call 105;refine(d3d x y cy _ hx2 hy2 hcy).mono ?_;rintro e w' ⟨⟨r,k,rfl,hr,hk,hr2,hk2⟩,rfl⟩)
     go_roundw
     case rel =>
      refine⟨i+1,k,_,by omega,by go_num,rfl,hk2,by show _=_;rw[List.length_set];exact hlen.out,hrow.set_ i r,a0m hso i hr2,?_,hbw.setCell (Nat.le_refl _) _⟩
      have:=b4r (by rw[hlen.out];omega) hv.out (o:=x+y+cy) (by rw[HX1.out,HY1.out])
      rw[<- hr.out,<-hk.out]at this
      exact this
     case measure=>simp[intOf];omega
    go_wp2_with (go_at_call 105;refine(add32'0 x cy _ hx2 hcy).mono ?_;rintro e w' ⟨⟨r,k,rfl,hr,hk,hr2,hk2⟩,rfl⟩)
    go_roundw
    case rel =>
     refine⟨i+1,k,_,by omega,by go_num,rfl,hk2,by show _=_;rw[List.length_set];exact hlen.out,hrow.set_ i r,a0m hso i hr2,?_,hbw.setCell (Nat.le_refl _) _⟩
     have:=b4r (by rw[hlen.out];omega) hv.out (o:=x+0+cy) (by rw[HX1.out,a6d (xs:=qs) (by omega)])
     rw[<- hr.out,<-hk.out]at this
     exact this
    case measure=>simp[intOf];omega
   obtain rfl:i=ps.length:=by omega
   have hcur:=hrow.cell (i:=ps.length) (by have:=hlen.out;omega)
   have hfr:=hrow.frozen ps.length
   have hrow':=hrow.set_ ps.length cy
   have hso':=a0m hso ps.length (x:=cy) (by omega)
   have hlen':(outs.set ps.length cy).length=ps.length+1:=by rw[List.length_set];exact hlen.out
   have hfin:lv (outs.set ps.length cy)=lv xs+lv ys:=by
    have h1:=a4e outs ps.length cy (by rw[hlen.out];omega)
    rw[a0x (by rw[hlen'];omega)]at h1
    rw[h1,hv.out,a0x (Nat.le_refl _),a0x hl,Hs.out]
   have HF:=zh hfin
   have HL:=zh hlen'
   clear hfin hlen'
   go_wp2_with fail
   refine(a4g _ _ _ (hrow'.limbsN hso' HL.out (by omega)) (by rw[HL.out];omega)).mono ?_
   rintro e w3 ⟨rfl,hb3⟩
   go_wp2
   go_ret
   refine⟨by rw[HN.out,<-HF.out];rfl,?_⟩
   exact Ext.trans hb (Ext.trans (hbw.setCell (Nat.le_refl _) _) hb3)
theorem a4n(va vb:Value)(a b:Nat)(w:World)(ha:Limbs w va (limbsOf a))(hb:Limbs w vb (limbsOf b)) :
   Calls Tryz.prog 106 #[va,vb] w fun e w'=>e=.returned (.int .i64 (sgn ((a:Int)-b)))/\Below w.heap.size w w':=by
 obtain⟨xs,hxs⟩:∃xs,xs=limbsOf a:=⟨_,rfl⟩
 obtain⟨ys,hys⟩:∃ys,ys=limbsOf b:=⟨_,rfl⟩
 have hax:a=lv xs:=by rw[hxs,a0k]
 have hby:b=lv ys:=by rw[hys,a0k]
 rw[<- hxs]at ha
 rw[<- hys]at hb
 obtain⟨A,ca,rfl,hca,hca'⟩:=ha.slice
 obtain⟨B,cb,rfl,hcb,hcb'⟩:=hb.slice
 have HA:=zh ha
 have HB:=zh hb
 clear ha hb
 by_cases hne:xs.length=ys.length
 have h0:((xs.length:Int) != ys.length)=false:=by rw[hne];simp
 have HAX:=zh hax
 have HBY:=zh hby
 have HL:=zh hne
 have h1:xs.length<=ys.length:=by omega
 have h2:ys.length<=xs.length:=by omega
 clear hne hxs hys hax hby
 rotate_left
 have h0:((xs.length:Int) != ys.length)=true:=by simp;omega
 have hs:sgn ((xs.length:Int)-ys.length)=sgn ((a:Int)-b):=by
   rw[hxs,hys]at hne ⊢
   rcases Nat.lt_or_ge (limbsOf a).length (limbsOf b).length with h | h
   · have:=a1j h
     rw[a1y (by omega),a1y (by omega)]
   have:=a1j (a:=b) (b:=a) (by omega)
   rw[a2y (by omega),a2y (by omega)]
 have HS:=zh hs
 clear hs hne hxs hys hax hby
 rotate_left
 all_goals
   go_enter Tryz.func106,Tryz.ntmps106
 ·go_wp2
  go_loopw [5] (fun i wr=>∃k:Nat,k<=xs.length/\i=.int .i64 ((k:Int)-1)/\Hid (xs.drop k=ys.drop k)/\Below w.heap.size w wr) (fun i _=>(intOf i+1).toNat)
  case atStart => 
    refine⟨xs.length,Nat.le_refl _,rfl,?_,Below.refl _ _⟩
    show _=_
    rw[List.drop_of_length_le (Nat.le_refl _),List.drop_of_length_le (by omega)]
  case round =>
    obtain⟨k,hk,rfl,hd,hbw⟩:=hrel
    by_cases hp:0<k
    · obtain⟨b1,o1,x,rfl,hb1,hx,hx2,hx3⟩:=HA.out.at_ (j:=k-1) (by omega)
      obtain⟨b2,o2,y,rfl,hb2,hy,hy2,hy3⟩:=HB.out.at_ (j:=k-1) (by omega)
      have hxc:=hx3 wr hbw
      have hyc:=hy3 wr hbw
      have HX:=zh hx
      have HY:=zh hy
      have i1:(0:Int)<=(k:Int)-1:=by omega
      have i2:(k:Int)-1<xs.length:=by omega
      have i3:(k:Int)-1<ys.length:=by omega
      clear hx hx3 hy hy3
      go_wp2
      go_quiet (fail)
      go_wp2
      ·have hne:((x:Int) != y)=true:=by assumption
       have hne':x≠y:=by intro e;subst e;simp at hne
       go_quiet (fail)
       go_wp2
       ·have hlt:x<y:=by assumption
        go_ret
        have h:=a6p (xs:=xs) (ys:=ys) (i:=k-1) HA.out.small (by omega) HL.out (by rw[show k-1+1=k by omega];exact hd.out) (by rw[<- HX.out,<-HY.out];exact hlt)
        rw[<- HAX.out,<-HBY.out]at h
        rw[a1y (by omega)]
        exact⟨rfl,a0j (a0j hbw _) _⟩
       have hge:¬x<y:=by assumption
       go_ret
       have h:=a6p (xs:=ys) (ys:=xs) (i:=k-1) HB.out.small (by omega) HL.out.symm (by rw[show k-1+1=k by omega];exact hd.out.symm) (by rw[<- HX.out,<-HY.out];omega)
       rw[<- HAX.out,<-HBY.out]at h
       rw[a2y (by omega)]
       exact⟨rfl,a0j (a0j hbw _) _⟩
      have hne:((x:Int) != y)=false:=by assumption
      have hne':x=y:=by simp at hne;omega
      have hd':Hid (xs.drop (k-1)=ys.drop (k-1)):=b3k (by omega) HL.out (by rw[show k-1+1=k by omega];exact hd.out) (by rw[<- HX.out,<-HY.out];exact hne')
      go_roundw
      case rel=>exact⟨k-1,by omega,by congr 1;omega,hd',a0j hbw _⟩
      case measure=>simp[intOf];omega
    obtain rfl:k=0:=by omega
    go_wp2
    go_ret
    have h:=b3h hd.out
    rw[<- HAX.out,<-HBY.out]at h
    rw[h,Int.sub_self]
    exact⟨rfl,hbw⟩
 go_wp2_with (go_at_call 64;refine(b3f _ _).mono ?_;rintro e w' ⟨rfl,rfl⟩)
 go_ret
 rw[<- HS.out]
 exact⟨rfl,Below.refl _ _⟩
theorem b3y(va vb:Value)(a b:Nat)(w:World)(ha:Limbs w va (limbsOf a))(hb:Limbs w vb (limbsOf b))(hab:b<=a)(hsz:(limbsOf a).length<=274877906944) :
  Calls Tryz.prog 107 #[va,vb] w fun e w'=>∃v',e=.returned v'/\Limbs w' v' (limbsOf (a-b))/\Below w.heap.size w w':=by
 obtain⟨xs,hxs⟩:∃xs,xs=limbsOf a:=⟨_,rfl⟩
 obtain⟨ys,hys⟩:∃ys,ys=limbsOf b:=⟨_,rfl⟩
 have hax:a=lv xs:=by rw[hxs,a0k]
 have hby:b=lv ys:=by rw[hys,a0k]
 have hl:ys.length<=xs.length:=by
  rcases Nat.lt_or_ge xs.length ys.length with h | h
  ·rw[hxs,hys]at h
   have:=a1j h
   omega
  exact h
 rw[<- hxs]at ha hsz
 rw[<- hys]at hb
 obtain⟨A,ca,rfl,hca,hca'⟩:=ha.slice
 obtain⟨B,cb,rfl,hcb,hcb'⟩:=hb.slice
 have hmk:=a1s 122 Tryz.underlying122 (xs.length:Int) xs.length rfl (by omega)
 have Ha:=zh ha
 have Hb:=zh hb
 have HAX:=zh hax
 have HBY:=zh hby
 have HAB:=zh hab
 clear ha hb hxs hys hax hby hab
 go_enter Tryz.func107,Tryz.ntmps107
 go_wp2
 go_loopw [6,14] (fun c i wr=>∃ (i' cy:Nat) (outs:List Nat),i'<=xs.length/\i=.int .i64 i'/\c=.int .u32 cy/\cy<=1/\Hid (outs.length=xs.length)/\Row wr w.heap.size outs/\Small outs /\
   Hid (lv (outs.take i')+lv (ys.take i')=lv (xs.take i')+4294967296^i'*cy)/\Below w.heap.size w wr) (fun _ i _=>xs.length-(intOf i).toNat)
 case atStart =>
  exact⟨0,0,_,Nat.zero_le _,rfl,rfl,Nat.zero_le _,by simp[Hid],Row.made _ _,a1h _,by simp[Hid,a2q],(Below.refl _ _).alloc (Nat.le_refl _) _⟩
 case round =>
  obtain⟨i,cy,outs,hi,rfl,rfl,hcy,hlen,hrow,hso,hv,hbw⟩:=hrel
  by_cases hlt:i<xs.length
  ·obtain⟨b1,o1,x,rfl,hb1,hx,hx2,hx3⟩:=Ha.out.at_ hlt
   have hxc:=hx3 wr hbw
   have HX1:=zh hx
   have hcur:=hrow.cell (i:=i) (by have:=hlen.out;omega)
   have hfr:=hrow.frozen i
   clear hx hx3
   by_cases hlt2:i<ys.length
   ·obtain⟨b2,o2,y,rfl,hb2,hy,hy2,hy3⟩:=Hb.out.at_ hlt2
    have hyc:=hy3 wr hbw
    have HY1:=zh hy
    clear hy hy3
    go_wp2_with (go_at_call 124;refine(c5z x y cy _ hx2 hy2 hcy).mono ?_;rintro e w' ⟨⟨r,k,rfl,hr,hr2,hk2⟩,rfl⟩)
    go_roundw
    case rel =>
     refine⟨i+1,k,_,by omega,by go_num,rfl,hk2,by show _=_;rw[List.length_set];exact hlen.out,hrow.set_ i r,a0m hso i hr2,?_,hbw.setCell (Nat.le_refl _) _⟩
     exact a9k (by rw[hlen.out];omega) hv.out (by rw[<- HX1.out,<-HY1.out];exact hr.out)
    case measure=>simp[intOf];omega
   go_wp2_with (go_at_call 124;refine(sub32'0 x cy _ hx2 hcy).mono ?_;rintro e w' ⟨⟨r,k,rfl,hr,hr2,hk2⟩,rfl⟩)
   go_roundw
   case rel =>
    refine⟨i+1,k,_,by omega,by go_num,rfl,hk2,by show _=_;rw[List.length_set];exact hlen.out,hrow.set_ i r,a0m hso i hr2,?_,hbw.setCell (Nat.le_refl _) _⟩
    exact a9k (by rw[hlen.out];omega) hv.out (by rw[<- HX1.out,a6d (xs:=ys) (by omega)];exact hr.out)
   case measure=>simp[intOf];omega
  obtain rfl:i=xs.length:=by omega
  have hfin:lv outs=a-b:=by
   have h1:=hv.out
   have h2:=a5h outs hso
   have h3:=HAB.out
   rw[a0x (by rw[hlen.out];omega),a0x hl,a0x (Nat.le_refl _),<-HAX.out,<-HBY.out]at h1
   rw[hlen.out]at h2
   rcases Nat.eq_zero_or_pos cy with h0 | h0
   ·subst h0;omega
   obtain rfl:cy=1:=by omega
   omega
  have HF:=zh hfin
  clear hfin
  go_wp2_with fail
  refine(a3n _ outs _ (hrow.limbsN hso hlen.out (by omega))).mono ?_
  rintro e w' ⟨⟨v',rfl,hv'⟩,rfl⟩
  go_wp2
  go_ret
  rw[HF.out]at hv'
  exact⟨_,rfl,hv',hbw⟩
theorem b3z(s t:ByteArray)(w:World)(hs:s.size<=68719476736)(ht:t.size<=68719476736)(hab:bv t.data.toList<=bv s.data.toList) :
  Calls Tryz.prog 71 #[.string s,.string t] w fun e w'=>e=.returned (.tuple #[.string (bs (bytesOf (bv s.data.toList-bv t.data.toList))),.bool true])/\Below w.heap.size w w':=by
 have ls:=a1c s.data.toList
 rw[a1f]at ls
 have hsg:0<=sgn ((bv s.data.toList:Int)-bv t.data.toList):=by
  rcases Nat.lt_or_ge (bv t.data.toList) (bv s.data.toList)with h | h
  ·rw[a2y (by omega)];decide
  rw[show(bv s.data.toList:Int)-bv t.data.toList=0 by omega,b1c];decide
 have hP:=fun W=>a1g s W (by omega)
 have hQ:=fun W=>a1g t W (by omega)
 have HP:=zh hP
 have HQ:=zh hQ
 clear hP hQ
 have hlen:(limbsOf (bv s.data.toList-bv t.data.toList)).length<=(s.size+3)/4:=by
  have h1:=a3z (bv s.data.toList)
  have h2:=a1z (bv s.data.toList-bv t.data.toList) _ (Nat.lt_of_le_of_lt (Nat.sub_le _ _) h1)
  omega
 generalize bv s.data.toList=a at *
 generalize bv t.data.toList=b at *
 have HAB:=zh hab
 clear hab
 go_enter Tryz.func71,Tryz.ntmps71
 go_wp2_with fail
 refine(HP.out _).mono ?_
 rintro e w1 ⟨v1,rfl,h1,hb1⟩
 go_wp2_with fail
 refine(HQ.out _).mono ?_
 rintro e w2 ⟨v2,rfl,h2,hb2⟩
 have h1':=h1.below hb2
 have hb:=Ext.trans hb1 hb2
 have H1:=zh h1'
 have H2:=zh h2
 clear h1 h1' h2 hb1 hb2
 go_wp2_with fail
 refine(a4n _ _ _ _ _ H1.out H2.out).mono ?_
 rintro e w3 ⟨rfl,hb3⟩
 have h1':=H1.out.below hb3
 have h2':=H2.out.below hb3
 have hb':=Ext.trans hb hb3
 have H3:=zh h1'
 have H4:=zh h2'
 clear h1' h2' H1 H2 hb hb3
 go_wp2_with fail
 refine(b3y _ _ _ _ _ H3.out H4.out HAB.out (by omega)).mono ?_
 rintro e w4 ⟨v4,rfl,h4,hb4⟩
 have H5:=zh h4
 clear h4
 go_wp2_with fail
 refine(a4g _ _ _ H5.out (by omega)).mono ?_
 rintro e w5 ⟨rfl,hb5⟩
 go_wp2
 go_ret2
 refine⟨by rw[a0k];rfl,Ext.trans hb' (Ext.trans hb4 hb5)⟩
theorem a8x(s t:ByteArray)(w:World)(hs:s.size<=68719476736)(ht:t.size<=68719476736)(hab:bv s.data.toList<bv t.data.toList) :
  Calls Tryz.prog 71 #[.string s,.string t] w fun e w'=>e=.returned (.tuple #[.string (bs []),.bool false])/\Below w.heap.size w w':=by
 have hsg:sgn ((bv s.data.toList:Int)-bv t.data.toList)<0:=by rw[a1y (by omega)];decide
 have hP:=fun W=>a1g s W (by omega)
 have hQ:=fun W=>a1g t W (by omega)
 have HP:=zh hP
 have HQ:=zh hQ
 clear hP hQ
 generalize bv s.data.toList=a at *
 generalize bv t.data.toList=b at *
 clear hab
 go_enter Tryz.func71,Tryz.ntmps71
 go_wp2_with fail
 refine(HP.out _).mono ?_
 rintro e w1 ⟨v1,rfl,h1,hb1⟩
 go_wp2_with fail
 refine(HQ.out _).mono ?_
 rintro e w2 ⟨v2,rfl,h2,hb2⟩
 have h1':=h1.below hb2
 have hb:=Ext.trans hb1 hb2
 have H1:=zh h1'
 have H2:=zh h2
 clear h1 h1' h2 hb1 hb2
 go_wp2_with fail
 refine(a4n _ _ _ _ _ H1.out H2.out).mono ?_
 rintro e w3 ⟨rfl,hb3⟩
 have hb':=Ext.trans hb hb3
 go_wp2
 go_ret2
 exact⟨rfl,hb'⟩
theorem b4a(s t:ByteArray)(w:World)(hs:s.size<=68719476736)(ht:t.size<=68719476736) :
  Calls Tryz.prog 34 #[.string s,.string t] w fun e w'=>e=.returned (.string (bs (bytesOf (bv s.data.toList*bv t.data.toList))))/\Below w.heap.size w w':=by
 have ls:=a1c s.data.toList
 have lt:=a1c t.data.toList
 rw[a1f]at ls lt
 have hP:=fun W=>a1g s W (by omega)
 have hQ:=fun W=>a1g t W (by omega)
 obtain⟨xs,hxs⟩:∃xs,xs=limbsOf (bv s.data.toList):=⟨_,rfl⟩
 obtain⟨ys,hys⟩:∃ys,ys=limbsOf (bv t.data.toList):=⟨_,rfl⟩
 have hax:bv s.data.toList=lv xs:=by rw[hxs,a0k]
 have hby:bv t.data.toList=lv ys:=by rw[hys,a0k]
 rw[<- hxs]at ls hP
 rw[<- hys]at lt hQ
 rw[hax,hby]
 have HP:=zh hP
 have HQ:=zh hQ
 clear hP hQ hax hby hxs hys
 have hmk:=a1s 122 Tryz.underlying122 ((xs.length:Int)+ys.length) (xs.length+ys.length) (by omega) (by omega)
 go_enter Tryz.func34,Tryz.ntmps34
 go_wp2_with fail
 refine(HP.out _).mono ?_
 rintro e w1 ⟨v1,rfl,h1,hb1⟩
 go_wp2_with fail
 refine(HQ.out _).mono ?_
 rintro e w2 ⟨v2,rfl,h2,hb2⟩
 have h1':=h1.below hb2
 have hb:=Ext.trans hb1 hb2
 obtain⟨A,ca,rfl,hca,hca'⟩:=h1'.slice
 obtain⟨B,cb,rfl,hcb,hcb'⟩:=h2.slice
 have Ha:=zh h1'
 have Hb:=zh h2
 clear h1 h1' h2 hb1 hb2
 go_wp2
 go_loopw [26] (fun i wr=>∃ (i':Nat) (outs:List Nat),i'<=xs.length/\i=.int .i64 i'/\Hid (outs.length=xs.length+ys.length)/\Row wr w2.heap.size outs/\Small outs /\
   Hid (lv outs=lv (xs.take i')*lv ys)/\Below w2.heap.size w2 wr) (fun i _=>xs.length-(intOf i).toNat)
 case atStart =>
  exact⟨0,_,Nat.zero_le _,rfl,by simp[Hid],Row.made _ _,a1h _,by simp[Hid,a2q,a5m],(Below.refl _ _).alloc (Nat.le_refl _) _⟩
 case round =>
  obtain⟨i,outs,hi,rfl,hlen,hrow,hso,hv,hbw⟩:=hrel
  by_cases hlt:i<xs.length
  ·obtain⟨b1,o1,u,rfl,hb1,hx,hx2,hx3⟩:=Ha.out.at_ hlt
   have hxc:=hx3 wr hbw
   have HX1:=zh hx
   clear hx hx3
   obtain⟨wo,hwo⟩:∃wo:World,wo=wr:=⟨_,rfl⟩
   subst hwo
   go_wp2
   go_loopw [10,33] (fun c k wr=>∃ (k' c':Nat) (outs:List Nat),k'<=ys.length/\k=.int .i64 k'/\c=.int .u64 c'/\c'<4294967296/\Hid (outs.length=xs.length+ys.length)/\Row wr w2.heap.size outs/\Small outs /\
     Hid (outs.getD (i+ys.length) 0=0)/\Hid (lv outs+4294967296^(i+k')*c'=lv (xs.take i)*lv ys+4294967296^i*(u*lv (ys.take k')))/\Below w2.heap.size w2 wr) (fun _ k _=>ys.length-(intOf k).toNat)
   case atStart =>
    refine⟨0,0,outs,Nat.zero_le _,rfl,rfl,by decide,hlen,hrow,hso,?_,?_,hbw⟩
    ·show _=_
     apply c4t hso
     rw[hv.out]
     have h1:=a5h _ (Ha.out.small.take i)
     rw[List.length_take,Nat.min_eq_left hi]at h1
     exact b2s h1 (a5h _ Hb.out.small)
    show _=_
    rw[hv.out,List.take_zero,a2q];simp
   case round =>
    obtain⟨k,c,outs,hk,rfl,rfl,hc,hlen,hrow,hso,h0,hv,hbw⟩:=hrel
    by_cases hlt2:k<ys.length
    ·obtain⟨b2,o2,v,rfl,hb2,hy,hy2,hy3⟩:=Hb.out.at_ hlt2
     have hyc:=hy3 wr hbw
     have HY1:=zh hy
     have hcur:=hrow.cell (i:=i+k) (by have:=hlen.out;omega)
     have hfr:=hrow.frozen (i+k)
     obtain⟨old,hold⟩:∃old,old=outs.getD (i+k) 0:=⟨_,rfl⟩
     rw[<- hold]at hcur
     have hold2:old<4294967296:=by rw[hold];exact hso.get _
     have HO:=zh hold
     have hpb:=(a4w hx2 hy2 hold2 hc).1
     have hpb0:(0:Int)<=(u:Int)*v:=by rw[<- Int.natCast_mul];omega
     have hpb1:(u:Int)*v<=18446744065119617025:=by rw[<- Int.natCast_mul];omega
     clear hy hy3 hold hpb
     go_wp2
     go_roundw
     case rel =>
      have e1:((u:Int)*v+old+c)/4294967296=(((u*v+old+c)/4294967296:Nat):Int):=by simp
      have e2:((u:Int)*v+old+c)%4294967296=(((u*v+old+c)%4294967296:Nat):Int):=by simp
      rw[e1,e2]
      refine⟨k+1,_,_,by omega,by go_num,rfl,(a4w hx2 hy2 hold2 hc).2,by show _=_;rw[List.length_set];exact hlen.out,hrow.set_ (i+k) _,a0m hso _ (Nat.mod_lt _ (by decide)),?_,?_,hbw.setCell (Nat.le_refl _) _⟩
      ·show _=_
       rw[getD_set_ne (by omega)];exact h0.out
      exact c6y (by rw[hlen.out];omega) HO.out HY1.out rfl hv.out
     case measure=>simp[intOf];omega
    obtain rfl:k=ys.length:=by omega
    have hcur:=hrow.cell (i:=i+ys.length) (by have:=hlen.out;omega)
    have hfr:=hrow.frozen (i+ys.length)
    have H:Hid (lv (outs.set (i+ys.length) c)=lv (xs.take (i+1))*lv ys):=d1e (by rw[hlen.out];omega) h0.out HX1.out hv.out
    go_wp2
    go_roundw
    case rel=>exact⟨i+1,_,by omega,by go_num,by show _=_;rw[List.length_set];exact hlen.out,hrow.set_ _ c,a0m hso _ hc,H,hbw.setCell (Nat.le_refl _) _⟩
    case measure=>simp[intOf];omega
  obtain rfl:i=xs.length:=by omega
  go_wp2_with fail
  refine(a4g _ outs _ (hrow.limbsN hso hlen.out (by omega)) (by rw[hlen.out];omega)).mono ?_
  rintro e w3 ⟨rfl,hb3⟩
  go_wp2
  go_ret
  refine⟨by rw[hv.out,a0x (Nat.le_refl _)];rfl,Ext.trans hb (Ext.trans hbw hb3)⟩
theorem b0m(va:Value)(xs:List Nat)(d:Nat)(w:World)(ha:Limbs w va xs)(hd:0<d)(hd2:d<4294967296)(hsz:xs.length<=274877906944) :
  Calls Tryz.prog 138 #[va,.int .u32 d] w fun e w'=>∃v',e=.returned (.tuple #[v',.int .u32 (lv xs%d:Nat)])/\Limbs w' v' (limbsOf (lv xs/d))/\Below w.heap.size w w':=by
 obtain⟨A,ca,rfl,hca,hca'⟩:=ha.slice
 have hmk:=a1s 122 Tryz.underlying122 (xs.length:Int) xs.length rfl (by omega)
 have Ha:=zh ha
 clear ha
 go_enter Tryz.func138,Tryz.ntmps138
 go_wp2
 go_loopw [7,8] (fun r i wr=>∃ (k r':Nat) (outs:List Nat),k<=xs.length/\i=.int .i64 ((k:Int)-1)/\r=.int .u64 r'/\r'<d/\Hid (outs.length=xs.length)/\Row wr w.heap.size outs/\Small outs /\
   Hid (lv (outs.drop k)=lv (xs.drop k)/d)/\Hid (r'=lv (xs.drop k)%d)/\Below w.heap.size w wr) (fun _ i _=>(intOf i+1).toNat)
 case atStart =>
  refine⟨xs.length,0,_,Nat.le_refl _,rfl,rfl,hd,by simp[Hid],Row.made _ _,a1h _,?_,?_,(Below.refl _ _).alloc (Nat.le_refl _) _⟩
  ·show _=_
   rw[List.drop_of_length_le (by simp),List.drop_of_length_le (by simp),a2q,Nat.zero_div]
  show _=_
  rw[List.drop_of_length_le (by simp),a2q,Nat.zero_mod]
 case round =>
  obtain⟨k,r,outs,hk,rfl,rfl,hr,hlen,hrow,hso,hq,hrr,hbw⟩:=hrel
  by_cases hp:0<k
  ·obtain⟨b1,o1,x,rfl,hb1,hx,hx2,hx3⟩:=Ha.out.at_ (j:=k-1) (by omega)
   have hxc:=hx3 wr hbw
   have HX:=zh hx
   have hcur:=hrow.cell (i:=k-1) (by have:=hlen.out;omega)
   have hfr:=hrow.frozen (k-1)
   have hor:bits .or .u64 ((r:Int)*4294967296) (x:Int)=((r*4294967296+x:Nat):Int):=by
    rw[<- a6n hx2,<-u64_or_nat _ _ (by omega) (by omega)]
    simp
   obtain⟨y,hy⟩:∃y,y=r*4294967296+x:=⟨_,rfl⟩
   rw[<- hy]at hor
   have hyb:y<18446744073709551616:=by omega
   obtain⟨hs1,hs2⟩:=b7v (r:=r) hd (by omega) (by rw[hlen.out];omega) hx (i:=k-1) (by rw[show k-1+1=k by omega];exact hq.out) (by rw[show k-1+1=k by omega];exact hrr.out)
   obtain⟨q,hqq⟩:∃q,q=y/d:=⟨_,rfl⟩
   have hqb:q<4294967296:=by rw[hqq,hy];exact b7w hr hx2
   have hw:IntKind.u64.wrap ((y:Int)/d)=(q:Int):=by
    rw[hqq,IntKind.wrap_u64,<-Int.natCast_ediv]
    omega
   have hmo:(y:Int)%d=((y%d:Nat):Int):=by simp
   rw[<- hy,<-hqq]at hs1
   rw[<- hy]at hs2
   have HS1:=zh hs1
   have HS2:=zh hs2
   have HM:=zh hmo
   clear hx hx3 hy hs1 hs2 hqq hmo
   go_wp2
   go_roundw
   case rel =>
    rw[HM.out]
    exact⟨k-1,_,_,by omega,by congr 1;omega,rfl,Nat.mod_lt _ hd,by show _=_;rw[List.length_set];exact hlen.out,hrow.set_ (k-1) q,a0m hso _ hqb,HS1,HS2,hbw.setCell (Nat.le_refl _) _⟩
   case measure=>simp[intOf];omega
  obtain rfl:k=0:=by omega
  go_wp2_with fail
  refine(a3n _ outs _ (hrow.limbsN hso hlen.out (by omega))).mono ?_
  rintro e w' ⟨⟨v',rfl,hv'⟩,rfl⟩
  go_wp2
  go_ret2
  have hq0:=hq.out
  rw[List.drop_zero,List.drop_zero]at hq0
  rw[hq0]at hv'
  have hr2:=hrr.out
  rw[List.drop_zero]at hr2
  refine⟨_,?_,hv',hbw⟩
  rw[<- hr2]
  rfl
theorem b1n(va:Value)(xs:List Nat)(s n:Nat)(w:World)(ha:Limbs w va xs)(hs:s<32)(hn:xs.length<=n)(hn2:n<=xs.length+1)(hfit:n=xs.length->lv xs*2^s<4294967296^n)(hsz:xs.length<=274877906944) :
  Calls Tryz.prog 140 #[va,.int .u64 s,.int .i64 n] w fun e w'=>∃outs,e=.returned (.slice (some ⟨w.heap.size,0,none⟩) n n)/\Hid (outs.length=n)/\Small outs/\Hid (lv outs=lv xs*2^s)/\Row w' w.heap.size outs/\Below w.heap.size w w':=by
 obtain⟨A,ca,rfl,hca,hca'⟩:=ha.slice
 have hmk:=a1s 122 Tryz.underlying122 (n:Int) n rfl (by omega)
 have Ha:=zh ha
 have HF:=zh hfit
 have hsm:=ha.small
 clear ha hfit
 go_enter Tryz.func140,Tryz.ntmps140
 go_wp2
 go_loopw [15] (fun i wr=>∃ (i':Nat) (outs:List Nat),i'<=xs.length/\i=.int .i64 i'/\Hid (outs.length=n)/\Row wr w.heap.size outs/\Small outs /\
   Hid (lv outs=lv (xs.take i')*2^s)/\Below w.heap.size w wr) (fun i _=>xs.length-(intOf i).toNat)
 case atStart=>exact⟨0,_,Nat.zero_le _,rfl,by simp[Hid],Row.made _ _,a1h _,by simp[Hid,a2q,a5m],(Below.refl _ _).alloc (Nat.le_refl _) _⟩
 case round =>
  obtain⟨i,outs,hi,rfl,hlen,hrow,hso,hv,hbw⟩:=hrel
  by_cases hlt:i<xs.length
  ·obtain⟨b1,o1,u,rfl,hb1,hx,hx2,hx3⟩:=Ha.out.at_ hlt
   have hxc:=hx3 wr hbw
   have hcur:=hrow.cell (i:=i) (by have:=hlen.out;omega)
   have hfr:=hrow.frozen i
   have hfr2:=hrow.frozen (i+1)
   obtain⟨o,ho⟩:∃o,o=outs.getD i 0:=⟨_,rfl⟩
   obtain⟨t,ht⟩:∃t,t=u*2^s:=⟨_,rfl⟩
   obtain⟨f1,f2,f3,f4,f5,f6,f7⟩:=c6e hs hso hx hx2 ho (by rw[hlen.out];omega) ht hsm hlt hv.out
   rw[hlen.out]at f6 f7
   rw[<- ho]at hcur
   have h231:(2:Nat)^s<=2147483648:=by
    have:=Nat.pow_le_pow_right (show 0<2 by decide) (show s<=31 by omega)
    have e:(2:Nat)^31=2147483648:=by decide
    omega
   have ht63:t<9223372036854775808:=by
    have:4294967296*2^s<=4294967296*2147483648:=Nat.mul_le_mul_left _ h231
    omega
   have hw:IntKind.u64.wrap ((u:Int)*2^s)=(t:Int):=by
    have e:(u:Int)*2^s=(t:Int):=by rw[ht,Int.natCast_mul,Int.natCast_pow];rfl
    rw[e,IntKind.wrap_u64];omega
   have ho2:o<4294967296:=by rw[ho];exact hso.get _
   obtain⟨p,hp⟩:∃p,p=o+t%4294967296:=⟨_,rfl⟩
   obtain⟨c,hc⟩:∃c,c=t/4294967296:=⟨_,rfl⟩
   rw[<- hp]at f1 f2
   rw[<- hp,<-hc]at f6
   rw[<- hp]at f7
   rw[<- hc]at f5
   have hb1':bits .or .u32 (o:Int) ((t:Int)%4294967296)=(p:Int):=by
    rw[<- f1,<-u32_or_nat o _ ho2 (Nat.mod_lt _ (by decide))]
    simp
   have hb2':bits .or .u32 0 (c:Int)=(c:Int):=by
    have:=u32_or_nat 0 c (by decide) f5
    rw[Nat.zero_or]at this
    exact this
   have hdiv:(t:Int)/4294967296=(c:Int):=by rw[hc];simp
   have HP:=zh hp
   by_cases hl2:i+1<n
   ·have hcur2:=hrow.cell (i:=i+1) (by rw[hlen.out];omega)
    rw[f3]at hcur2
    have H:=zh (f6 hl2)
    clear f1 f3 f4 f6 f7 hx hx3 ho ht hc hp ht63 h231
    go_wp2
    go_roundw
    case rel=>exact⟨i+1,_,by omega,by go_num,by show _=_;rw[List.length_set,List.length_set];exact hlen.out,(hrow.set_ i p).set_ (i+1) c,a0m (a0m hso _ f2) _ f5,H,(hbw.setCell (Nat.le_refl _) _).setCell (Nat.le_refl _) _⟩
    case measure=>simp[intOf];omega
   have H:=zh (f7 (by omega) (HF.out (by omega)))
   clear f1 f3 f4 f6 f7 hx hx3 ho ht hc hp ht63 h231
   go_wp2
   go_roundw
   case rel=>exact⟨i+1,_,by omega,by go_num,by show _=_;rw[List.length_set];exact hlen.out,hrow.set_ i p,a0m hso _ f2,H,hbw.setCell (Nat.le_refl _) _⟩
   case measure=>simp[intOf];omega
  obtain rfl:i=xs.length:=by omega
  go_wp2
  go_ret
  exact⟨outs,rfl,hlen,hso,by rw[a0x (Nat.le_refl _)]at hv;exact hv,hrow,hbw⟩
theorem b5s(va:Value)(xs:List Nat)(s:Nat)(w:World)(ha:Limbs w va xs)(hs:s<32)(hsz:xs.length<=274877906944) :
  Calls Tryz.prog 142 #[va,.int .u64 s] w fun e w'=>∃v',e=.returned v'/\Limbs w' v' (limbsOf (lv xs/2^s))/\Below w.heap.size w w':=by
 obtain⟨A,ca,rfl,hca,hca'⟩:=ha.slice
 have hmk:=a1s 122 Tryz.underlying122 (xs.length:Int) xs.length rfl (by omega)
 have Ha:=zh ha
 have hsm:=ha.small
 clear ha
 go_enter Tryz.func142,Tryz.ntmps142
 go_wp2
 go_loopw [13] (fun i wr=>∃ (i':Nat) (outs:List Nat),i'<=xs.length/\i=.int .i64 i'/\Hid (outs.length=xs.length)/\Row wr w.heap.size outs/\Small outs /\
   Hid (lv (outs.take i')=lv xs/2^s%4294967296^i')/\Below w.heap.size w wr) (fun i _=>xs.length-(intOf i).toNat)
 case atStart =>
  refine⟨0,_,Nat.zero_le _,rfl,by simp[Hid],Row.made _ _,a1h _,?_,(Below.refl _ _).alloc (Nat.le_refl _) _⟩
  show _=_
  rw[List.take_zero,Nat.pow_zero,Nat.mod_one,a2q]
 case round =>
  obtain⟨i,outs,hi,rfl,hlen,hrow,hso,hv,hbw⟩:=hrel
  by_cases hlt:i<xs.length
  ·obtain⟨b1,o1,x,rfl,hb1,hx,hx2,hx3⟩:=Ha.out.at_ hlt
   have hxc:=hx3 wr hbw
   have hcur:=hrow.cell (i:=i) (by have:=hlen.out;omega)
   have hfr:=hrow.frozen i
   obtain⟨y,hy⟩:∃y,y=xs.getD (i+1) 0:=⟨_,rfl⟩
   have hy2:y<4294967296:=by rw[hy];exact hsm.get _
   obtain⟨t,ht⟩:∃t,t=x+4294967296*y:=⟨_,rfl⟩
   obtain⟨p,hp⟩:∃p,p=t/2^s%4294967296:=⟨_,rfl⟩
   have hp2:p<4294967296:=by rw[hp];exact Nat.mod_lt _ (by decide)
   have hst:=c6d (outs:=outs) hsm (i:=i) (s:=s) (by omega) (by rw[hlen.out];exact hlt) hv.out
   rw[<- hx,<-hy,<-ht,<-hp]at hst
   have H:=zh hst
   have hor:bits .or .u64 (x:Int) ((y:Int)*4294967296)=(t:Int):=by
    have e:x ||| y*4294967296=t:=by rw[Nat.or_comm,a6n hx2,ht];omega
    rw[<- e,<-u64_or_nat _ _ (by omega) (by omega)]
    simp
   have hpp:(t:Int)/2^s%4294967296=(p:Int):=by rw[hp];simp
   by_cases hl2:i+1<xs.length
   ·have hyc:=Limbs.cellAt Ha.out hl2 hb1 wr hbw
    rw[<- hy]at hyc
    clear hx hx3 hst hp ht hy
    go_wp2
    go_roundw
    case rel=>exact⟨i+1,_,by omega,by go_num,by show _=_;rw[List.length_set];exact hlen.out,hrow.set_ i p,a0m hso _ hp2,H,hbw.setCell (Nat.le_refl _) _⟩
    case measure=>simp[intOf];omega
   have hy0:y=0:=by rw[hy];exact a6d (by omega)
   have htx:t=x:=by rw[ht,hy0];simp
   subst htx
   clear hx hx3 hst hp hy hy0 hor ht
   go_wp2
   go_roundw
   case rel=>exact⟨i+1,_,by omega,by go_num,by show _=_;rw[List.length_set];exact hlen.out,hrow.set_ i p,a0m hso _ hp2,H,hbw.setCell (Nat.le_refl _) _⟩
   case measure=>simp[intOf];omega
  obtain rfl:i=xs.length:=by omega
  have hfin:lv outs=lv xs/2^s:=by
   have h1:=hv.out
   rw[a0x (by rw[hlen.out];omega)]at h1
   rw[h1,Nat.mod_eq_of_lt]
   exact Nat.lt_of_le_of_lt (Nat.div_le_self _ _) (a5h _ hsm)
  have HF:=zh hfin
  clear hfin
  go_wp2_with fail
  refine(a3n _ outs _ (hrow.limbsN hso hlen.out (by omega))).mono ?_
  rintro e w' ⟨⟨v',rfl,hv'⟩,rfl⟩
  go_wp2
  go_ret
  rw[HF.out]at hv'
  exact⟨_,rfl,hv',hbw⟩
theorem getD_pre{pre zs:List Nat}{j:Nat}:(pre++zs).getD (pre.length+j) 0=zs.getD j 0:=by
 rw[List.getD_eq_getElem?_getD,List.getD_eq_getElem?_getD,List.getElem?_append_right (by omega),Nat.add_sub_cancel_left]
theorem set_pre{pre zs:List Nat}{j x:Nat}:(pre++zs).set (pre.length+j) x=pre++zs.set j x:=by
 rw[List.set_append,if_neg (by omega),Nat.add_sub_cancel_left]
theorem Row.cellP{w:World}{g:Nat}{pre zs:List Nat}(h:Row w g (pre++zs)){j:Nat}(hj:j<zs.length):w.cell? ⟨g,pre.length+j,none⟩=some (.int .u32 (zs.getD j 0:Nat)):=by
 rw[h.cell (by rw[List.length_append];omega),getD_pre]
theorem Row.setP{w:World}{g:Nat}{pre zs:List Nat}(h:Row w g (pre++zs))(j x:Nat):Row (w.setCell ⟨g,pre.length+j,none⟩ (.int .u32 (x:Nat))) g (pre++zs.set j x):=by
 have:=h.set_ (pre.length+j) x
 rwa[set_pre]at this
theorem c2u(g off n c:Nat)(pre zs ds:List Nat)(vd:Value)(w:World)(hoff:pre.length=off)(hr:Row w g (pre++zs))(hzs:Small zs)(hd:Limbs w vd ds)(hg:∀b o cd,vd=.slice (some ⟨b,o,none⟩) n cd->b≠g)
  (hn:2<=n) (hdn:ds.length=n) (hzl:n+1<=zs.length) (hc:n+1<=c) (htop:0<ds.getD (n-1) 0) (hless:lv (zs.take (n+1))<lv ds*4294967296) (hsz:n<=274877906944) :
  Calls Tryz.prog 141 #[.slice (some ⟨g,off,none⟩) (n+1) c,vd] w fun e w'=>∃zs',e=.returned (.int .u32 (lv (zs.take (n+1))/lv ds:Nat))/\Hid (zs'.length=zs.length)/\Hid (zs'.drop (n+1)=zs.drop (n+1))/\Small zs'/\Hid (lv (zs'.take (n+1))=lv (zs.take (n+1))%lv ds) /\
   Row w' g (pre++zs')/\w.grownBy w' (some g):=by
 obtain⟨A,cd,rfl,hcd,hcd'⟩:=hd.slice
 subst hdn
 have hlead:=d1r hzs hd.small hn rfl hzl htop hless
 subst hoff
 obtain⟨n,hnn⟩:∃n,n=ds.length:=⟨_,rfl⟩
 have hdsm:=hd.small
 have HD:=zh hd
 obtain⟨b,o,d1,rfl,hb,hd1,hd1b,hd1c⟩:=hd.at_ (j:=ds.length-1) (by omega)
 have hd2c:=fun w' hw=>Limbs.cellAt HD.out (j:=ds.length-2) (by omega) hb w' hw
 obtain⟨d2,hd2⟩:∃d2,d2=ds.getD (ds.length-2) 0:=⟨_,rfl⟩
 rw[<- hd2]at hd2c
 have hne:=hg b o cd rfl
 obtain⟨un,hun⟩:∃un,un=zs.getD ds.length 0:=⟨_,rfl⟩
 obtain⟨um,hum⟩:∃um,um=zs.getD (ds.length-1) 0:=⟨_,rfl⟩
 obtain⟨ul,hul⟩:∃ul,ul=zs.getD (ds.length-2) 0:=⟨_,rfl⟩
 have hcn:=hr.cellP (j:=ds.length) (by omega)
 have hcm:=hr.cellP (j:=ds.length-1) (by omega)
 have hcl:=hr.cellP (j:=ds.length-2) (by omega)
 rw[<- hun]at hcn
 rw[<- hum]at hcm
 rw[<- hul]at hcl
 rw[<- hun,<-hum,<-hul,<-hd1,<-hd2]at hlead
 have hunb:un<4294967296:=by rw[hun];exact hzs.get _
 have humb:um<4294967296:=by rw[hum];exact hzs.get _
 have hulb:ul<4294967296:=by rw[hul];exact hzs.get _
 have hd2b:d2<4294967296:=by rw[hd2];exact hdsm.get _
 rw[<- hd1]at htop
 obtain⟨top,htp⟩:∃top,top=un*4294967296+um:=⟨_,rfl⟩
 rw[<- htp]at hlead
 have hor:bits .or .u64 ((un:Int)*4294967296) (um:Int)=(top:Int):=by
  rw[htp,<-a6n humb,<-u64_or_nat _ _ (by omega) (by omega)]
  simp
 obtain⟨U,hU⟩:∃U,U=lv (zs.take (ds.length+1)):=⟨_,rfl⟩
 obtain⟨D,hD⟩:∃D,D=lv ds:=⟨_,rfl⟩
 rw[<- hU,<-hD]at hlead hless
 rw[<- hU,<-hD]
 obtain⟨g0,hg0⟩:∃g0,g0=top/d1:=⟨_,rfl⟩
 obtain⟨r0,hr0⟩:∃r0,r0=top%d1:=⟨_,rfl⟩
 have htopb:top<18446744073709551616:=by omega
 have hquo:IntKind.u64.wrap ((top:Int)/d1)=(g0:Int):=by
  have:g0<=top:=by rw[hg0];exact Nat.div_le_self _ _
  have e:(top:Int)/d1=(g0:Int):=by rw[hg0];simp
  rw[e,IntKind.wrap_u64];omega
 have hrem:(top:Int)%d1=(r0:Int):=by rw[hr0];simp
 have hst:U/D<=g0:=by rw[hg0];exact hlead.start
 have htg:top=g0*d1+r0:=by rw[hg0,hr0,Nat.mul_comm];exact(Nat.div_add_mod _ _).symm
 have hg0b:g0<=8589934592:=by
  have:=hlead.top_le
  rw[hg0]
  have h2:top/d1<=(d1*4294967296+d2)/d1:=Nat.div_le_div_right this
  rw[Nat.mul_add_div htop]at h2
  have:=Nat.div_le_self d2 d1
  omega
 have hr0b:r0<4294967296:=by rw[hr0];exact Nat.lt_of_lt_of_le (Nat.mod_lt _ htop) (by omega)
 have HST:=zh hst
 have HTG:=zh htg
 have HL:=zh hlead
 have HU:=zh hU
 have HDD:=zh hD
 have HLE:=zh hless
 have hd1w:=hd1c w (Below.refl _ _)
 have hd2w:=hd2c w (Below.refl _ _)
 clear hg hd hst htg hlead hU hD hless hd1 hd2 hun hum hul htp hnn htopb hg0 hr0 hd1c hd2c n
 go_enter Tryz.func141,Tryz.ntmps141
 go_wp2
 go_quiet (fail)
 go_wp2
 go_quiet (fail)
 go_upto_block 0 with (fail)
 go_cut [7,8] (fun vg vr wx=>∃q:Nat,vg=.int .u64 q/\q<4294967296/\Hid (U/D<=q)/\Hid (q*D<U+D)/\∃nq,wx=w.drewN nq)
 case first =>
  go_wp2
  go_loopw [7,8] (fun vg vr wx=>∃q r nq:Nat,vg=.int .u64 q/\vr=.int .u64 r/\r<4294967296/\q<=8589934592/\Hid (top=q*d1+r)/\Hid (U/D<=q)/\wx=w.drewN nq) (fun vg _ _=>(intOf vg).toNat)
  case atStart=>exact⟨g0,r0,_,rfl,by rw[hrem],hr0b,hg0b,HTG,HST,World.drewN_drewN _ _ _⟩
  case round =>
   obtain⟨q,r,nq',rfl,rfl,hrb,hqb,htq,hqU,rfl⟩:=hrel
   have hor2:bits .or .u64 ((r:Int)*4294967296) (ul:Int)=((r*4294967296+ul:Nat):Int):=by
    rw[<- a6n hulb,<-u64_or_nat _ _ (by omega) (by omega)]
    simp
   obtain⟨m2,hm2⟩:∃m2,m2=r*4294967296+ul:=⟨_,rfl⟩
   rw[<- hm2]at hor2
   have HM2:=zh hm2
   by_cases hge:4294967296<=q
   ·have i1:(4294967296:Int)<=(q:Int):=by omega
    obtain⟨f1,f2,f3⟩:=HL.out.down htq.out hqU.out (.inl hge)
    have i2:(1:Int)<=(q:Int):=by omega
    have F2:=zh f2
    have F3:=zh f3
    clear hm2 f2 f3 hor hquo hrem
    by_cases hbr:4294967296<=r+d1
    ·have i3:(4294967296:Int)<=(r:Int)+d1:=by omega
     have i4:decide ((4294967296:Int)<=(r:Int)+d1)=true:=decide_eq_true i3
     obtain⟨f4,f5⟩:=HL.out.broke F3.out hbr
     have F4:=zh f4
     have F5:=zh f5
     clear hbr f4 f5
     go_wp2
     go_quiet (fail)
     go_wp2
     go_meet
     case rel=>exact⟨q-1,by congr 1;omega,F4.out,F2,F5,_,rfl⟩
    have i3:(r:Int)+d1<(4294967296:Int):=by omega
    have i4:decide ((4294967296:Int)<=(r:Int)+d1)=false:=decide_eq_false (by omega)
    have HBR:=zh hbr
    clear hbr
    go_wp2
    go_quiet (fail)
    go_wp2
    go_roundw
    case rel=>exact⟨q-1,r+d1,_,by congr 1;omega,by go_num,by have:=HBR.out;omega,by omega,F3,F2,rfl⟩
    case measure=>simp[intOf];omega
   have i1:decide ((4294967296:Int)<=(q:Int))=false:=decide_eq_false (by omega)
   have hpb:=(a4w (u:=q) (v:=d2) (o:=0) (c:=0) (by omega) hd2b (by decide) (by decide)).1
   have hpb0:(0:Int)<=(q:Int)*d2:=by rw[<- Int.natCast_mul];omega
   have hpb1:(q:Int)*d2<=18446744065119617025:=by rw[<- Int.natCast_mul];omega
   have hcast:(q:Int)*d2=((q*d2:Nat):Int):=by simp
   by_cases hgt:m2<q*d2
   ·have i5:(m2:Int)<(q:Int)*d2:=by omega
    have i6:decide ((m2:Int)<(q:Int)*d2)=true:=decide_eq_true i5
    obtain⟨f1,f2,f3⟩:=HL.out.down htq.out hqU.out (.inr (by rw[<- hm2];exact hgt))
    have i2:(1:Int)<=(q:Int):=by omega
    have F2:=zh f2
    have F3:=zh f3
    clear hm2 f2 f3 hor hquo hrem hcast hpb hgt hge
    by_cases hbr:4294967296<=r+d1
    ·have i3:(4294967296:Int)<=(r:Int)+d1:=by omega
     have i4:decide ((4294967296:Int)<=(r:Int)+d1)=true:=decide_eq_true i3
     obtain⟨f4,f5⟩:=HL.out.broke F3.out hbr
     have F4:=zh f4
     have F5:=zh f5
     clear hbr f4 f5
     go_wp2
     go_quiet (fail)
     go_wp2
     go_meet
     case rel=>exact⟨q-1,by congr 1;omega,F4.out,F2,F5,_,rfl⟩
    have i3:(r:Int)+d1<(4294967296:Int):=by omega
    have i4:decide ((4294967296:Int)<=(r:Int)+d1)=false:=decide_eq_false (by omega)
    have HBR:=zh hbr
    clear hbr
    go_wp2
    go_quiet (fail)
    go_wp2
    go_roundw
    case rel=>exact⟨q-1,r+d1,_,by congr 1;omega,by go_num,by have:=HBR.out;omega,by omega,F3,F2,rfl⟩
    case measure=>simp[intOf];omega
   have i6:decide ((m2:Int)<(q:Int)*d2)=false:=decide_eq_false (by omega)
   have F5:=zh (HL.out.stop htq.out (by omega) (by rw[<- hm2];exact hgt))
   have F6:Hid (q<4294967296):=by show _<_;omega
   clear hm2 hor hquo hrem hcast hpb hgt hge
   go_wp2
   go_quiet (fail)
   go_wp2
   go_meet
   case rel=>exact⟨q,rfl,F6.out,hqU,F5,_,World.drewN_drewN _ _ _⟩
 case rest =>
  obtain⟨q,rfl,hq,hq1,hq2,nq',rfl⟩:=hcut
  clear hor hquo hrem hcn hcm hcl hd1w hd2w
  go_wp2
  go_loopw [9,10,84] (fun vc vb i wr=>∃ (k c' b':Nat) (zk:List Nat),k<=ds.length/\i=.int .i64 k/\vc=.int .u64 c'/\c'<4294967296/\vb=.int .u32 b'/\b'<=1/\Hid (zk.length=zs.length)/\Hid (zk.drop k=zs.drop k)/\Small zk /\
    Row wr g (pre++zk)/\Hid (lv (zk.take k)+q*lv (ds.take k)=lv (zs.take k)+4294967296^k*(c'+b'))/\Hid (w.grownBy wr (some g))) (fun _ _ i _=>ds.length-(intOf i).toNat)
  case atStart=>exact⟨0,0,0,zs,Nat.zero_le _,rfl,rfl,by decide,rfl,by decide,rfl,rfl,hzs,hr,by simp[Hid,a2q],c5c (c8v _ _) _⟩
  case round =>
   obtain⟨k,cc,bb,zk,hk,rfl,rfl,hcc,rfl,hbb,hzl2,hdr,hzks,hrow,hinv,hgr⟩:=hrel
   by_cases hlt:k<ds.length
   ·have hvc:=(b8s hgr.out (o:=o+k) hb (by intro e;exact hne (Option.some.inj e))).trans (Limbs.cellAt HD.out hlt hb w (Below.refl _ _))
    obtain⟨v,hv⟩:∃v,v=ds.getD k 0:=⟨_,rfl⟩
    have hvb:v<4294967296:=by rw[hv];exact hdsm.get _
    rw[<- hv]at hvc
    have hcur:=hrow.cellP (j:=k) (by rw[hzl2.out];omega)
    have hfr:=hrow.frozen (pre.length+k)
    obtain⟨z,hz⟩:∃z,z=zk.getD k 0:=⟨_,rfl⟩
    have hzb:z<4294967296:=by rw[hz];exact hzks.get _
    rw[<- hz]at hcur
    have hpb:=a4w (u:=q) (v:=v) (o:=0) (c:=cc) hq hvb (by decide) hcc
    have hpb0:(0:Int)<=(q:Int)*v:=by rw[<- Int.natCast_mul];omega
    have hpb1:(q:Int)*v<=18446744065119617025:=by have:=hpb.1;rw[<- Int.natCast_mul];omega
    obtain⟨x,hx⟩:∃x,x=(q*v+cc)%4294967296:=⟨_,rfl⟩
    obtain⟨y,hy⟩:∃y,y=(q*v+cc)/4294967296:=⟨_,rfl⟩
    have hxb:x<4294967296:=by rw[hx];exact Nat.mod_lt _ (by decide)
    have hyb:y<4294967296:=by rw[hy];exact hpb.2
    have e1:((q:Int)*v+cc)%4294967296=(x:Int):=by rw[hx];simp
    have e2:((q:Int)*v+cc)/4294967296=(y:Int):=by rw[hy];simp
    have HX:=zh hx
    have HY:=zh hy
    have HV:=zh hv
    have HZ:=zh hz
    clear hv hz hpb hx hy
    go_wp2_with (go_at_call 124;refine(c5z z x bb _ hzb hxb hbb).mono ?_;rintro e w' ⟨⟨rr,kk,rfl,hrr,hrr2,hkk2⟩,rfl⟩)
    go_roundw
    case rel =>
     refine⟨k+1,y,kk,zk.set k rr,by omega,by go_num,rfl,hyb,rfl,hkk2,by show _=_;rw[List.length_set];exact hzl2.out,a1p hdr.out,a0m hzks k hrr2,hrow.setP k rr,?_,a4p hgr.out _ _⟩
     show _=_
     rw[HY.out]
     exact b5v (by rw[hzl2.out];omega) (a1x hdr.out) (by rw[<- HV.out]) (by rw[<- HX.out,<-HZ.out];exact hrr) hinv.out
    case measure=>simp[intOf];omega
   obtain rfl:k=ds.length:=by omega
   have hcur:=hrow.cellP (j:=ds.length) (by rw[hzl2.out];omega)
   have hfr:=hrow.frozen (pre.length+ds.length)
   obtain⟨z,hz⟩:∃z,z=zk.getD ds.length 0:=⟨_,rfl⟩
   have hzb:z<4294967296:=by rw[hz];exact hzks.get _
   rw[<- hz]at hcur
   have HZ:=zh hz
   have hmod:(cc:Int)%4294967296=(cc:Int):=Int.emod_eq_of_lt (by omega) (by omega)
   clear hz
   go_wp2_with (go_at_call 124;refine(c5z z cc bb _ hzb hcc hbb).mono ?_;rintro e w' ⟨⟨rr,kk,rfl,hrr,hrr2,hkk2⟩,rfl⟩)
   ·have hk0:kk=0:=by
     have:((kk:Int)==0)=true:=by assumption
     simp at this;omega
    subst hk0
    have hfin:=b1p (n:=ds.length) (ds:=ds) (by rw[hzl2.out];omega) (a1x hdr.out) (by rw[<- HZ.out];exact hrr.out) hinv.out
    rw[a0x (Nat.le_refl _),<-HU.out,<-HDD.out]at hfin
    obtain⟨s1,s2⟩:=b7s HL.out.Dpos hq1.out hfin
    have hlen1:Hid ((zk.set ds.length rr).length=zs.length):=by show _=_;rw[List.length_set];exact hzl2.out
    go_ret
    rw[<- s1]
    exact⟨zk.set ds.length rr,rfl,hlen1,a1p hdr.out,a0m hzks ds.length hrr2,s2,hrow.setP ds.length rr,a4p hgr.out _ _⟩
   rename ((kk:Int)==0)=false=>hkz
   have hk1:kk=1:=by
    have:((kk:Int)==0)=false:=hkz
    rcases Nat.eq_zero_or_pos kk with h0 | h0
    ·subst h0;simp at this
    omega
   have hfin:=b1p (n:=ds.length) (ds:=ds) (by rw[hzl2.out];omega) (a1x hdr.out) (by rw[<- HZ.out];exact hrr.out) hinv.out
   rw[hk1]at hfin
   clear hk1 hkz
   have hrow1:=hrow.setP ds.length rr
   have hsm1:=a0m hzks ds.length hrr2
   have hgr1:=zh (a4p hgr.out (pre.length+ds.length) (.int .u32 (rr:Nat)))
   have hlen1:Hid ((zk.set ds.length rr).length=zs.length):=by show _=_;rw[List.length_set];exact hzl2.out
   have hdr1:Hid ((zk.set ds.length rr).drop (ds.length+1)=zs.drop (ds.length+1)):=a1p hdr.out
   obtain⟨z1,hz1⟩:∃z1,z1=zk.set ds.length rr:=⟨_,rfl⟩
   rw[<- hz1]at hfin hrow1 hsm1 hlen1 hdr1
   rw[a0x (Nat.le_refl _),<-HU.out,<-HDD.out]at hfin
   have hP:lv (z1.take (ds.length+1))<4294967296^(ds.length+1):=by
    have h:=a5h _ (hsm1.take (ds.length+1))
    rwa[List.length_take,Nat.min_eq_left (by rw[hlen1.out];omega)]at h
   obtain⟨s1,s2,s3⟩:=c1r HL.out.Dpos hq1.out hq2.out hP hfin
   have S1:=zh s1
   have S3:=zh s3
   have i2:(1:Int)<=(q:Int):=by omega
   clear hfin hP s1 s3 hz1 hcur hfr hrow hrr HZ hzks hzl2 hdr hinv hgr hmod
   go_loopw [14,132] (fun vc i wr=>∃ (k c':Nat) (zk:List Nat),k<=ds.length/\i=.int .i64 k/\vc=.int .u32 c'/\c'<=1/\Hid (zk.length=zs.length)/\Hid (zk.drop k=z1.drop k)/\Small zk /\
     Row wr g (pre++zk)/\Hid (lv (zk.take k)+4294967296^k*c'=lv (z1.take k)+lv (ds.take k))/\Hid (w.grownBy wr (some g))) (fun _ i _=>ds.length-(intOf i).toNat)
   case atStart=>exact⟨0,0,z1,Nat.zero_le _,rfl,rfl,by decide,hlen1,rfl,hsm1,hrow1,by simp[Hid,a2q],hgr1⟩
   case round =>
    obtain⟨k,cc,zk,hk,rfl,rfl,hcc,hzl2,hdr,hzks,hrow,hinv,hgr⟩:=hrel
    by_cases hlt:k<ds.length
    ·have hvc:=(b8s hgr.out (o:=o+k) hb (by intro e;exact hne (Option.some.inj e))).trans (Limbs.cellAt HD.out hlt hb w (Below.refl _ _))
     obtain⟨v,hv⟩:∃v,v=ds.getD k 0:=⟨_,rfl⟩
     have hvb:v<4294967296:=by rw[hv];exact hdsm.get _
     rw[<- hv]at hvc
     have hcur:=hrow.cellP (j:=k) (by rw[hzl2.out];omega)
     have hfr:=hrow.frozen (pre.length+k)
     obtain⟨z,hz⟩:∃z,z=zk.getD k 0:=⟨_,rfl⟩
     have hzb:z<4294967296:=by rw[hz];exact hzks.get _
     rw[<- hz]at hcur
     have HV:=zh hv
     have HZ:=zh hz
     clear hv hz
     go_wp2_with (go_at_call 105;refine(d3d z v cc _ hzb hvb hcc).mono ?_;rintro e w' ⟨⟨rr,kk,rfl,hrr,hkk,hrr2,hkk2⟩,rfl⟩)
     go_roundw
     case rel =>
      refine⟨k+1,kk,zk.set k rr,by omega,by go_num,rfl,hkk2,by show _=_;rw[List.length_set];exact hzl2.out,a1p hdr.out,a0m hzks k hrr2,hrow.setP k rr,?_,a4p hgr.out _ _⟩
      show _=_
      rw[hrr.out,hkk.out]
      exact b4r (by rw[hzl2.out];omega) hinv.out (by rw[HV.out,HZ.out,a1x hdr.out])
     case measure=>simp[intOf];omega
    obtain rfl:k=ds.length:=by omega
    have hcur:=hrow.cellP (j:=ds.length) (by rw[hzl2.out];omega)
    have hfr:=hrow.frozen (pre.length+ds.length)
    obtain⟨z,hz⟩:∃z,z=zk.getD ds.length 0:=⟨_,rfl⟩
    have hzb:z<4294967296:=by rw[hz];exact hzks.get _
    rw[<- hz]at hcur
    have HZ:=zh hz
    have hwrap:IntKind.u32.wrap ((z:Int)+cc)=(((z+cc)%4294967296:Nat):Int):=by rw[IntKind.wrap_u32];omega
    obtain⟨x,hx⟩:∃x,x=(z+cc)%4294967296:=⟨_,rfl⟩
    have hxb:x<4294967296:=by rw[hx];exact Nat.mod_lt _ (by decide)
    rw[<- hx]at hwrap
    have HX:=zh hx
    clear hz hx
    go_wp2
    go_ret
    have e:((q:Int)-1)=((U/D:Nat):Int):=by rw[<- S1.out];omega
    rw[e]
    refine⟨zk.set ds.length x,rfl,by show _=_;rw[List.length_set];exact hzl2.out,(a1p hdr.out).trans hdr1.out,a0m hzks ds.length hxb,?_,hrow.setP ds.length x,a4p hgr.out _ _⟩
    show _=_
    rw[HX.out,HZ.out]
    refine b3n (ds:=ds) (z1:=z1) (D:=D) (by rw[hzl2.out];omega) (a1x hdr.out) (hzks.take _) ?_ hinv.out (by rw[a0x (Nat.le_refl _),<-HDD.out]) S3.out
    have hd:D<4294967296^ds.length:=by rw[HDD.out];exact a5h _ hdsm
    have hm:=Nat.mod_lt U HL.out.Dpos
    have hp:=Nat.pow_le_pow_right (show 0<4294967296 by decide) (Nat.le_succ ds.length)
    exact Nat.lt_of_lt_of_le (Nat.lt_trans hm hd) hp
theorem Row.grown{a b:World}{g:Nat}{r:Option Nat}{xs:List Nat}(h:Row a g xs)(k:a.grownBy b r)(hne:some g≠r):Row b g xs:=(k.block g h.lt hne).trans h
theorem b6a{a b:World}{g B:Nat}(h:a.grownBy b (some g))(hB:B<=g)(hB2:B<=a.heap.size):Below B a b :=
 ⟨h.os,h.tape,h.output,h.size,fun k hk=>h.block k (by omega) (fun e=>by injection e;omega)⟩
theorem Limbs.view{w:World}{g off n c:Nat}{pre zs:List Nat}(h:Row w g (pre++zs))(hs:Small zs)(ho:pre.length=off)(hn:n<=zs.length)(hc:n<=c)(hc2:c<=9223372036854775807):Limbs w (.slice (some ⟨g,off,none⟩) n c) (zs.take n):=by
 have hl:(zs.take n).length=n:=by rw[List.length_take];omega
 subst ho
 refine⟨hs.take n,_,c,by rw[hl],by omega,hc2,fun _=>⟨g,pre.length,rfl,h.lt,fun j hj=>?_⟩⟩
 rw[h.cellP (by omega),a7e (by omega)]
theorem b0f(va vb:Value)(a b:Nat)(w:World)(ha:Limbs w va (limbsOf a))(hb:Limbs w vb (limbsOf b))(hb0:0<b)(hsz:(limbsOf a).length<=137438953472) :
   Calls Tryz.prog 118 #[va,vb] w fun e w'=>∃v1 v2,e=.returned (.tuple #[v1,v2])/\Limbs w' v1 (limbsOf (a/b))/\Limbs w' v2 (limbsOf (a%b))/\Below w.heap.size w w':=by
 obtain⟨xs,hxs⟩:∃xs,xs=limbsOf a:=⟨_,rfl⟩
 obtain⟨ys,hys⟩:∃ys,ys=limbsOf b:=⟨_,rfl⟩
 have hax:a=lv xs:=by rw[hxs,a0k]
 have hby:b=lv ys:=by rw[hys,a0k]
 by_cases hab:a<b
 have hsg:sgn ((a:Int)-b)<0:=by rw[a1y (by omega)];decide
 have HA:=zh ha
 have HB:=zh hb
 have HAB:=zh hab
 clear ha hb hxs hys hax hby hab
 rotate_left
 have hsg:¬sgn ((a:Int)-b)<0:=by
   rcases Nat.lt_or_ge b a with h | h
   · rw[a2y (by omega)];decide
   rw[show(a:Int)-b=0 by omega,b1c];decide
 have hlen:ys.length<=xs.length:=by
   rcases Nat.lt_or_ge xs.length ys.length with h | h
   · rw[hxs,hys]at h;have:=a1j h;omega
   exact h
 have hy0:0<ys.length:=by
   rcases Nat.eq_zero_or_pos ys.length with h | h
   · rw[List.length_eq_zero_iff]at h;rw[h]at hby;rw[a2q]at hby;omega
   exact h
 have htop:0<ys.getD (ys.length-1) 0:=by
   have h1:=a8d b
   rw[<- hys]at h1
   rcases Nat.eq_zero_or_pos (ys.getD (ys.length-1) 0)with h | h
   · refine absurd ?_ h1
     rw[List.getLast?_eq_getElem?,List.getElem?_eq_getElem (by omega)]
     rw[List.getD_eq_getElem?_getD,List.getElem?_eq_getElem (by omega)]at h
     exact congrArg some h
   exact h
 have hsx:=ha.small
 have hsy:=hb.small
 rw[<- hxs]at ha hsx hsz
 rw[<- hys]at hb hsy
 by_cases hone:ys.length=1
 have hone':((ys.length:Int)==1)=true:=by rw[hone];rfl
 obtain⟨d,hd⟩:∃d,d=ys.getD 0 0:=⟨_,rfl⟩
 have hbd:b=d:=by
   match ys,hone with
   | [y],_=>rw[hby,hd];simp[a1w,a2q]
 obtain⟨B,cb,rfl,hcb,hcb'⟩:=hb.slice
 obtain⟨bb,ob,y0,rfl,hbb,hy,hyb,hyc⟩:=hb.at_ (j:=0) (by omega)
 rw[<- hd]at hy
 subst hy
 have hdp:0<y0:=by omega
 have HA:=zh ha
 have HB:=zh hb
 have HAX:=zh hax
 have HBD:=zh hbd
 have HN:=zh hone
 have HXS:=zh hxs
 have HYS:=zh hys
 have HYC:=zh hyc
 clear ha hb hax hby hbd hxs hys hone hyc htop hd hab
 rotate_left
 obtain⟨n,hn⟩:∃n,n=ys.length:=⟨_,rfl⟩
 obtain⟨m,hm⟩:∃m,m=xs.length:=⟨_,rfl⟩
 rw[<- hn]at hlen hy0 htop hone
 rw[<- hm]at hlen hsz
 have hn2:2<=n:=by omega
 have hone':((n:Int)==1)=false:=by simp;omega
 obtain⟨t,ht⟩:∃t,t=ys.getD (n-1) 0:=⟨_,rfl⟩
 have htb:t<4294967296:=by rw[ht];exact hsy.get _
 rw[<- ht]at htop
 obtain⟨s,hs,hs2,hs3,hs4⟩:=b8q htop htb
 have hfit:lv ys*2^s<4294967296^n:=by
   obtain⟨n',rfl⟩:∃n',n=n'+1:=⟨n-1,by omega⟩
   exact b7y ys s n' hsy hn.symm (by rw[Nat.add_sub_cancel]at ht;rw[<- ht];exact hs4) hs
 obtain⟨A,ca,rfl,hca,hca'⟩:=ha.slice
 obtain⟨B,cb,rfl,hcb,hcb'⟩:=hb.slice
 obtain⟨bb,ob,y0,rfl,hbb,hy,hyb,hyc⟩:=hb.at_ (j:=ys.length-1) (by omega)
 rw[<- hn,<-ht]at hy
 subst hy
 rw[<- hn]at hyc hcb
 have hb:=show Limbs w (.slice (some ⟨bb,ob,none⟩) n cb) ys by rw[hn];exact hb
 rw[<- hm]at hca
 have ha:=show Limbs w (.slice A m ca) xs by rw[hm];exact ha
 rw[<- hn,<-hm]
 have hmk:=a1s 122 Tryz.underlying122 ((m:Int)-n+1) (m-n+1) (by omega) (by omega)
 have HA:=zh ha
 have HB:=zh hb
 have HAX:=zh hax
 have HBY:=zh hby
 have HXS:=zh hxs
 have HYS:=zh hys
 have HYC:=zh hyc
 have HT:=zh ht
 have HM:=zh hm
 have HN:=zh hn
 have HS3:=zh hs3
 have HFIT:=zh hfit
 have HS2:=zh hs2
 clear ha hb hax hby hxs hys hone hyc ht hab hs3 hs4 hfit hm hn hs2
 rotate_left
 all_goals
   go_enter Tryz.func118,Tryz.ntmps118
   go_wp2_with fail
 ·refine(a4n _ _ _ _ _ HA.out HB.out).mono ?_
  rintro e w1 ⟨rfl,hb1⟩
  go_wp2
  go_ret2
  refine⟨_,_,rfl,?_,?_,hb1⟩
  · rw[Nat.div_eq_of_lt HAB.out,a0u];exact Limbs.nil_ _ _ _ (by decide)
  rw[Nat.mod_eq_of_lt HAB.out];exact HA.out.below hb1
 all_goals
   refine(a4n _ _ a b _ (by rw[<- HXS.out];exact HA.out) (by rw[<- HYS.out];exact HB.out)).mono ?_
   rintro e w1 ⟨rfl,hb1⟩
   have hyc:=HYC.out w1 hb1
 ·rw[Nat.add_zero]at hyc
  go_wp2_with fail
  refine(b0m _ xs y0 _ (HA.out.below hb1) hdp hyb (by omega)).mono ?_
  rintro e w2 ⟨v2,rfl,h2,hb2⟩
  have hr:lv xs%y0<4294967296:=Nat.lt_of_lt_of_le (Nat.mod_lt _ hdp) (by omega)
  obtain⟨r,hr2⟩:∃r,r=lv xs%y0:=⟨_,rfl⟩
  rw[<- hr2]at hr
  rw[<- hr2]
  have HR:=zh hr2
  have H2:=zh h2
  clear hr2 h2
  go_wp2_with fail
  have hrow:Row (w2.alloc (Obj.cells #[Value.int IntKind.u32 ((r:Nat):Int)] 124)) w2.heap.size [r]:=by
    unfold Row
    rw[heap_alloc_new]
    simp
  refine(a3n _ [r] _ (hrow.limbsN (by rw[small_cons];exact⟨hr,a3m⟩) rfl (by show 1<=_;decide))).mono ?_
  rintro e w3 ⟨⟨v3,rfl,h3⟩,rfl⟩
  have hbw:=(Below.refl w2.heap.size w2).alloc (Nat.le_refl _) (Obj.cells #[Value.int IntKind.u32 ((r:Nat):Int)] 124)
  have H3:=zh h3
  clear h3
  go_wp2
  go_ret2
  refine⟨_,_,rfl,?_,?_,Ext.trans hb1 (Ext.trans hb2 hbw)⟩
  · rw[HAX.out,HBD.out];exact H2.out.below hbw
  have:=H3.out
  rw[a1w,a2q,Nat.mul_zero,Nat.add_zero]at this
  have hr':=HR.out
  rw[<- HAX.out,<-HBD.out]at hr'
  rw[<- hr']
  exact this
 go_wp2_with fail
 refine(c8z _ _ (by omega) (by omega)).mono ?_
 rintro e w1' ⟨rfl,hw⟩
 subst w1'
 rw[show(32-(Lib.bitLen ((y0:Int)).toNat:Int))=(s:Int)from HS2.out]
 go_wp2_with fail
 refine(b1n _ ys s n _ (HB.out.below hb1) hs (by rw[HN.out];exact Nat.le_refl _) (by rw[HN.out];omega) (fun _=>HFIT.out) (by rw[<- HN.out];omega)).mono ?_
 rintro e w2 ⟨ds,rfl,hdl,hds,hdv,hdr,hb2⟩
 have hb12:=Ext.trans hb1 hb2
 have hgd2:w1.heap.size<w2.heap.size:=hdr.lt
 go_wp2_with fail
 refine(b1n _ xs s (m+1) _ (HA.out.below hb12) hs (by rw[HM.out];omega) (by rw[HM.out];omega) (fun h=>by have:=HM.out;omega) (by rw[<- HM.out];omega)).mono ?_
 rintro e w3 ⟨us,rfl,hul,hus,huv,hur,hb3⟩
 obtain⟨gu,hgu⟩:∃gu,gu=w2.heap.size:=⟨_,rfl⟩
 rw[<- hgu]at hur hgd2 ⊢
 have hst:=zh (b8p (n:=n-1) hsx HM.out.symm (by rw[<- HN.out];omega) (by omega) (by rw[hul.out]) hs (by rw[<- HT.out];exact HS3.out) huv.out)
 have hgu2:gu<w3.heap.size:=hur.lt
 have hdr3:=hdr.below hb3 (by omega)
 have hb13:=Ext.trans hb12 hb3
 have HG:=zh hgu
 clear hgu hdr
 go_wp2
 go_loopw [13] (fun i wr=>∃ (j:Nat) (zs qs:List Nat),j<=m-n+1/\i=.int .i64 ((j:Int)-1)/\Hid (zs.length=m+1)/\Small zs/\Row wr gu zs/\Hid (qs.length=m-n+1)/\Small qs/\Row wr w3.heap.size qs /\
     Row wr w1.heap.size ds/\Hid (lv (zs.drop j)<lv ys*2^s)/\Hid (∀k,k<j->qs.getD k 0=0)/\Hid (lv zs+lv ys*2^s*lv qs=lv xs*2^s)/\Below w2.heap.size w2 wr) (fun i _=>(intOf i+1).toNat)
 case atStart =>
   refine⟨m-n+1,us,List.replicate (m-n+1) 0,Nat.le_refl _,by congr 1;omega,hul,hus,hur.alloc _,by simp[Hid],a1h _,Row.made _ _,hdr3.alloc _,?_,?_,?_,hb3.alloc hb3.size _⟩
   · show _<_
     have:=hst.out
     rwa[show m-(n-1)=m-n+1 by omega]at this
   · intro k hk
     rw[List.getD_eq_getElem?_getD,List.getElem?_replicate,if_pos hk];rfl
   show _=_
   rw[a5m,Nat.mul_zero,Nat.add_zero];exact huv.out
 case round =>
   obtain⟨j,zs,qs,hj,rfl,hzl,hzs,hzr,hql,hqs,hqr,hdr',hlt,hq0,hinv,hbw⟩:=hrel
   by_cases hp:0<j
   · have i1:(0:Int)<=(j:Int)-1:=by omega
     have i2:((j:Int)-1+n+1)<=(m:Int)+1:=by omega
     have hcur:=hqr.cell (i:=j-1) (by rw[hql.out];omega)
     have hfr:=hqr.frozen (j-1)
     go_wp2_with fail
     rw[show j-1+n+1-(j-1)=n+1 by omega]
     have hpre:(zs.take (j-1)).length=j-1:=by rw[List.length_take,hzl.out];omega
     have hwin:(zs.drop (j-1)).length=m+1-(j-1):=by rw[List.length_drop,hzl.out]
     have hj1:j-1+1=j:=by omega
     have hD:=hdv.out
     have hD0:0<lv ys*2^s:=Nat.mul_pos (by rw[<- HBY.out];exact hb0) (Nat.pow_pos (by decide))
     obtain⟨hsm1,hsm2⟩:=b2u (zs:=zs) (D:=lv ys*2^s) (n:=n) (i:=j-1) hzs (by rw[hzl.out];omega) HFIT.out (by rw[hj1];exact hlt.out) (by rw[hzl.out];omega)
     have hdtop:0<ds.getD (n-1) 0:=by
      rcases Nat.eq_zero_or_pos (ds.getD (n-1) 0)with h | h
      ·exfalso
       have h1:=a0n ds (n-1)
       rw[show n-1+1=n by omega,a0x (by rw[hdl.out];exact Nat.le_refl _),h,Nat.mul_zero,Nat.add_zero]at h1
       have h2:=a5h _ (hds.take (n-1))
       rw[List.length_take,Nat.min_eq_left (by rw[hdl.out];omega),<-h1,hD]at h2
       have h3:=b1r ys (n-1) (by rw[<- HN.out];omega)
       rw[<- HT.out]at h3
       have h4:=Nat.mul_le_mul_right (2^s) h3
       rw[Nat.mul_assoc]at h4
       have h5:=Nat.mul_le_mul_left (4294967296^(n-1)) (show 1<=y0*2^s by have:=HS3.out;omega)
       rw[Nat.mul_one]at h5
       omega
      exact h
     refine(c2u gu (j-1) n (m+1-(j-1)) (zs.take (j-1)) (zs.drop (j-1)) ds _ wr hpre (by rw[List.take_append_drop];exact hzr) (hzs.drop _) (hdr'.limbsN hds hdl.out (by omega)) (by
      intro b o cd e
      injection e with e
      injection e with e
      injection e with e
      omega) hn2 hdl.out (by rw[hwin];omega) (by omega) hdtop (by rw[hD,hsm1];exact hsm2) (by omega)).mono ?_
     rintro e w4 ⟨win,rfl,hw1,hw2,hwsm,hw3,hwr,hgr⟩
     have hqr4:=hqr.grown hgr (by intro e;injection e;omega)
     have hdr4:=hdr'.grown hgr (by intro e;injection e;omega)
     have hbw4:=hbw.trans (b6a hgr (by rw[<- HG.out];exact Nat.le_refl _) hbw.size)
     have hcur:=hqr4.cell (i:=j-1) (by rw[hql.out];omega)
     have hfr:=hqr4.frozen (j-1)
     have hwin4:=zh (c3b (U:=lv xs*2^s) (win':=win) (qs:=qs) hzs (by rw[hzl.out];omega) hD0 HFIT.out (by rw[hj1];exact hlt.out) (by rw[hzl.out];omega) hw1.out hw2.out (by rw[hw3.out,hD]) (by rw[hql.out];omega) (hq0.out _ (by omega)) hinv.out)
     have hdig:lv ((zs.drop (j-1)).take (n+1))/lv ds<4294967296:=by
      rw[hD,hsm1,Nat.div_lt_iff_lt_mul hD0,Nat.mul_comm];exact hsm2
     obtain⟨q,hq⟩:∃q,q=lv ((zs.drop (j-1)).take (n+1))/lv ds:=⟨_,rfl⟩
     rw[<- hq]at hdig ⊢
     rw[hD]at hq
     have HQ:=zh hq
     have HSM:=zh hsm1
     clear hsm1 hsm2 hq hD hD0 hdtop
     go_wp2
     refine⟨⟨j-1,zs.take (j-1)++win,qs.set (j-1) q,by omega,by congr 1;omega,?_,small_append.2 ⟨hzs.take _,hwsm⟩,hwr.far (Nat.ne_of_lt hgu2) _,by show _=_;rw[List.length_set];exact hql.out,a0m hqs _ hdig,hqr4.set_ _ _,hdr4.far (Nat.ne_of_lt (Nat.lt_trans hgd2 hgu2)) _,?_,?_,?_,hbw4.setCell hb3.size _⟩,by simp[intOf];omega⟩
     ·show _=_
      rw[List.length_append,hpre,hw1.out,hwin];omega
     ·show _<_
      rw[List.drop_append_of_le_length (by rw[hpre];exact Nat.le_refl _),List.drop_of_length_le (by rw[hpre];exact Nat.le_refl _),List.nil_append]
      exact hwin4.out.1
     ·intro k hk
      rw[List.getD_eq_getElem?_getD,List.getElem?_set_ne (by omega),<-List.getD_eq_getElem?_getD]
      exact hq0.out k (by omega)
     show _=_
     rw[HQ.out]
     exact hwin4.out.2
   obtain rfl:j=0:=by omega
   obtain⟨f1,f2⟩:=c7a (a:=lv xs) (b:=lv ys) (n:=n) (s:=s) (zs:=zs) (qs:=qs) (by rw[hzl.out];omega) (by rw[<- HBY.out];exact hb0) HFIT.out (by have:=hlt.out;rwa[List.drop_zero]at this) hinv.out
   rw[<- HAX.out,<-HBY.out]at f1 f2
   have hul1:=fun(w':World) (h:Row w' gu zs)=>Limbs.view (w:=w') (g:=gu) (off:=0) (n:=n) (c:=m+1) (pre:=[]) h hzs rfl (by rw[hzl.out];omega) (by omega) (by omega)
   have hql1:=fun(w':World) (h:Row w' w3.heap.size qs)=>h.limbsN hqs hql.out (by omega)
   have F1:=zh f1
   have F2:=zh f2
   have HUL:=zh hul1
   have HQL:=zh hql1
   clear f1 f2 hul1 hql1
   go_wp2
   go_upto_region 15 with (fail)
   have hl15:(zs.take n).length<=274877906944:=by rw[List.length_take,hzl.out];omega
   go_region_with (first
     | (go_at_call 101;refine(a3n _ qs _ (HQL.out _ hqr.drew)).mono ?_;rintro e w6 ⟨⟨v1,rfl,h1⟩,rfl⟩)
     | (go_at_call 101;refine(a3n _ qs _ (HQL.out _ (hqr.drew.below hb5 hqr.lt))).mono ?_;rintro e w6 ⟨⟨v1,rfl,h1⟩,rfl⟩)
     | (go_at_call 142;refine(b5s _ (zs.take n) s _ (HUL.out _ hzr.drew) hs hl15).mono ?_;rintro e w5 ⟨v2,rfl,h2,hb5⟩))
   all_goals go_wp2
   all_goals go_ret2
   all_goals refine⟨_,_,rfl,?_,?_,Ext.trans hb12 (Ext.trans hbw.drew hb5)⟩
   all_goals first
     | (rw[<- F1.out];exact h1.below hb5)
     | (rw[<- F1.out];exact h1)
     | (rw[<- F2.out];exact h2)
theorem cmp_bv:∀ (xs ys:List UInt8),xs.length=ys.length->Lib.compareBytes xs ys=sgn ((bv xs:Int)-bv ys)
 | [],[],_=>rfl
 | x::xs,y::ys,h=>by
  have hl:xs.length=ys.length:=by simpa using h
  have h1:=b4c xs
  have h2:=b4c ys
  rw[Lib.compareBytes,a9h,a9h,<-hl]
  rw[<- hl]at h2
  rcases Nat.lt_trichotomy x.toNat y.toNat with h3 | h3 | h3
  ·rw[if_pos (UInt8.lt_iff_toNat_lt.2 h3)]
   have h4:=Nat.mul_le_mul_right (256^xs.length) (show x.toNat+1<=y.toNat by omega)
   rw[Nat.add_mul,Nat.one_mul]at h4
   rw[a1y (by omega)]
  ·have e:x=y:=UInt8.toNat_inj.1 h3
   subst e
   rw[if_neg (UInt8.lt_irrefl x),if_neg (UInt8.lt_irrefl x),cmp_bv xs ys hl]
   congr 1;omega
  rw[if_neg (by rw[UInt8.lt_iff_toNat_lt];omega),if_pos (UInt8.lt_iff_toNat_lt.2 h3)]
  have h4:=Nat.mul_le_mul_right (256^xs.length) (show y.toNat+1<=x.toNat by omega)
  rw[Nat.add_mul,Nat.one_mul]at h4
  rw[a2y (by omega)]
theorem Limbs.one{w:World}{v:Value}{xs ys:List Nat}(h:Limbs w v xs)(k:Limbs w v ys):xs=ys:=by
 obtain⟨_,A,c,rfl,_,_,hx⟩:=h
 obtain⟨_,A',c',e,_,_,hy⟩:=k
 injection e with e1 e2 e3
 subst e1
 apply List.ext_getElem? 
 intro i
 rcases Nat.lt_or_ge i xs.length with h | h
 ·obtain⟨b,o,e,_,h1⟩:=hx (by omega)
  obtain⟨b',o',e',_,h2⟩:=hy (by omega)
  rw[e]at e'
  injection e' with e'
  injection e' with e1 e3
  subst e1;subst e3
  have h3:=(h1 i h).symm.trans (h2 i (by omega))
  injection h3 with h3
  injection h3 with _ h3
  rw[List.getD_eq_getElem?_getD,List.getD_eq_getElem?_getD,List.getElem?_eq_getElem h,List.getElem?_eq_getElem (by omega)]at h3
  rw[List.getElem?_eq_getElem h,List.getElem?_eq_getElem (by omega)]
  simp only[Option.getD_some]at h3
  congr 1;omega
 rw[List.getElem?_eq_none h,List.getElem?_eq_none (by omega)]
open Classical in
noncomputable def c1g (w:World) (v:Value):Nat:=if h:∃n,Limbs w v (limbsOf n)then h.choose else 0
theorem b4d{w:World}{v:Value}{n:Nat}(h:Limbs w v (limbsOf n)):c1g w v=n:=by
 have hx:∃n,Limbs w v (limbsOf n):=⟨n,h⟩
 unfold c1g
 rw[dif_pos hx]
 exact c4u (hx.choose_spec.one h)
theorem a6q(s:ByteArray):(limbsOf (bv s.data.toList)).length<=(s.size+3)/4:=by
 have ls:=a1c s.data.toList
 rwa[a1f]at ls
theorem a5q{a b n:Nat}(h:a<=b)(hb:(limbsOf b).length<=n):(limbsOf a).length<=n:=by
 rcases Nat.lt_or_ge (limbsOf b).length (limbsOf a).length with h1 | h1
 ·have:=a1j h1;omega
 omega
theorem b7f(s t:ByteArray)(w:World)(hs:s.size<=68719476736)(ht:t.size<=68719476736)(h0:0<bv t.data.toList) :
  Calls Tryz.prog 104 #[.string s,.string t] w fun e w'=>e=.returned (.tuple #[.string (bs (bytesOf (bv s.data.toList/bv t.data.toList))),.string (bs (bytesOf (bv s.data.toList%bv t.data.toList))),.bool true])/\Below w.heap.size w w':=by
 have ls:=a6q s
 have lt:=a6q t
 have hP:=fun W=>a1g s W (by omega)
 have hQ:=fun W=>a1g t W (by omega)
 have HP:=zh hP
 have HQ:=zh hQ
 clear hP hQ
 generalize bv s.data.toList=a at *
 generalize bv t.data.toList=b at *
 have hq:=a5q (Nat.div_le_self a b) ls
 have hr:=a5q (Nat.mod_le a b) ls
 have hb0:0<(limbsOf b).length:=by
  rcases Nat.eq_zero_or_pos (limbsOf b).length with h | h
  ·rw[List.length_eq_zero_iff,limbsOf_eq_nil]at h;omega
  exact h
 have hbz:(((limbsOf b).length:Int)==0)=false:=by rw[beq_eq_false_iff_ne];omega
 have H0:=zh h0
 clear h0
 go_enter Tryz.func104,Tryz.ntmps104
 go_wp2_with fail
 refine(HQ.out _).mono ?_
 rintro e w1 ⟨v1,rfl,h1,hb1⟩
 obtain⟨B,cb,rfl,hcb,hcb'⟩:=h1.slice
 have HB:=zh h1
 clear h1
 go_wp2_with fail
 refine(HP.out _).mono ?_
 rintro e w2 ⟨v2,rfl,h2,hb2⟩
 have hb:=Ext.trans hb1 hb2
 have H1:=zh h2
 clear h2
 go_wp2_with fail
 refine(b0f _ _ a b _ H1.out (HB.out.below hb2) H0.out (by omega)).mono ?_
 rintro e w3 ⟨vq,vr,rfl,hq3,hr3,hb3⟩
 have hb':=Ext.trans hb hb3
 have HQ3:=zh hq3
 have HR3:=zh hr3
 clear hq3 hr3 hb hb2 hb3
 go_wp2_with fail
 refine(a4g _ _ _ HQ3.out (by omega)).mono ?_
 rintro e w4 ⟨rfl,hb4⟩
 go_wp2_with fail
 refine(a4g _ _ _ (HR3.out.below hb4) (by omega)).mono ?_
 rintro e w5 ⟨rfl,hb5⟩
 go_wp2
 go_ret3
 refine⟨by rw[a0k,a0k];rfl,Ext.trans hb' (Ext.trans hb4 hb5)⟩
theorem c4q(s t:ByteArray)(w:World)(hs:s.size<=68719476736)(ht:t.size<=68719476736) :
  Calls Tryz.prog 98 #[.string s,.string t] w fun e w'=>e=.returned (.string (bs (bytesOf (Nat.gcd (bv s.data.toList) (bv t.data.toList)))))/\Below w.heap.size w w':=by
 have ls:=a6q s
 have lt:=a6q t
 have hP:=fun W=>a1g s W (by omega)
 have hQ:=fun W=>a1g t W (by omega)
 have HP:=zh hP
 have HQ:=zh hQ
 clear hP hQ
 generalize bv s.data.toList=a at *
 generalize bv t.data.toList=b at *
 have la:(limbsOf a).length<=17179869185:=by omega
 have lb:(limbsOf b).length<=17179869185:=by omega
 clear ls lt hs ht
 go_enter Tryz.func98,Tryz.ntmps98
 go_wp2_with fail
 refine(HP.out _).mono ?_
 rintro e w1 ⟨v1,rfl,h1,hb1⟩
 have H1:=zh h1
 clear h1
 go_wp2_with fail
 refine(HQ.out _).mono ?_
 rintro e w2 ⟨v2,rfl,h2,hb2⟩
 have hb:=Ext.trans hb1 hb2
 have h1:=H1.out.below hb2
 clear hb1 hb2
 go_wp2
 go_loopw [5,6] (fun x y wr=>∃ (p q:Nat),Limbs wr x (limbsOf p)/\Limbs wr y (limbsOf q)/\(limbsOf p).length<=17179869185/\(limbsOf q).length<=17179869185/\Hid (Nat.gcd p q=Nat.gcd a b)/\Below w.heap.size w wr) (fun _ y wr=>c1g wr y)
 case atStart=>exact⟨a,b,h1,h2,la,lb,rfl,hb⟩
 case round =>
  obtain⟨p,q,hp,hq,lp,lq,hg,hbw⟩:=hrel
  obtain⟨B,cb,rfl,hcb,hcb'⟩:=hq.slice
  have HPP:=zh hp
  have HQQ:=zh hq
  clear hp hq
  by_cases h0:0<(limbsOf q).length
  ·have hq0:0<q:=by
    rcases Nat.eq_zero_or_pos q with h | h
    ·subst h;rw[a0u]at h0;simp at h0
    exact h
   have HQ0:=zh hq0
   clear hq0
   go_wp2_with fail
   refine(b0f _ _ p q _ HPP.out HQQ.out HQ0.out (by omega)).mono ?_
   rintro e w3 ⟨vq,vr,rfl,hq3,hr3,hb3⟩
   have HR3:=zh hr3
   clear hq3 hr3
   have lr:=a5q (Nat.mod_le p q) lp
   have hgg:Hid (Nat.gcd q (p%q)=Nat.gcd a b):=by
    show _=_
    rw[<- hg.out,Nat.gcd_comm p q,Nat.gcd_rec q p,Nat.gcd_comm]
   have hm:=Nat.mod_lt p HQ0.out
   go_wp2
   refine⟨⟨q,p%q,HQQ.out.below hb3,HR3.out,lq,lr,hgg,Ext.trans hbw hb3⟩,?_⟩
   have e1:=b4d HR3.out
   have e2:=b4d HQQ.out
   show c1g _ _<c1g _ _
   rw[e1,e2]
   exact hm
  have hq0:q=0:=by
   have:limbsOf q=[]:=by rw[<- List.length_eq_zero_iff];omega
   exact limbsOf_eq_nil.1 this
  subst hq0
  have hgp:=hg.out
  rw[Nat.gcd_zero_right]at hgp
  have HGP:=zh hgp
  clear hgp
  go_wp2_with fail
  refine(a4g _ _ _ HPP.out (by omega)).mono ?_
  rintro e w4 ⟨rfl,hb4⟩
  go_wp2
  go_ret
  exact⟨by rw[a0k,HGP.out];rfl,Ext.trans hbw hb4⟩
theorem b5t(s t:ByteArray)(w:World)(hs:s.size<=68719476736)(ht:t.size<=68719476736) :
  Calls Tryz.prog 33 #[.string s,.string t] w fun e w'=>e=.returned (.int .i64 (sgn ((bv s.data.toList:Int)-bv t.data.toList)))/\w=w':=by
 obtain⟨a,ha⟩:∃a,a=bv s.data.toList:=⟨_,rfl⟩
 obtain⟨b,hb⟩:∃b,b=bv t.data.toList:=⟨_,rfl⟩
 have hns:=a3s s w (by omega)
 have hnt:=a3s t w (by omega)
 rw[a5g,<-ha]at hns
 rw[a5g,<-hb]at hnt
 rw[<- ha,<-hb]
 have HS:=zh hns
 have HT:=zh hnt
 have la:=a0p a s.size (by rw[ha,<-a1f];exact b4c _)
 have lb:=a0p b t.size (by rw[hb,<-a1f];exact b4c _)
 have sa:(bs (bytesOf a)).size=(bytesOf a).length:=a2u _
 have sb:(bs (bytesOf b)).size=(bytesOf b).length:=a2u _
 clear hns hnt ha hb
 go_enter Tryz.func33,Tryz.ntmps33
 go_wp2_with fail
 refine HS.out.mono ?_
 rintro e w' ⟨rfl,rfl⟩
 go_wp2_with fail
 refine HT.out.mono ?_
 rintro e w' ⟨rfl,rfl⟩
 go_wp2_with (first
  | (go_at_call 64;refine(b3f _ _).mono ?_;rintro e w' ⟨rfl,rfl⟩)
  | (go_at_call 65;refine(b6w _ _ _).mono ?_;rintro e w' ⟨rfl,rfl⟩))
 ·rename (((bytesOf a).length:Int) != ((bytesOf b).length:Int))=true=>hne
  have hn:(bytesOf a).length≠(bytesOf b).length:=by
   intro h;rw[h]at hne;simp at hne
  go_ret
  refine⟨?_,rfl⟩
  rcases Nat.lt_or_ge (bytesOf a).length (bytesOf b).length with h | h
  ·have:=a7g h
   rw[a1y (n:=(a:Int)-b) (by omega),a1y (by omega)]
   rfl
  have:=a7g (a:=b) (b:=a) (by omega)
  rw[a2y (n:=(a:Int)-b) (by omega),a2y (by omega)]
  rfl
 rename (((bytesOf a).length:Int) != ((bytesOf b).length:Int))=false=>hne
 have hn:(bytesOf a).length=(bytesOf b).length:=by
  simp only[bne_eq_false_iff_eq]at hne;omega
 go_ret
 refine⟨?_,rfl⟩
 rw[a3w,a3w,cmp_bv _ _ hn,a0c,a0c]
 rfl
end Go.Proofs.YtjmiicjialkpiaaGreatDoor
