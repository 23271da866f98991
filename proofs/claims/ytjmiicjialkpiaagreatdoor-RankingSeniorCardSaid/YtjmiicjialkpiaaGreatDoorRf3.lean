/-
Part 3 of the base.
-/
import Derived.Test.YtjmiicjialkpiaaGreatDoorRf2
import Derived.Laws.Strings
import Derived.Laws.Rows
import Derived.Laws.ResultCell
set_option maxRecDepth 100000
set_option maxHeartbeats 2000000
namespace Go.Proofs.YtjmiicjialkpiaaGreatDoor
open Go.RowKit
def raw(neg:Bool)(num den:List UInt8):Value:=.agg #[.bool neg,.string (bs num),.string (bs den)]
def rat(q:Rat):Value:=raw (negB q) (numB q) (a0a q)
theorem a1q(l:List UInt8):(bs l).toList=l:=by rw[ByteArray.toList_eq,a3w]
theorem a2j{l:List UInt8}(h:l=[]):(bs l).toList.isEmpty=true:=by rw[a1q,h];rfl
theorem a0r{l:List UInt8}(h:l≠[]):(bs l).toList.isEmpty=false:=by rw[a1q];cases l with | nil=>exact absurd rfl h | cons _ _=>rfl
theorem b0t{l m:List UInt8}(h:l=m):((bs l).toList==(bs m).toList)=true:=by rw[a1q,a1q,h];simp
theorem a6g{l m:List UInt8}(h:l≠m):((bs l).toList==(bs m).toList)=false:=by rw[a1q,a1q];simp[h]
theorem c5m{l m:List UInt8}(h:l=m):((bs l).toList==m)=true:=by rw[a1q,h];simp
theorem b0u{l m:List UInt8}(h:l≠m):((bs l).toList==m)=false:=by rw[a1q];simp[h]
def Blk(w:World)(g:Nat)(cs:Array Value)(t:TypeId):Prop:=w.heap[g]? =some (.cells cs t (0,0))
theorem Blk.lt{w:World}{g:Nat}{cs:Array Value}{t:TypeId}(h:Blk w g cs t):g<w.heap.size:=by
 rcases Nat.lt_or_ge g w.heap.size with hlt | hge
 ·exact hlt
 unfold Blk at h;rw[Array.getElem?_eq_none hge]at h;cases h
theorem Blk.cell{w:World}{g:Nat}{cs:Array Value}{t:TypeId}(h:Blk w g cs t)(i:Nat)(v:Value)(hv:cs[i]? =some v):w.cell? ⟨g,i,none⟩=some v:=by
 rw[cell_of_row w g i _ _ _ h,hv]
theorem Blk.frozen{w:World}{g:Nat}{cs:Array Value}{t:TypeId}(h:Blk w g cs t)(i:Nat):w.frozen? ⟨g,i,none⟩=false:=by
 unfold Blk at h;simp[World.frozen?,h]
theorem Blk.below{B:Nat}{w w':World}{g:Nat}{cs:Array Value}{t:TypeId}(h:Blk w g cs t)(hb:Below B w w')(hg:g<B):Blk w' g cs t:=(hb.block g hg).trans h
theorem Blk.new(w:World)(cs:Array Value)(t:TypeId):Blk (w.alloc (.cells cs t)) w.heap.size cs t:=heap_alloc_new w _
theorem Blk.alloc{w:World}{g:Nat}{cs:Array Value}{t:TypeId}(h:Blk w g cs t)(o:Obj):Blk (w.alloc o) g cs t:=(Below.heap_alloc w o g h.lt).trans h
theorem size_alloc(w:World)(o:Obj):(w.alloc o).heap.size=w.heap.size+1:=World.size_alloc _ _
theorem Ext.alloc{a w:World}(h:Below a.heap.size a w)(o:Obj):Below a.heap.size a (w.alloc o):=h.alloc h.size o
theorem Blk.new1(w:World)(o:Obj)(cs:Array Value)(t:TypeId):Blk ((w.alloc o).alloc (.cells cs t)) (w.heap.size+1) cs t:=by
 have:=Blk.new (w.alloc o) cs t
 rwa[size_alloc]at this
theorem Blk.new2(w:World)(o o':Obj)(cs:Array Value)(t:TypeId):Blk (((w.alloc o).alloc o').alloc (.cells cs t)) (w.heap.size+2) cs t:=by
 have:=Blk.new1 (w.alloc o) o' cs t
 rwa[size_alloc]at this
theorem Calls.quiet_same{P:Program}{f:FuncId}{args:Array Value}{w:World}{n:Nat}{v:Value}
  (h:Calls P f args (w.drewN n) fun e w'=>e=.returned v/\w.drewN n=w'):Calls P f args (w.drewN n) fun e w''=>e=.returned v/\∃m,w''=w.drewN m :=
 h.mono fun _ _ ⟨he,hm⟩=>⟨he,n,hm.symm⟩
section
variable (a b : List UInt8) (w : World) (ha : a.length <= 68719476736) (hb : b.length <= 68719476736)
include ha
theorem a0s:Calls Tryz.prog 63 #[.string (bs a)] w fun e w'=>e=.returned (.string (bs (norm a)))/\w=w':=a3s (bs a) w (by have:(bs a).size=a.length:=rfl;omega)
include hb
theorem a6a:Calls Tryz.prog 34 #[.string (bs a),.string (bs b)] w fun e w'=>e=.returned (.string (bs (bytesOf (bv a*bv b))))/\Below w.heap.size w w':=b4a (bs a) (bs b) w ha hb
theorem d1c:Calls Tryz.prog 70 #[.string (bs a),.string (bs b)] w fun e w'=>e=.returned (.string (bs (bytesOf (bv a+bv b))))/\Below w.heap.size w w':=c4r (bs a) (bs b) w ha hb
theorem d1a:Calls Tryz.prog 98 #[.string (bs a),.string (bs b)] w fun e w'=>e=.returned (.string (bs (bytesOf (Nat.gcd (bv a) (bv b)))))/\Below w.heap.size w w':=c4q (bs a) (bs b) w ha hb
theorem d1b(h0:0<bv b):Calls Tryz.prog 104 #[.string (bs a),.string (bs b)] w fun e w'=>e=.returned (.tuple #[.string (bs (bytesOf (bv a/bv b))),.string (bs (bytesOf (bv a%bv b))),.bool true])/\Below w.heap.size w w':=b7f (bs a) (bs b) w ha hb h0
theorem nat_cmp:Calls Tryz.prog 33 #[.string (bs a),.string (bs b)] w fun e w'=>e=.returned (.int .i64 (sgn ((bv a:Int)-bv b)))/\w=w':=b5t (bs a) (bs b) w ha hb
theorem c0f(hab:bv b<=bv a):Calls Tryz.prog 71 #[.string (bs a),.string (bs b)] w fun e w'=>e=.returned (.tuple #[.string (bs (bytesOf (bv a-bv b))),.bool true])/\Below w.heap.size w w':=b3z (bs a) (bs b) w ha hb hab
theorem b3g(hab:bv a<bv b):Calls Tryz.prog 71 #[.string (bs a),.string (bs b)] w fun e w'=>e=.returned (.tuple #[.string (bs []),.bool false])/\Below w.heap.size w w':=a8x (bs a) (bs b) w ha hb hab
end
def denL(den:List UInt8):List UInt8:=if den=[]then[1]else den
theorem c2f(neg:Bool)(num den:List UInt8)(w:World) :
   Calls Tryz.prog 35 #[raw neg num den] w fun e w'=>e=.returned (.string (bs (denL den)))/\Below w.heap.size w w':=by
 unfold raw
 by_cases h:den=[]
 have h1:=a2j h
 have H:=zh h
 clear h
 rotate_left
 have h1:=a0r h
 rotate_left
 all_goals
   go_enter Tryz.func35,Tryz.ntmps35
   go_wp2
   go_ret
   unfold denL
 ·rw[if_pos H.out]
  exact⟨rfl,(Below.refl _ _).alloc (Nat.le_refl _) _⟩
 rw[if_neg h]
 exact⟨rfl,(Below.refl _ _).alloc (Nat.le_refl _) _⟩
def sgnR(neg:Bool)(num:List UInt8):Int:=if num=[]then 0 else if neg then -1 else 1
theorem a5x(neg:Bool)(num den:List UInt8)(w:World) :
  Calls Tryz.prog 31 #[raw neg num den] w fun e w'=>e=.returned (.int .i64 (sgnR neg num))/\Below w.heap.size w w':=by
 unfold raw sgnR
 by_cases h:num=[]
 ·have h1:=a2j h
  rw[if_pos h]
  have H:=zh h
  clear h
  go_enter Tryz.func31,Tryz.ntmps31
  go_wp2
  go_ret
  exact⟨rfl,(Below.refl _ _).alloc (Nat.le_refl _) _⟩
 have h1:=a0r h
 rw[if_neg h]
 cases neg
 all_goals go_enter Tryz.func31,Tryz.ntmps31
 all_goals go_wp2
 all_goals go_ret
 all_goals exact⟨rfl,(Below.refl _ _).alloc (Nat.le_refl _) _⟩
theorem b7e(neg:Bool)(num den:List UInt8)(w:World)(hn:num.length<=68719476736)(hd:den.length<=68719476736) :
  Calls Tryz.prog 62 #[raw neg num den] w fun e w'=>e=.returned (.bool (a2p neg num den))/\Below w.heap.size w w':=by
 unfold raw
 have hN:=a0s num w hn
 by_cases h1:norm num=num
 ·have f1:((bs (norm num)).toList==(bs num).toList)=true:=b0t h1
  by_cases h2:norm den=den
  ·have f2:((bs (norm den)).toList==(bs den).toList)=true:=b0t h2
   have hv:a2p neg num den=(if num=[]then !neg&&den==[]else den==[]||(!(den==[1])&&Nat.gcd (bv num) (bv den)==1)):=by
    unfold a2p;simp[h1,h2]
   rw[hv]
   have H1:=zh h1
   have H2:=zh h2
   clear h1 h2 hv
   by_cases h3:num=[]
   ·have f3:=a2j h3
    rw[if_pos h3]
    have H3:=zh h3
    clear h3
    by_cases h4:den=[]
    ·have f4:=a2j h4
     have H4:=zh h4
     clear h4
     cases neg
     all_goals go_enter Tryz.func62,Tryz.ntmps62
     all_goals go_wp2
     all_goals go_quiet (first
      | (go_at_call 63;refine Calls.quiet_same (a0s num _ hn))
      | (go_at_call 63;refine Calls.quiet_same (a0s den _ hd)))
     all_goals go_wp2
     all_goals go_ret
     all_goals (rw[H4.out];exact⟨rfl,a0j ((Below.refl _ _).alloc (Nat.le_refl _) _) _⟩)
    have f4:=a0r h4
    have H4:=zh h4
    clear h4
    cases neg
    all_goals go_enter Tryz.func62,Tryz.ntmps62
    all_goals go_wp2
    all_goals go_quiet (first
     | (go_at_call 63;refine Calls.quiet_same (a0s num _ hn))
     | (go_at_call 63;refine Calls.quiet_same (a0s den _ hd)))
    all_goals go_wp2
    all_goals go_ret
    all_goals (have:=H4.out;simp only[Bool.not_false,Bool.not_true,Bool.true_and,Bool.false_and];exact⟨by first | rfl | (have e:(den==[])=false:=(by simp[this]);rw[e];rfl),a0j ((Below.refl _ _).alloc (Nat.le_refl _) _) _⟩)
   have f3:=a0r h3
   rw[if_neg h3]
   have H3:=zh h3
   clear h3
   by_cases h4:den=[]
   ·have f4:=a2j h4
    have H4:=zh h4
    clear h4
    go_enter Tryz.func62,Tryz.ntmps62
    go_wp2
    go_quiet (first
     | (go_at_call 63;refine Calls.quiet_same (a0s num _ hn))
     | (go_at_call 63;refine Calls.quiet_same (a0s den _ hd)))
    go_wp2
    go_ret
    rw[H4.out]
    exact⟨rfl,a0j ((Below.refl _ _).alloc (Nat.le_refl _) _) _⟩
   have f4:=a0r h4
   by_cases h5:den=[1]
   ·have f5:((bs den).toList==[1])=true:=c5m h5
    have H4:=zh h4
    have H5:=zh h5
    clear h4 h5
    go_enter Tryz.func62,Tryz.ntmps62
    go_wp2
    go_quiet (first
     | (go_at_call 63;refine Calls.quiet_same (a0s num _ hn))
     | (go_at_call 63;refine Calls.quiet_same (a0s den _ hd)))
    go_wp2
    go_ret
    have e1:(den==[])=false:=by simp[H4.out]
    have e2:(den==[1])=true:=by simp[H5.out]
    rw[e1,e2]
    exact⟨rfl,a0j ((Below.refl _ _).alloc (Nat.le_refl _) _) _⟩
   have f5:((bs den).toList==[1])=false:=b0u h5
   have H4:=zh h4
   have H5:=zh h5
   clear h4 h5
   obtain⟨g,hg⟩:∃g,g=Nat.gcd (bv num) (bv den):=⟨_,rfl⟩
   have hG:=fun W=>d1a num den W hn hd
   rw[<- hg]at hG ⊢
   have HG:=zh hG
   clear hG hg
   have hbool:(den==[] || !(den==[1])&&g==1)=(g==1):=by
    have e1:(den==[])=false:=by simp[H4.out]
    have e2:(den==[1])=false:=by simp[H5.out]
    rw[e1,e2];rfl
   rw[hbool]
   clear hbool
   by_cases h6:g=1
   ·have f6:((bs (bytesOf g)).toList==[1])=true:=c5m (by rw[h6,a1d])
    have e3:(g==1)=true:=by simp[h6]
    rw[e3]
    clear h6 e3
    go_enter Tryz.func62,Tryz.ntmps62
    go_wp2
    go_quiet (first
     | (go_at_call 63;refine Calls.quiet_same (a0s num _ hn))
     | (go_at_call 63;refine Calls.quiet_same (a0s den _ hd)))
    go_wp2_with (go_at_call 98;refine(HG.out _).mono ?_;rintro e w' ⟨rfl,hb⟩)
    go_ret
    exact⟨rfl,Ext.trans (a0j ((Below.refl _ _).alloc (Nat.le_refl _) _) _) hb⟩
   have f6:((bs (bytesOf g)).toList==[1])=false:=b0u (by rw[<- a1d];exact fun e=>h6 (a4y e))
   have e3:(g==1)=false:=by simp[h6]
   rw[e3]
   clear h6 e3
   go_enter Tryz.func62,Tryz.ntmps62
   go_wp2
   go_quiet (first
    | (go_at_call 63;refine Calls.quiet_same (a0s num _ hn))
    | (go_at_call 63;refine Calls.quiet_same (a0s den _ hd)))
   go_wp2_with (go_at_call 98;refine(HG.out _).mono ?_;rintro e w' ⟨rfl,hb⟩)
   go_ret
   exact⟨rfl,Ext.trans (a0j ((Below.refl _ _).alloc (Nat.le_refl _) _) _) hb⟩
  have f2:((bs (norm den)).toList==(bs den).toList)=false:=a6g h2
  have hv:a2p neg num den=false:=by unfold a2p;simp[h2]
  rw[hv]
  clear h1 h2 hv
  go_enter Tryz.func62,Tryz.ntmps62
  go_wp2
  go_quiet (first
   | (go_at_call 63;refine Calls.quiet_same (a0s num _ hn))
   | (go_at_call 63;refine Calls.quiet_same (a0s den _ hd)))
  go_wp2
  go_ret
  exact⟨rfl,a0j ((Below.refl _ _).alloc (Nat.le_refl _) _) _⟩
 have f1:((bs (norm num)).toList==(bs num).toList)=false:=a6g h1
 have hv:a2p neg num den=false:=by unfold a2p;simp[h1]
 rw[hv]
 clear h1 hv
 go_enter Tryz.func62,Tryz.ntmps62
 go_wp2
 go_quiet (first
  | (go_at_call 63;refine Calls.quiet_same (a0s num _ hn))
  | (go_at_call 63;refine Calls.quiet_same (a0s den _ hd)))
 go_wp2
 go_ret
 exact⟨rfl,a0j ((Below.refl _ _).alloc (Nat.le_refl _) _) _⟩
def Raw(w:World)(g:Nat)(neg:Bool)(num den:List UInt8):Prop:=Blk w g #[.bool neg,.string (bs num),.string (bs den)] 39
section
variable {w w' : World} {g B : Nat} {neg : Bool} {num den : List UInt8}
theorem Raw.c0(h:Raw w g neg num den):w.cell? ⟨g,0,none⟩=some (.bool neg):=Blk.cell h 0 _ rfl
theorem Raw.c1(h:Raw w g neg num den):w.cell? ⟨g,1,none⟩=some (.string (bs num)):=Blk.cell h 1 _ rfl
theorem Raw.c2(h:Raw w g neg num den):w.cell? ⟨g,2,none⟩=some (.string (bs den)):=Blk.cell h 2 _ rfl
theorem Raw.frozen(h:Raw w g neg num den)(i:Nat):w.frozen? ⟨g,i,none⟩=false:=Blk.frozen h i
theorem Raw.below(h:Raw w g neg num den)(hb:Below B w w')(hg:g<B):Raw w' g neg num den:=Blk.below h hb hg
theorem Raw.lt(h:Raw w g neg num den):g<w.heap.size:=Blk.lt h
theorem Raw.alloc(h:Raw w g neg num den)(o:Obj):Raw (w.alloc o) g neg num den:=Blk.alloc h o
theorem Raw.put(h:Raw w g neg num den)(n':Bool)(num' den':List UInt8) :
  Raw (((w.setCell ⟨g,0,none⟩ (.bool n')).setCell ⟨g,1,none⟩ (.string (bs num'))).setCell ⟨g,2,none⟩ (.string (bs den'))) g n' num' den':=by
 unfold Raw Blk at h ⊢
 simp[World.setCell,Array.getElem?_modify,h]
end
theorem a1k{B:Nat}{a w:World}(h:Below B a w){g:Nat}(hg:B<=g)(x y z:Value):Below B a (((w.setCell ⟨g,0,none⟩ x).setCell ⟨g,1,none⟩ y).setCell ⟨g,2,none⟩ z) :=
 ((h.setCell (by exact hg) _).setCell (by exact hg) _).setCell (by exact hg) _
theorem c6k:(Tryz.prog.info? 39).map (·.size)=some 3:=by kernel_rfl
theorem c6j{w:World}{g:Nat}{neg:Bool}{num den:List UInt8}(h:Raw w g neg num den):(loadVar 39 ⟨g,0,none⟩).run Tryz.prog w=.ok (raw neg num den) w :=
 run_loadVar_row w g _ _ _ _ _ h Tryz.underlying39 rfl c6k
theorem a0f{fn:Func}{p:Tmp}(h:fn.results=#[.cell p 39])(tmps:Array Value)(w:World)(g:Nat)(neg:Bool)(num den:List UInt8)
  (hp:tmps.getD p undef=.pointer (some ⟨g,0,none⟩)) (hg:Raw w g neg num den):(results fn tmps).run Tryz.prog w=.ok (raw neg num den) w :=
 results_cell_row h tmps w g _ _ _ _ hp hg Tryz.underlying39 rfl c6k
theorem b5m{fn:Func}{p u:Tmp}(h:fn.results=#[.cell p 39,.tmp u])(tmps:Array Value)(w:World)(g:Nat)(neg:Bool)(num den:List UInt8)
  (hp:tmps.getD p undef=.pointer (some ⟨g,0,none⟩)) (hg:Raw w g neg num den):(results fn tmps).run Tryz.prog w=.ok (.tuple #[raw neg num den,tmps.getD u undef]) w:=by
 rw[results_cell_tmp h,hp]
 simp only[asAddr,Sem.run_pure,Result.andThen,c6j hg]
theorem a3e(neg:Bool)(num den:List UInt8)(w:World)(hn:num.length<=68719476736)(hd:den.length<=68719476736) :
   Calls Tryz.prog 32 #[raw neg num den] w fun e w'=>e=.returned (rat (decR neg num den))/\Below w.heap.size w w':=by
 have hV:=fun W=>b7e neg num den W hn hd
 unfold raw at hV ⊢
 have K1:Hid (Raw ((w.alloc (Obj.cells #[.bool neg,.string (bs num),.string (bs den)] 39)).alloc (Obj.cells #[.bool false,.string (bs []),.string (bs [])] 39)) w.heap.size neg num den):=(Blk.new w _ 39).alloc _
 have K2:Hid (Raw ((w.alloc (Obj.cells #[.bool neg,.string (bs num),.string (bs den)] 39)).alloc (Obj.cells #[.bool false,.string (bs []),.string (bs [])] 39)) (w.heap.size+1) false [] []):=Blk.new1 w _ _ _
 have hbw:Hid (Below w.heap.size w ((w.alloc (Obj.cells #[.bool neg,.string (bs num),.string (bs den)] 39)).alloc (Obj.cells #[.bool false,.string (bs []),.string (bs [])] 39))):=Ext.alloc (Ext.alloc (Below.refl _ _) _) _
 by_cases h:a2p neg num den=true
 have hr:rat (decR neg num den)=.agg #[.bool neg,.string (bs num),.string (bs den)]:=by
   obtain⟨a,b,c⟩:=d2m h
   unfold rat raw;rw[a,b,c]
 rw[hr]
 rw[h]at hV
 have HV:=zh hV
 clear hV h hr
 rotate_left
 have hf:a2p neg num den=false:=by simpa using h
 have hr:rat (decR neg num den)=.agg #[.bool false,.string (bs []),.string (bs [])]:=by
   obtain⟨a,b,c⟩:=c0v
   rw[b6g hf]
   unfold rat raw;rw[a,b,c]
 rw[hr]
 rw[hf]at hV
 have HV:=zh hV
 clear hV h hf hr
 rotate_left
 all_goals
   go_enter Tryz.func32,Tryz.ntmps32
   go_wp2_with fail
   refine(HV.out _).mono ?_
   rintro e w' ⟨rfl,hb⟩
 ·have k1:=K1.out.below hb (by rw[size_alloc,size_alloc];omega)
  have k2:=K2.out.below hb (by rw[size_alloc,size_alloc];omega)
  have c0:=k1.c0
  have c1:=k1.c1
  have c2:=k1.c2
  have d0:=k2.c0
  have d1:=k2.c1
  have d2:=k2.c2
  have z0:=k2.frozen 0
  have z1:=k2.frozen 1
  have z2:=k2.frozen 2
  have hb2:=zh (hbw.out.trans (hb.mono (by rw[size_alloc,size_alloc];omega)))
  have hk2:=zh k2
  clear k1 k2 hb
  go_wp2
  refine bodyPost_ret (a0f rfl _ _ _ _ _ _ rfl (hk2.out.put neg num den)) rfl ?_
  exact⟨rfl,a1k hb2.out (Nat.le_succ _) _ _ _⟩
 have k2:=K2.out.below hb (by rw[size_alloc,size_alloc];omega)
 have d0:=k2.c0
 have d1:=k2.c1
 have d2:=k2.c2
 have z0:=k2.frozen 0
 have z1:=k2.frozen 1
 have z2:=k2.frozen 2
 have hb2:=zh (hbw.out.trans (hb.mono (by rw[size_alloc,size_alloc];omega)))
 have hk2:=zh k2
 clear k2 hb
 go_wp2
 refine bodyPost_ret (a0f rfl _ _ _ _ _ _ rfl (hk2.out.put false [] [])) rfl ?_
 exact⟨rfl,a1k hb2.out (Nat.le_succ _) _ _ _⟩
theorem a7p(neg:Bool)(num den:List UInt8)(w:World)(hn:num.length<=68719476736)(hd:den.length<=68719476736) :
  Calls Tryz.prog 12 #[raw neg num den] w fun e w'=>e=.returned (.int .i64 (sgn (decR neg num den).num))/\Below w.heap.size w w':=by
 have hV:=fun W=>a3e neg num den W hn hd
 generalize decR neg num den=q at *
 have hs:sgnR (negB q) (numB q)=sgn q.num:=by
  unfold sgnR numB
  have:=a4d q
  by_cases h0:q.num=0
  ·rw[h0];simp[a0y,b1c]
  rw[if_neg (fun e=>h0 (by have:=bytesOf_eq_nil.1 e;omega))]
  rcases Int.lt_or_lt_of_ne h0 with h | h
  ·rw[a1y h];unfold negB;simp[this.2 h]
  rw[a2y h];unfold negB
  have h1:¬q<0:=fun h2=>by have:=this.1 h2;omega
  simp[h1]
 unfold raw at hV ⊢
 have HV:=zh hV
 have HS:=zh hs
 clear hV hs
 go_enter Tryz.func12,Tryz.ntmps12
 go_wp2_with fail
 refine(HV.out _).mono ?_
 rintro e w1 ⟨rfl,hb1⟩
 go_wp2_with fail
 refine(a5x (negB q) (numB q) (a0a q) _).mono ?_
 rintro e w2 ⟨rfl,hb2⟩
 rw[HS.out]
 go_wp2
 go_ret
 exact⟨rfl,(Ext.trans (Ext.alloc (Below.refl _ _) _) (Ext.trans hb1 hb2))⟩
theorem c6w(a:List UInt8)(w:World)(ha:a.length<=68719476736):Calls Tryz.prog 63 #[.string (bs a)] w fun e w'=>e=.returned (.string (bs (bytesOf (bv a))))/\w=w':=by
 have:=a0s a w ha
 rwa[a5g]at this
theorem rat_mk{neg:Bool}{n d:Nat}(hn:n≠0)(hd:d≠0):rat (mkRat (signed neg n) d)=raw neg (bytesOf (n/Nat.gcd n d)) (denB (d/Nat.gcd n d)):=by
 obtain⟨a,b,c⟩:=(b6e (neg:=neg) (n:=n) hd).2 hn
 unfold rat;rw[a,b,c]
theorem b4k:rat 0=raw false [] []:=by
 obtain⟨a,b,c⟩:=c0v
 unfold rat;rw[a,b,c]
theorem a2m(neg:Bool)(num den:List UInt8)(w:World)(hn:num.length<=68719476736)(hd:den.length<=68719476736)(hd0:bv den≠0) :
   Calls Tryz.prog 69 #[.bool neg,.string (bs num),.string (bs den)] w fun e w'=>e=.returned (rat (mkRat (signed neg (bv num)) (bv den)))/\Below w.heap.size w w':=by
 have k0:Raw (w.alloc (Obj.cells #[.bool false,.string (bs []),.string (bs [])] 39)) w.heap.size false [] []:=Blk.new w _ _
 have hN:=fun W=>c6w num W hn
 have hD:=fun W=>c6w den W hd
 have ln:=a0p (bv num) num.length (b4c num)
 have ld:=a0p (bv den) den.length (b4c den)
 generalize bv num=n at *
 generalize bv den=d at *
 have HN:=zh hN
 have HD:=zh hD
 have K0:=zh k0
 have hbw:Hid (Below w.heap.size w (w.alloc (Obj.cells #[.bool false,.string (bs []),.string (bs [])] 39))):=Ext.alloc (Below.refl _ _) _
 clear hN hD k0
 by_cases h0:n=0
 subst h0
 rw[(b6e (neg:=neg) (n:=0) hd0).1 rfl,b4k]
 rw[a0y]at HN
 have f1:=a2j (l:=[]) rfl
 rotate_left
 rw[rat_mk h0 hd0]
 have f1:=a0r (mt bytesOf_eq_nil.1 h0)
 have z0:=K0.out.frozen 0
 have z1:=K0.out.frozen 1
 have z2:=K0.out.frozen 2
 by_cases h1:d=1
 have f2:((bs (bytesOf d)).toList==[1])=true:=c5m (by rw[h1,a1d])
 have e1:n/Nat.gcd n d=n:=by rw[h1];simp
 have e2:denB (d/Nat.gcd n d)=[]:=by rw[h1];simp[denB]
 rw[e1,e2]
 clear h0 h1 e1 e2
 rotate_left
 have f2:((bs (bytesOf d)).toList==[1])=false:=b0u (by rw[<- a1d];exact fun e=>h1 (a4y e))
 obtain⟨g,hg⟩:∃g,g=Nat.gcd n d:=⟨_,rfl⟩
 have hg0:0<g:=by rw[hg];exact Nat.gcd_pos_of_pos_left d (by omega)
 have hG:=fun W=>d1a (bytesOf n) (bytesOf d) W (by omega) (by omega)
 have hlg:(bytesOf g).length<=68719476736:=by
   refine Nat.le_trans (a0p g (bytesOf n).length ?_) (by omega)
   refine Nat.lt_of_le_of_lt ?_ (a2t n)
   rw[hg];exact Nat.le_of_dvd (by omega) (Nat.gcd_dvd_left n d)
 have hP:=fun W=>d1b (bytesOf n) (bytesOf g) W (by omega) hlg (by rw[a0c];exact hg0)
 have hQ:=fun W=>d1b (bytesOf d) (bytesOf g) W (by omega) hlg (by rw[a0c];exact hg0)
 rw[<- hg]
 simp only[a0c]at hG hP hQ
 rw[<- hg]at hG
 have HG:=zh hG
 have HP:=zh hP
 have HQ:=zh hQ
 have HN0:=zh h0
 have HD1:=zh h1
 have HGG:=zh hg
 clear hG hP hQ h0 h1 hg z0 z1 z2
 by_cases h2:g=1
 have f3:((bs (bytesOf g)).toList==[1])=true:=c5m (by rw[h2,a1d])
 have hr:raw neg (bytesOf (n/g)) (denB (d/g))=raw neg (bytesOf n) (bytesOf d):=by
   rw[h2,Nat.div_one,Nat.div_one,denB,if_neg HD1.out]
 rw[hr]
 clear h2 hr
 rotate_left
 have f3:((bs (bytesOf g)).toList==[1])=false:=b0u (by rw[<- a1d];exact fun e=>h2 (a4y e))
 by_cases h3:d/g=1
 have f4:((bs (bytesOf (d/g))).toList==[1])=true:=c5m (by rw[h3,a1d])
 have hr:raw neg (bytesOf (n/g)) (denB (d/g))=raw neg (bytesOf (n/g)) []:=by
   rw[h3];rfl
 rw[hr]
 clear h2 hr h3
 rotate_left
 have f4:((bs (bytesOf (d/g))).toList==[1])=false:=b0u (by rw[<- a1d];exact fun e=>h3 (a4y e))
 have hr:raw neg (bytesOf (n/g)) (denB (d/g))=raw neg (bytesOf (n/g)) (bytesOf (d/g)):=by
   rw[denB,if_neg h3]
 rw[hr]
 clear h2 hr h3
 rotate_left
 all_goals
   go_enter Tryz.func69,Tryz.ntmps69
   go_wp2_with (first
    | (go_at_call 63;refine(HN.out _).mono ?_;rintro e w' ⟨rfl,rfl⟩)
    | (go_at_call 63;refine(HD.out _).mono ?_;rintro e w' ⟨rfl,rfl⟩))
 ·exact bodyPost_ret (a0f rfl _ _ _ _ _ _ rfl (Blk.new w _ _)) rfl ⟨rfl,Ext.alloc (Below.refl _ _) _⟩
 ·exact bodyPost_ret (a0f rfl _ _ _ _ _ _ rfl (Blk.new w _ _)) rfl ⟨rfl,Ext.alloc (Below.refl _ _) _⟩
 all_goals
   refine(HG.out _).mono ?_
   rintro e w1 ⟨rfl,hb1⟩
 ·have k1:=K0.out.below hb1 (by rw[size_alloc];omega)
  have z0:=k1.frozen 0
  have z1:=k1.frozen 1
  have z2:=k1.frozen 2
  have d0:=k1.c0
  have d1:=k1.c1
  have d2:=k1.c2
  have K1:=zh k1
  have HB:=zh (Ext.trans hbw.out hb1)
  clear k1 hb1
  go_wp2
  exact bodyPost_ret (a0f rfl _ _ _ _ _ _ rfl (K1.out.put _ _ _)) rfl ⟨rfl,a1k HB.out (Nat.le_refl _) _ _ _⟩
 all_goals
   go_wp2_with fail
   refine(HP.out _).mono ?_
   rintro e w2 ⟨rfl,hb2⟩
   go_wp2_with fail
   refine(HQ.out _).mono ?_
   rintro e w3 ⟨rfl,hb3⟩
   have hb13:=Ext.trans hb1 (Ext.trans hb2 hb3)
   have k1:=K0.out.below hb13 (by rw[size_alloc];omega)
   have z0:=k1.frozen 0
   have z1:=k1.frozen 1
   have z2:=k1.frozen 2
   have d0:=k1.c0
   have d1:=k1.c1
   have d2:=k1.c2
   have K1:=zh k1
   have HB:=zh (Ext.trans hbw.out hb13)
   clear k1 hb1 hb2 hb3 hb13
   go_wp2
 ·exact bodyPost_ret (a0f rfl _ _ _ _ _ _ rfl (K1.out.put _ _ _)) rfl ⟨rfl,a1k HB.out (Nat.le_refl _) _ _ _⟩
 exact bodyPost_ret (a0f rfl _ _ _ _ _ _ rfl (K1.out.put _ _ _)) rfl ⟨rfl,a1k HB.out (Nat.le_refl _) _ _ _⟩
theorem d2v(n:Nat)(h:n<18446744073709551616):(bytesOf n).length<=8:=by
 have e:(256:Nat)^8=18446744073709551616:=by decide
 exact a0p n 8 (by omega)
theorem d0t(l:List UInt8)(i:Nat)(h:∀k,k<i->l.getD k 0=0)(hi:i<=l.length):norm (l.drop i)=norm l:=by
 induction i generalizing l with
 | zero=>rfl
 | succ i ih =>
  match l,hi with
  | x::xs,hi =>
   have h0:=h 0 (by omega)
   rw[List.getD_cons_zero]at h0
   rw[List.drop_succ_cons,a8w,if_pos h0]
   exact ih xs (fun k hk=>by have:=h (k+1) (by omega);rwa[List.getD_cons_succ]at this) (by simpa using hi)
theorem c2t(l:List UInt8)(i:Nat)(h:∀k,k<i->l.getD k 0=0)(hi:i<=l.length)(h0:i<l.length->l.getD i 0≠0):norm l=l.drop i:=by
 rw[<- d0t l i h hi]
 rcases Nat.lt_or_ge i l.length with h1 | h1
 ·have h2:=h0 h1
  rw[List.getD_eq_getElem?_getD,List.getElem?_eq_getElem h1]at h2
  rw[List.drop_eq_getElem_cons h1,a8w,if_neg (by simpa using h2)]
 rw[List.drop_of_length_le h1,a9t]
theorem a7n(s:ByteArray)(w:World)(hsz:s.size<=1099511627776) :
  Calls Tryz.prog 102 #[.string s] w fun e w'=>e=.returned (.string (bs (norm s.data.toList)))/\w=w':=by
 go_enter Tryz.func102,Tryz.ntmps102
 go_wp2
 go_loop [3] (fun i=>∃k:Nat,k<=s.size/\i=.int .i64 k/\Hid (∀j,j<k->s.data.toList.getD j 0=0)) (fun i=>s.size-(intOf i).toNat)
 case atStart=>exact⟨0,Nat.zero_le _,rfl,fun j hj=>absurd hj (Nat.not_lt_zero _)⟩
 case round =>
  obtain⟨k,hk,rfl,hz⟩:=hrel
  have hext:(s.extract k s.size)=bs (s.data.toList.drop k):=by
   have e:(s.extract k s.size).data.toList=s.data.toList.drop k:=by
    rw[ByteArray.data_extract,Array.toList_extract,List.extract_eq_take_drop]
    rw[List.take_of_length_le (by simp)]
   rw[<- e,bs_of]
  have HE:=zh hext
  clear hext
  by_cases hlt:k<s.size
  ·obtain⟨b,hbs,hidx⟩:=a8f 9 Tryz.underlying9 s (k:Int) k rfl hlt
   have HBS:=zh hbs
   clear hbs
   go_wp2
   ·have h0:((b:Int)==0)=true:=by assumption
    go_round
    case rel =>
     refine⟨k+1,by omega,by go_num,fun j hj=>?_⟩
     by_cases e:j=k
     ·subst e
      have h1:b=0:=by simpa using h0
      rw[HBS.out]at h1
      exact UInt8.toNat_inj.1 (by simpa using h1)
     exact hz.out j (by omega)
    case measure=>simp[intOf];omega
   have h0:((b:Int)==0)=false:=by assumption
   go_ret
   have hn:=c2t s.data.toList k hz.out (by rw[a1f];omega) (fun _ e=>by
    have:b=0:=by rw[HBS.out,e];rfl
    rw[this]at h0;simp at h0)
   rw[hn,<-HE.out]
   exact⟨rfl,rfl⟩
  go_wp2
  go_ret
  have hn:=c2t s.data.toList k hz.out (by rw[a1f];omega) (fun h=>by rw[a1f]at h;omega)
  rw[hn,<-HE.out]
  exact⟨rfl,rfl⟩
theorem a5w(v:Value)(xs:List Nat)(w:World)(h:Limbs w v xs) :
  Calls Tryz.prog 113 #[v] w fun e w'=>(∃v',e=.returned v'/\Limbs w v' (limbsOf (lv xs)))/\w=w':=by
 have H:=zh h
 obtain⟨hs,A,c,rfl,hl,hc,hx⟩:=h
 go_enter Tryz.func113,Tryz.ntmps113
 go_wp2
 go_loop [3] (fun i=>∃k:Nat,k<=xs.length/\i=.int .i64 k/\Hid (∀i,k<=i->xs.getD i 0=0)) (fun i=>(intOf i).toNat)
 case atStart=>exact⟨xs.length,Nat.le_refl _,rfl,fun i hi=>a6d hi⟩
 case round =>
  obtain⟨k,hk,rfl,hz⟩:=hrel
  rcases Nat.eq_zero_or_pos k with rfl | hp
  ·go_wp2
   go_ret
   exact⟨⟨_,rfl,by rw[<- b0y xs 0 hs (Nat.zero_le _) hz.out (.inl rfl)];exact H.out.take (Nat.zero_le _)⟩,rfl⟩
  obtain⟨b,o,rfl,hb,hcell⟩:=hx (by omega)
  have hck:=hcell (k-1) (by omega)
  obtain⟨x,hxk⟩:∃x,x=xs.getD (k-1) 0:=⟨_,rfl⟩
  rw[<- hxk]at hck
  have HX:=zh hxk
  clear hxk hcell hx
  go_wp2
  ·have h0:((x:Int)==0)=true:=by assumption
   go_round
   case rel =>
    refine⟨k-1,by omega,by congr 1;omega,fun i hi=>?_⟩
    by_cases e:i=k-1
    ·subst e;rw[<- HX.out];simpa using h0
    exact hz.out i (by omega)
   case measure=>simp[intOf];omega
  have h0:((x:Int)==0)=false:=by assumption
  go_ret
  exact⟨⟨_,rfl,by rw[<- b0y xs k hs hk hz.out (.inr (by rw[<- HX.out];simpa using h0))];exact H.out.take hk⟩,rfl⟩
theorem a6b(n:Nat):(limbsOf n).length=((bytesOf n).length+3)/4:=by
 have h1:=a1c (bytesOf n)
 rw[a0c]at h1
 rcases Nat.eq_zero_or_pos n with h0 | h0
 ·subst h0;rw[a0u,a0y];rfl
 have h2:=a7h n (by omega)
 have h3:=a3z n
 have e:(4294967296:Nat)^(limbsOf n).length=256^(4*(limbsOf n).length):=by rw[Nat.pow_mul]
 rw[e]at h3
 have h4:(256:Nat)^((bytesOf n).length-1)<256^(4*(limbsOf n).length):=Nat.lt_of_le_of_lt h2 h3
 have h5:=(Nat.pow_lt_pow_iff_right (show 1<256 by decide)).1 h4
 omega
theorem a2d(s0:ByteArray)(w:World)(hsz0:s0.size<=1099511627776) :
  Calls Tryz.prog 83 #[.string s0] w fun e w'=>∃v',e=.returned v'/\Limbs w' v' (limbsOf (bv s0.data.toList))/\Below w.heap.size w w':=by
 have hN:=fun W=>a7n s0 W hsz0
 obtain⟨s,hs0⟩:∃s,s=bs (norm s0.data.toList):=⟨_,rfl⟩
 have hsl:s.data.toList=bytesOf (bv s0.data.toList):=by rw[hs0,a3w,a5g]
 have hsz:s.size<=1099511627776:=by
  rw[<- a1f,hsl]
  exact Nat.le_trans (a0p _ s0.size (by rw[<- a1f];exact b4c _)) hsz0
 rw[<- hs0]at hN
 obtain⟨n,hn⟩:∃n,n=bv s0.data.toList:=⟨_,rfl⟩
 rw[<- hn]at hsl ⊢
 have HN:=zh hN
 have HSL:=zh hsl
 clear hN hs0 hsl hn hsz0
 have hmk:=a1s 121 Tryz.underlying121 (((s.size:Int)+3)/4) ((s.size+3)/4) (by omega) (by omega)
 obtain⟨k,hk⟩:∃k,k=(s.size+3)/4:=⟨_,rfl⟩
 rw[<- hk]at hmk
 have hk1:4*k<=s.size+3:=by omega
 have hk2:s.size<=4*k:=by omega
 have HK:=zh hk
 clear hk
 go_enter Tryz.func83,Tryz.ntmps83
 go_wp2_with fail
 refine(HN.out _).mono ?_
 rintro e w1 ⟨rfl,hw1⟩
 subst w1
 go_wp2
 go_loopw [4] (fun i wr=>∃ (i':Nat) (xs:List Nat),i'<=s.size/\i=.int .i64 i'/\xs.length=k/\Row wr w.heap.size xs/\Small xs/\Hid (lv xs=bv (s.data.toList.drop (s.size-i')))/\Below w.heap.size w wr) (fun i _=>s.size-(intOf i).toNat)
 case atStart =>
  refine⟨0,List.replicate k 0,Nat.zero_le _,rfl,by simp,Row.made _ _,a1h _,?_,(Below.refl _ _).alloc (Nat.le_refl _) _⟩
  show lv _=bv _
  rw[a5m,List.drop_of_length_le (by simp)];rfl
 case round =>
  obtain⟨i,xs,hi,rfl,hlen,hrow,hs,hv,hb⟩:=hrel
  by_cases hlt:i<s.size
  ·obtain⟨b,hbs,hidx⟩:=a8f 9 Tryz.underlying9 s ((s.size:Int)-1-i) (s.size-1-i) (by omega) (by omega)
   have hcell:=hrow.cell (i:=i/4) (by omega)
   have hfr:=hrow.frozen (i/4)
   obtain⟨x,hx⟩:∃x,x=xs.getD (i/4) 0:=⟨_,rfl⟩
   rw[<- hx]at hcell
   have hm0:(0:Int)<=8*((i:Int)%4):=by omega
   have hxs:x<4294967296:=by rw[hx];exact hs.get _
   obtain⟨hy,hor,hlv⟩:=b8g (b:=b) (by rw[hv.out];have:=b8y s.data.toList i (by rw[a1f];omega);rwa[a1f]at this) hx (by omega) (by rw[hbs];exact UInt8.toNat_lt _)
   obtain⟨y,hyy⟩:∃y,y=x+b*2^(8*(i%4)):=⟨_,rfl⟩
   rw[<- hyy]at hy hor hlv
   have hbit:bits .or .u32 (x:Int) ((b:Int)%4294967296*2^(8*(i%4))%4294967296)=(y:Int):=by
    rw[<- hor,<-u32_or_nat x _ hxs (Nat.mod_lt _ (by decide))]
    simp only[Int.natCast_emod,Int.natCast_mul,Int.natCast_pow];rfl
   have hbv:=a9g s.data.toList i (by rw[a1f];omega)
   rw[a1f,<-hbs]at hbv
   have H:Hid (lv (xs.set (i/4) y)=bv (s.data.toList.drop (s.size-(i+1)))):=by
    show _=_
    rw[hlv,hbv,hv.out]
   have hrow':=hrow.set_ (i/4) y
   have hs':=a0m hs (i/4) hy
   clear hbs hor hlv hyy hbv hx hs hv
   go_wp2
   refine a4c 23 (by kernel_rfl) (by kernel_rfl) ?_
   simp only[List.take_succ_cons,List.take_zero,List.drop_succ_cons,List.drop_zero]
   repeat (go_big_quiet_step (fail))
   refine wpQuiet_nil ?_
   intro nq
   go_wp2
   go_roundw
   case rel=>exact⟨i+1,_,by omega,by go_num,by rw[List.length_set];exact hlen,hrow',hs',H,(a0j hb nq).setCell (Nat.le_refl _) _⟩
   case measure=>simp[intOf];omega
  have hi':i=s.size:=by omega
  subst hi'
  go_wp2
  go_ret
  have hv1:=hv.out
  rw[Nat.sub_self,List.drop_zero,HSL.out,a0c]at hv1
  have hxs:xs=limbsOf n:=by
   refine b5x hs (b0z n) ?_ (by rw[a0k];exact hv1)
   rw[hlen,HK.out,a6b,<-HSL.out,a1f]
  rw[<- hxs]
  exact⟨_,rfl,hrow.limbsN hs hlen (by omega),hb⟩
theorem b1g(va vb:Value)(a b:Nat)(w:World)(ha:Limbs w va (limbsOf a))(hb:Limbs w vb (limbsOf b)) :
  Calls Tryz.prog 86 #[va,vb] w fun e w'=>e=.returned (.int .i64 (sgn ((a:Int)-b)))/\Below w.heap.size w w':=by
 obtain⟨xs,hxs⟩:∃xs,xs=limbsOf a:=⟨_,rfl⟩
 obtain⟨ys,hys⟩:∃ys,ys=limbsOf b:=⟨_,rfl⟩
 have hax:a=lv xs:=by rw[hxs,a0k]
 have hby:b=lv ys:=by rw[hys,a0k]
 rw[<- hxs]at ha
 rw[<- hys]at hb
 obtain⟨A,ca,rfl,hca,hca'⟩:=ha.slice
 obtain⟨B,cb,rfl,hcb,hcb'⟩:=hb.slice
 have HA:=zh ha
 have HB:=zh hb
 clear ha hb
 by_cases hne:xs.length=ys.length
 ·have h0:((xs.length:Int) != ys.length)=false:=by rw[hne];simp
  have HAX:=zh hax
  have HBY:=zh hby
  have HL:=zh hne
  have h1:xs.length<=ys.length:=by omega
  have h2:ys.length<=xs.length:=by omega
  clear hne hxs hys hax hby
  go_enter Tryz.func86,Tryz.ntmps86
  go_wp2
  go_loopw [5] (fun i wr=>∃k:Nat,k<=xs.length/\i=.int .i64 ((k:Int)-1)/\Hid (xs.drop k=ys.drop k)/\Below w.heap.size w wr) (fun i _=>(intOf i+1).toNat)
  case atStart => 
   refine⟨xs.length,Nat.le_refl _,rfl,?_,Below.refl _ _⟩
   show _=_
   rw[List.drop_of_length_le (Nat.le_refl _),List.drop_of_length_le (by omega)]
  case round =>
   obtain⟨k,hk,rfl,hd,hbw⟩:=hrel
   by_cases hp:0<k
   ·obtain⟨b1,o1,x,rfl,hb1,hx,hx2,hx3⟩:=HA.out.at_ (j:=k-1) (by omega)
    obtain⟨b2,o2,y,rfl,hb2,hy,hy2,hy3⟩:=HB.out.at_ (j:=k-1) (by omega)
    have hxc:=hx3 wr hbw
    have hyc:=hy3 wr hbw
    have HX:=zh hx
    have HY:=zh hy
    have i1:(0:Int)<=(k:Int)-1:=by omega
    have i2:(k:Int)-1<xs.length:=by omega
    have i3:(k:Int)-1<ys.length:=by omega
    clear hx hx3 hy hy3
    go_wp2
    go_quiet (fail)
    go_wp2
    ·have hne:((x:Int) != y)=true:=by assumption
     have hne':x≠y:=by intro e;subst e;simp at hne
     go_quiet (fail)
     go_wp2
     ·have hlt:x<y:=by assumption
      go_ret
      have h:=a6p (xs:=xs) (ys:=ys) (i:=k-1) HA.out.small (by omega) HL.out (by rw[show k-1+1=k by omega];exact hd.out) (by rw[<- HX.out,<-HY.out];exact hlt)
      rw[<- HAX.out,<-HBY.out]at h
      rw[a1y (by omega)]
      exact⟨rfl,a0j (a0j hbw _) _⟩
     have hge:¬x<y:=by assumption
     go_ret
     have h:=a6p (xs:=ys) (ys:=xs) (i:=k-1) HB.out.small (by omega) HL.out.symm (by rw[show k-1+1=k by omega];exact hd.out.symm) (by rw[<- HX.out,<-HY.out];omega)
     rw[<- HAX.out,<-HBY.out]at h
     rw[a2y (by omega)]
     exact⟨rfl,a0j (a0j hbw _) _⟩
    have hne:((x:Int) != y)=false:=by assumption
    have hne':x=y:=by simp at hne;omega
    have hd':Hid (xs.drop (k-1)=ys.drop (k-1)):=b3k (by omega) HL.out (by rw[show k-1+1=k by omega];exact hd.out) (by rw[<- HX.out,<-HY.out];exact hne')
    go_roundw
    case rel=>exact⟨k-1,by omega,by congr 1;omega,hd',a0j hbw _⟩
    case measure=>simp[intOf];omega
   obtain rfl:k=0:=by omega
   go_wp2
   go_ret
   have h:=b3h hd.out
   rw[<- HAX.out,<-HBY.out]at h
   rw[h,Int.sub_self]
   exact⟨rfl,hbw⟩
 have h0:((xs.length:Int) != ys.length)=true:=by simp;omega
 rcases Nat.lt_or_ge xs.length ys.length with hl | hl
 ·have hs:sgn ((a:Int)-b) = -1:=by
   rw[hxs,hys]at hl
   have:=a1j hl
   rw[a1y (by omega)]
  rw[hs]
  clear hs hne hxs hys hax hby
  go_enter Tryz.func86,Tryz.ntmps86
  go_wp2
  go_ret
  exact⟨rfl,Below.refl _ _⟩
 have hs:sgn ((a:Int)-b)=1:=by
  have hl':ys.length<xs.length:=by omega
  rw[hxs,hys]at hl'
  have:=a1j hl'
  rw[a2y (by omega)]
 rw[hs]
 clear hs hne hxs hys hax hby
 go_enter Tryz.func86,Tryz.ntmps86
 go_wp2
 go_ret
 exact⟨rfl,Below.refl _ _⟩
theorem c9z(va:Value)(xs:List Nat)(d:Nat)(w:World)(ha:Limbs w va xs)(hd:0<d)(hd2:d<4294967296)(hsz:xs.length<=274877906944) :
  Calls Tryz.prog 136 #[va,.int .u32 d] w fun e w'=>∃v',e=.returned (.tuple #[v',.int .u32 (lv xs%d:Nat)])/\Limbs w' v' (limbsOf (lv xs/d))/\Below w.heap.size w w':=by
 obtain⟨A,ca,rfl,hca,hca'⟩:=ha.slice
 have hmk:=a1s 121 Tryz.underlying121 (xs.length:Int) xs.length rfl (by omega)
 have Ha:=zh ha
 clear ha
 go_enter Tryz.func136,Tryz.ntmps136
 go_wp2
 go_loopw [7,8] (fun r i wr=>∃ (k r':Nat) (outs:List Nat),k<=xs.length/\i=.int .i64 ((k:Int)-1)/\r=.int .u64 r'/\r'<d/\Hid (outs.length=xs.length)/\Row wr w.heap.size outs/\Small outs /\
   Hid (lv (outs.drop k)=lv (xs.drop k)/d)/\Hid (r'=lv (xs.drop k)%d)/\Below w.heap.size w wr) (fun _ i _=>(intOf i+1).toNat)
 case atStart =>
  refine⟨xs.length,0,_,Nat.le_refl _,rfl,rfl,hd,by simp[Hid],Row.made _ _,a1h _,?_,?_,(Below.refl _ _).alloc (Nat.le_refl _) _⟩
  ·show _=_
   rw[List.drop_of_length_le (by simp),List.drop_of_length_le (by simp),a2q,Nat.zero_div]
  show _=_
  rw[List.drop_of_length_le (by simp),a2q,Nat.zero_mod]
 case round =>
  obtain⟨k,r,outs,hk,rfl,rfl,hr,hlen,hrow,hso,hq,hrr,hbw⟩:=hrel
  by_cases hp:0<k
  ·obtain⟨b1,o1,x,rfl,hb1,hx,hx2,hx3⟩:=Ha.out.at_ (j:=k-1) (by omega)
   have hxc:=hx3 wr hbw
   have HX:=zh hx
   have hcur:=hrow.cell (i:=k-1) (by have:=hlen.out;omega)
   have hfr:=hrow.frozen (k-1)
   have hor:bits .or .u64 ((r:Int)*4294967296) (x:Int)=((r*4294967296+x:Nat):Int):=by
    rw[<- a6n hx2,<-u64_or_nat _ _ (by omega) (by omega)]
    simp
   obtain⟨y,hy⟩:∃y,y=r*4294967296+x:=⟨_,rfl⟩
   rw[<- hy]at hor
   have hyb:y<18446744073709551616:=by omega
   obtain⟨hs1,hs2⟩:=b7v (r:=r) hd (by omega) (by rw[hlen.out];omega) hx (i:=k-1) (by rw[show k-1+1=k by omega];exact hq.out) (by rw[show k-1+1=k by omega];exact hrr.out)
   obtain⟨q,hqq⟩:∃q,q=y/d:=⟨_,rfl⟩
   have hqb:q<4294967296:=by rw[hqq,hy];exact b7w hr hx2
   have hw:IntKind.u64.wrap ((y:Int)/d)=(q:Int):=by
    rw[hqq,IntKind.wrap_u64,<-Int.natCast_ediv]
    omega
   have hmo:(y:Int)%d=((y%d:Nat):Int):=by simp
   rw[<- hy,<-hqq]at hs1
   rw[<- hy]at hs2
   have HS1:=zh hs1
   have HS2:=zh hs2
   have HM:=zh hmo
   clear hx hx3 hy hs1 hs2 hqq hmo
   go_wp2
   go_roundw
   case rel =>
    rw[HM.out]
    exact⟨k-1,_,_,by omega,by congr 1;omega,rfl,Nat.mod_lt _ hd,by show _=_;rw[List.length_set];exact hlen.out,hrow.set_ (k-1) q,a0m hso _ hqb,HS1,HS2,hbw.setCell (Nat.le_refl _) _⟩
   case measure=>simp[intOf];omega
  obtain rfl:k=0:=by omega
  go_wp2_with fail
  refine(a5w _ outs _ (hrow.limbsN hso hlen.out (by omega))).mono ?_
  rintro e w' ⟨⟨v',rfl,hv'⟩,rfl⟩
  go_wp2
  go_ret2
  have hq0:=hq.out
  rw[List.drop_zero,List.drop_zero]at hq0
  rw[hq0]at hv'
  have hr2:=hrr.out
  rw[List.drop_zero]at hr2
  refine⟨_,?_,hv',hbw⟩
  rw[<- hr2]
  rfl
theorem c9y(va vb:Value)(xs ys:List Nat)(w:World)(ha:Limbs w va xs)(hb:Limbs w vb ys)(la:xs.length<=68719476736)(lb:ys.length<=68719476736) :
  Calls Tryz.prog 82 #[va,vb] w fun e w'=>∃v',e=.returned v'/\Limbs w' v' (limbsOf (lv xs*lv ys))/\Below w.heap.size w w':=by
 obtain⟨A,ca,rfl,hca,hca'⟩:=ha.slice
 obtain⟨B,cb,rfl,hcb,hcb'⟩:=hb.slice
 have hmk:=a1s 121 Tryz.underlying121 ((xs.length:Int)+ys.length) (xs.length+ys.length) (by omega) (by omega)
 have Ha:=zh ha
 have Hb:=zh hb
 clear ha hb
 go_enter Tryz.func82,Tryz.ntmps82
 go_wp2
 go_loopw [6] (fun i wr=>∃ (i':Nat) (outs:List Nat),i'<=xs.length/\i=.int .i64 i'/\Hid (outs.length=xs.length+ys.length)/\Row wr w.heap.size outs/\Small outs /\
   Hid (lv outs=lv (xs.take i')*lv ys)/\Below w.heap.size w wr) (fun i _=>xs.length-(intOf i).toNat)
 case atStart =>
  exact⟨0,_,Nat.zero_le _,rfl,by simp[Hid],Row.made _ _,a1h _,by simp[Hid,a2q,a5m],(Below.refl _ _).alloc (Nat.le_refl _) _⟩
 case round =>
  obtain⟨i,outs,hi,rfl,hlen,hrow,hso,hv,hbw⟩:=hrel
  by_cases hlt:i<xs.length
  ·obtain⟨b1,o1,u,rfl,hb1,hx,hx2,hx3⟩:=Ha.out.at_ hlt
   have HX1:=zh hx
   have HX3:=zh hx3
   clear hx hx3
   obtain⟨wo,hwo⟩:∃wo:World,wo=wr:=⟨_,rfl⟩
   subst hwo
   go_wp2
   go_loopw [7,8] (fun c k wr=>∃ (k' c':Nat) (outs:List Nat),k'<=ys.length/\k=.int .i64 k'/\c=.int .u64 c'/\c'<4294967296/\Hid (outs.length=xs.length+ys.length)/\Row wr w.heap.size outs/\Small outs /\
     Hid (outs.getD (i+ys.length) 0=0)/\Hid (lv outs+4294967296^(i+k')*c'=lv (xs.take i)*lv ys+4294967296^i*(u*lv (ys.take k')))/\Below w.heap.size w wr) (fun _ k _=>ys.length-(intOf k).toNat)
   case atStart =>
    refine⟨0,0,outs,Nat.zero_le _,rfl,rfl,by decide,hlen,hrow,hso,?_,?_,hbw⟩
    ·show _=_
     apply c4t hso
     rw[hv.out]
     have h1:=a5h _ (Ha.out.small.take i)
     rw[List.length_take,Nat.min_eq_left hi]at h1
     exact b2s h1 (a5h _ Hb.out.small)
    show _=_
    rw[hv.out,List.take_zero,a2q];simp
   case round =>
    obtain⟨k,c,outs,hk,rfl,rfl,hc,hlen,hrow,hso,h0,hv,hbw⟩:=hrel
    by_cases hlt2:k<ys.length
    ·obtain⟨b2,o2,v,rfl,hb2,hy,hy2,hy3⟩:=Hb.out.at_ hlt2
     have hxc:=HX3.out wr hbw
     have hyc:=hy3 wr hbw
     have HY1:=zh hy
     have hcur:=hrow.cell (i:=i+k) (by have:=hlen.out;omega)
     have hfr:=hrow.frozen (i+k)
     obtain⟨old,hold⟩:∃old,old=outs.getD (i+k) 0:=⟨_,rfl⟩
     rw[<- hold]at hcur
     have hold2:old<4294967296:=by rw[hold];exact hso.get _
     have HO:=zh hold
     have hpb:=a4w hx2 hy2 hold2 hc
     have hpb0:(0:Int)<=(u:Int)*v:=by rw[<- Int.natCast_mul];omega
     have hpb1:(u:Int)*v<=18446744065119617025:=by have:=hpb.1;rw[<- Int.natCast_mul];omega
     obtain⟨t,ht⟩:∃t,t=u*v+old+c:=⟨_,rfl⟩
     have htb:t<18446744073709551616:=by have:=hpb.1;omega
     have htd:t/4294967296<4294967296:=by rw[ht];exact hpb.2
     have e0:(c:Int)+(u:Int)*v+old=(t:Int):=by rw[ht];simp;omega
     obtain⟨x,hx⟩:∃x,x=t%4294967296:=⟨_,rfl⟩
     obtain⟨y,hyy⟩:∃y,y=t/4294967296:=⟨_,rfl⟩
     have e1:(t:Int)%4294967296=(x:Int):=by rw[hx];simp
     have e2:(t:Int)/4294967296=(y:Int):=by rw[hyy];simp
     have hxb:x<4294967296:=by rw[hx];exact Nat.mod_lt _ (by decide)
     rw[<- hyy]at htd
     have HT:=zh ht
     have HXX:=zh hx
     have HYY:=zh hyy
     clear hy hy3 hold hpb ht hx hyy
     go_wp2
     go_quiet (fail)
     go_wp2
     refine⟨⟨k+1,y,_,by omega,by go_num,rfl,htd,by show _=_;rw[List.length_set];exact hlen.out,hrow.set_ (i+k) x,a0m hso _ hxb,?_,?_,(a0j hbw nq).setCell (Nat.le_refl _) _⟩,by simp[intOf];omega⟩
     ·show _=_
      rw[getD_set_ne (by omega)];exact h0.out
     show _=_
     rw[HXX.out,HYY.out]
     exact c6y (by rw[hlen.out];omega) HO.out HY1.out HT.out hv.out
    obtain rfl:k=ys.length:=by omega
    have hcur:=hrow.cell (i:=i+ys.length) (by have:=hlen.out;omega)
    have hfr:=hrow.frozen (i+ys.length)
    have H:Hid (lv (outs.set (i+ys.length) c)=lv (xs.take (i+1))*lv ys):=d1e (by rw[hlen.out];omega) h0.out HX1.out hv.out
    go_wp2
    go_roundw
    case rel=>exact⟨i+1,_,by omega,by go_num,by show _=_;rw[List.length_set];exact hlen.out,hrow.set_ _ c,a0m hso _ hc,H,hbw.setCell (Nat.le_refl _) _⟩
    case measure=>simp[intOf];omega
  obtain rfl:i=xs.length:=by omega
  go_wp2_with fail
  refine(a5w _ outs _ (hrow.limbsN hso hlen.out (by omega))).mono ?_
  rintro e w3 ⟨⟨v3,rfl,h3⟩,rfl⟩
  rw[hv.out,a0x (Nat.le_refl _)]at h3
  go_wp2
  go_ret
  exact⟨_,rfl,h3,hbw⟩
theorem d0a(va vb:Value)(xs ys:List Nat)(w:World)(ha:Limbs w va xs)(hb:Limbs w vb ys)(hl:ys.length<=xs.length)(hab:lv ys<=lv xs)(hsz:xs.length<=274877906944) :
  Calls Tryz.prog 87 #[va,vb] w fun e w'=>∃v',e=.returned v'/\Limbs w' v' (limbsOf (lv xs-lv ys))/\Below w.heap.size w w':=by
 obtain⟨A,ca,rfl,hca,hca'⟩:=ha.slice
 obtain⟨B,cb,rfl,hcb,hcb'⟩:=hb.slice
 have hmk:=a1s 121 Tryz.underlying121 (xs.length:Int) xs.length rfl (by omega)
 have Ha:=zh ha
 have Hb:=zh hb
 have HAB:=zh hab
 clear ha hb hab
 go_enter Tryz.func87,Tryz.ntmps87
 go_wp2
 go_loopw [6,7] (fun c i wr=>∃ (i' cy:Nat) (outs:List Nat),i'<=xs.length/\i=.int .i64 i'/\c=.int .u64 cy/\cy<=1/\Hid (outs.length=xs.length)/\Row wr w.heap.size outs/\Small outs /\
   Hid (lv (outs.take i')+lv (ys.take i')=lv (xs.take i')+4294967296^i'*cy)/\Below w.heap.size w wr) (fun _ i _=>xs.length-(intOf i).toNat)
 case atStart =>
  exact⟨0,0,_,Nat.zero_le _,rfl,rfl,Nat.zero_le _,by simp[Hid],Row.made _ _,a1h _,by simp[Hid,a2q],(Below.refl _ _).alloc (Nat.le_refl _) _⟩
 case round =>
  obtain⟨i,cy,outs,hi,rfl,rfl,hcy,hlen,hrow,hso,hv,hbw⟩:=hrel
  by_cases hlt:i<xs.length
  ·obtain⟨b1,o1,x,rfl,hb1,hx,hx2,hx3⟩:=Ha.out.at_ hlt
   have hxc:=hx3 wr hbw
   have HX1:=zh hx
   have hcur:=hrow.cell (i:=i) (by have:=hlen.out;omega)
   have hfr:=hrow.frozen i
   clear hx hx3
   by_cases hlt2:i<ys.length
   ·obtain⟨b2,o2,y,rfl,hb2,hy,hy2,hy3⟩:=Hb.out.at_ hlt2
    have hyc:=hy3 wr hbw
    have HY1:=zh hy
    clear hy hy3
    by_cases hless:x<cy+y
    ·have i0:(x:Int)<(cy:Int)+y:=by omega
     obtain⟨r,hr⟩:∃r,r=x+4294967296-(cy+y):=⟨_,rfl⟩
     have e0:((x:Int)+4294967296-((cy:Int)+y))=(r:Int):=by omega
     have hrb:r<4294967296:=by omega
     have hre:Hid (r+y+cy=x+4294967296*1):=by show _=_;omega
     have HE:=zh e0
     clear hr e0
     go_wp2
     rw[HE.out]
     refine⟨⟨i+1,1,_,by omega,by go_num,rfl,Nat.le_refl _,by show _=_;rw[List.length_set];exact hlen.out,hrow.set_ i r,a0m hso i hrb,a9k (by rw[hlen.out];omega) hv.out (by rw[<- HX1.out,<-HY1.out];exact hre.out),hbw.setCell (Nat.le_refl _) _⟩,by simp[intOf];omega⟩
    have i0:(cy:Int)+y<=(x:Int):=by omega
    obtain⟨r,hr⟩:∃r,r=x-(cy+y):=⟨_,rfl⟩
    have e0:((x:Int)-((cy:Int)+y))=(r:Int):=by omega
    have hrb:r<4294967296:=by omega
    have hre:Hid (r+y+cy=x+4294967296*0):=by show _=_;omega
    have HE:=zh e0
    clear hr e0
    go_wp2
    rw[HE.out]
    refine⟨⟨i+1,0,_,by omega,by go_num,rfl,Nat.zero_le _,by show _=_;rw[List.length_set];exact hlen.out,hrow.set_ i r,a0m hso i hrb,a9k (by rw[hlen.out];omega) hv.out (by rw[<- HX1.out,<-HY1.out];exact hre.out),hbw.setCell (Nat.le_refl _) _⟩,by simp[intOf];omega⟩
   by_cases hless:x<cy
   ·have i0:(x:Int)<(cy:Int):=by omega
    obtain⟨r,hr⟩:∃r,r=x+4294967296-(cy):=⟨_,rfl⟩
    have e0:((x:Int)+4294967296-((cy:Int)))=(r:Int):=by omega
    have hrb:r<4294967296:=by omega
    have hre:Hid (r+0+cy=x+4294967296*1):=by show _=_;omega
    have HE:=zh e0
    clear hr e0
    go_wp2
    rw[HE.out]
    refine⟨⟨i+1,1,_,by omega,by go_num,rfl,Nat.le_refl _,by show _=_;rw[List.length_set];exact hlen.out,hrow.set_ i r,a0m hso i hrb,a9k (by rw[hlen.out];omega) hv.out (by rw[<- HX1.out,a6d (xs:=ys) (by omega)];exact hre.out),hbw.setCell (Nat.le_refl _) _⟩,by simp[intOf];omega⟩
   have i0:(cy:Int)<=(x:Int):=by omega
   obtain⟨r,hr⟩:∃r,r=x-(cy):=⟨_,rfl⟩
   have e0:((x:Int)-((cy:Int)))=(r:Int):=by omega
   have hrb:r<4294967296:=by omega
   have hre:Hid (r+0+cy=x+4294967296*0):=by show _=_;omega
   have HE:=zh e0
   clear hr e0
   go_wp2
   rw[HE.out]
   refine⟨⟨i+1,0,_,by omega,by go_num,rfl,Nat.zero_le _,by show _=_;rw[List.length_set];exact hlen.out,hrow.set_ i r,a0m hso i hrb,a9k (by rw[hlen.out];omega) hv.out (by rw[<- HX1.out,a6d (xs:=ys) (by omega)];exact hre.out),hbw.setCell (Nat.le_refl _) _⟩,by simp[intOf];omega⟩
  obtain rfl:i=xs.length:=by omega
  have hfin:lv outs=lv xs-lv ys:=by
   have h1:=hv.out
   have h2:=a5h outs hso
   have h3:=HAB.out
   rw[a0x (by rw[hlen.out];omega),a0x hl,a0x (Nat.le_refl _)]at h1
   rw[hlen.out]at h2
   rcases Nat.eq_zero_or_pos cy with h0 | h0
   ·subst h0;omega
   obtain rfl:cy=1:=by omega
   have:=a5h xs Ha.out.small
   omega
  have HF:=zh hfin
  clear hfin
  go_wp2_with fail
  refine(a5w _ outs _ (hrow.limbsN hso hlen.out (by omega))).mono ?_
  rintro e w' ⟨⟨v',rfl,hv'⟩,rfl⟩
  go_wp2
  go_ret
  rw[HF.out]at hv'
  exact⟨_,rfl,hv',hbw⟩
def a5s(l:List UInt8):List Value:=l.map fun x=>Value.int .u8 (x.toNat:Nat)
theorem c8w(x:Nat)(hx:x<4294967296):bv [UInt8.ofNat (x/16777216),UInt8.ofNat (x/65536),UInt8.ofNat (x/256),UInt8.ofNat x]=x:=by
 show bv _=_
 simp only[a9h,c3r,List.length_cons,List.length_nil,UInt8.toNat_ofNat']
 omega
theorem bytes4(x:Nat)(hx:x<4294967296):∃m:List UInt8,bv m=x/\m.length=4/\(x:Int)/16777216=((m.getD 0 0).toNat:Int)/\(x:Int)/65536%256=((m.getD 1 0).toNat:Int)/\(x:Int)/256%256=((m.getD 2 0).toNat:Int)/\(x:Int)%256=((m.getD 3 0).toNat:Int):=by
 refine⟨_,c8w x hx,rfl,?_,?_,?_,?_⟩<;>simp only[List.getD_cons_zero,List.getD_cons_succ,UInt8.toNat_ofNat']<;>omega
theorem c7r(xs:List Nat)(k:Nat)(l:List UInt8)(m:List UInt8)(hm:bv m=xs.getD (k-1) 0)(hml:m.length=4)(hk:0<k)(hkl:k<=xs.length)(h:bv l=lv (xs.drop k)):bv (l++m)=lv (xs.drop (k-1)):=by
 have e:xs.drop (k-1)=xs.getD (k-1) 0::xs.drop k:=by
  rw[List.drop_eq_getElem_cons (by omega),List.getD_eq_getElem?_getD,List.getElem?_eq_getElem (by omega),show k-1+1=k by omega];rfl
 rw[c3s,e,a1w,hm,hml,h]
 have:(256:Nat)^4=4294967296:=by decide
 omega
theorem c3j{a b:World}(h:a.grownBy b none):Below a.heap.size a b:=⟨h.os,h.tape,h.output,h.size,fun k hk=>h.block k hk (by intro e;cases e)⟩
theorem b9p(v:Value)(xs:List Nat)(w:World)(h:Limbs w v xs)(hsz:xs.length<=274877906944) :
  Calls Tryz.prog 116 #[v] w fun e w'=>e=.returned (.string (bs (bytesOf (lv xs))))/\Below w.heap.size w w':=by
 obtain⟨i0,hi,hz0,hz1,hz2⟩:=info_parts d1s
 have HS:=zh (a5w v xs w h)
 have hlen:=a5q (Nat.le_refl (lv xs)) (n:=xs.length) (a1z _ _ (a5h _ h.small))
 clear h
 generalize lv xs=n at *
 go_enter Tryz.func116,Tryz.ntmps116
 go_wp2_with fail
 refine HS.out.mono ?_
 rintro e w1 ⟨⟨v1,rfl,h1⟩,hw1⟩
 subst w1
 obtain⟨ys,hys⟩:∃ys,ys=limbsOf n:=⟨_,rfl⟩
 rw[<- hys]at h1 hlen
 obtain⟨A,ca,rfl,hca,hca'⟩:=h1.slice
 have H1:=zh h1
 have HY:=zh hys
 clear h1 hys HS
 have HI:=zh hi
 clear hi
 go_wp2_with (at_make;refine wpList_make_own _ rfl _ _ 152 rfl w.heap.size 5 i0 (.int .u8 0) 1 Tryz.underlying152 HI.out hz0 hz1 _ _ _ (4*ys.length) rfl rfl (by omega) (by rw[hz2];omega) (by unfold maxLen;omega) (Nat.le_refl _) ?_)
 intro w2 hown hgrow
 have hb2:=c3j hgrow
 clear hgrow
 go_wp2
 go_loopw [3,4] (fun v i wr=>∃ (k:Nat) (l:List UInt8),k<=ys.length/\i=.int .i64 ((k:Int)-1)/\Hid (l.length=4*(ys.length-k))/\v=.slice (some ⟨w.heap.size,0,none⟩) (4*(ys.length-k)) (4*ys.length) /\
   wr.ownsRow w.heap.size 5 1 v (4*(ys.length-k)) (a5s l)/\Hid (bv l=lv (ys.drop k))/\Below w.heap.size w wr) (fun _ i _=>(intOf i+1).toNat)
 case atStart =>
  refine⟨ys.length,[],Nat.le_refl _,rfl,by simp[Hid],by rw[Nat.sub_self],by rw[Nat.sub_self];exact hown,?_,hb2⟩
  show _=_
  rw[List.drop_of_length_le (Nat.le_refl _)];rfl
 case round =>
  obtain⟨k,l,hk,rfl,hll,rfl,hown,hv,hbw⟩:=hrel
  by_cases hp:0<k
  ·obtain⟨b1,o1,x,rfl,hb1,hx,hx2,hx3⟩:=H1.out.at_ (j:=k-1) (by omega)
   have hxc:=hx3 wr hbw
   have HX:=zh hx
   clear hx hx3
   obtain⟨m,hm,hm4,e0,e1,e2,e3⟩:=bytes4 x hx2
   obtain⟨y0,y1,y2,y3,rfl⟩:∃a b c d,m=[a,b,c,d]:=by
    match m,hm4 with
    | [a,b,c,d],_=>exact⟨a,b,c,d,rfl⟩
   have E0:(x:Int)/16777216=(y0.toNat:Int):=e0
   have E1:(x:Int)/65536%256=(y1.toNat:Int):=e1
   have E2:(x:Int)/256%256=(y2.toNat:Int):=e2
   have E3:(x:Int)%256=(y3.toNat:Int):=e3
   have HM:=zh hm
   have HV:=zh (c7r ys k l _ (by rw[hm,HX.out]) rfl hp hk hv.out)
   have hbs:=hbw.size
   clear hm hm4 e0 e1 e2 e3
   go_wp2_with (at_builtin;refine wpList_append_fits _ rfl _ _ 152 rfl w.heap.size 5 i0 1 Tryz.underlying152 HI.out hz1 w.heap.size (4*(ys.length-k)) (4*ys.length) (a5s l) rfl (hown.alloc _) ⟨wr.heap.size,0,none⟩ 4 4 (a5s [y0,y1,y2,y3]) rfl rfl ?c1 ?c2 ?c3 ?_)
   case c1 =>
    intro j u hj
    match j,hj with
    | 0,hj=>simp[a5s]at hj;subst hj;simp[Addr.add]
    | 1,hj=>simp[a5s]at hj;subst hj;simp[Addr.add]
    | 2,hj=>simp[a5s]at hj;subst hj;simp[Addr.add]
    | 3,hj=>simp[a5s]at hj;subst hj;simp[Addr.add]
   case c2=>intro u hu;obtain⟨_,_,rfl⟩:=List.mem_map.1 hu;rfl
   case c3=>omega
   intro w3 hown3 hgrow3
   have hB:=(hbw.alloc hbs _).trans (b6a hgrow3 (Nat.le_refl _) (by rw[size_alloc];omega))
   have H3:=zh hown3
   clear hown hown3 hgrow3
   go_wp2
   have e4:4*(ys.length-k)+4=4*(ys.length-(k-1)):=by omega
   rw[e4]
   refine⟨⟨k-1,l++[y0,y1,y2,y3],by omega,by congr 1;omega,?_,rfl,?_,HV.out,hB⟩,by simp[intOf];omega⟩
   ·show _=_
    rw[List.length_append,hll.out];show _+4=_;omega
   have h3:=H3.out
   rw[e4]at h3
   unfold a5s at h3 ⊢
   rw[List.map_append]
   exact h3
  obtain rfl:k=0:=by omega
  rw[Nat.sub_zero]at hll hown
  have hcells:=hown.cells (g:=w.heap.size) rfl
  have hconv:=run_convert_bytes_arg (P:=Tryz.prog) wr 152 5 Tryz.underlying152 Tryz.underlying5 w.heap.size 0 (4*ys.length) (4*ys.length) (l.map fun x=>(x.toNat:Int)) (by rw[List.length_map];exact hll.out)
   (fun j hj=>by
    have:=hcells j (.int .u8 ((l.getD j 0).toNat:Nat)) (by
     unfold a5s
     rw[List.getElem?_map,List.getElem?_eq_getElem (by rw[hll.out];exact hj),List.getD_eq_getElem?_getD,List.getElem?_eq_getElem (by rw[hll.out];exact hj)];rfl)
    rw[Addr.add_lit]at this
    rw[this]
    simp[List.getD_eq_getElem?_getD,List.getElem?_map];cases l[j]? <;>simp) 9 Tryz.underlying9
  have e:strOfNums (l.map fun x=>(x.toNat:Int))=bs l:=by
   unfold strOfNums bs
   congr 2
   rw[List.map_map]
   conv=>rhs;rw[<- List.map_id l]
   congr 1
   funext x
   simp
  rw[e]at hconv
  have hsz2:(bs l).size<=1099511627776:=by rw[a2u,hll.out];omega
  have hlv:bv l=n:=by have:=hv.out;rw[List.drop_zero,HY.out,a0k]at this;exact this
  have HL:=zh hlv
  clear hcells hown hlv e
  go_wp2_with fail
  refine(a7n _ _ hsz2).mono ?_
  rintro e w5 ⟨rfl,hw5⟩
  subst w5
  go_wp2
  go_ret
  refine⟨?_,hbw⟩
  rw[a3w,a5g,HL.out]
  rfl
def a5e(l:List Nat):List Value:=l.map fun x=>Value.int .u32 (x:Nat)
theorem d0p{w:World}{base n:Nat}{v:Value}{l:List Nat}(h:w.ownsRow base 124 1 v n (a5e l))(hs:Small l):Limbs w v l:=by
 have hl:=h.1
 unfold a5e at hl
 rw[List.length_map,Nat.mul_one]at hl
 rcases h.2 with ⟨rfl,rfl⟩ | ⟨g,cap,cur,rfl,hb,hg,hc,hm,_,_⟩
 ·have:l=[]:=List.length_eq_zero_iff.1 hl
  subst this
  exact Limbs.nil_ _ _ _ (by decide)
 subst hl
 refine⟨hs,_,cap,rfl,hc,by unfold maxLen at hm;omega,fun h0=>⟨g,0,rfl,(h.lt g rfl).2,fun j hj=>?_⟩⟩
 have:=h.cells (g:=g) rfl j (.int .u32 (l.getD j 0:Nat)) (by
  unfold a5e
  rw[List.getElem?_map,List.getElem?_eq_getElem hj,List.getD_eq_getElem?_getD,List.getElem?_eq_getElem hj];rfl)
 rw[Addr.add_lit]at this
 exact this
theorem b1m{a b:World}{base:Nat}{e:TypeId}{size:Nat}{v:Value}{n:Nat}{xs:List Value}(h:a.ownsRow base e size v n xs)(k:a.grownBy b v.ownBlock)(hB:base<=a.heap.size):Below base a b :=
 ⟨k.os,k.tape,k.output,k.size,fun i hi=>k.block i (by omega) (by intro e;have:=(h.lt i e.symm).1;omega)⟩
theorem top_step{outs:List Nat}{k M r:Nat}(hl:outs.length=k)(hk:k=M)(hr:1<=r):4294967296^M<=lv (outs++[r]):=by
 rw[c4s,hl,hk]
 have:=Nat.mul_le_mul_left (4294967296^M) hr
 rw[Nat.mul_one]at this
 omega
theorem a9r{xs ys outs:List Nat}{k c x y r c':Nat}(hl:outs.length=k)(hx:x=xs.getD k 0)(hy:y=ys.getD k 0)(hr:r=(c+x+y)%4294967296)(hc:c'=(c+x+y)/4294967296)
  (h:lv outs+4294967296^k*c=lv (xs.take k)+lv (ys.take k)):lv (outs++[r])+4294967296^(k+1)*c'=lv (xs.take (k+1))+lv (ys.take (k+1)):=by
 rw[c4s,hl,a0n xs,a0n ys,<-hx,<-hy,Nat.pow_succ,Nat.mul_assoc]
 have hm:=Nat.mod_add_div (c+x+y) 4294967296
 rw[<- hr,<-hc]at hm
 have e:=congrArg (fun z=>4294967296^k*z) hm
 simp only[Nat.mul_add]at e
 omega
theorem b7g{l:List Nat}(hs:Small l)(h:l=[]\/4294967296^(l.length-1)<=lv l):limbsOf (lv l)=l:=by
 rcases h with h | h
 ·subst h;rw[a2q,a0u]
 apply b2v hs
 intro h0
 have hne:l≠[]:=by rintro rfl;simp at h0
 have hp:0<l.length:=List.length_pos_iff.2 hne
 have h1:=a0n l (l.length-1)
 rw[a0x (by omega)]at h1
 have h2:=a5h _ (hs.take (l.length-1))
 rw[List.length_take,Nat.min_eq_left (by omega)]at h2
 have h3:l.getD (l.length-1) 0=0:=by
  rw[List.getLast?_eq_getElem?]at h0
  rw[List.getD_eq_getElem?_getD,h0];rfl
 rw[h3,Nat.mul_zero,Nat.add_zero]at h1
 omega
theorem ref_plus(va vb:Value)(a b:Nat)(w:World)(ha:Limbs w va (limbsOf a))(hb:Limbs w vb (limbsOf b))(la:(limbsOf a).length<=274877906944)(lb:(limbsOf b).length<=274877906944) :
  Calls Tryz.prog 85 #[va,vb] w fun e w'=>∃v',e=.returned v'/\Limbs w' v' (limbsOf (a+b))/\Below w.heap.size w w':=by
 obtain⟨i0,hi,hz0,hz1,hz2⟩:=info_parts c7f
 obtain⟨xs,hxs⟩:∃xs,xs=limbsOf a:=⟨_,rfl⟩
 obtain⟨ys,hys⟩:∃ys,ys=limbsOf b:=⟨_,rfl⟩
 have hax:a=lv xs:=by rw[hxs,a0k]
 have hby:b=lv ys:=by rw[hys,a0k]
 have hat:0<xs.length->4294967296^(xs.length-1)<=a:=fun h=>by
  rw[hxs]at h ⊢
  exact a4x a (fun e=>by rw[e,a0u]at h;simp at h)
 have hbt:0<ys.length->4294967296^(ys.length-1)<=b:=fun h=>by
  rw[hys]at h ⊢
  exact a4x b (fun e=>by rw[e,a0u]at h;simp at h)
 rw[<- hxs]at ha la
 rw[<- hys]at hb lb
 obtain⟨A,ca,rfl,hca,hca'⟩:=ha.slice
 obtain⟨B,cb,rfl,hcb,hcb'⟩:=hb.slice
 have HA:=zh ha
 have HB:=zh hb
 have HAX:=zh hax
 have HBY:=zh hby
 have HAT:=zh hat
 have HBT:=zh hbt
 have HI:=zh hi
 clear ha hb hxs hys hax hby hat hbt hi
 obtain⟨M,hM⟩:∃M,M=max xs.length ys.length:=⟨_,rfl⟩
 go_enter Tryz.func85,Tryz.ntmps85
 go_wp2
 go_loopw [5,6,7] (fun v c i wr=>∃ (k c':Nat) (outs:List Nat),k<=M+1/\i=.int .i64 k/\c=.int .u64 c'/\c'<=1/\Hid (outs.length=k)/\Small outs/\wr.ownsRow w.heap.size 124 1 v k (a5e outs) /\
   Hid (lv outs+4294967296^k*c'=lv (xs.take k)+lv (ys.take k))/\Hid (k=M+1->c'=0/\4294967296^M<=lv outs)/\Below w.heap.size w wr) (fun _ _ i _=>M+1-(intOf i).toNat)
 case atStart=>exact⟨0,0,[],Nat.zero_le _,rfl,rfl,Nat.zero_le _,rfl,a3m,World.ownsRow_nil _ _ _ _,by simp[Hid,a2q],fun h=>by omega,Below.refl _ _⟩
 case round =>
  obtain⟨k,c,outs,hk,rfl,rfl,hc,hlen,hso,hown,hv,htop,hbw⟩:=hrel
  have hbs:=hbw.size
  by_cases h1:k<xs.length
  ·obtain⟨b1,o1,x,rfl,hb1,hx,hx2,hx3⟩:=HA.out.at_ h1
   have hxc:=hx3 wr hbw
   have HX:=zh hx
   clear hx3 hx
   by_cases h2:k<ys.length
   ·obtain⟨b2,o2,y,rfl,hb2,hy,hy2,hy3⟩:=HB.out.at_ h2
    have hyc:=hy3 wr hbw
    have HY:=zh hy
    clear hy3 hy
    have hkM:k<M:=by omega
    obtain⟨t,ht⟩:∃t,t=c+x+y:=⟨_,rfl⟩
    have htb:t<=8589934591:=by omega
    obtain⟨r,hr⟩:∃r,r=t%4294967296:=⟨_,rfl⟩
    obtain⟨c2,hc2⟩:∃c2,c2=t/4294967296:=⟨_,rfl⟩
    have hrb:r<4294967296:=by omega
    have hc2b:c2<=1:=by omega
    have E0:(c:Int)+x+y=(t:Int):=by omega
    have E1:(t:Int)%4294967296=(r:Int):=by omega
    have E2:(t:Int)/4294967296=(c2:Int):=by omega
    have HV:=zh (a9r (r:=r) (c':=c2) hlen.out HX.out HY.out (by rw[hr,ht]) (by rw[hc2,ht]) hv.out)
    have HTOP:Hid (k+1=M+1->c2=0/\4294967296^M<=lv (outs++[r])):=fun h=>absurd h (by omega)
    clear ht hr hc2
    go_wp2_with (at_builtin;refine wpList_append_own _ rfl _ _ 121 rfl w.heap.size 124 i0 (.int .u32 0) 1 4 Tryz.underlying121 HI.out hz0 hz1 hz2 rfl (by decide) _ _ _ rfl (hown.alloc _) ⟨wr.heap.size,0,none⟩ 1 1 [.int .u32 (r:Nat)] rfl rfl ?c1 ?c2 ?c3 ?c4 ?c5 ?_)
    case c1 =>
     intro j u hj
     match j,hj with
     | 0,hj=>simp at hj;subst hj;simp[Addr.add]
    case c2=>intro u hu;simp at hu;subst hu;rfl
    case c3=>unfold maxLen;omega
    case c4=>omega
    case c5=>rw[size_alloc];omega
    intro v3 w3 hown3 hgrow3 _
    have hB:=(hbw.alloc hbs _).trans (b1m (hown.alloc _) hgrow3 (by rw[size_alloc];omega))
    have H3:=zh hown3
    clear hown hown3 hgrow3
    go_wp2
    exact⟨⟨k+1,c2,outs++[r],by omega,by go_num,rfl,hc2b,by show _=_;rw[List.length_append,hlen.out];rfl,small_append.2 ⟨hso,by rw[small_cons];exact⟨hrb,a3m⟩⟩,by have h3:=H3.out;unfold a5e at h3 ⊢;rw[List.map_append];exact h3,HV,HTOP,hB⟩,by simp[intOf];omega⟩
   have hkM:k<M:=by omega
   obtain⟨t,ht⟩:∃t,t=c+x+0:=⟨_,rfl⟩
   have htb:t<=8589934591:=by omega
   obtain⟨r,hr⟩:∃r,r=t%4294967296:=⟨_,rfl⟩
   obtain⟨c2,hc2⟩:∃c2,c2=t/4294967296:=⟨_,rfl⟩
   have hrb:r<4294967296:=by omega
   have hc2b:c2<=1:=by omega
   have E0:(c:Int)+x=(t:Int):=by omega
   have E1:(t:Int)%4294967296=(r:Int):=by omega
   have E2:(t:Int)/4294967296=(c2:Int):=by omega
   have HV:=zh (a9r (r:=r) (c':=c2) hlen.out HX.out (a6d (xs:=ys) (by omega)).symm (by rw[hr,ht]) (by rw[hc2,ht]) hv.out)
   have HTOP:Hid (k+1=M+1->c2=0/\4294967296^M<=lv (outs++[r])):=fun h=>absurd h (by omega)
   clear ht hr hc2
   go_wp2_with (at_builtin;refine wpList_append_own _ rfl _ _ 121 rfl w.heap.size 124 i0 (.int .u32 0) 1 4 Tryz.underlying121 HI.out hz0 hz1 hz2 rfl (by decide) _ _ _ rfl (hown.alloc _) ⟨wr.heap.size,0,none⟩ 1 1 [.int .u32 (r:Nat)] rfl rfl ?c1 ?c2 ?c3 ?c4 ?c5 ?_)
   case c1 =>
    intro j u hj
    match j,hj with
    | 0,hj=>simp at hj;subst hj;simp[Addr.add]
   case c2=>intro u hu;simp at hu;subst hu;rfl
   case c3=>unfold maxLen;omega
   case c4=>omega
   case c5=>rw[size_alloc];omega
   intro v3 w3 hown3 hgrow3 _
   have hB:=(hbw.alloc hbs _).trans (b1m (hown.alloc _) hgrow3 (by rw[size_alloc];omega))
   have H3:=zh hown3
   clear hown hown3 hgrow3
   go_wp2
   exact⟨⟨k+1,c2,outs++[r],by omega,by go_num,rfl,hc2b,by show _=_;rw[List.length_append,hlen.out];rfl,small_append.2 ⟨hso,by rw[small_cons];exact⟨hrb,a3m⟩⟩,by have h3:=H3.out;unfold a5e at h3 ⊢;rw[List.map_append];exact h3,HV,HTOP,hB⟩,by simp[intOf];omega⟩
  by_cases h2:k<ys.length
  ·obtain⟨b2,o2,y,rfl,hb2,hy,hy2,hy3⟩:=HB.out.at_ h2
   have hyc:=hy3 wr hbw
   have HY:=zh hy
   clear hy3 hy
   have hkM:k<M:=by omega
   obtain⟨t,ht⟩:∃t,t=c+0+y:=⟨_,rfl⟩
   have htb:t<=8589934591:=by omega
   obtain⟨r,hr⟩:∃r,r=t%4294967296:=⟨_,rfl⟩
   obtain⟨c2,hc2⟩:∃c2,c2=t/4294967296:=⟨_,rfl⟩
   have hrb:r<4294967296:=by omega
   have hc2b:c2<=1:=by omega
   have E0:(c:Int)+y=(t:Int):=by omega
   have E1:(t:Int)%4294967296=(r:Int):=by omega
   have E2:(t:Int)/4294967296=(c2:Int):=by omega
   have HV:=zh (a9r (r:=r) (c':=c2) hlen.out (a6d (xs:=xs) (by omega)).symm HY.out (by rw[hr,ht]) (by rw[hc2,ht]) hv.out)
   have HTOP:Hid (k+1=M+1->c2=0/\4294967296^M<=lv (outs++[r])):=fun h=>absurd h (by omega)
   clear ht hr hc2
   go_wp2_with (at_builtin;refine wpList_append_own _ rfl _ _ 121 rfl w.heap.size 124 i0 (.int .u32 0) 1 4 Tryz.underlying121 HI.out hz0 hz1 hz2 rfl (by decide) _ _ _ rfl (hown.alloc _) ⟨wr.heap.size,0,none⟩ 1 1 [.int .u32 (r:Nat)] rfl rfl ?c1 ?c2 ?c3 ?c4 ?c5 ?_)
   case c1 =>
    intro j u hj
    match j,hj with
    | 0,hj=>simp at hj;subst hj;simp[Addr.add]
   case c2=>intro u hu;simp at hu;subst hu;rfl
   case c3=>unfold maxLen;omega
   case c4=>omega
   case c5=>rw[size_alloc];omega
   intro v3 w3 hown3 hgrow3 _
   have hB:=(hbw.alloc hbs _).trans (b1m (hown.alloc _) hgrow3 (by rw[size_alloc];omega))
   have H3:=zh hown3
   clear hown hown3 hgrow3
   go_wp2
   exact⟨⟨k+1,c2,outs++[r],by omega,by go_num,rfl,hc2b,by show _=_;rw[List.length_append,hlen.out];rfl,small_append.2 ⟨hso,by rw[small_cons];exact⟨hrb,a3m⟩⟩,by have h3:=H3.out;unfold a5e at h3 ⊢;rw[List.map_append];exact h3,HV,HTOP,hB⟩,by simp[intOf];omega⟩
  by_cases hc0:0<c
  ·have hkM:Hid (k=M):=by
    show _=_
    rcases Nat.lt_or_ge M k with h | h
    ·have:=(htop.out (by omega)).1;omega
    omega
   have hk1:k<=M:=Nat.le_of_eq hkM.out
   have hk2:M<=k:=Nat.le_of_eq hkM.out.symm
   have E2:(c:Int)/4294967296=0:=by omega
   have HV:=zh (a9r (x:=0) (y:=0) (r:=c) (c':=0) hlen.out (a6d (xs:=xs) (by omega)).symm (a6d (xs:=ys) (by omega)).symm (by omega) (by omega) hv.out)
   have hrb:c<4294967296:=by omega
   have hMb:M<=274877906944:=by omega
   have HC0:=zh hc0
   clear hM
   go_wp2_with (at_builtin;refine wpList_append_own _ rfl _ _ 121 rfl w.heap.size 124 i0 (.int .u32 0) 1 4 Tryz.underlying121 HI.out hz0 hz1 hz2 rfl (by decide) _ _ _ rfl (hown.alloc _) ⟨wr.heap.size,0,none⟩ 1 1 [.int .u32 (c:Nat)] rfl rfl ?c1 ?c2 ?c3 ?c4 ?c5 ?_)
   case c2=>first | rfl | (intro u hu;simp at hu;subst hu;rfl)
   case c3=>unfold maxLen;omega
   case c4=>omega
   case c5=>first | omega | (rw[size_alloc];omega)
   ·intro j u hj
    match j,hj with
    | 0,hj=>simp at hj;subst hj;simp[Addr.add]
   intro v3 w3 hown3 hgrow3 _
   have hB:=(hbw.alloc hbs _).trans (b1m (hown.alloc _) hgrow3 (by rw[size_alloc];omega))
   have H3:=zh hown3
   clear hown hown3 hgrow3
   go_wp2
   have HTOP:Hid (k+1=M+1->(0:Nat)=0/\4294967296^M<=lv (outs++[c])):=fun _=>⟨rfl,top_step hlen.out hkM.out HC0.out⟩
   exact⟨⟨k+1,0,outs++[c],by omega,by go_num,rfl,Nat.zero_le _,by show _=_;rw[List.length_append,hlen.out];rfl,small_append.2 ⟨hso,by rw[small_cons];exact⟨hrb,a3m⟩⟩,by have h3:=H3.out;unfold a5e at h3 ⊢;rw[List.map_append];exact h3,HV,HTOP,hB⟩,by simp[intOf];omega⟩
  have hc1:c=0:=by omega
  subst hc1
  have hfin:lv outs=a+b:=by
   have:=hv.out
   rw[a0x (by omega),a0x (by omega),<-HAX.out,<-HBY.out,Nat.mul_zero,Nat.add_zero]at this
   exact this
  have hcan:limbsOf (lv outs)=outs:=by
   refine b7g hso ?_
   rw[hlen.out]
   rcases Nat.eq_zero_or_pos k with h0 | h0
   ·left;exact List.length_eq_zero_iff.1 (by rw[hlen.out];exact h0)
   right
   rcases Nat.lt_or_ge M k with h | h
   ·have:=(htop.out (by omega)).2
    rwa[show k-1=M by omega]
   rw[hfin]
   rcases Nat.lt_or_ge xs.length ys.length with h3 | h3
   ·have:=HBT.out (by omega)
    rw[show k-1=ys.length-1 by omega];omega
   have:=HAT.out (by omega)
   rw[show k-1=xs.length-1 by omega];omega
  have HL:Hid (Limbs wr _ outs):=d0p hown hso
  have HF:=zh hfin
  have HC:=zh hcan
  clear hown hfin hcan
  go_wp2
  go_ret
  refine⟨_,rfl,?_,hbw⟩
  rw[<- HF.out,HC.out]
  exact HL.out
theorem b5g(va:Value)(xs:List Nat)(s:Nat)(w:World)(ha:Limbs w va xs)(hs:s<32)(hsz:xs.length<=274877906944) :
  Calls Tryz.prog 152 #[va,.int .u64 s] w fun e w'=>∃outs,e=.returned (.slice (some ⟨w.heap.size,0,none⟩) (xs.length+1) (xs.length+1))/\Hid (outs.length=xs.length+1)/\Small outs/\Hid (lv outs=lv xs*2^s)/\Row w' w.heap.size outs/\Below w.heap.size w w':=by
 obtain⟨A,ca,rfl,hca,hca'⟩:=ha.slice
 have hmk:=a1s 121 Tryz.underlying121 ((xs.length:Int)+1) (xs.length+1) (by omega) (by omega)
 have Ha:=zh ha
 have hsm:=ha.small
 clear ha
 go_enter Tryz.func152,Tryz.ntmps152
 go_wp2
 go_loopw [6] (fun i wr=>∃ (i':Nat) (outs:List Nat),i'<=xs.length/\i=.int .i64 i'/\Hid (outs.length=xs.length+1)/\Row wr w.heap.size outs/\Small outs /\
   Hid (lv outs=lv (xs.take i')*2^s)/\Below w.heap.size w wr) (fun i _=>xs.length-(intOf i).toNat)
 case atStart=>exact⟨0,_,Nat.zero_le _,rfl,by simp[Hid],Row.made _ _,a1h _,by simp[Hid,a2q,a5m],(Below.refl _ _).alloc (Nat.le_refl _) _⟩
 case round =>
  obtain⟨i,outs,hi,rfl,hlen,hrow,hso,hv,hbw⟩:=hrel
  by_cases hlt:i<xs.length
  ·obtain⟨b1,o1,u,rfl,hb1,hx,hx2,hx3⟩:=Ha.out.at_ hlt
   have hxc:=hx3 wr hbw
   have hcur:=hrow.cell (i:=i) (by rw[hlen.out];omega)
   have hfr:=hrow.frozen i
   have hfr2:=hrow.frozen (i+1)
   obtain⟨o,ho⟩:∃o,o=outs.getD i 0:=⟨_,rfl⟩
   obtain⟨t,ht⟩:∃t,t=u*2^s:=⟨_,rfl⟩
   obtain⟨f1,f2,f3,f4,f5,f6,f7⟩:=c6e hs hso hx hx2 ho (by rw[hlen.out];omega) ht hsm hlt hv.out
   rw[hlen.out]at f6 f7
   rw[<- ho]at hcur
   have h231:(2:Nat)^s<=2147483648:=by
    have:=Nat.pow_le_pow_right (show 0<2 by decide) (show s<=31 by omega)
    have e:(2:Nat)^31=2147483648:=by decide
    omega
   have ht63:t<9223372036854775808:=by
    have:4294967296*2^s<=4294967296*2147483648:=Nat.mul_le_mul_left _ h231
    omega
   have hw:IntKind.u64.wrap ((u:Int)*2^s)=(t:Int):=by
    have e:(u:Int)*2^s=(t:Int):=by rw[ht,Int.natCast_mul,Int.natCast_pow];rfl
    rw[e,IntKind.wrap_u64];omega
   have ho2:o<4294967296:=by rw[ho];exact hso.get _
   obtain⟨p,hp⟩:∃p,p=o+t%4294967296:=⟨_,rfl⟩
   obtain⟨c,hc⟩:∃c,c=t/4294967296:=⟨_,rfl⟩
   rw[<- hp]at f1 f2
   rw[<- hp,<-hc]at f6
   rw[<- hc]at f5
   have hb1':bits .or .u32 (o:Int) ((t:Int)%4294967296)=(p:Int):=by
    rw[<- f1,<-u32_or_nat o _ ho2 (Nat.mod_lt _ (by decide))]
    simp
   have hdiv:(t:Int)/4294967296=(c:Int):=by rw[hc];simp
   have hcur2:=hrow.cell (i:=i+1) (by rw[hlen.out];omega)
   have H:=zh (f6 (by omega))
   clear f1 f3 f4 f6 f7 hx hx3 ho ht hc hp ht63 h231
   go_wp2
   go_roundw
   case rel=>exact⟨i+1,_,by omega,by go_num,by show _=_;rw[List.length_set,List.length_set];exact hlen.out,(hrow.set_ i p).set_ (i+1) c,a0m (a0m hso _ f2) _ f5,H,(hbw.setCell (Nat.le_refl _) _).setCell (Nat.le_refl _) _⟩
   case measure=>simp[intOf];omega
  obtain rfl:i=xs.length:=by omega
  go_wp2
  go_ret
  exact⟨outs,rfl,hlen,hso,by rw[a0x (Nat.le_refl _)]at hv;exact hv,hrow,hbw⟩
end Go.Proofs.YtjmiicjialkpiaaGreatDoor
