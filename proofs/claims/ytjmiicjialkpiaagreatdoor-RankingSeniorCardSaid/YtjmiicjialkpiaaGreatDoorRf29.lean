/-
Part 29 of the base.
-/
import Derived.Test.YtjmiicjialkpiaaGreatDoorRf25
import Derived.Test.YtjmiicjialkpiaaGreatDoorRf41
set_option maxRecDepth 100000
set_option maxHeartbeats 2000000
namespace Go.Proofs.YtjmiicjialkpiaaGreatDoor
open Go.RowKit
section
variable {α : Type} {enc : α -> List Value} {P : Program}
theorem a1e(w:World){ops:Array Oper}{rest:List Oper}{o:Oper}{a:Act}{Q:Exit->Act->World->Prop}(hgd:o.guard=none)(s x:Operand)(t:TypeId)
  (ho:o.op=.call {callee:=.builtin .append,args:=#[s,x],argTypes:=#[t,t]})
  (base:Nat) (e:TypeId) (i:TypeInfo) (z:Value) (size bytes:Nat) (ht:P.underlying t=some (.slice e)) (hi:P.info? e=some i) (hz:i.zero=some z)
  (hsize:i.size=size) (hby:i.bytes=bytes) (hzs:z.cells.size=size) (hsz:0<size) (hk:∀y,(enc y).length=size)
  (v:Value) (n:Nat) (xs:List α) (hs:a.eval s=v) (hown:w.ownsRow base e size v n (flat enc xs)) (y:α) (g:Nat) (cs:Array Value) (hB:Blk w g cs e) (hcs:cs.toList=enc y) (hx:a.eval x=.slice (some ⟨g,0,none⟩) 1 1)
  (h1:∀u∈enc y,u.oneCell'=true) (h63:n+1<=maxLen) (hbytes:(n+1)*bytes<=140737488355328) (hbase:base<=w.heap.size)
  (h:∀v' w',w'.ownsRow base e size v' (n+1) (flat enc (xs++[y]))->w.grownBy w' v.ownBlock->wpList P ops Q rest (a.put o.dst v') w'):wpList P ops Q (o::rest) a w:=by
 refine wpList_append_own w hgd s x t ho base e i z size bytes ht hi hz hsize hby hzs hsz v n (flat enc xs) hs hown ⟨g,0,none⟩ 1 1 (enc y) hx (by rw[hk,Nat.one_mul]) ?_ h1 h63 hbytes hbase ?_
 ·intro j u hu
  rw[Addr.add_lit,Nat.zero_add,hB.cell j u]
  rw[<- Array.getElem?_toList,hcs];exact hu
 intro v' w' hown' hg _
 exact h v' w' (by rw[a2s];simpa [flat]using hown') hg
end
theorem info_nmd:(Tryz.prog.info? 53).map (fun i=>(i.zero,i.size,i.bytes))=some (some (.agg #[.string (bs []),.int .i64 0,.bool false,.string (bs []),.string (bs [])]),5,64):=by kernel_rfl
theorem nmd_info:∃i,Tryz.prog.info? 53=some i/\i.zero=some (.agg #[.string (bs []),.int .i64 0,.bool false,.string (bs []),.string (bs [])])/\i.size=5/\i.bytes=64:=by
 obtain⟨i,hi,hzz⟩:=Option.map_eq_some_iff.1 info_nmd
 simp only[Prod.mk.injEq]at hzz
 exact⟨i,hi,hzz⟩
theorem d0u(c:Nmd):∀u∈c.enc,u.oneCell'=true:=by
 intro u hu
 unfold Nmd.enc at hu
 simp only[List.mem_cons,List.mem_nil_iff,or_false]at hu
 rcases hu with rfl | rfl | rfl | rfl | rfl<;>rfl
theorem c8q(x:Nat)(w:World)(hx:x<8) :
  Calls Tryz.prog 16 #[.int .u16 (x:Nat)] w fun e w'=>e=.returned (.string (bs (nmA x)))/\Below w.heap.size w w':=by
 have hk:x=0\/x=1\/x=2\/x=3\/x=4\/x=5\/x=6\/x=7:=by omega
 rcases hk with h | h | h | h | h | h | h | h
 ·have hn:nmA x=[97]:=by rw[h];rfl
  rw[hn]
  have h2:Int.tmod (x:Int) 12=0:=by rw[Int.tmod_eq_emod_of_nonneg (by omega)];omega
  clear h hn hx
  go_enter Tryz.func16,Tryz.ntmps16
  go_wp2
  go_ret
  exact⟨rfl,Ext.alloc (Below.refl _ _) _⟩
 ·have hn:nmA x=[98]:=by rw[h];rfl
  rw[hn]
  have h2:Int.tmod (x:Int) 12=1:=by rw[Int.tmod_eq_emod_of_nonneg (by omega)];omega
  clear h hn hx
  go_enter Tryz.func16,Tryz.ntmps16
  go_wp2
  go_ret
  exact⟨rfl,Ext.alloc (Below.refl _ _) _⟩
 ·have hn:nmA x=[99]:=by rw[h];rfl
  rw[hn]
  have h2:Int.tmod (x:Int) 12=2:=by rw[Int.tmod_eq_emod_of_nonneg (by omega)];omega
  clear h hn hx
  go_enter Tryz.func16,Tryz.ntmps16
  go_wp2
  go_ret
  exact⟨rfl,Ext.alloc (Below.refl _ _) _⟩
 ·have hn:nmA x=[100]:=by rw[h];rfl
  rw[hn]
  have h2:Int.tmod (x:Int) 12=3:=by rw[Int.tmod_eq_emod_of_nonneg (by omega)];omega
  clear h hn hx
  go_enter Tryz.func16,Tryz.ntmps16
  go_wp2
  go_ret
  exact⟨rfl,Ext.alloc (Below.refl _ _) _⟩
 ·have hn:nmA x=[101]:=by rw[h];rfl
  rw[hn]
  have h2:Int.tmod (x:Int) 12=4:=by rw[Int.tmod_eq_emod_of_nonneg (by omega)];omega
  clear h hn hx
  go_enter Tryz.func16,Tryz.ntmps16
  go_wp2
  go_ret
  exact⟨rfl,Ext.alloc (Below.refl _ _) _⟩
 ·have hn:nmA x=[102]:=by rw[h];rfl
  rw[hn]
  have h2:Int.tmod (x:Int) 12=5:=by rw[Int.tmod_eq_emod_of_nonneg (by omega)];omega
  clear h hn hx
  go_enter Tryz.func16,Tryz.ntmps16
  go_wp2
  go_ret
  exact⟨rfl,Ext.alloc (Below.refl _ _) _⟩
 ·have hn:nmA x=[103]:=by rw[h];rfl
  rw[hn]
  have h2:Int.tmod (x:Int) 12=6:=by rw[Int.tmod_eq_emod_of_nonneg (by omega)];omega
  clear h hn hx
  go_enter Tryz.func16,Tryz.ntmps16
  go_wp2
  go_ret
  exact⟨rfl,Ext.alloc (Below.refl _ _) _⟩
 have hn:nmA x=[104]:=by rw[h];rfl
 rw[hn]
 have h2:Int.tmod (x:Int) 12=7:=by rw[Int.tmod_eq_emod_of_nonneg (by omega)];omega
 clear h hn hx
 go_enter Tryz.func16,Tryz.ntmps16
 go_wp2
 go_ret
 exact⟨rfl,Ext.alloc (Below.refl _ _) _⟩
theorem c8p(v:Value)(ts:List Duo)(w:World)(h:Duos w v ts)(hok:∀t∈ts,t.ok) :
  Calls Tryz.prog 4 #[v] w fun e w'=>∃v',e=.returned v'/\NmdL w' v' (a7s ts)/\Below w.heap.size w w':=by
 obtain⟨i0,hi0,hz0,hz1,hz2⟩:=nmd_info
 have HI:=zh hi0
 have HZ0:=zh hz0
 have H:=zh h
 have HOK:=zh hok
 obtain⟨A,c,rfl,hl,hc⟩:=h.slice
 clear h hok hi0 hz0
 go_enter Tryz.func4,Tryz.ntmps4
 have HS:=zh (St.start w)
 go_wp2
 go_loopw [3,4] (fun l i wr=>∃k:Nat,k<=ts.length/\k<=8/\i=.int .i64 k/\Hid (Grows wr w.heap.size 53 5 l k (flat Nmd.enc (namF 0 (ts.take k))))/\Hid (St w [] wr)) (fun _ i _=>ts.length-(intOf i).toNat)
 case atStart=>exact⟨0,Nat.zero_le _,Nat.zero_le _,rfl,World.ownsRow_nil _ _ _ _,HS.out⟩
 case round =>
  obtain⟨k,hk,hk8,rfl,HG,HS⟩:=hrel
  obtain⟨wo,hwo⟩:∃wo:World,wo=wr:=⟨_,rfl⟩
  subst hwo
  have HLN:Hid ((namF 0 (ts.take k)).length=k):=zh (by rw[c0g,List.length_take];omega)
  by_cases hlt:k<ts.length
  ·by_cases hlt8:k<8
   ·obtain⟨b,o,t,rfl,hbb,ht,hx⟩:=H.out.at_ hlt
    obtain⟨ok1,ok2⟩:=HOK.out t (List.mem_of_getElem? ht)
    have hft:=c8g ht
    have hA:=fun W=>b0q t.b W ok2
    have hN:=fun W=>c8q k W hlt8
    have henc:Hid ((namN k t).enc=[.string (bs (nmA k)),.int .i64 (1+(t.a:Int)%4),.bool (negB (a2f t.b)),.string (bs (numB (a2f t.b))),.string (bs (a0a (a2f t.b)))]):=zh rfl
    generalize a2f t.b=am at *
    generalize nmA k=nm at *
    unfold rat raw at hA
    have HA:=zh hA
    have HN:=zh hN
    have HX:=zh hx
    have HFT:=zh hft
    clear hA hN hx ht hft
    generalize namF 0 (ts.take k)=out at *
    have e1:Int.tmod (t.a:Int) 4=(t.a:Int)%4:=Int.tmod_eq_emod_of_nonneg (by omega)
    have e4:IntKind.u16.wrap ((t.a:Int)%4)=(t.a:Int)%4:=by rw[IntKind.wrap_u16];omega
    have e5:IntKind.u16.wrap (k:Int)=(k:Int):=by rw[IntKind.wrap_u16];omega
    have e7:IntKind.i64.wrap ((t.a:Int)%4)=(t.a:Int)%4:=IntWalk.i64_in _ (by omega)
    have e8:IntKind.i64.wrap (1+(t.a:Int)%4)=1+(t.a:Int)%4:=IntWalk.i64_in _ (by omega)
    have i5:IntKind.i64.wrap ((k:Int)+1)=((k+1:Nat):Int):=by rw[IntWalk.i64_in _ (by omega)];rfl
    have f6:((k:Nat):Int)<(ts.length:Int):=by omega
    have f7:(0:Int)<=((k:Nat):Int):=by omega
    have f8:decide (((k:Nat):Int)<8)=true:=decide_eq_true (by omega)
    have f9:decide (((k:Nat):Int)<(ts.length:Int))=true:=decide_eq_true f6
    go_wp2
    refine a0d 20 [eQ (u3),eQ (.int .i64 (k:Nat)),eQ (.int .u16 (k:Nat)),eQ (.string (bs nm)),eQ (.slice (some ⟨b,o,none⟩) ts.length c),eQ (.int .i64 (k:Nat)),eQ (.pointer (some ⟨b,o+k*2,none⟩)),eQ (.pointer (some ⟨b,o+k*2,none⟩)),eQ (.int .u16 (t.a:Nat)),eQ (.int .u16 ((t.a:Int)%4)),eQ (.int .i64 ((t.a:Int)%4)),eQ (.int .i64 (1+(t.a:Int)%4)),eQ (.slice (some ⟨b,o,none⟩) ts.length c),eQ (.int .i64 (k:Nat)),eQ (.pointer (some ⟨b,o+k*2,none⟩)),eQ (.pointer (some ⟨b,o+k*2+1,none⟩)),eQ (.int .u16 (t.b:Nat)),eQ (.agg #[.bool (negB (am)),.string (bs (numB (am))),.string (bs (a0a (am)))]),eQ (.agg #[.string (bs nm),.int .i64 (1+(t.a:Int)%4),.bool (negB (am)),.string (bs (numB (am))),.string (bs (a0a (am)))]),fun ww vv=>∃g,vv=.slice (some ⟨g,0,none⟩) 1 1/\wo.heap.size<=g/\Blk ww g #[.string (bs nm),.int .i64 (1+(t.a:Int)%4),.bool (negB (am)),.string (bs (numB (am))),.string (bs (a0a (am)))] 53] rfl (by kernel_rfl) (by kernel_rfl) (by kernel_rfl) ⟨stE,stE,stE,stE,stE,stE,stE,stE,stE,stE,stE,stE,stE,stE,stE,stE,stE,stE,stE,fun _ _ _ ⟨g,e,hg,h⟩ hb=>⟨g,e,hg,h.below hb h.lt⟩,trivial⟩ ?_ ?_
    refine⟨?_,?_,?_,?_,?_,?_,?_,?_,?_,?_,?_,?_,?_,?_,?_,?_,?_,?_,?_,?_,trivial⟩<;>(intro xx af wv hbx hev hev0 hd;have H:=SH.mk hev hev0 hd;clear hev hev0 hd)
    ·have e3:=H.i 3;clear H;go_wp2;exact sQ rfl
    ·have e4:=H.i 4;clear H;go_wp2;exact sQ rfl
    ·have e16:=H.r 1 16;clear H;go_wp2;exact sQ rfl
    ·have e17:=H.r 2 17;clear H
     go_wp2_with fail
     refine(HN.out _).mono ?_
     rintro e w8 ⟨rfl,hb8⟩;go_wp2;exact StepQ.mk _ hb8 rfl
    ·have e0:=H.i 0;clear H;go_wp2;exact sQ rfl
    ·have e4:=H.i 4;clear H;go_wp2;exact sQ rfl
    ·have e19:=H.r 4 19;have e20:=H.r 5 20;clear H;go_wp2;exact sQ rfl
    ·have e21:=H.r 6 21;clear H;go_wp2;exact sQ rfl
    ·have e22:=H.r 7 22;clear H;have hs1:=zh (HS.out.call hbx);have y0:=HX.out _ hs1.out.below 0 _ rfl;rw[Nat.add_zero]at y0;go_wp2;exact sQ rfl
    ·have e23:=H.r 8 23;clear H;go_wp2;exact sQ rfl
    ·have e24:=H.r 9 24;clear H;go_wp2;exact sQ rfl
    ·have e25:=H.r 10 25;clear H;go_wp2;exact sQ rfl
    ·have e0:=H.i 0;clear H;go_wp2;exact sQ rfl
    ·have e4:=H.i 4;clear H;go_wp2;exact sQ rfl
    ·have e27:=H.r 12 27;have e28:=H.r 13 28;clear H;go_wp2;exact sQ rfl
    ·have e29:=H.r 14 29;clear H;go_wp2;exact sQ rfl
    ·have e30:=H.r 15 30;clear H;have hs1:=zh (HS.out.call hbx);have y0:=HX.out _ hs1.out.below 1 _ rfl;go_wp2;exact sQ rfl
    ·have e31:=H.r 16 31;clear H
     go_wp2_with fail
     refine(HA.out _).mono ?_
     rintro e w8 ⟨rfl,hb8⟩;go_wp2;exact StepQ.mk _ hb8 rfl
    ·have e18:=H.r 3 18;have e26:=H.r 11 26;have e32:=H.r 17 32;clear H;go_wp2;exact sQ rfl
    ·have e33:=H.r 18 33;clear H;go_wp2;exact StepQ.mk _ (Ext.alloc (Below.refl _ _) _) ⟨_,rfl,hbx.size,Blk.new _ _ _⟩
    intro xx w2 hb9 hv
    obtain⟨g2,hv19,hlg19,hB19⟩:=hv 19 (by decide)
    simp only[List.take,List.drop,a0h,Act.put]
    simp only[vQ hv 0,vQ hv 1,vQ hv 2,vQ hv 3,vQ hv 4,vQ hv 5,vQ hv 6,vQ hv 7,vQ hv 8,vQ hv 9,vQ hv 10,vQ hv 11,vQ hv 12,vQ hv 13,vQ hv 14,vQ hv 15,vQ hv 16,vQ hv 17,vQ hv 18,hv19]
    clear hv hv19
    have HS2:=zh (HS.out.fill hb9 hlg19 hB19)
    clear hlg19 hB19
    have HG_2:=zh (HG.out.below hb9)
    clear HG hb9 HS
    try simp only[List.setIfInBounds_toArray,List.set_cons_zero,List.set_cons_succ]
    have hsz:=HS2.out.below.size
    have HB9:=zh HS2.out.below
    have hblk:=HS2.out.blk 0 rfl
    have hgr:World.ownsRow w2 w.heap.size 53 5 u3 k (flat Nmd.enc out):=HG_2.out
    go_wp2_with (at_builtin;refine b6v _ rfl _ _ 25 rfl w.heap.size 53 i0 _ 5 64 Tryz.underlying25 HI.out HZ0.out hz1 hz2 rfl (by decide) c4n u3 k out (by simp[Act.eval]) hgr (namN k t) g2 _ hblk ?c1 (by simp[Act.eval]) (d0u _) (by unfold maxLen;omega) (by omega) hsz ?_)
    case c1=>exact henc.out.symm
    intro v2 w2 hown2 hb2
    rw[<- HFT.out]at hown2
    have HG2:=zh hown2
    have HS9:=zh (St.of (HB9.out.trans hb2))
    clear hown2 hblk hgr hb2 HS2 HG_2 HFT
    go_wp2
    go_roundw
    case rel=>exact⟨k+1,by omega,by omega,by go_num,HG2.out,HS9.out⟩
    case measure=>simp[intOf];omega
   obtain rfl:k=8:=by omega
   have e9:decide ((8:Int)<(ts.length:Int))=true:=decide_eq_true (by omega)
   go_wp2
   go_ret
   exact⟨_,rfl,Slc.of_own c4n HG.out HLN.out,HS.out.below⟩
  obtain rfl:k=ts.length:=by omega
  go_wp2
  go_ret
  have hvo:a7s ts=namF 0 (ts.take ts.length):=by unfold a7s;rw[List.take_length,List.take_of_length_le hk8]
  rw[hvo]
  exact⟨_,rfl,Slc.of_own c4n HG.out HLN.out,HS.out.below⟩
set_option maxHeartbeats 4000000
theorem a2w:(Tryz.prog.info? 51).map (·.size)=some 8:=by kernel_rfl
theorem a9w(r:CRow)(h:r.v.oneCell'=true):∀u∈r.enc,u.oneCell'=true:=by
 intro u hu
 unfold CRow.enc at hu
 simp only[List.mem_cons,List.mem_nil_iff,or_false]at hu
 rcases hu with rfl | rfl | rfl | rfl | rfl | rfl | rfl | rfl<;>first | rfl | exact h
def ClsO(w:World)(base:Nat)(v:Value)(l:List Cls):Prop:=∃rs:List CRow,World.ownsRow w base 51 8 v rs.length (flat CRow.enc rs)/\rs.map (·.c)=l/\∀r∈rs,World.ownsRow w base 9 1 r.v r.c.list.length (flat strE r.c.list)
section
variable {w w' : World} {base : Nat} {v : Value} {l : List Cls}
theorem ClsO.nil(w:World)(base:Nat):ClsO w base (.slice none 0 0) []:=⟨[],World.ownsRow_nil _ _ _ _,rfl,fun r hr=>by cases hr⟩
theorem ClsO.below(h:ClsO w base v l)(hb:Below w.heap.size w w'):ClsO w' base v l:=by
 obtain⟨rs,h1,h2,h3⟩:=h
 exact⟨rs,Grows.below h1 hb,h2,fun r hr=>Grows.below (h3 r hr) hb⟩
theorem ClsO.toL(h:ClsO w base v l):ClsL w v l:=by
 obtain⟨rs,h1,h2,h3⟩:=h
 exact⟨rs,Slc.of_own a7w h1 rfl,h2,fun r hr=>Slc.of_own a3h (h3 r hr) rfl⟩
theorem ClsO.push{u v':Value}{c:Cls}{rs:List CRow}(hm:rs.map (·.c)=l)(h1:World.ownsRow w base 51 8 v rs.length (flat CRow.enc rs))(h3:∀r∈rs,World.ownsRow w base 9 1 r.v r.c.list.length (flat strE r.c.list))
  (hu:World.ownsRow w base 9 1 u c.list.length (flat strE c.list)) (ho:World.ownsRow w' base 51 8 v' (rs.length+1) (flat CRow.enc (rs++[⟨c,u⟩]))) (hg:w.grownBy w' v.ownBlock):ClsO w' base v' (l++[c]):=by
 refine⟨rs++[⟨c,u⟩],by rw[List.length_append];exact ho,by rw[List.map_append,hm];rfl,fun r hr=>?_⟩
 rcases List.mem_append.1 hr with hr | hr
 ·exact a3b (h3 r hr) hg (a3x h1 (by decide))
 rw[List.mem_singleton.1 hr]
 exact a3b hu hg (a3x h1 (by decide))
end
theorem clsN0{x:Qua}(h:x.a%4=0):clsN x=⟨1,nmZ (6+x.b%3),[],b0p x (1+x.d%3),zero3,0⟩:=by unfold clsN;rw[if_pos h]
theorem clsN1{x:Qua}(h:x.a%4=1):clsN x=⟨2,nmZ (x.b%9),nmZ (x.c%9),[],zero3,0⟩:=by unfold clsN;rw[if_neg (by omega),if_pos h]
theorem clsN2{x:Qua}(h:x.a%4=2):clsN x=⟨3,nmZ (x.b%6),[],[],enc3 (a2f x.c),0⟩:=by unfold clsN;rw[if_neg (by omega),if_neg (by omega),if_pos h]
theorem clsN3{x:Qua}(h:x.a%4=3):clsN x=⟨4,nmZ (x.b%9),[],[],zero3,0⟩:=by unfold clsN;rw[if_neg (by omega),if_neg (by omega),if_neg (by omega)]
def NamesAt(w:World)(g:Nat):Prop:=g<w.heap.size/\∀W,Below w.heap.size w W->∀k,k<9->W.cell? ⟨g,k,none⟩=some (.string (bs (nmZ k)))
theorem NamesAt.below{w w':World}{g:Nat}(h:NamesAt w g)(hb:Below w.heap.size w w'):NamesAt w' g:=⟨Nat.lt_of_lt_of_le h.1 hb.size,fun W hW=>h.2 W (hb.trans (hW.mono hb.size))⟩
theorem NamesAt.one{w:World}{g k:Nat}(h:NamesAt w g)(hk:k<9):∀W,Below w.heap.size w W->∀ (j:Nat) (v:Value),[Value.string (bs (nmZ k))][j]? =some v->W.cell? ⟨g,k+j,none⟩=some v:=c0e fun W hW=>h.2 W hW k hk
theorem c3f(v:Value)(xs:List Qua)(w:World)(h:Quas w v xs)(hok:∀t∈xs,t.ok) :
  Calls Tryz.prog 5 #[v] w fun e w'=>∃v',e=.returned v'/\ClsL w' v' (a3d xs)/\Below w.heap.size w w':=by
 obtain⟨ic,hic,hcz,hc1,hc8⟩:=c7m
 obtain⟨is,his,hsz0,hs1,hs8⟩:=b9h
 have HC0:=zh hic
 have HCZ:=zh hcz
 have HI0:=zh his
 have HIZ:=zh hsz0
 have H:=zh h
 have HOK:=zh hok
 obtain⟨A,c,rfl,hl,hc⟩:=h.slice
 clear h hok hic hcz his hsz0
 go_enter Tryz.func5,Tryz.ntmps5
 have HS:=zh (St.start w)
 go_wp2
 refine a4m (aL HS #[.string (bs [97]),.string (bs [98]),.string (bs [99]),.string (bs [100]),.string (bs [101]),.string (bs [102]),.string (bs [112]),.string (bs [113]),.string (bs [114])] 9 w.heap.size).out ?_
 intro wn hb
 have HBN:=zh hb.below
 have HSN:=zh (St.start wn)
 have HNA:Hid (NamesAt wn w.heap.size):=zh ⟨(hb.blk 0 rfl).lt,fun W hW k hk=>by have hh:=fun(j:Nat) (u:Value) (hu:(#[Value.string (bs [97]),.string (bs [98]),.string (bs [99]),.string (bs [100]),.string (bs [101]),.string (bs [102]),.string (bs [112]),.string (bs [113]),.string (bs [114])]:Array Value)[j]? =some u)=>((hb.blk 0 rfl).below hW (hb.blk 0 rfl).lt).cell j u hu;refine hh k _ ?_;have hk9:k=0\/k=1\/k=2\/k=3\/k=4\/k=5\/k=6\/k=7\/k=8:=(by omega);rcases hk9 with rfl | rfl | rfl | rfl | rfl | rfl | rfl | rfl | rfl<;>rfl⟩
 have HNE:Hid (w.heap.size<=wn.heap.size):=zh hb.below.size
 clear hb HS
 obtain⟨gn,hgn⟩:∃gn,gn=w.heap.size:=⟨_,rfl⟩
 rw[<- hgn]at HNA ⊢
 clear hgn
 go_loopw [3,5] (fun l i wr=>∃k:Nat,k<=xs.length/\k<=10/\i=.int .i64 k/\Hid (ClsO wr wn.heap.size l ((xs.take k).map clsN))/\Hid (St wn [] wr)) (fun _ i _=>xs.length-(intOf i).toNat)
 case atStart=>exact⟨0,Nat.zero_le _,Nat.zero_le _,rfl,ClsO.nil _ _,HSN.out⟩
 case round =>
  clear HSN
  obtain⟨k,hk,hk10,rfl,HG,HS⟩:=hrel
  obtain⟨wo,hwo⟩:∃wo:World,wo=wr:=⟨_,rfl⟩
  subst hwo
  by_cases hlt:k<xs.length
  ·by_cases hlt10:k<10
   ·obtain⟨b,o,x,rfl,hbb,ht,hx⟩:=H.out.at_ hlt
    obtain⟨ok1,ok2,ok3,ok4⟩:=HOK.out x (List.mem_of_getElem? ht)
    have HFT:=zh (c3p ht)
    have HX:Hid (∀W,Below wo.heap.size wo W->∀ (i:Nat) (v:Value),x.enc[i]? =some v->W.cell? ⟨b,o+k*4+i,none⟩=some v):=zh (fun W hW=>hx W (HBN.out.trans ((HS.out.below.trans (hW.mono HS.out.below.size)).mono HNE.out)))
    have HBL:Hid (b<wo.heap.size):=zh (Nat.lt_of_lt_of_le hbb (Nat.le_trans HNE.out HS.out.below.size))
    have HNO:=zh (HNA.out.below HS.out.below)
    have HT:=zh (St.start wo)
    have HKL:Hid ((List.map clsN (xs.take k)).length=k):=zh (by rw[List.length_map,List.length_take];omega)
    unfold Qua.enc at HX
    clear ht hx hbb
    generalize (xs.take k).map clsN=out at *
    obtain⟨r9,hr9⟩:∃r:Nat,r=x.b%9:=⟨_,rfl⟩
    have hr9l:r9<9:=by omega
    have HB9:=zh (HNO.out.one hr9l)
    have b1:Int.tmod (x.b:Int) 9=(r9:Int):=by rw[Int.tmod_eq_emod_of_nonneg (by omega)];omega
    have b2:IntKind.u16.wrap (r9:Int)=(r9:Int):=by rw[IntKind.wrap_u16];omega
    have b3:((r9:Nat):Int)<9:=by omega
    have b4:(0:Int)<=((r9:Nat):Int):=by omega
    have i5:IntKind.i64.wrap ((k:Int)+1)=((k+1:Nat):Int):=by rw[IntWalk.i64_in _ (by omega)];rfl
    have f6:((k:Nat):Int)<(xs.length:Int):=by omega
    have f7:(0:Int)<=((k:Nat):Int):=by omega
    have f8:decide (((k:Nat):Int)<10)=true:=decide_eq_true (by omega)
    have f9:decide (((k:Nat):Int)<(xs.length:Int))=true:=decide_eq_true f6
    have HN9:Hid (nmZ r9=nmZ (x.b%9)):=zh (by rw[hr9])
    clear hr9
    have hk4:x.a%4=0\/x.a%4=1\/x.a%4=2\/x.a%4=3:=by omega
    rcases hk4 with h4 | h4 | h4 | h4
    ·have a1:Int.tmod (x.a:Int) 4=0:=by rw[Int.tmod_eq_emod_of_nonneg (by omega)];omega
     have HCN:=zh (clsN0 h4)
     obtain⟨p3,hp3⟩:∃r:Nat,r=6+x.b%3:=⟨_,rfl⟩
     have hp3l:p3<9:=by omega
     have HB3:=zh (HNO.out.one hp3l)
     have c1:Int.tmod (x.b:Int) 3=(p3:Int)-6:=by rw[Int.tmod_eq_emod_of_nonneg (by omega)];omega
     have c2:IntKind.u16.wrap ((p3:Int)-6)=(p3:Int)-6:=by rw[IntKind.wrap_u16];omega
     have c2':(6:Int)+((p3:Int)-6)=(p3:Int):=by omega
     have c3:IntKind.u16.wrap (p3:Int)=(p3:Int):=by rw[IntKind.wrap_u16];omega
     have c4:((p3:Nat):Int)<9:=by omega
     have c5:(0:Int)<=((p3:Nat):Int):=by omega
     obtain⟨m3,hm3⟩:∃r:Nat,r=1+x.d%3:=⟨_,rfl⟩
     have hm3l:m3<=3:=by omega
     have d1:Int.tmod (x.d:Int) 3=(m3:Int)-1:=by rw[Int.tmod_eq_emod_of_nonneg (by omega)];omega
     have d2:IntKind.u16.wrap ((m3:Int)-1)=(m3:Int)-1:=by rw[IntKind.wrap_u16];omega
     have d3:IntKind.i64.wrap ((m3:Int)-1)=(m3:Int)-1:=IntWalk.i64_in _ (by omega)
     have d4:(1:Int)+((m3:Int)-1)=(m3:Int):=by omega
     have d5:IntKind.i64.wrap (m3:Int)=(m3:Int):=IntWalk.i64_in _ (by omega)
     rw[<- hp3,<-hm3]at HCN
     have HM3:=zh hm3l
     clear hp3 hm3 h4
     have x1:b<wo.heap.size:=Nat.lt_of_lt_of_le HBL.out HT.out.below.size
     have x2:¬b=wo.heap.size:=by omega
     obtain⟨x3,x4,x5⟩:=kE0 (HX.out _ HT.out.below) rfl rfl rfl
     have x6:=HX.out _ HT.out.below 3 _ rfl
     go_wp2
     clear x1 x2 x3 x4 x5 x6
     refine a4m (aL HT #[.int .u16 (x.a:Nat),.int .u16 (x.b:Nat),.int .u16 (x.c:Nat),.int .u16 (x.d:Nat)] 61 wo.heap.size).out ?_
     intro wg2 hb
     have HT2:=zh hb
     clear hb HT
     refine a0d 13 [eQ (.pointer (some ⟨wo.heap.size,0,none⟩)),eQ (.int .u16 (x.a:Nat)),eQ (.int .u16 0),eQ (.int .i64 0),eQ (.int .i64 1),eQ (.slice (some ⟨gn,0,none⟩) 9 9),eQ (.pointer (some ⟨wo.heap.size,1,none⟩)),eQ (.int .u16 (x.b:Nat)),eQ (.int .u16 (r9:Nat)),eQ (.pointer (some ⟨gn,r9,none⟩)),eQ (.string (bs (nmZ r9))),eQ (.agg #[.int .i64 1,.string (bs (nmZ r9)),.string (bs []),.slice none 0 0,.bool false,.string (bs []),.string (bs []),.int .i64 0]),fun ww vv=>∃g,vv=.pointer (some ⟨g,0,none⟩)/\wg2.heap.size<=g/\Blk ww g #[.int .i64 0,.string (bs []),.string (bs []),.slice none 0 0,.bool false,.string (bs []),.string (bs []),.int .i64 0] 51] rfl (by kernel_rfl) (by kernel_rfl) (by kernel_rfl) ⟨stE,stE,stE,stE,stE,stE,stE,stE,stE,stE,stE,stE,fun _ _ _ ⟨g,e,hg,h⟩ hb=>⟨g,e,hg,h.below hb h.lt⟩,trivial⟩ ?_ ?_
     refine⟨?_,?_,?_,?_,?_,?_,?_,?_,?_,?_,?_,?_,?_,trivial⟩<;>(intro xx af wv hbx hev hev0 hd;have H:=SH.mk hev hev0 hd;clear hev hev0 hd)
     ·have e6:=H.i 6;clear H;go_wp2;exact sQ rfl
     ·have e24:=H.r 0 24;clear H;have hs1:=zh (HT2.out.call hbx);have y0:=cC hs1 0 0;go_wp2;exact sQ rfl
     ·have e25:=H.r 1 25;clear H;go_wp2;exact sQ rfl
     ·have e26:=H.r 2 26;clear H;go_wp2;exact sQ rfl
     ·have e27:=H.r 3 27;clear H;go_wp2;exact sQ rfl
     ·have e4:=H.i 4;clear H;go_wp2;exact sQ rfl
     ·have e6:=H.i 6;clear H;go_wp2;exact sQ rfl
     ·have e30:=H.r 6 30;clear H;have hs1:=zh (HT2.out.call hbx);have y0:=cC hs1 0 1;go_wp2;exact sQ rfl
     ·have e31:=H.r 7 31;clear H;go_wp2;exact sQ rfl
     ·have e29:=H.r 5 29;have e32:=H.r 8 32;clear H;go_wp2;exact sQ rfl
     ·have e33:=H.r 9 33;clear H;have hs1:=zh (HT2.out.call hbx);have y0:=HB9.out _ hs1.out.below 0 _ rfl;rw[Nat.add_zero]at y0;go_wp2;exact sQ rfl
     ·have e28:=H.r 4 28;have e34:=H.r 10 34;clear H;go_wp2;exact sQ rfl
     ·clear H;go_wp2;exact StepQ.mk _ (Ext.alloc (Below.refl _ _) _) ⟨_,rfl,hbx.size,Blk.new _ _ _⟩
     intro xx w4 hb9 hv
     obtain⟨g4,hv12,hlg12,hB12⟩:=hv 12 (by decide)
     simp only[List.take,List.drop,a0h,Act.put]
     simp only[vQ hv 0,vQ hv 1,vQ hv 2,vQ hv 3,vQ hv 4,vQ hv 5,vQ hv 6,vQ hv 7,vQ hv 8,vQ hv 9,vQ hv 10,vQ hv 11,hv12]
     clear hv hv12
     have HT4:=zh (HT2.out.fill hb9 hlg12 hB12)
     clear hlg12 hB12 hb9 HT2
     simp only[List.setIfInBounds_toArray,List.set_cons_zero,List.set_cons_succ]
     go_wp2_with (refine a1r rfl _ _ _ rfl HT4.out 0 rfl [.int .i64 1,.string (bs (nmZ r9)),.string (bs []),.slice none 0 0,.bool false,.string (bs []),.string (bs []),.int .i64 0] rfl rfl rfl a2w rfl ?_)
     intro w5 hS5
     have HT5:Hid (St wo [⟨g4,#[.int .i64 1,.string (bs (nmZ r9)),.string (bs []),.slice none 0 0,.bool false,.string (bs []),.string (bs []),.int .i64 0],51⟩,_] w5):=zh hS5
     clear hS5 HT4
     have x7:=cC HT5 0 0
     have x8:=cC HT5 1 1
     have x9:=cC HT5 0 1
     have x10:=cF HT5 0 1
     have x11:=cN HT5 0 1
     have x12:=cN HT5 1 0
     have x13:=HB3.out _ HT5.out.below 0 _ rfl
     rw[Nat.add_zero]at x13
     go_wp2
     have HT6:Hid (St wo [⟨g4,#[.int .i64 1,.string (bs (nmZ p3)),.string (bs []),.slice none 0 0,.bool false,.string (bs []),.string (bs []),.int .i64 0],51⟩,_] _):=zh (St.set (HT5.out) 0 rfl 1 _)
     go_loopw [8] (fun i_ wr=>∃ (m:Nat) (lv:Value),m<=m3/\i_=.int .i64 m/\Hid (Grows wr wo.heap.size 9 1 lv m (flat strE (b0p x m)))/\Hid (St wo [⟨g4,#[.int .i64 1,.string (bs (nmZ p3)),.string (bs []),lv,.bool false,.string (bs []),.string (bs []),.int .i64 0],51⟩,⟨wo.heap.size,#[.int .u16 (x.a:Nat),.int .u16 (x.b:Nat),.int .u16 (x.c:Nat),.int .u16 (x.d:Nat)],61⟩] wr)) (fun i_ _=>m3-(intOf i_).toNat)
     case atStart=>exact⟨0,.slice none 0 0,Nat.zero_le _,rfl,World.ownsRow_nil _ _ _ _,HT6.out⟩
     case round =>
      clear HT6
      obtain⟨m,lv,hm,rfl,HL,HV⟩:=hrel
      by_cases hlm:m<m3
      ·obtain⟨z3,hz3⟩:∃r:Nat,r=x.c/16^m%16:=⟨_,rfl⟩
       obtain⟨q3,hq3⟩:∃r:Nat,r=z3%9:=⟨_,rfl⟩
       have hq3l:q3<9:=by omega
       have HBQ:=zh (HNO.out.one hq3l)
       have HLS:Hid (b0p x (m+1)=b0p x m++[nmZ q3]):=zh (by rw[c8k,hq3,hz3];rfl)
       have HLL:=zh (a9a x m)
       have fg0:decide (((m:Nat):Int)<(m3:Int))=true:=decide_eq_true (by omega)
       have j5:IntKind.i64.wrap ((m:Int)+1)=((m+1:Nat):Int):=by rw[IntWalk.i64_in _ (by omega)];rfl
       obtain⟨f4,hf4⟩:∃r:Nat,r=4*m:=⟨_,rfl⟩
       have hf4l:f4<=8:=by have:=HM3.out;omega
       obtain⟨s3,hs3⟩:∃r:Nat,r=x.c/16^m:=⟨_,rfl⟩
       have hs3l:s3<=65535:=by rw[hs3];exact Nat.le_trans (Nat.div_le_self _ _) ok3
       rw[<- hs3]at hz3
       have fg1:IntKind.i64.wrap (4*(m:Int))=(f4:Int):=by rw[IntWalk.i64_in _ (by omega)];omega
       have fg2:IntKind.u64.wrap (f4:Int)=(f4:Int):=by rw[IntKind.wrap_u64];omega
       have fg3:(x.c:Int)/2^f4=(s3:Int):=by rw[hs3,hf4,show(2:Int)^(4*m)=((16^m:Nat):Int) by rw[Int.pow_mul];simp];exact(Int.natCast_ediv _ _).symm
       have fg4:bits BinOp.and IntKind.u16 (s3:Int) 15=(z3:Int):=by rw[show(15:Int)=((15:Nat):Int)from rfl,u16_and_nat s3 15 (by omega) (by decide),hz3,show(15:Nat)=2^4-1 from rfl,Nat.and_two_pow_sub_one_eq_mod]
       have fg5:Int.tmod (z3:Int) 9=(q3:Int):=by rw[Int.tmod_eq_emod_of_nonneg (by omega)];omega
       have fg6:IntKind.i64.wrap (z3:Int)=(z3:Int):=IntWalk.i64_in _ (by omega)
       have fg7:IntKind.i64.wrap (q3:Int)=(q3:Int):=IntWalk.i64_in _ (by omega)
       have fg8:((q3:Nat):Int)<9:=by omega
       have fg9:(0:Int)<=((q3:Nat):Int):=by omega
       clear hz3 hq3 hs3 hf4
       have x14:=cC HV 1 3
       go_wp2
       clear x14
       refine a0d 15 [eQ (.pointer (some ⟨g4,3,none⟩)),eQ (lv),eQ (.slice (some ⟨gn,0,none⟩) 9 9),eQ (.pointer (some ⟨wo.heap.size,2,none⟩)),eQ (.int .u16 (x.c:Nat)),eQ (.int .i64 (m:Nat)),eQ (.int .i64 (f4:Nat)),eQ (.int .u64 (f4:Nat)),eQ (.int .u16 (s3:Nat)),eQ (.int .u16 (z3:Nat)),eQ (.int .i64 (z3:Nat)),eQ (.int .i64 (q3:Nat)),eQ (.pointer (some ⟨gn,q3,none⟩)),eQ (.string (bs (nmZ q3))),fun ww vv=>∃g,vv=.slice (some ⟨g,0,none⟩) 1 1/\wr.heap.size<=g/\Blk ww g #[.string (bs (nmZ q3))] 9] rfl (by kernel_rfl) (by kernel_rfl) (by kernel_rfl) ⟨stE,stE,stE,stE,stE,stE,stE,stE,stE,stE,stE,stE,stE,stE,fun _ _ _ ⟨g,e,hg,h⟩ hb=>⟨g,e,hg,h.below hb h.lt⟩,trivial⟩ ?_ ?_
       refine⟨?_,?_,?_,?_,?_,?_,?_,?_,?_,?_,?_,?_,?_,?_,?_,trivial⟩<;>(intro xx af wv hbx hev hev0 hd;have H:=SH.mk hev hev0 hd;clear hev hev0 hd)
       ·have e7:=H.i 7;clear H;go_wp2;exact sQ rfl
       ·have e57:=H.r 0 57;clear H;have hs1:=zh (HV.out.call hbx);have y0:=cC hs1 0 3;go_wp2;exact sQ rfl
       ·have e4:=H.i 4;clear H;go_wp2;exact sQ rfl
       ·have e6:=H.i 6;clear H;go_wp2;exact sQ rfl
       ·have e60:=H.r 3 60;clear H;have hs1:=zh (HV.out.call hbx);have y0:=cC hs1 1 2;go_wp2;exact sQ rfl
       ·have e8:=H.i 8;clear H;go_wp2;exact sQ rfl
       ·have e62:=H.r 5 62;clear H;go_wp2;exact sQ rfl
       ·have e63:=H.r 6 63;clear H;go_wp2;exact sQ rfl
       ·have e61:=H.r 4 61;have e64:=H.r 7 64;clear H;go_wp2;exact sQ rfl
       ·have e65:=H.r 8 65;clear H;go_wp2;exact sQ rfl
       ·have e66:=H.r 9 66;clear H;go_wp2;exact sQ rfl
       ·have e67:=H.r 10 67;clear H;go_wp2;exact sQ rfl
       ·have e59:=H.r 2 59;have e68:=H.r 11 68;clear H;go_wp2;exact sQ rfl
       ·have e69:=H.r 12 69;clear H;have hs1:=zh (HV.out.call hbx);have y0:=HBQ.out _ hs1.out.below 0 _ rfl;rw[Nat.add_zero]at y0;go_wp2;exact sQ rfl
       ·have e70:=H.r 13 70;clear H;go_wp2;exact StepQ.mk _ (Ext.alloc (Below.refl _ _) _) ⟨_,rfl,hbx.size,Blk.new _ _ _⟩
       intro xx w7 hb9 hv
       obtain⟨g7,hv14,hlg14,hB14⟩:=hv 14 (by decide)
       simp only[List.take,List.drop,a0h,Act.put]
       simp only[vQ hv 0,vQ hv 1,vQ hv 2,vQ hv 3,vQ hv 4,vQ hv 5,vQ hv 6,vQ hv 7,vQ hv 8,vQ hv 9,vQ hv 10,vQ hv 11,vQ hv 12,vQ hv 13,hv14]
       clear hv hv14
       have HV7:=zh (HV.out.fill hb9 hlg14 hB14)
       clear hlg14 hB14
       have HL_7:=zh (HL.out.below hb9)
       clear HL hb9 HV
       have hgr:World.ownsRow _ wo.heap.size 9 1 lv m (flat strE (b0p x m)):=HL_7.out
       go_wp2_with (at_builtin;refine a1e _ rfl _ _ 49 rfl wo.heap.size 9 is _ 1 16 Tryz.underlying49 HI0.out HIZ.out hs1 hs8 rfl (by decide) a3h lv m (b0p x m) (by simp[Act.eval]) hgr (nmZ q3) g7 _ (HV7.out.blk 0 rfl) rfl (by simp[Act.eval]) (fun u hu=>by rw[List.mem_singleton.1 hu];rfl) (by unfold maxLen;omega) (by omega) HV7.out.below.size ?_)
       intro v9 w9 hown9 hg9
       have HSA:=zh ((HV7.out.sub (List.sublist_cons_self ..)).turnedO hg9 (fun q hq=>(World.ownsRow.lt hgr q hq).1) (fun z hz=>by rcases List.mem_cons.1 hz with rfl | hz;exact a1m hgr (HV7.out.blk 1 rfl) (by decide);rw[List.mem_singleton.1 hz];exact a1m hgr (HV7.out.blk 2 rfl) (by decide)))
       rw[<- HLS.out]at hown9
       obtain⟨g9,c9,rfl,_,_⟩:=World.ownsRow.form hown9 (Nat.succ_pos _)
       have HG9:=zh hown9
       clear hown9 hg9 hgr HV7 HL_7
       have x15:=cC HSA 0 3
       have x16:=cF HSA 0 3
       have x17:=cN HSA 0 1
       have x18:=cN HSA 1 0
       go_wp2
       have HSA8:Hid (St wo [⟨g4,#[.int .i64 1,.string (bs (nmZ p3)),.string (bs []),.slice (some ⟨g9,0,none⟩) (m+1) c9,.bool false,.string (bs []),.string (bs []),.int .i64 0],51⟩,_] _):=zh (St.set (HSA.out) 0 rfl 3 _)
       go_roundw
       case rel=>exact⟨m+1,.slice (some ⟨g9,0,none⟩) (m+1) c9,by omega,by go_num,a1v HG9.out (HSA.out.blk 0 rfl) (by decide) _,HSA8.out⟩
       case measure=>simp[intOf];omega
      obtain rfl:m=m3:=by omega
      have fg0:decide (((m:Nat):Int)<(m:Int))=false:=decide_eq_false (by omega)
      obtain⟨Al,cl2,hlv,_,_⟩:=(Slc.of_own a3h HL.out (a9a x m)).slice
      rw[a9a]at hlv
      subst hlv
      have x14:=cC HV 1 3
      have x15:=HV.out.lt 1 rfl
      have x16:¬wo.heap.size=wr.heap.size:=by omega
      have x17:¬wr.heap.size=wo.heap.size:=by omega
      have HV7:=aL HV #[.int .i64 1,.string (bs (nmZ p3)),.string (bs []),.slice Al m cl2,.bool false,.string (bs []),.string (bs []),.int .i64 0] 51 wr.heap.size
      obtain⟨rs,hrs1,hrs2,hrs3⟩:=HG.out.below HV7.out.below
      have hrl:rs.length=k:=by rw[<- List.length_map (f:=fun r:CRow=>r.c),hrs2];exact HKL.out
      go_wp2_with (first | (refine wpList_load_mid rfl _ _ rfl (g4) (0) rfl [.int .i64 1,.string (bs (nmZ p3)),.string (bs []),.slice Al m cl2,.bool false,.string (bs []),.string (bs []),.int .i64 0] _ (St.whole HV.out 0 rfl) Tryz.underlying51 rfl a2w ?_) | (at_builtin;refine a1e _ rfl _ _ 27 rfl wn.heap.size 51 ic _ 8 112 Tryz.underlying27 HC0.out HCZ.out hc1 hc8 rfl (by decide) a7w u3 rs.length rs (by simp[Act.eval]) hrs1 ⟨clsN x,.slice Al m cl2⟩ wr.heap.size _ (HV7.out.blk 0 rfl) (by rw[HCN.out];rfl) (by simp[Act.eval]) (a9w _ rfl) (by unfold maxLen;omega) (by omega) (Nat.le_trans HS.out.below.size HV7.out.below.size) ?_))
      intro v9 w9 hown9 hg9
      have HO9:=zh (ClsO.push (c:=clsN x) (u:=.slice Al m cl2) hrs2 hrs1 hrs3 (by rw[HCN.out];show World.ownsRow _ _ _ _ _ (b0p x m).length (flat strE (b0p x m));rw[a9a];exact a6m (HL.out.below (Ext.alloc (Below.refl wr.heap.size wr) (Obj.cells #[.int .i64 1,.string (bs (nmZ p3)),.string (bs []),.slice Al m cl2,.bool false,.string (bs []),.string (bs []),.int .i64 0] 51))) HS.out.below.size) (by rw[hrl];exact hown9) hg9)
      have HS9:Hid (St wn [] w9):=zh (St.of ((HS.out.below.trans (HV7.out.below.mono HS.out.below.size)).grown hg9 (Nat.le_trans HS.out.below.size HV7.out.below.size) (fun q hq=>(World.ownsRow.lt hrs1 q hq).1)))
      rw[<- HFT.out]at HO9
      clear hown9 hg9 hrs1 hrs2 hrs3 hrl x14 x15 x16 x17
      go_wp2
      go_roundw
      case rel=>exact⟨k+1,by omega,by omega,by go_num,HO9.out,HS9.out⟩
      case measure=>simp[intOf];omega
    ·have a1:Int.tmod (x.a:Int) 4=1:=by rw[Int.tmod_eq_emod_of_nonneg (by omega)];omega
     have HCN:=zh (clsN1 h4)
     obtain⟨q9,hq9⟩:∃r:Nat,r=x.c%9:=⟨_,rfl⟩
     have hq9l:q9<9:=by omega
     have HBQ:=zh (HNO.out.one hq9l)
     have c1:Int.tmod (x.c:Int) 9=(q9:Int):=by rw[Int.tmod_eq_emod_of_nonneg (by omega)];omega
     have c3:IntKind.u16.wrap (q9:Int)=(q9:Int):=by rw[IntKind.wrap_u16];omega
     have c4:((q9:Nat):Int)<9:=by omega
     have c5:(0:Int)<=((q9:Nat):Int):=by omega
     rw[<- hq9,<-HN9.out]at HCN
     clear hq9 h4
     have x1:b<wo.heap.size:=Nat.lt_of_lt_of_le HBL.out HT.out.below.size
     have x2:¬b=wo.heap.size:=by omega
     obtain⟨x3,x4,x5⟩:=kE0 (HX.out _ HT.out.below) rfl rfl rfl
     have x6:=HX.out _ HT.out.below 3 _ rfl
     go_wp2
     clear x1 x2 x3 x4 x5 x6
     refine a4m (aL HT #[.int .u16 (x.a:Nat),.int .u16 (x.b:Nat),.int .u16 (x.c:Nat),.int .u16 (x.d:Nat)] 61 wo.heap.size).out ?_
     intro wg2 hb
     have HT2:=zh hb
     clear hb HT
     refine a0d 13 [eQ (.pointer (some ⟨wo.heap.size,0,none⟩)),eQ (.int .u16 (x.a:Nat)),eQ (.int .u16 1),eQ (.int .i64 1),eQ (.int .i64 2),eQ (.slice (some ⟨gn,0,none⟩) 9 9),eQ (.pointer (some ⟨wo.heap.size,1,none⟩)),eQ (.int .u16 (x.b:Nat)),eQ (.int .u16 (r9:Nat)),eQ (.pointer (some ⟨gn,r9,none⟩)),eQ (.string (bs (nmZ r9))),eQ (.agg #[.int .i64 2,.string (bs (nmZ r9)),.string (bs []),.slice none 0 0,.bool false,.string (bs []),.string (bs []),.int .i64 0]),fun ww vv=>∃g,vv=.pointer (some ⟨g,0,none⟩)/\wg2.heap.size<=g/\Blk ww g #[.int .i64 0,.string (bs []),.string (bs []),.slice none 0 0,.bool false,.string (bs []),.string (bs []),.int .i64 0] 51] rfl (by kernel_rfl) (by kernel_rfl) (by kernel_rfl) ⟨stE,stE,stE,stE,stE,stE,stE,stE,stE,stE,stE,stE,fun _ _ _ ⟨g,e,hg,h⟩ hb=>⟨g,e,hg,h.below hb h.lt⟩,trivial⟩ ?_ ?_
     refine⟨?_,?_,?_,?_,?_,?_,?_,?_,?_,?_,?_,?_,?_,trivial⟩<;>(intro xx af wv hbx hev hev0 hd;have H:=SH.mk hev hev0 hd;clear hev hev0 hd)
     ·have e6:=H.i 6;clear H;go_wp2;exact sQ rfl
     ·have e24:=H.r 0 24;clear H;have hs1:=zh (HT2.out.call hbx);have y0:=cC hs1 0 0;go_wp2;exact sQ rfl
     ·have e25:=H.r 1 25;clear H;go_wp2;exact sQ rfl
     ·have e26:=H.r 2 26;clear H;go_wp2;exact sQ rfl
     ·have e27:=H.r 3 27;clear H;go_wp2;exact sQ rfl
     ·have e4:=H.i 4;clear H;go_wp2;exact sQ rfl
     ·have e6:=H.i 6;clear H;go_wp2;exact sQ rfl
     ·have e30:=H.r 6 30;clear H;have hs1:=zh (HT2.out.call hbx);have y0:=cC hs1 0 1;go_wp2;exact sQ rfl
     ·have e31:=H.r 7 31;clear H;go_wp2;exact sQ rfl
     ·have e29:=H.r 5 29;have e32:=H.r 8 32;clear H;go_wp2;exact sQ rfl
     ·have e33:=H.r 9 33;clear H;have hs1:=zh (HT2.out.call hbx);have y0:=HB9.out _ hs1.out.below 0 _ rfl;rw[Nat.add_zero]at y0;go_wp2;exact sQ rfl
     ·have e28:=H.r 4 28;have e34:=H.r 10 34;clear H;go_wp2;exact sQ rfl
     ·clear H;go_wp2;exact StepQ.mk _ (Ext.alloc (Below.refl _ _) _) ⟨_,rfl,hbx.size,Blk.new _ _ _⟩
     intro xx w4 hb9 hv
     obtain⟨g4,hv12,hlg12,hB12⟩:=hv 12 (by decide)
     simp only[List.take,List.drop,a0h,Act.put]
     simp only[vQ hv 0,vQ hv 1,vQ hv 2,vQ hv 3,vQ hv 4,vQ hv 5,vQ hv 6,vQ hv 7,vQ hv 8,vQ hv 9,vQ hv 10,vQ hv 11,hv12]
     clear hv hv12
     have HT4:=zh (HT2.out.fill hb9 hlg12 hB12)
     clear hlg12 hB12 hb9 HT2
     simp only[List.setIfInBounds_toArray,List.set_cons_zero,List.set_cons_succ]
     go_wp2_with (refine a1r rfl _ _ _ rfl HT4.out 0 rfl [.int .i64 2,.string (bs (nmZ r9)),.string (bs []),.slice none 0 0,.bool false,.string (bs []),.string (bs []),.int .i64 0] rfl rfl rfl a2w rfl ?_)
     intro w5 hS5
     have HT5:Hid (St wo [⟨g4,#[.int .i64 2,.string (bs (nmZ r9)),.string (bs []),.slice none 0 0,.bool false,.string (bs []),.string (bs []),.int .i64 0],51⟩,_] w5):=zh hS5
     clear hS5 HT4
     have HT6:Hid (St wo [⟨g4,#[.int .i64 2,.string (bs (nmZ r9)),.string (bs (nmZ q9)),.slice none 0 0,.bool false,.string (bs []),.string (bs []),.int .i64 0],51⟩,_] _):=zh (St.set (HT5.out) 0 rfl 2 _)
     have x7:=cC HT5 0 0
     have x8:=cC HT5 1 2
     have x9:=cC HT5 0 2
     have x10:=cF HT5 0 2
     have x11:=cN HT5 0 1
     have x12:=cN HT5 1 0
     have x13:=HT5.out.lt 0 rfl
     have x14:¬g4=w5.heap.size:=by omega
     have x15:¬w5.heap.size=g4:=by omega
     have x16:=HT5.out.lt 1 rfl
     have x17:¬wo.heap.size=w5.heap.size:=by omega
     have x18:¬w5.heap.size=wo.heap.size:=by omega
     have x19:gn<w5.heap.size:=Nat.lt_of_lt_of_le HNO.out.1 HT5.out.below.size
     have x20:¬gn=w5.heap.size:=by omega
     have x21:=HBQ.out _ HT5.out.below 0 _ rfl
     rw[Nat.add_zero]at x21
     have HT7:Hid (St wo [_,⟨g4,#[.int .i64 2,.string (bs (nmZ r9)),.string (bs (nmZ q9)),.slice none 0 0,.bool false,.string (bs []),.string (bs []),.int .i64 0],51⟩,_] _):=zh (St.alloc (St.set (HT5.out) 0 rfl 2 _) #[.int .i64 2,.string (bs (nmZ r9)),.string (bs (nmZ q9)),.slice none 0 0,.bool false,.string (bs []),.string (bs []),.int .i64 0] 51 (w5.heap.size) (by simp))
     obtain⟨rs,hrs1,hrs2,hrs3⟩:=HG.out.below HT7.out.below
     have hrl:rs.length=k:=by rw[<- List.length_map (f:=fun r:CRow=>r.c),hrs2];exact HKL.out
     go_wp2_with (first | (refine wpList_load_mid rfl _ _ rfl (g4) (0) rfl [.int .i64 2,.string (bs (nmZ r9)),.string (bs (nmZ q9)),.slice none 0 0,.bool false,.string (bs []),.string (bs []),.int .i64 0] _ (St.whole HT6.out 0 rfl) Tryz.underlying51 rfl a2w ?_) | (at_builtin;refine a1e _ rfl _ _ 27 rfl wn.heap.size 51 ic _ 8 112 Tryz.underlying27 HC0.out HCZ.out hc1 hc8 rfl (by decide) a7w u3 rs.length rs (by simp[Act.eval]) hrs1 ⟨clsN x,(.slice none 0 0)⟩ w5.heap.size _ (HT7.out.blk 0 rfl) (by rw[HCN.out];rfl) (by simp[Act.eval]) (a9w _ rfl) (by unfold maxLen;omega) (by omega) (Nat.le_trans HS.out.below.size HT7.out.below.size) ?_))
     intro v9 w9 hown9 hg9
     have HO9:=zh (ClsO.push (c:=clsN x) (u:=(.slice none 0 0)) hrs2 hrs1 hrs3 (by rw[HCN.out];exact World.ownsRow_nil _ _ _ _) (by rw[hrl];exact hown9) hg9)
     have HS9:Hid (St wn [] w9):=zh (St.of ((HS.out.below.trans (HT7.out.below.mono HS.out.below.size)).grown hg9 (Nat.le_trans HS.out.below.size HT7.out.below.size) (fun q hq=>(World.ownsRow.lt hrs1 q hq).1)))
     rw[<- HFT.out]at HO9
     clear hown9 hg9 hrs1 hrs2 hrs3 hrl x7 x8 x9 x10 x11 x12 x13 x14 x15 x16 x17 x18 x19 x20 x21 HT6
     go_wp2
     go_roundw
     case rel=>exact⟨k+1,by omega,by omega,by go_num,HO9.out,HS9.out⟩
     case measure=>simp[intOf];omega
    ·have a1:Int.tmod (x.a:Int) 4=2:=by rw[Int.tmod_eq_emod_of_nonneg (by omega)];omega
     have HCN:=zh (clsN2 h4)
     obtain⟨p6,hp6⟩:∃r:Nat,r=x.b%6:=⟨_,rfl⟩
     have hp6l:p6<9:=by omega
     have HBP:=zh (HNO.out.one hp6l)
     have c1:Int.tmod (x.b:Int) 6=(p6:Int):=by rw[Int.tmod_eq_emod_of_nonneg (by omega)];omega
     have c3:IntKind.u16.wrap (p6:Int)=(p6:Int):=by rw[IntKind.wrap_u16];omega
     have c4:((p6:Nat):Int)<9:=by omega
     have c5:(0:Int)<=((p6:Nat):Int):=by omega
     have hA:=fun W=>b0q x.c W ok3
     obtain⟨am,ham⟩:∃q,q=a2f x.c:=⟨_,rfl⟩
     rw[<- ham]at hA
     unfold rat raw at hA
     have HA:=zh hA
     rw[<- hp6,<-ham]at HCN
     clear hp6 hA ham h4
     have x1:b<wo.heap.size:=Nat.lt_of_lt_of_le HBL.out HT.out.below.size
     have x2:¬b=wo.heap.size:=by omega
     obtain⟨x3,x4,x5⟩:=kE0 (HX.out _ HT.out.below) rfl rfl rfl
     have x6:=HX.out _ HT.out.below 3 _ rfl
     go_wp2
     clear x1 x2 x3 x4 x5 x6
     refine a4m (aL HT #[.int .u16 (x.a:Nat),.int .u16 (x.b:Nat),.int .u16 (x.c:Nat),.int .u16 (x.d:Nat)] 61 wo.heap.size).out ?_
     intro wg2 hb
     have HT2:=zh hb
     clear hb HT
     refine a0d 13 [eQ (.pointer (some ⟨wo.heap.size,0,none⟩)),eQ (.int .u16 (x.a:Nat)),eQ (.int .u16 2),eQ (.int .i64 2),eQ (.int .i64 3),eQ (.slice (some ⟨gn,0,none⟩) 9 9),eQ (.pointer (some ⟨wo.heap.size,1,none⟩)),eQ (.int .u16 (x.b:Nat)),eQ (.int .u16 (r9:Nat)),eQ (.pointer (some ⟨gn,r9,none⟩)),eQ (.string (bs (nmZ r9))),eQ (.agg #[.int .i64 3,.string (bs (nmZ r9)),.string (bs []),.slice none 0 0,.bool false,.string (bs []),.string (bs []),.int .i64 0]),fun ww vv=>∃g,vv=.pointer (some ⟨g,0,none⟩)/\wg2.heap.size<=g/\Blk ww g #[.int .i64 0,.string (bs []),.string (bs []),.slice none 0 0,.bool false,.string (bs []),.string (bs []),.int .i64 0] 51] rfl (by kernel_rfl) (by kernel_rfl) (by kernel_rfl) ⟨stE,stE,stE,stE,stE,stE,stE,stE,stE,stE,stE,stE,fun _ _ _ ⟨g,e,hg,h⟩ hb=>⟨g,e,hg,h.below hb h.lt⟩,trivial⟩ ?_ ?_
     refine⟨?_,?_,?_,?_,?_,?_,?_,?_,?_,?_,?_,?_,?_,trivial⟩<;>(intro xx af wv hbx hev hev0 hd;have H:=SH.mk hev hev0 hd;clear hev hev0 hd)
     ·have e6:=H.i 6;clear H;go_wp2;exact sQ rfl
     ·have e24:=H.r 0 24;clear H;have hs1:=zh (HT2.out.call hbx);have y0:=cC hs1 0 0;go_wp2;exact sQ rfl
     ·have e25:=H.r 1 25;clear H;go_wp2;exact sQ rfl
     ·have e26:=H.r 2 26;clear H;go_wp2;exact sQ rfl
     ·have e27:=H.r 3 27;clear H;go_wp2;exact sQ rfl
     ·have e4:=H.i 4;clear H;go_wp2;exact sQ rfl
     ·have e6:=H.i 6;clear H;go_wp2;exact sQ rfl
     ·have e30:=H.r 6 30;clear H;have hs1:=zh (HT2.out.call hbx);have y0:=cC hs1 0 1;go_wp2;exact sQ rfl
     ·have e31:=H.r 7 31;clear H;go_wp2;exact sQ rfl
     ·have e29:=H.r 5 29;have e32:=H.r 8 32;clear H;go_wp2;exact sQ rfl
     ·have e33:=H.r 9 33;clear H;have hs1:=zh (HT2.out.call hbx);have y0:=HB9.out _ hs1.out.below 0 _ rfl;rw[Nat.add_zero]at y0;go_wp2;exact sQ rfl
     ·have e28:=H.r 4 28;have e34:=H.r 10 34;clear H;go_wp2;exact sQ rfl
     ·clear H;go_wp2;exact StepQ.mk _ (Ext.alloc (Below.refl _ _) _) ⟨_,rfl,hbx.size,Blk.new _ _ _⟩
     intro xx w4 hb9 hv
     obtain⟨g4,hv12,hlg12,hB12⟩:=hv 12 (by decide)
     simp only[List.take,List.drop,a0h,Act.put]
     simp only[vQ hv 0,vQ hv 1,vQ hv 2,vQ hv 3,vQ hv 4,vQ hv 5,vQ hv 6,vQ hv 7,vQ hv 8,vQ hv 9,vQ hv 10,vQ hv 11,hv12]
     clear hv hv12
     have HT4:=zh (HT2.out.fill hb9 hlg12 hB12)
     clear hlg12 hB12 hb9 HT2
     simp only[List.setIfInBounds_toArray,List.set_cons_zero,List.set_cons_succ]
     go_wp2_with (refine a1r rfl _ _ _ rfl HT4.out 0 rfl [.int .i64 3,.string (bs (nmZ r9)),.string (bs []),.slice none 0 0,.bool false,.string (bs []),.string (bs []),.int .i64 0] rfl rfl rfl a2w rfl ?_)
     intro w5 hS5
     have HT5:Hid (St wo [⟨g4,#[.int .i64 3,.string (bs (nmZ r9)),.string (bs []),.slice none 0 0,.bool false,.string (bs []),.string (bs []),.int .i64 0],51⟩,_] w5):=zh hS5
     clear hS5 HT4
     have x7:=cC HT5 0 0
     have x8:=cC HT5 1 1
     have x9:=cC HT5 0 1
     have x10:=cC HT5 1 2
     have x11:=cF HT5 0 1
     have x12:=cN HT5 0 1
     have x13:=cN HT5 1 0
     have x14:=HBP.out _ HT5.out.below 0 _ rfl
     rw[Nat.add_zero]at x14
     go_wp2_with fail
     have HT6:Hid (St wo [⟨g4,#[.int .i64 3,.string (bs (nmZ p6)),.string (bs []),.slice none 0 0,.bool false,.string (bs []),.string (bs []),.int .i64 0],51⟩,_] _):=zh (St.set (HT5.out) 0 rfl 1 _)
     refine(HA.out _).mono ?_
     rintro e w7 ⟨rfl,hb7⟩
     have HT7:=zh (HT6.out.call hb7)
     clear hb7 HT5 HT6 x7 x8 x9 x10 x11 x12 x13 x14
     have HT8:Hid (St wo [⟨g4,#[.int .i64 3,.string (bs (nmZ p6)),.string (bs []),.slice none 0 0,.bool (negB (am)),.string (bs (numB (am))),.string (bs (a0a (am))),.int .i64 0],51⟩,_] _):=zh (St.set (St.set (St.set (HT7.out) 0 rfl 4 _) 0 rfl 5 _) 0 rfl 6 _)
     obtain⟨x15,x16,x17⟩:=HT7.out.k4 0 rfl rfl rfl rfl
     obtain⟨x18,x19,x20⟩:=HT7.out.f4 0 rfl
     have x21:=cN HT7 0 1
     have x22:=cN HT7 1 0
     have x23:=HT7.out.lt 0 rfl
     have x24:¬g4=w7.heap.size:=by omega
     have x25:¬w7.heap.size=g4:=by omega
     have HT9:Hid (St wo [_,⟨g4,#[.int .i64 3,.string (bs (nmZ p6)),.string (bs []),.slice none 0 0,.bool (negB (am)),.string (bs (numB (am))),.string (bs (a0a (am))),.int .i64 0],51⟩,_] _):=zh (St.alloc (St.set (St.set (St.set (HT7.out) 0 rfl 4 _) 0 rfl 5 _) 0 rfl 6 _) #[.int .i64 3,.string (bs (nmZ p6)),.string (bs []),.slice none 0 0,.bool (negB (am)),.string (bs (numB (am))),.string (bs (a0a (am))),.int .i64 0] 51 (w7.heap.size) (by simp))
     obtain⟨rs,hrs1,hrs2,hrs3⟩:=HG.out.below HT9.out.below
     have hrl:rs.length=k:=by rw[<- List.length_map (f:=fun r:CRow=>r.c),hrs2];exact HKL.out
     go_wp2_with (first | (refine wpList_load_mid rfl _ _ rfl (g4) (0) rfl [.int .i64 3,.string (bs (nmZ p6)),.string (bs []),.slice none 0 0,.bool (negB (am)),.string (bs (numB (am))),.string (bs (a0a (am))),.int .i64 0] _ (St.whole HT8.out 0 rfl) Tryz.underlying51 rfl a2w ?_) | (at_builtin;refine a1e _ rfl _ _ 27 rfl wn.heap.size 51 ic _ 8 112 Tryz.underlying27 HC0.out HCZ.out hc1 hc8 rfl (by decide) a7w u3 rs.length rs (by simp[Act.eval]) hrs1 ⟨clsN x,(.slice none 0 0)⟩ w7.heap.size _ (HT9.out.blk 0 rfl) (by rw[HCN.out];rfl) (by simp[Act.eval]) (a9w _ rfl) (by unfold maxLen;omega) (by omega) (Nat.le_trans HS.out.below.size HT9.out.below.size) ?_))
     intro v9 w9 hown9 hg9
     have HO9:=zh (ClsO.push (c:=clsN x) (u:=(.slice none 0 0)) hrs2 hrs1 hrs3 (by rw[HCN.out];exact World.ownsRow_nil _ _ _ _) (by rw[hrl];exact hown9) hg9)
     have HS9:Hid (St wn [] w9):=zh (St.of ((HS.out.below.trans (HT9.out.below.mono HS.out.below.size)).grown hg9 (Nat.le_trans HS.out.below.size HT9.out.below.size) (fun q hq=>(World.ownsRow.lt hrs1 q hq).1)))
     rw[<- HFT.out]at HO9
     clear hown9 hg9 hrs1 hrs2 hrs3 hrl x15 x16 x17 x18 x19 x20 x21 x22 x23 x24 x25 HT8
     go_wp2
     go_roundw
     case rel=>exact⟨k+1,by omega,by omega,by go_num,HO9.out,HS9.out⟩
     case measure=>simp[intOf];omega
    have a1:Int.tmod (x.a:Int) 4=3:=by rw[Int.tmod_eq_emod_of_nonneg (by omega)];omega
    have HCN:=zh (clsN3 h4)
    rw[<- HN9.out]at HCN
    clear h4
    have x1:b<wo.heap.size:=Nat.lt_of_lt_of_le HBL.out HT.out.below.size
    have x2:¬b=wo.heap.size:=by omega
    obtain⟨x3,x4,x5⟩:=kE0 (HX.out _ HT.out.below) rfl rfl rfl
    have x6:=HX.out _ HT.out.below 3 _ rfl
    go_wp2
    clear x1 x2 x3 x4 x5 x6
    refine a4m (aL HT #[.int .u16 (x.a:Nat),.int .u16 (x.b:Nat),.int .u16 (x.c:Nat),.int .u16 (x.d:Nat)] 61 wo.heap.size).out ?_
    intro wg2 hb
    have HT2:=zh hb
    clear hb HT
    refine a0d 13 [eQ (.pointer (some ⟨wo.heap.size,0,none⟩)),eQ (.int .u16 (x.a:Nat)),eQ (.int .u16 3),eQ (.int .i64 3),eQ (.int .i64 4),eQ (.slice (some ⟨gn,0,none⟩) 9 9),eQ (.pointer (some ⟨wo.heap.size,1,none⟩)),eQ (.int .u16 (x.b:Nat)),eQ (.int .u16 (r9:Nat)),eQ (.pointer (some ⟨gn,r9,none⟩)),eQ (.string (bs (nmZ r9))),eQ (.agg #[.int .i64 4,.string (bs (nmZ r9)),.string (bs []),.slice none 0 0,.bool false,.string (bs []),.string (bs []),.int .i64 0]),fun ww vv=>∃g,vv=.pointer (some ⟨g,0,none⟩)/\wg2.heap.size<=g/\Blk ww g #[.int .i64 0,.string (bs []),.string (bs []),.slice none 0 0,.bool false,.string (bs []),.string (bs []),.int .i64 0] 51] rfl (by kernel_rfl) (by kernel_rfl) (by kernel_rfl) ⟨stE,stE,stE,stE,stE,stE,stE,stE,stE,stE,stE,stE,fun _ _ _ ⟨g,e,hg,h⟩ hb=>⟨g,e,hg,h.below hb h.lt⟩,trivial⟩ ?_ ?_
    refine⟨?_,?_,?_,?_,?_,?_,?_,?_,?_,?_,?_,?_,?_,trivial⟩<;>(intro xx af wv hbx hev hev0 hd;have H:=SH.mk hev hev0 hd;clear hev hev0 hd)
    ·have e6:=H.i 6;clear H;go_wp2;exact sQ rfl
    ·have e24:=H.r 0 24;clear H;have hs1:=zh (HT2.out.call hbx);have y0:=cC hs1 0 0;go_wp2;exact sQ rfl
    ·have e25:=H.r 1 25;clear H;go_wp2;exact sQ rfl
    ·have e26:=H.r 2 26;clear H;go_wp2;exact sQ rfl
    ·have e27:=H.r 3 27;clear H;go_wp2;exact sQ rfl
    ·have e4:=H.i 4;clear H;go_wp2;exact sQ rfl
    ·have e6:=H.i 6;clear H;go_wp2;exact sQ rfl
    ·have e30:=H.r 6 30;clear H;have hs1:=zh (HT2.out.call hbx);have y0:=cC hs1 0 1;go_wp2;exact sQ rfl
    ·have e31:=H.r 7 31;clear H;go_wp2;exact sQ rfl
    ·have e29:=H.r 5 29;have e32:=H.r 8 32;clear H;go_wp2;exact sQ rfl
    ·have e33:=H.r 9 33;clear H;have hs1:=zh (HT2.out.call hbx);have y0:=HB9.out _ hs1.out.below 0 _ rfl;rw[Nat.add_zero]at y0;go_wp2;exact sQ rfl
    ·have e28:=H.r 4 28;have e34:=H.r 10 34;clear H;go_wp2;exact sQ rfl
    ·clear H;go_wp2;exact StepQ.mk _ (Ext.alloc (Below.refl _ _) _) ⟨_,rfl,hbx.size,Blk.new _ _ _⟩
    intro xx w4 hb9 hv
    obtain⟨g4,hv12,hlg12,hB12⟩:=hv 12 (by decide)
    simp only[List.take,List.drop,a0h,Act.put]
    simp only[vQ hv 0,vQ hv 1,vQ hv 2,vQ hv 3,vQ hv 4,vQ hv 5,vQ hv 6,vQ hv 7,vQ hv 8,vQ hv 9,vQ hv 10,vQ hv 11,hv12]
    clear hv hv12
    have HT4:=zh (HT2.out.fill hb9 hlg12 hB12)
    clear hlg12 hB12 hb9 HT2
    simp only[List.setIfInBounds_toArray,List.set_cons_zero,List.set_cons_succ]
    go_wp2_with (refine a1r rfl _ _ _ rfl HT4.out 0 rfl [.int .i64 4,.string (bs (nmZ r9)),.string (bs []),.slice none 0 0,.bool false,.string (bs []),.string (bs []),.int .i64 0] rfl rfl rfl a2w rfl ?_)
    intro w5 hS5
    have HT5:Hid (St wo [⟨g4,#[.int .i64 4,.string (bs (nmZ r9)),.string (bs []),.slice none 0 0,.bool false,.string (bs []),.string (bs []),.int .i64 0],51⟩,_] w5):=zh hS5
    clear hS5 HT4
    have x7:=cC HT5 0 0
    have x8:=HT5.out.lt 0 rfl
    have x9:¬g4=w5.heap.size:=by omega
    have x10:¬w5.heap.size=g4:=by omega
    have HT6:=aL HT5 #[.int .i64 4,.string (bs (nmZ r9)),.string (bs []),.slice none 0 0,.bool false,.string (bs []),.string (bs []),.int .i64 0] 51 w5.heap.size
    obtain⟨rs,hrs1,hrs2,hrs3⟩:=HG.out.below HT6.out.below
    have hrl:rs.length=k:=by rw[<- List.length_map (f:=fun r:CRow=>r.c),hrs2];exact HKL.out
    go_wp2_with (first | (refine wpList_load_mid rfl _ _ rfl (g4) (0) rfl [.int .i64 4,.string (bs (nmZ r9)),.string (bs []),.slice none 0 0,.bool false,.string (bs []),.string (bs []),.int .i64 0] _ (St.whole HT5.out 0 rfl) Tryz.underlying51 rfl a2w ?_) | (at_builtin;refine a1e _ rfl _ _ 27 rfl wn.heap.size 51 ic _ 8 112 Tryz.underlying27 HC0.out HCZ.out hc1 hc8 rfl (by decide) a7w u3 rs.length rs (by simp[Act.eval]) hrs1 ⟨clsN x,(.slice none 0 0)⟩ w5.heap.size _ (HT6.out.blk 0 rfl) (by rw[HCN.out];rfl) (by simp[Act.eval]) (a9w _ rfl) (by unfold maxLen;omega) (by omega) (Nat.le_trans HS.out.below.size HT6.out.below.size) ?_))
    intro v9 w9 hown9 hg9
    have HO9:=zh (ClsO.push (c:=clsN x) (u:=(.slice none 0 0)) hrs2 hrs1 hrs3 (by rw[HCN.out];exact World.ownsRow_nil _ _ _ _) (by rw[hrl];exact hown9) hg9)
    have HS9:Hid (St wn [] w9):=zh (St.of ((HS.out.below.trans (HT6.out.below.mono HS.out.below.size)).grown hg9 (Nat.le_trans HS.out.below.size HT6.out.below.size) (fun q hq=>(World.ownsRow.lt hrs1 q hq).1)))
    rw[<- HFT.out]at HO9
    clear hown9 hg9 hrs1 hrs2 hrs3 hrl x7 x8 x9 x10
    go_wp2
    go_roundw
    case rel=>exact⟨k+1,by omega,by omega,by go_num,HO9.out,HS9.out⟩
    case measure=>simp[intOf];omega
   obtain rfl:k=10:=by omega
   have e9:decide ((10:Int)<(xs.length:Int))=true:=decide_eq_true (by omega)
   go_wp2
   go_ret
   exact⟨_,rfl,HG.out.toL,HBN.out.trans (HS.out.below.mono HNE.out)⟩
  obtain rfl:k=xs.length:=by omega
  go_wp2
  go_ret
  have hvo:a3d xs=(xs.take xs.length).map clsN:=by unfold a3d;rw[List.take_length,List.take_of_length_le hk10]
  rw[hvo]
  exact⟨_,rfl,HG.out.toL,HBN.out.trans (HS.out.below.mono HNE.out)⟩
end Go.Proofs.YtjmiicjialkpiaaGreatDoor
