/-
Part 37 of the base.
-/
import Derived.Test.YtjmiicjialkpiaaGreatDoorRf36
set_option maxRecDepth 100000
set_option maxHeartbeats 4000000
namespace Go.Proofs.YtjmiicjialkpiaaGreatDoor
open Go.RowKit
theorem memb_add{pre:List Cls}{x:Cls}(h1:x.kind=1)(h:(a0q pre x.name).isSome=false)(s:List UInt8):memb (pre++[x]) s=if s=x.name then x.list else memb pre s:=by
 unfold memb
 rw[a9e]
 by_cases hs:s=x.name
 ·rw[if_pos hs]
  cases hc:a0q pre s with
  | some i=>rw[<- hs,hc]at h;cases h
  | none =>
   dsimp only
   rw[if_pos ⟨h1,hs.symm⟩]
   dsimp only
   rw[List.getElem?_append_right (Nat.le_refl _),Nat.sub_self]
   rfl
 rw[if_neg hs]
 cases hc:a0q pre s with
 | some i =>
  dsimp only
  rw[List.getElem?_append_left (b4q hc)]
 | none =>
  dsimp only
  rw[if_neg (fun e=>hs e.2.symm)]
theorem c2y{pre:List Cls}{x:Cls}(h1:x.kind≠1)(s:List UInt8):memb (pre++[x]) s=memb pre s/\a0q (pre++[x]) s=a0q pre s:=by
 have e:a0q (pre++[x]) s=a0q pre s:=by
  rw[a9e]
  cases a0q pre s with
  | some i=>rfl
  | none=>dsimp only;rw[if_neg (fun h=>h1 h.1)]
 refine⟨?_,e⟩
 unfold memb
 rw[e]
 cases hc:a0q pre s with
 | none=>rfl
 | some i=>dsimp only;rw[List.getElem?_append_left (b4q hc)]
def DefI(w0:World)(l:List Cls)(i:Nat)(C:CCo):Prop:=Full w0 (l.take i) C/\C.nk<=i
theorem DefI.skip{w0:World}{l:List Cls}{i:Nat}{x:Cls}{C:CCo}(h:DefI w0 l i C)(hx:l[i]? =some x)(h1:x.kind≠1):DefI w0 l (i+1) C:=by
 refine⟨?_,Nat.le_succ_of_le h.2⟩
 rw[a3g hx]
 refine⟨fun s=>?_,fun s hs=>?_⟩
 ·rw[(c2y h1 s).2];exact h.1.has s
 rw[(c2y h1 s).1];exact h.1.val s hs
theorem DefI.put{w0:World}{l:List Cls}{i:Nat}{x:Cls}{C:CCo}{u:Value}(h:DefI w0 l i C)(hx:l[i]? =some x)(h1:x.kind=1)(h2:(a0q (l.take i) x.name).isSome=false)(hu:b0b w0 u x.list):DefI w0 l (i+1) {C with nk:=C.nk+1,Sk:=putK C.Sk x.name,fk:=putV C.fk x.name u}:=by
 refine⟨?_,Nat.succ_le_succ h.2⟩
 rw[a3g hx]
 refine⟨fun s=>?_,fun s hs=>?_⟩
 ·show putK C.Sk x.name s=_
  unfold putK
  rw[h.1.has s,a9e]
  cases hc:a0q (l.take i) s with
  | some _=>rfl
  | none =>
   dsimp only
   by_cases hs:s=x.name
   ·rw[if_pos ⟨h1,hs.symm⟩,decide_eq_true hs];rfl
   rw[if_neg (fun e=>hs e.2.symm),decide_eq_false hs];rfl
 have hs':putK C.Sk x.name s=true:=hs
 show b0b w0 (putV C.fk x.name u s) _
 rw[memb_add h1 h2 s]
 unfold putV
 by_cases he:s=x.name
 ·rw[if_pos he,if_pos he];exact hu
 rw[if_neg he,if_neg he]
 refine h.1.val s ?_
 unfold putK at hs'
 rw[decide_eq_false he,Bool.or_false]at hs'
 exact hs'
def DefR(w0:World)(cl:List Nmd)(l:List Cls)(A:CAd)(C:CCo)(i:Nat)(er0:Int)(e:Ending)(w':World):Prop:=∃ (er:Int) (C':CCo),e=.returned (.int .i64 er)/\Cst w0 cl l A C' w'/\er=er0/\(er=0->DefI w0 l (i+1) C')/\(C'.R=C.R/\C'.B=C.B/\C'.P=C.P/\C'.nl=C.nl/\C'.Sl=C.Sl)
theorem b6k{w0:World}{cl:List Nmd}{l:List Cls}{A:CAd}{C:CCo}(i:Nat)(x:Cls)(u:Value)(w:World)(h:Cst w0 cl l A C w)(hD:DefI w0 l i C)(hi:l[i]? =some x)(hu:b0b w0 u x.list)(hx:x.name.length<=9223372036854775807)(hl:i<=1000000) :
  Calls Tryz.prog 18 #[.pointer (some ⟨A.g,0,none⟩),.agg #[.int .i64 x.kind,.string (bs x.name),.string (bs x.other),u,.bool x.am.n,.string (bs x.am.a),.string (bs x.am.b),.int .i64 x.at_]] w (DefR w0 cl l A C i (err1 cl (l.take i) x)):=by
 have hskip:=fun h=>hD.skip hi h
 have hput:=fun h1 h2=>hD.put hi h1 h2 hu
 have hhas:=hD.1.has x.name
 have hnk:C.nk<maxLen:=by have:=hD.2;unfold maxLen;omega
 have n1:=fun h=>er1_kind (cl:=cl) (pre:=l.take i) (c:=x) h
 have n2:=fun h h2=>er1_no (cl:=cl) (pre:=l.take i) (c:=x) h h2
 have n3:=fun h h2=>d2k (cl:=cl) (pre:=l.take i) (c:=x) h h2
 have n4:=fun h h2 h3=>er1_new (cl:=cl) (pre:=l.take i) (c:=x) h h2 h3
 have c1:=fun W=>b0d x.name W hx
 have hxl:x.name.length<=maxLen:=by unfold maxLen;exact hx
 obtain⟨A5,c5,rfl,hl5,hl6⟩:=hu.slice
 obtain⟨g,v1,v2,mc,mk,ml,nc,vb,vp,vr,gsb,gsp,ex⟩:=A
 dsimp only
 obtain⟨er,her⟩:∃er,er=err1 cl (l.take i) x:=⟨_,rfl⟩
 obtain⟨q1,hq1⟩:∃q,q=(a0g cl x.name).isSome:=⟨_,rfl⟩
 obtain⟨q2,hq2⟩:∃q,q=(a0q (l.take i) x.name).isSome:=⟨_,rfl⟩
 obtain⟨p,hp⟩:∃p,p=a7b x.name:=⟨_,rfl⟩
 obtain⟨k,hk⟩:∃k,k=x.kind:=⟨_,rfl⟩
 obtain⟨z1,hz1⟩:∃z:Value,z=if q1 then .int .i64 (optI (a0g cl x.name))else .int .i64 0:=⟨_,rfl⟩
 obtain⟨z2,hz2⟩:∃z:Value,z=if q2 then C.fk x.name else .slice none 0 0:=⟨_,rfl⟩
 rw[<- hq2]at hhas n3 n4 hput
 rw[<- hq1]at n3 n4
 rw[<- hp]at c1 n4
 rw[<- hk]at n1 n2 n3 n4 hskip hput ⊢
 rw[<- her]at n1 n2 n3 n4 ⊢
 have Q1:Hid ((a0g cl x.name).isSome=q1):=hq1.symm
 have Q2:Hid (C.Sk x.name=q2):=hhas
 have Z1:Hid ((if(a0g cl x.name).isSome then .int .i64 (optI (a0g cl x.name))else .int .i64 0)=z1):=by rw[Q1.out];exact hz1.symm
 have Z2:Hid ((if C.Sk x.name then C.fk x.name else .slice none 0 0)=z2):=by rw[Q2.out];exact hz2.symm
 have HC:=zh h
 have HM:=zh h.mc
 have HK:=zh h.mkb
 have HD:=zh (show ∀w',Below w.heap.size w w'->∀ (j:Nat) (v:Value),[v1,v2,.map (some mc),.map (some mk),vb,vp,.map (some ml),vr][j]? =some v->w'.cell? ⟨g,j,none⟩=some v from fun w' hb=>Cst.rd (Cst.below h hb))
 have HSK:=zh hskip
 have HPU:=zh hput
 have HNK:=zh hnk
 have HXL:=zh hxl
 have H1:=zh c1
 have N1:=zh n1
 have N2:=zh n2
 have N3:=zh n3
 have N4:=zh n4
 have L6:=zh hl5
 clear h hD hi hu hx hl hskip hput hhas hnk n1 n2 n3 n4 c1 hxl her hq1 hq2 hp hk hz1 hz2 hl5 hl6
 dsimp only at HM HK
 by_cases k1:k<1
 have R:=zh (N1.out (.inl k1)).symm
 have d1:decide (k<1)=true:=decide_eq_true k1
 clear k1
 rotate_left
 by_cases k2:4<k
 have R:=zh (N1.out (.inr k2)).symm
 have d1:decide (k<1)=false:=decide_eq_false k1
 have d2:decide (4<k)=true:=decide_eq_true k2
 clear k1 k2
 rotate_left
 by_cases k3:k=1
 subst k3
 clear k1 k2
 rotate_left
 have R:=zh (N2.out (fun h=>h.elim k1 k2) k3).symm
 have R2:=zh (HSK.out k3)
 have d1:decide (k<1)=false:=decide_eq_false k1
 have d2:decide (4<k)=false:=decide_eq_false k2
 have d7:(k != 1)=true:=bne_iff_ne.2 k3
 clear k1 k2 k3
 rotate_left
 all_goals
   go_enter Tryz.func18,Tryz.ntmps18
   have HS:=zh (St.start w)
   go_wp2
 ·go_ret
  exact⟨_,C,rfl,(HC.out.below (Ext.alloc (Below.refl w.heap.size w) (Obj.cells #[.int .i64 k,.string (bs x.name),.string (bs x.other),.slice A5 x.list.length c5,.bool x.am.n,.string (bs x.am.a),.string (bs x.am.b),.int .i64 x.at_] 51))),R.out,fun h=>absurd h (by decide),⟨rfl,rfl,rfl,rfl,rfl⟩⟩
 ·go_ret
  exact⟨_,C,rfl,(HC.out.below (Ext.alloc (Below.refl w.heap.size w) (Obj.cells #[.int .i64 k,.string (bs x.name),.string (bs x.other),.slice A5 x.list.length c5,.bool x.am.n,.string (bs x.am.a),.string (bs x.am.b),.int .i64 x.at_] 51))),R.out,fun h=>absurd h (by decide),⟨rfl,rfl,rfl,rfl,rfl⟩⟩
 ·have HS2:=aL HS #[.int .i64 1,.string (bs x.name),.string (bs x.other),.slice A5 x.list.length c5,.bool x.am.n,.string (bs x.am.a),.string (bs x.am.b),.int .i64 x.at_] 51 w.heap.size
  clear HS
  have C_2:=zh (HC.out.below (Ext.alloc (Below.refl w.heap.size w) (Obj.cells #[.int .i64 1,.string (bs x.name),.string (bs x.other),.slice A5 x.list.length c5,.bool x.am.n,.string (bs x.am.a),.string (bs x.am.b),.int .i64 x.at_] 51)))
  clear HC
  have M_2:=zh (HM.out.below (Ext.alloc (Below.refl w.heap.size w) (Obj.cells #[.int .i64 1,.string (bs x.name),.string (bs x.other),.slice A5 x.list.length c5,.bool x.am.n,.string (bs x.am.a),.string (bs x.am.b),.int .i64 x.at_] 51)))
  clear HM
  have K_2:=zh (HK.out.below (Ext.alloc (Below.refl w.heap.size w) (Obj.cells #[.int .i64 1,.string (bs x.name),.string (bs x.other),.slice A5 x.list.length c5,.bool x.am.n,.string (bs x.am.a),.string (bs x.am.b),.int .i64 x.at_] 51)))
  clear HK
  refine a0e 11 [.pointer (some ⟨g,0,none⟩),.pointer (some ⟨g,0,none⟩),.pointer (some ⟨g,2,none⟩),.map (some mc),.pointer (some ⟨w.heap.size,1,none⟩),.string (bs x.name),.tuple #[z1,.bool q1],.tuple #[z1,.bool q1],z1,.bool q1,z1] rfl (by kernel_rfl) (by kernel_rfl) (by kernel_rfl) ?_ ?_
  refine⟨?_,?_,?_,?_,?_,?_,?_,?_,?_,?_,?_,trivial⟩<;>(intro xx af wv hbx hev hev0 hd;have H:=SH.mk hev hev0 hd;clear hev hev0 hd)
  ·have e0:=H.i 0;clear H;go_wp2;exact sQ rfl
  ·have e21:=H.r 0 21;clear H;go_wp2;exact sQ rfl
  ·have e22:=H.r 1 22;clear H;go_wp2;exact sQ rfl
  ·have e23:=H.r 2 23;clear H;have hs1:=zh (HS2.out.call hbx);have y0:=HD.out _ hs1.out.below 2 _ rfl;go_wp2;exact sQ rfl
  ·have e3:=H.i 3;clear H;go_wp2;exact sQ rfl
  ·have e25:=H.r 4 25;clear H;have hs1:=zh (HS2.out.call hbx);have y0:=cC hs1 0 1;go_wp2;exact sQ rfl
  ·have e24:=H.r 3 24;have e26:=H.r 5 26;clear H
   go_wp2_with (at_lookup;refine a0t rfl _ _ 65 rfl 9 3 a2r Tryz.underlying65 (a5a _) (M_2.out.below hbx) (by simp[Act.eval];assumption) (x.name) (by simp[Act.eval,strV];assumption) HXL.out (z1) q1 (Z1.out) (Q1.out) ?_)
   exact sQ rfl
  ·have e27:=H.r 6 27;clear H;go_wp2;exact sQ rfl
  ·have e20:=H.r 7 20;clear H;go_wp2;exact sQ rfl
  ·have e20:=H.r 7 20;clear H;go_wp2;exact sQ rfl
  ·have e28:=H.r 8 28;clear H;go_wp2;exact sQ rfl
  intro xx w4 hb9 hv
  simp only[List.take,List.drop,a0h,Act.put]
  simp only[vQ hv 0,vQ hv 1,vQ hv 2,vQ hv 3,vQ hv 4,vQ hv 5,vQ hv 6,vQ hv 7,vQ hv 8,vQ hv 9,vQ hv 10]
  clear hv
  have HS4:=zh (HS2.out.call hb9)
  have C_4:=zh (C_2.out.below hb9)
  clear C_2
  have M_4:=zh (M_2.out.below hb9)
  clear M_2
  have K_4:=zh (K_2.out.below hb9)
  clear K_2 hb9 HS2
  go_wp2
  refine a0e 11 [.pointer (some ⟨g,0,none⟩),.pointer (some ⟨g,0,none⟩),.pointer (some ⟨g,3,none⟩),.map (some mk),.pointer (some ⟨w.heap.size,1,none⟩),.string (bs x.name),.tuple #[z2,.bool q2],.tuple #[z2,.bool q2],z2,.bool q2,z2] rfl (by kernel_rfl) (by kernel_rfl) (by kernel_rfl) ?_ ?_
  refine⟨?_,?_,?_,?_,?_,?_,?_,?_,?_,?_,?_,trivial⟩<;>(intro xx af wv hbx hev hev0 hd;have H:=SH.mk hev hev0 hd;clear hev hev0 hd)
  ·have e0:=H.i 0;clear H;go_wp2;exact sQ rfl
  ·have e31:=H.r 0 31;clear H;go_wp2;exact sQ rfl
  ·have e32:=H.r 1 32;clear H;go_wp2;exact sQ rfl
  ·have e33:=H.r 2 33;clear H;have hs1:=zh (HS4.out.call hbx);have y0:=HD.out _ hs1.out.below 3 _ rfl;go_wp2;exact sQ rfl
  ·have e3:=H.i 3;clear H;go_wp2;exact sQ rfl
  ·have e35:=H.r 4 35;clear H;have hs1:=zh (HS4.out.call hbx);have y0:=cC hs1 0 1;go_wp2;exact sQ rfl
  ·have e34:=H.r 3 34;have e36:=H.r 5 36;clear H
   go_wp2_with (at_lookup;refine a0t rfl _ _ 66 rfl 9 49 a2r Tryz.underlying66 (b0w _) (K_4.out.below hbx) (by simp[Act.eval];assumption) (x.name) (by simp[Act.eval,strV];assumption) HXL.out (z2) q2 (Z2.out) (Q2.out) ?_)
   exact sQ rfl
  ·have e37:=H.r 6 37;clear H;go_wp2;exact sQ rfl
  ·have e30:=H.r 7 30;clear H;go_wp2;exact sQ rfl
  ·have e30:=H.r 7 30;clear H;go_wp2;exact sQ rfl
  ·have e38:=H.r 8 38;clear H;go_wp2;exact sQ rfl
  intro xx w5 hb9 hv
  simp only[List.take,List.drop,a0h,Act.put]
  simp only[vQ hv 0,vQ hv 1,vQ hv 2,vQ hv 3,vQ hv 4,vQ hv 5,vQ hv 6,vQ hv 7,vQ hv 8,vQ hv 9,vQ hv 10]
  clear hv
  have HS5:=zh (HS4.out.call hb9)
  have C_5:=zh (C_4.out.below hb9)
  clear C_4
  have M_5:=zh (M_4.out.below hb9)
  clear M_4
  have K_5:=zh (K_4.out.below hb9)
  clear K_4 hb9 HS4 Z1 Z2 Q1 Q2
  cases q1
  ·cases q2
   ·have N5:=zh (by first | exact N4.out rfl rfl rfl | exact N4.out trivial rfl rfl | exact N4.out rfl trivial trivial | exact N4.out trivial trivial trivial | exact N4.out)
    clear N4
    cases p
    ·have R:=zh (N5.out.trans (if_pos rfl)).symm
     have x1:=cC HS5 0 1
     go_wp2_with fail
     refine(H1.out _).mono ?_
     rintro e w' ⟨rfl,rfl⟩
     clear x1
     go_wp2
     go_ret
     exact⟨_,C,rfl,C_5.out,R.out,fun h=>absurd h (by decide),⟨rfl,rfl,rfl,rfl,rfl⟩⟩
    by_cases m1:x.list.length=0
    ·have R:=zh (N5.out.trans ((if_neg (by simp)).trans (if_pos m1))).symm
     have d3:((x.list.length:Int)==0)=true:=by rw[m1];rfl
     have d4:(x.list.length==0)=true:=by rw[m1];rfl
     clear m1
     have x1:=cC HS5 0 1
     go_wp2_with fail
     refine(H1.out _).mono ?_
     rintro e w' ⟨rfl,rfl⟩
     clear x1
     have x2:=cC HS5 0 3
     go_wp2
     go_ret
     exact⟨_,C,rfl,C_5.out,R.out,fun h=>absurd h (by decide),⟨rfl,rfl,rfl,rfl,rfl⟩⟩
    by_cases m2:32<x.list.length
    ·have R:=zh (N5.out.trans ((if_neg (by simp)).trans ((if_neg m1).trans (if_pos m2)))).symm
     have d3:((x.list.length:Int)==0)=false:=by rw[beq_eq_false_iff_ne];omega
     have d4:(x.list.length==0)=false:=by rw[beq_eq_false_iff_ne];exact m1
     have d5:decide ((32:Int)<(x.list.length:Int))=true:=decide_eq_true (by omega)
     have d6:decide (32<x.list.length)=true:=decide_eq_true m2
     clear m1 m2
     have x1:=cC HS5 0 1
     go_wp2_with fail
     refine(H1.out _).mono ?_
     rintro e w' ⟨rfl,rfl⟩
     clear x1
     have x2:=cC HS5 0 3
     go_wp2
     go_ret
     exact⟨_,C,rfl,C_5.out,R.out,fun h=>absurd h (by decide),⟨rfl,rfl,rfl,rfl,rfl⟩⟩
    have R:=zh (N5.out.trans ((if_neg (by simp)).trans ((if_neg m1).trans (if_neg m2)))).symm
    have d3:((x.list.length:Int)==0)=false:=by rw[beq_eq_false_iff_ne];omega
    have d4:(x.list.length==0)=false:=by rw[beq_eq_false_iff_ne];exact m1
    have d5:decide ((32:Int)<(x.list.length:Int))=false:=decide_eq_false (by omega)
    have d6:decide (32<x.list.length)=false:=decide_eq_false m2
    clear m1 m2
    have x1:=cC HS5 0 1
    go_wp2_with fail
    refine(H1.out _).mono ?_
    rintro e w' ⟨rfl,rfl⟩
    clear x1
    have x2:=cC HS5 0 3
    go_wp2
    clear x2
    refine a0e 8 [.pointer (some ⟨g,0,none⟩),.pointer (some ⟨g,0,none⟩),.pointer (some ⟨g,3,none⟩),.map (some mk),.pointer (some ⟨w.heap.size,1,none⟩),.string (bs x.name),.pointer (some ⟨w.heap.size,3,none⟩),.slice A5 x.list.length c5] rfl (by kernel_rfl) (by kernel_rfl) (by kernel_rfl) ?_ ?_
    refine⟨?_,?_,?_,?_,?_,?_,?_,?_,trivial⟩<;>(intro xx af wv hbx hev hev0 hd;have H:=SH.mk hev hev0 hd;clear hev hev0 hd)
    ·have e0:=H.i 0;clear H;go_wp2;exact sQ rfl
    ·have e60:=H.r 0 60;clear H;go_wp2;exact sQ rfl
    ·have e61:=H.r 1 61;clear H;go_wp2;exact sQ rfl
    ·have e62:=H.r 2 62;clear H;have hs1:=zh (HS5.out.call hbx);have y0:=HD.out _ hs1.out.below 3 _ rfl;go_wp2;exact sQ rfl
    ·have e3:=H.i 3;clear H;go_wp2;exact sQ rfl
    ·have e64:=H.r 4 64;clear H;have hs1:=zh (HS5.out.call hbx);have y0:=cC hs1 0 1;go_wp2;exact sQ rfl
    ·have e3:=H.i 3;clear H;go_wp2;exact sQ rfl
    ·have e66:=H.r 6 66;clear H;have hs1:=zh (HS5.out.call hbx);have y0:=cC hs1 0 3;go_wp2;exact sQ rfl
    intro xx w6 hb9 hv
    simp only[List.take,List.drop,a0h,Act.put]
    simp only[vQ hv 0,vQ hv 1,vQ hv 2,vQ hv 3,vQ hv 4,vQ hv 5,vQ hv 6,vQ hv 7]
    clear hv
    have HS6:=zh (HS5.out.call hb9)
    have C_6:=zh (C_5.out.below hb9)
    clear C_5
    have M_6:=zh (M_5.out.below hb9)
    clear M_5
    have K_6:=zh (K_5.out.below hb9)
    clear K_5 hb9 HS5
    go_wp2_with (at_mapUpdate;refine a3k rfl _ _ _ 66 rfl 9 49 a2r Tryz.underlying66 K_6.out (HNK.out) (by simp[Act.eval]) (x.name) (by simp[Act.eval,strV]) HXL.out (.slice A5 x.list.length c5) (by simp[Act.eval]) ?_)
    intro w9 hown9 hg9
    have HC9:=zh (Cst.putClass C_6.out hown9 hg9)
    clear hown9 hg9
    go_wp2
    go_ret
    exact⟨0,_,rfl,HC9.out,R.out,fun _=>(by first | exact HPU.out rfl rfl | exact HPU.out trivial rfl | exact HPU.out rfl trivial | exact HPU.out trivial trivial | exact HPU.out rfl | exact HPU.out trivial | exact HPU.out),⟨rfl,rfl,rfl,rfl,rfl⟩⟩
   have R:=zh (by first | exact(N3.out rfl (.inr rfl)).symm | exact(N3.out trivial (.inr rfl)).symm | exact(N3.out (by simp) (by simp)).symm | exact(N3.out rfl (by simp)).symm | exact(N3.out (by simp)).symm | simpa using N3.out.symm)
   go_wp2
   go_ret
   exact⟨_,C,rfl,C_5.out,R.out,fun h=>absurd h (by decide),⟨rfl,rfl,rfl,rfl,rfl⟩⟩
  have R:=zh (by first | exact(N3.out rfl (.inl rfl)).symm | exact(N3.out trivial (.inl rfl)).symm | exact(N3.out (by simp) (by simp)).symm | exact(N3.out rfl (by simp)).symm | exact(N3.out (by simp)).symm | simpa using N3.out.symm)
  go_wp2
  go_ret
  exact⟨_,C,rfl,C_5.out,R.out,fun h=>absurd h (by decide),⟨rfl,rfl,rfl,rfl,rfl⟩⟩
 go_ret
 exact⟨0,C,rfl,(HC.out.below (Ext.alloc (Below.refl w.heap.size w) (Obj.cells #[.int .i64 k,.string (bs x.name),.string (bs x.other),.slice A5 x.list.length c5,.bool x.am.n,.string (bs x.am.a),.string (bs x.am.b),.int .i64 x.at_] 51))),R.out,fun _=>R2.out,⟨rfl,rfl,rfl,rfl,rfl⟩⟩
theorem b7j{w0:World}{cl:List Nmd}{l:List Cls}{A:CAd}{C:CCo}(x:Cls)(u:Value)(w:World)(h:Cst w0 cl l A C w)(hS:∀s,C.Sk s=(a0q l s).isSome)(hu:b0b w u x.list)(hx:∀s∈a5c x,s.length<=maxLen)(hxn:x.name.length<=maxLen) :
  Calls Tryz.prog 19 #[.pointer (some ⟨A.g,0,none⟩),.agg #[.int .i64 x.kind,.string (bs x.name),.string (bs x.other),u,.bool x.am.n,.string (bs x.am.a),.string (bs x.am.b),.int .i64 x.at_]] w fun e w'=>e=.returned (.int .i64 (err2 cl l x))/\Below w.heap.size w w':=by
 have hkn:=fun s W (hs:s∈a5c x) (hb:Below w.heap.size w W)=>b7k s W (h.below hb) (hx s hs)
 have n1:=fun k s h h2=>er2_bad (cl:=cl) (l:=l) (c:=x) (k:=k) (s:=s) h h2
 have n2:=fun h=>er2_good (cl:=cl) (l:=l) (c:=x) h
 have hbad:x.kind≠3->∀s,badB cl l x s=!((a0g cl s).isSome||C.Sk s):=fun hk s=>by
  unfold badB
  rw[decide_eq_false hk,Bool.false_or,Bool.not_or,hS]
 have u1:=fun h=>uses1 (c:=x) h
 have u2:=fun h=>uses2 (c:=x) h
 have u0:=fun h h2=>uses0 (c:=x) h h2
 have hb3:x.kind=3->badB cl l x x.name=!(a0g cl x.name).isSome:=fun hk=>by
  unfold badB
  rw[decide_eq_true hk,Bool.true_or,Bool.and_true]
 obtain⟨ii,hii,hiz,hi1,hi8⟩:=b9h
 obtain⟨g,v1,v2,mc,mk,ml,nc,vb,vp,vr,gsb,gsp,ex⟩:=A
 dsimp only at hkn ⊢
 have HM:=zh h.mc
 have HC:=zh h
 have HD:=zh (show ∀w',Below w.heap.size w w'->∀ (j:Nat) (v:Value),[v1,v2,.map (some mc),.map (some mk),vb,vp,.map (some ml),vr][j]? =some v->w'.cell? ⟨g,j,none⟩=some v from fun w' hb=>Cst.rd (Cst.below h hb))
 dsimp only at HM
 obtain⟨er,her⟩:∃er,er=err2 cl l x:=⟨_,rfl⟩
 obtain⟨bad,hba⟩:∃b,b=badB cl l x:=⟨_,rfl⟩
 obtain⟨us,hus⟩:∃us,us=a5c x:=⟨_,rfl⟩
 obtain⟨k,hk⟩:∃k,k=x.kind:=⟨_,rfl⟩
 rw[<- her]at n1 n2 ⊢
 rw[<- hba]at n1 n2 hbad hb3
 rw[<- hus]at n1 n2 u1 u2 u0 hkn
 rw[<- hk]at u1 u2 u0 hbad hb3 ⊢
 have HKN:=zh hkn
 have N1:=zh n1
 have N2:=zh n2
 have HBD:=zh hbad
 have HB3:=zh hb3
 have HU:=zh hu
 have HXN:=zh hxn
 have HIZ:=zh hiz
 have U1:=zh u1
 have U2:=zh u2
 have U0:=zh u0
 clear h hS hu hx hxn n1 n2 hbad hb3 u1 u2 u0 hkn her hba hus hk hiz
 by_cases k1:k=1
 have HK3:=zh (show k≠3 by omega)
 have HUS:=zh (U1.out k1)
 have hu:=HU.out
 rw[<- HUS.out]at hu
 obtain⟨A5,c5,rfl,hl5,hl6⟩:=hu.slice
 have HV0:=zh hu
 have LN:=zh (Nat.le_trans hl5 hl6)
 clear hu HU hl5 hl6
 subst k1
 rotate_left
 by_cases k2:k=2
 have HK3:=zh (show k≠3 by omega)
 have HUS:=zh (U2.out k2)
 clear k1 HU
 have LN:=zh (show 2<=9223372036854775807 by omega)
 subst k2
 rotate_left
 have HUS:=zh (U0.out k1 k2)
 clear HU
 have LN:=zh (show 1<=9223372036854775807 by omega)
 have d1:(k==1)=false:=beq_eq_false_iff_ne.2 k1
 have d2:(k==2)=false:=beq_eq_false_iff_ne.2 k2
 clear k1 k2
 by_cases k3:k=3
 have HBN:=zh (HB3.out k3)
 obtain⟨q1,hq1⟩:∃q,q=(a0g cl x.name).isSome:=⟨_,rfl⟩
 obtain⟨z1,hz1⟩:∃z:Value,z=if q1 then .int .i64 (optI (a0g cl x.name))else .int .i64 0:=⟨_,rfl⟩
 have Q1:Hid ((a0g cl x.name).isSome=q1):=hq1.symm
 have Z1:Hid ((if(a0g cl x.name).isSome then .int .i64 (optI (a0g cl x.name))else .int .i64 0)=z1):=by rw[Q1.out];exact hz1.symm
 clear hq1 hz1 d1 d2
 have d3:=zh k3
 cases q1
 have HBX:=zh (show bad x.name=true by rw[HBN.out,Q1.out];rfl)
 subst k3
 rotate_left
 have HBX:=zh (show bad x.name=false by rw[HBN.out,Q1.out];rfl)
 have hkn:=fun W hb=>HKN.out x.name W (by rw[HUS.out];exact List.mem_singleton.2 rfl) hb
 rw[Q1.out,Bool.true_or]at hkn
 have D1:=zh hkn
 clear hkn
 subst k3
 rotate_left
 have HBN:=zh (HBD.out k3 x.name)
 have hkn:=fun W hb=>HKN.out x.name W (by rw[HUS.out];exact List.mem_singleton.2 rfl) hb
 obtain⟨q,hq9⟩:∃q,q=((a0g cl x.name).isSome||C.Sk x.name):=⟨_,rfl⟩
 rw[<- hq9]at hkn
 rw[<- hq9]at HBN
 have D1:=zh hkn
 have d3:(k==3)=false:=beq_eq_false_iff_ne.2 k3
 clear hkn hq9 k3
 cases q
 have HBX:=zh (show bad x.name=true by rw[HBN.out];rfl)
 rotate_left
 have HBX:=zh (show bad x.name=false by rw[HBN.out];rfl)
 rotate_left
 all_goals
   go_enter Tryz.func19,Tryz.ntmps19
   have HS:=zh (St.start w)
 ·go_wp2
  refine a4m (aL (aL HS #[.int .i64 1,.string (bs x.name),.string (bs x.other),.slice A5 us.length c5,.bool x.am.n,.string (bs x.am.a),.string (bs x.am.b),.int .i64 x.at_] 51 w.heap.size) #[.string (bs x.name)] 9 (w.heap.size+1)).out ?_
  intro wg hb
  have HS9:=zh hb
  have HB9:=zh hb.below
  have HV:=zh (HV0.out.below HB9.out)
  clear hb HV0 HS
  go_loopw [42] (fun i_ wr=>∃k_:Nat,k_<=us.length/\i_=.int .i64 k_/\Hid (∀ (j:Nat) t,j<k_->us[j]? =some t->bad t=false)/\wr=wg) (fun i_ _=>us.length-(intOf i_).toNat)
  case atStart=>exact⟨0,Nat.zero_le _,rfl,(fun j t hj=>absurd hj (Nat.not_lt_zero _)),rfl⟩
  case round =>
   obtain⟨k_,hk_,rfl,HNB,hw_⟩:=hrel
   subst hw_
   by_cases hlt:k_<us.length
   ·obtain⟨b5,o5,s,rfl,hb5,hq,hx⟩:=HV.out.at_ (show k_<us.length by exact hlt)
    simp only[Nat.mul_one]at hx
    have HE:=zh hx
    have HQ:=zh hq
    have hkn:=fun W hb=>HKN.out s W (List.mem_of_getElem? hq) hb
    have hbd:=HBD.out HK3.out s
    obtain⟨q,hq9⟩:∃q,q=((a0g cl s).isSome||C.Sk s):=⟨_,rfl⟩
    rw[<- hq9]at hbd
    rw[<- hq9]at hkn
    have D1:=zh hkn
    have BD:=zh hbd
    have e3:(0:Int)<=((k_:Nat):Int):=by omega
    have e4:((k_:Nat):Int)<(us.length:Int):=by omega
    have e5:decide (((k_:Nat):Int)<(us.length:Int))=true:=decide_eq_true e4
    have i5:IntKind.i64.wrap ((k_:Int)+1)=((k_+1:Nat):Int):=by have:=LN.out;rw[IntWalk.i64_in _ (by omega)];rfl
    clear hq hx hkn hbd hq9
    cases q
    ·have x1:=HE.out _ (Below.refl _ _) 0 _ rfl
     rw[Nat.add_zero]at x1
     go_wp2_with fail
     refine(D1.out _ (HB9.out)).mono ?_
     rintro e w' ⟨rfl,rfl⟩
     clear x1
     go_wp2
     go_ret
     rw[N1.out k_ s HQ.out BD.out]
     exact⟨rfl,HB9.out⟩
    have x1:=HE.out _ (Below.refl _ _) 0 _ rfl
    rw[Nat.add_zero]at x1
    go_wp2_with fail
    refine(D1.out _ (HB9.out)).mono ?_
    rintro e w' ⟨rfl,rfl⟩
    clear x1
    go_wp2
    go_roundw
    case rel=>exact⟨k_+1,by omega,by go_num,a7a (p:=bad) HNB.out HQ.out BD.out,(by first | rfl | trivial)⟩
    case measure=>simp[intOf];omega
   obtain hke:k_=us.length:=by omega
   rw[hke]at HNB ⊢
   have e2:decide (((us.length:Nat):Int)<(us.length:Int))=false:=decide_eq_false (by omega)
   clear hlt hk_ hke
   go_wp2
   go_ret
   rw[N2.out (by exact HNB.out)]
   exact⟨rfl,HB9.out⟩
 ·have HS2:=aL (aL (aL HS #[.int .i64 2,.string (bs x.name),.string (bs x.other),u,.bool x.am.n,.string (bs x.am.a),.string (bs x.am.b),.int .i64 x.at_] 51 w.heap.size) #[.string (bs x.name)] 9 (w.heap.size+1)) #[.string (bs x.other)] 9 (w.heap.size+1+1)
  have HQ5:Hid (Que strE 1 w.heap.size (w.heap.size+1) _ _ [x.name]):=zh (Que.of_blk (n:=1) (c:=1) a3h (HS2.out.blk 1 rfl) (by omega) rfl rfl rfl (by decide))
  go_wp2_with (refine a9j _ rfl _ _ _ rfl w.heap.size 9 ii _ 1 16 Tryz.underlying49 hii HIZ.out hi1 hi8 rfl a3h (by simp[Act.eval]) HQ5.out _ [x.other] (by simp[Act.eval]) (Src.of_slc Tryz.underlying49 a3h (Slc.of_blk (n:=1) (c:=1) a3h (xs:=[x.other]) (HS2.out.blk 0 rfl) rfl rfl (Nat.le_refl _) (by decide)) (Below.refl _ _) (c6a _)) (by simp[maxLen]) (by simp) HS2.out.below.size ?_)
  intro v8 wg g8 hq8 hgr8 hg8
  obtain⟨p8,c8,hv8,_,_⟩:=hq8.len
  have hv8:v8=.slice (some ⟨g8,p8,none⟩) 2 c8:=hv8
  subst hv8
  have HB9:=zh (HS2.out.below.grown hgr8 HS2.out.below.size (fun q hq=>by injection hq with hq;omega))
  have HS9:Hid (St w [] wg):=zh (St.of HB9.out)
  have HV:Hid (b0b wg (.slice (some ⟨g8,p8,none⟩) us.length c8) us):=zh (by rw[HUS.out];exact hq8.slc a3h)
  have hus2:us.length=2:=by rw[HUS.out];rfl
  rw[hus2]at HV
  have HU2:=zh hus2
  clear hq8 hgr8 hg8 HQ5 hus2 HS2
  go_wp2
  go_loopw [42] (fun i_ wr=>∃k_:Nat,k_<=2/\i_=.int .i64 k_/\Hid (∀ (j:Nat) t,j<k_->us[j]? =some t->bad t=false)/\wr=wg) (fun i_ _=>2-(intOf i_).toNat)
  case atStart=>exact⟨0,Nat.zero_le _,rfl,(fun j t hj=>absurd hj (Nat.not_lt_zero _)),rfl⟩
  case round =>
   obtain⟨k_,hk_,rfl,HNB,hw_⟩:=hrel
   subst hw_
   by_cases hlt:k_<2
   ·obtain⟨b5,o5,s,hV5,hb5,hq,hx⟩:=HV.out.at_ (show k_<us.length by rw[HU2.out];exact hlt)
    injection hV5 with hV5
    injection hV5 with hV5 hV6
    subst hV5
    subst hV6
    simp only[Nat.mul_one]at hx
    have HE:=zh hx
    have HQ:=zh hq
    have hkn:=fun W hb=>HKN.out s W (List.mem_of_getElem? hq) hb
    have hbd:=HBD.out HK3.out s
    obtain⟨q,hq9⟩:∃q,q=((a0g cl s).isSome||C.Sk s):=⟨_,rfl⟩
    rw[<- hq9]at hbd
    rw[<- hq9]at hkn
    have D1:=zh hkn
    have BD:=zh hbd
    have e3:(0:Int)<=((k_:Nat):Int):=by omega
    have e4:((k_:Nat):Int)<(2:Int):=by omega
    have e5:decide (((k_:Nat):Int)<(2:Int))=true:=decide_eq_true e4
    have i5:IntKind.i64.wrap ((k_:Int)+1)=((k_+1:Nat):Int):=by have:=LN.out;rw[IntWalk.i64_in _ (by omega)];rfl
    clear hq hx hkn hbd hq9
    cases q
    ·have x1:=HE.out _ (Below.refl _ _) 0 _ rfl
     rw[Nat.add_zero]at x1
     go_wp2_with fail
     refine(D1.out _ (HB9.out)).mono ?_
     rintro e w' ⟨rfl,rfl⟩
     clear x1
     go_wp2
     go_ret
     rw[N1.out k_ s HQ.out BD.out]
     exact⟨rfl,HB9.out⟩
    have x1:=HE.out _ (Below.refl _ _) 0 _ rfl
    rw[Nat.add_zero]at x1
    go_wp2_with fail
    refine(D1.out _ (HB9.out)).mono ?_
    rintro e w' ⟨rfl,rfl⟩
    clear x1
    go_wp2
    go_roundw
    case rel=>exact⟨k_+1,by omega,by go_num,a7a (p:=bad) HNB.out HQ.out BD.out,(by first | rfl | trivial)⟩
    case measure=>simp[intOf];omega
   obtain hke:k_=2:=by omega
   rw[hke]at HNB ⊢
   have e2:decide (((2:Nat):Int)<(2:Int))=false:=decide_eq_false (by omega)
   clear hlt hk_ hke
   go_wp2
   go_ret
   rw[N2.out (by rw[HU2.out];exact HNB.out)]
   exact⟨rfl,HB9.out⟩
 all_goals
   go_wp2
 ·have HS2:=aL (aL HS #[.int .i64 3,.string (bs x.name),.string (bs x.other),u,.bool x.am.n,.string (bs x.am.a),.string (bs x.am.b),.int .i64 x.at_] 51 w.heap.size) #[.string (bs x.name)] 9 (w.heap.size+1)
  clear HS
  have M_2:=zh (HM.out.below (Ext.alloc (Ext.alloc (Below.refl w.heap.size w) (Obj.cells #[.int .i64 3,.string (bs x.name),.string (bs x.other),u,.bool x.am.n,.string (bs x.am.a),.string (bs x.am.b),.int .i64 x.at_] 51)) (Obj.cells #[.string (bs x.name)] 9)))
  clear HM
  refine a0e 11 [.pointer (some ⟨g,0,none⟩),.pointer (some ⟨g,0,none⟩),.pointer (some ⟨g,2,none⟩),.map (some mc),.pointer (some ⟨w.heap.size,1,none⟩),.string (bs x.name),.tuple #[z1,.bool false],.tuple #[z1,.bool false],z1,.bool false,z1] rfl (by kernel_rfl) (by kernel_rfl) (by kernel_rfl) ?_ ?_
  refine⟨?_,?_,?_,?_,?_,?_,?_,?_,?_,?_,?_,trivial⟩<;>(intro xx af wv hbx hev hev0 hd;have H:=SH.mk hev hev0 hd;clear hev hev0 hd)
  ·have e0:=H.i 0;clear H;go_wp2;exact sQ rfl
  ·have e29:=H.r 0 29;clear H;go_wp2;exact sQ rfl
  ·have e30:=H.r 1 30;clear H;go_wp2;exact sQ rfl
  ·have e31:=H.r 2 31;clear H;have hs1:=zh (HS2.out.call hbx);have y0:=HD.out _ hs1.out.below 2 _ rfl;go_wp2;exact sQ rfl
  ·have e3:=H.i 3;clear H;go_wp2;exact sQ rfl
  ·have e33:=H.r 4 33;clear H;have hs1:=zh (HS2.out.call hbx);have y0:=cC hs1 1 1;go_wp2;exact sQ rfl
  ·have e32:=H.r 3 32;have e34:=H.r 5 34;clear H
   go_wp2_with (at_lookup;refine a0t rfl _ _ 65 rfl 9 3 a2r Tryz.underlying65 (a5a _) (M_2.out.below hbx) (by simp[Act.eval];assumption) (x.name) (by simp[Act.eval,strV];assumption) HXN.out (z1) false (Z1.out) (Q1.out) ?_)
   exact sQ rfl
  ·have e35:=H.r 6 35;clear H;go_wp2;exact sQ rfl
  ·have e28:=H.r 7 28;clear H;go_wp2;exact sQ rfl
  ·have e28:=H.r 7 28;clear H;go_wp2;exact sQ rfl
  ·have e36:=H.r 8 36;clear H;go_wp2;exact sQ rfl
  intro xx w5 hb9 hv
  simp only[List.take,List.drop,a0h,Act.put]
  simp only[vQ hv 0,vQ hv 1,vQ hv 2,vQ hv 3,vQ hv 4,vQ hv 5,vQ hv 6,vQ hv 7,vQ hv 8,vQ hv 9,vQ hv 10]
  clear hv
  have HS5:=zh (HS2.out.call hb9)
  have M_5:=zh (M_2.out.below hb9)
  clear M_2 hb9 HS2
  go_wp2
  go_ret
  rw[N1.out 0 x.name (by rw[HUS.out];rfl) HBX.out]
  exact⟨rfl,HS5.out.below⟩
 ·have HS2:=aL (aL HS #[.int .i64 3,.string (bs x.name),.string (bs x.other),u,.bool x.am.n,.string (bs x.am.a),.string (bs x.am.b),.int .i64 x.at_] 51 w.heap.size) #[.string (bs x.name)] 9 (w.heap.size+1)
  clear HS
  have M_2:=zh (HM.out.below (Ext.alloc (Ext.alloc (Below.refl w.heap.size w) (Obj.cells #[.int .i64 3,.string (bs x.name),.string (bs x.other),u,.bool x.am.n,.string (bs x.am.a),.string (bs x.am.b),.int .i64 x.at_] 51)) (Obj.cells #[.string (bs x.name)] 9)))
  clear HM
  refine a0e 11 [.pointer (some ⟨g,0,none⟩),.pointer (some ⟨g,0,none⟩),.pointer (some ⟨g,2,none⟩),.map (some mc),.pointer (some ⟨w.heap.size,1,none⟩),.string (bs x.name),.tuple #[z1,.bool true],.tuple #[z1,.bool true],z1,.bool true,z1] rfl (by kernel_rfl) (by kernel_rfl) (by kernel_rfl) ?_ ?_
  refine⟨?_,?_,?_,?_,?_,?_,?_,?_,?_,?_,?_,trivial⟩<;>(intro xx af wv hbx hev hev0 hd;have H:=SH.mk hev hev0 hd;clear hev hev0 hd)
  ·have e0:=H.i 0;clear H;go_wp2;exact sQ rfl
  ·have e29:=H.r 0 29;clear H;go_wp2;exact sQ rfl
  ·have e30:=H.r 1 30;clear H;go_wp2;exact sQ rfl
  ·have e31:=H.r 2 31;clear H;have hs1:=zh (HS2.out.call hbx);have y0:=HD.out _ hs1.out.below 2 _ rfl;go_wp2;exact sQ rfl
  ·have e3:=H.i 3;clear H;go_wp2;exact sQ rfl
  ·have e33:=H.r 4 33;clear H;have hs1:=zh (HS2.out.call hbx);have y0:=cC hs1 1 1;go_wp2;exact sQ rfl
  ·have e32:=H.r 3 32;have e34:=H.r 5 34;clear H
   go_wp2_with (at_lookup;refine a0t rfl _ _ 65 rfl 9 3 a2r Tryz.underlying65 (a5a _) (M_2.out.below hbx) (by simp[Act.eval];assumption) (x.name) (by simp[Act.eval,strV];assumption) HXN.out (z1) true (Z1.out) (Q1.out) ?_)
   exact sQ rfl
  ·have e35:=H.r 6 35;clear H;go_wp2;exact sQ rfl
  ·have e28:=H.r 7 28;clear H;go_wp2;exact sQ rfl
  ·have e28:=H.r 7 28;clear H;go_wp2;exact sQ rfl
  ·have e36:=H.r 8 36;clear H;go_wp2;exact sQ rfl
  intro xx w5 hb9 hv
  simp only[List.take,List.drop,a0h,Act.put]
  simp only[vQ hv 0,vQ hv 1,vQ hv 2,vQ hv 3,vQ hv 4,vQ hv 5,vQ hv 6,vQ hv 7,vQ hv 8,vQ hv 9,vQ hv 10]
  clear hv
  have HS5:=zh (HS2.out.call hb9)
  have M_5:=zh (M_2.out.below hb9)
  clear M_2 hb9 HS2
  go_wp2
  have HB9:=zh HS5.out.below
  go_loopw [42] (fun i_ wr=>∃k_:Nat,k_<=1/\i_=.int .i64 k_/\Hid (k_=1->bad x.name=false)/\wr=w5) (fun i_ _=>1-(intOf i_).toNat)
  case atStart=>exact⟨0,Nat.zero_le _,rfl,(fun h=>absurd h (by decide)),rfl⟩
  case round =>
   obtain⟨k_,hk_,rfl,HNB,hw_⟩:=hrel
   subst hw_
   by_cases hlt:k_<1
   ·obtain rfl:k_=0:=by omega
    clear hk_ hlt HNB
    have HNX:=zh (show ∀w',Below wr.heap.size wr w'->∀ (j:Nat) (v:Value),[Value.string (bs x.name)][j]? =some v->w'.cell? ⟨w.heap.size+1,j,none⟩=some v from fun w' hb j v hv=>((HS5.out.blk 0 rfl).below hb (HS5.out.lt 0 rfl)).cell j v (by rw[List.getElem?_toArray];exact hv))
    have x1:=HNX.out _ (Below.refl _ _) 0 _ rfl
    go_wp2_with fail
    refine(D1.out _ (HB9.out)).mono ?_
    rintro e w' ⟨rfl,rfl⟩
    clear x1
    go_wp2
    go_roundw
    case rel=>exact⟨1,Nat.le_refl _,by go_num,fun _=>HBX.out,(by first | rfl | trivial)⟩
    case measure=>simp[intOf]
   obtain rfl:k_=1:=by omega
   clear hk_ hlt
   go_wp2
   go_ret
   rw[N2.out (by rw[HUS.out];intro j s hj hs;obtain rfl:j=0:=(by simpa using hj);obtain rfl:x.name=s:=(by simpa using hs);first | exact HNB.out rfl | exact HNB.out trivial)]
   exact⟨rfl,HB9.out⟩
 all_goals
   refine a4m (aL (aL HS #[.int .i64 k,.string (bs x.name),.string (bs x.other),u,.bool x.am.n,.string (bs x.am.a),.string (bs x.am.b),.int .i64 x.at_] 51 w.heap.size) #[.string (bs x.name)] 9 (w.heap.size+1)).out ?_
   intro wg hb
   have HS9:=zh hb
   clear hb HS
   have HB9:=zh HS9.out.below
   go_loopw [42] (fun i_ wr=>∃k_:Nat,k_<=1/\i_=.int .i64 k_/\Hid (k_=1->bad x.name=false)/\wr=wg) (fun i_ _=>1-(intOf i_).toNat)
   case atStart=>exact⟨0,Nat.zero_le _,rfl,(fun h=>absurd h (by decide)),rfl⟩
 ·case round =>
   obtain⟨k_,hk_,rfl,HNB,hw_⟩:=hrel
   subst hw_
   by_cases hlt:k_<1
   ·obtain rfl:k_=0:=by omega
    clear hk_ hlt HNB
    have HNX:=zh (show ∀w',Below wr.heap.size wr w'->∀ (j:Nat) (v:Value),[Value.string (bs x.name)][j]? =some v->w'.cell? ⟨w.heap.size+1,j,none⟩=some v from fun w' hb j v hv=>((HS9.out.blk 0 rfl).below hb (HS9.out.lt 0 rfl)).cell j v (by rw[List.getElem?_toArray];exact hv))
    have x1:=HNX.out _ (Below.refl _ _) 0 _ rfl
    go_wp2_with fail
    refine(D1.out _ (HB9.out)).mono ?_
    rintro e w' ⟨rfl,rfl⟩
    clear x1
    go_wp2
    go_ret
    rw[N1.out 0 x.name (by rw[HUS.out];rfl) HBX.out]
    exact⟨rfl,HB9.out⟩
   obtain rfl:k_=1:=by omega
   clear hk_ hlt
   go_wp2
   go_ret
   rw[N2.out (by rw[HUS.out];intro j s hj hs;obtain rfl:j=0:=(by simpa using hj);obtain rfl:x.name=s:=(by simpa using hs);first | exact HNB.out rfl | exact HNB.out trivial)]
   exact⟨rfl,HB9.out⟩
 case round =>
  obtain⟨k_,hk_,rfl,HNB,hw_⟩:=hrel
  subst hw_
  by_cases hlt:k_<1
  ·obtain rfl:k_=0:=by omega
   clear hk_ hlt HNB
   have HNX:=zh (show ∀w',Below wr.heap.size wr w'->∀ (j:Nat) (v:Value),[Value.string (bs x.name)][j]? =some v->w'.cell? ⟨w.heap.size+1,j,none⟩=some v from fun w' hb j v hv=>((HS9.out.blk 0 rfl).below hb (HS9.out.lt 0 rfl)).cell j v (by rw[List.getElem?_toArray];exact hv))
   have x1:=HNX.out _ (Below.refl _ _) 0 _ rfl
   go_wp2_with fail
   refine(D1.out _ (HB9.out)).mono ?_
   rintro e w' ⟨rfl,rfl⟩
   clear x1
   go_wp2
   go_roundw
   case rel=>exact⟨1,Nat.le_refl _,by go_num,fun _=>HBX.out,(by first | rfl | trivial)⟩
   case measure=>simp[intOf]
  obtain rfl:k_=1:=by omega
  clear hk_ hlt
  go_wp2
  go_ret
  rw[N2.out (by rw[HUS.out];intro j s hj hs;obtain rfl:j=0:=(by simpa using hj);obtain rfl:x.name=s:=(by simpa using hs);first | exact HNB.out rfl | exact HNB.out trivial)]
  exact⟨rfl,HB9.out⟩
end Go.Proofs.YtjmiicjialkpiaaGreatDoor
