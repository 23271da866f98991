/-
Part 10 of the base.
-/
import Derived.Test.YtjmiicjialkpiaaGreatDoorRf9
import Derived.Deep.RegionHeld3
set_option maxRecDepth 100000
set_option maxHeartbeats 2000000
namespace Go.Proofs.YtjmiicjialkpiaaGreatDoor
open Go.RowKit
theorem c6t(x:Nat)(h:0<x):1<(limbsOf x).length\/((limbsOf x).length=1/\(limbsOf x).getD 0 0=x):=by
 rcases Nat.lt_or_ge 1 (limbsOf x).length with h1 | h1
 ·exact .inl h1
 right
 have h2:(limbsOf x).length≠0:=fun e=>a5b (by omega) (List.length_eq_zero_iff.1 e)
 have h3:(limbsOf x).length=1:=by omega
 refine⟨h3,?_⟩
 have h4:=a0k x
 revert h3 h4
 generalize limbsOf x=l
 intro h3 h4
 match l,h3 with
 | [y],_ =>
  rw[a1w,a2q]at h4
  rw[List.getD_cons_zero];omega
theorem a8q(n:Nat)(w:World)(hn:n<18446744073709551616) :
  Calls Tryz.prog 94 #[.int .u64 n] w fun e w'=>e=.returned (.string (bs (bytesOf n)))/\Below w.heap.size w w':=by
 go_enter Tryz.func94,Tryz.ntmps94
 go_wp2_with fail
 have hrow:Row (w.alloc (Obj.cells #[Value.int IntKind.u32 ((n:Int)%4294967296),Value.int IntKind.u32 ((n:Int)/4294967296)] 124)) w.heap.size [n%4294967296,n/4294967296]:=by
  unfold Row
  rw[heap_alloc_new]
  simp
 refine(b9p _ [n%4294967296,n/4294967296] _ (hrow.limbsN ?_ rfl (by show 2<=_;decide)) (by simp)).mono ?_
 ·rw[small_cons,small_cons];exact⟨Nat.mod_lt _ (by decide),by omega,a3m⟩
 rintro e w2 ⟨rfl,hb2⟩
 go_wp2
 go_ret
 refine⟨?_,Ext.trans ((Below.refl _ _).alloc (Nat.le_refl _) _) hb2⟩
 rw[a1w,a1w,a2q,Nat.mul_zero,Nat.add_zero,Nat.mod_add_div]
 rfl
theorem b9q(n:Int)(w:World)(hn : -9223372036854775808<=n)(hn2:n<=9223372036854775807) :
   Calls Tryz.prog 95 #[.int .i64 n] w fun e w'=>e=.returned (.int .u64 (n.natAbs:Nat))/\w=w':=by
 by_cases h:n<0
 rotate_left
 rotate_left
 all_goals
   go_enter Tryz.func95,Tryz.ntmps95
   go_wp2
   go_ret
 ·have e:(-(n+1)+1)=((n.natAbs:Nat):Int):=by omega
  rw[e]
  exact⟨rfl,rfl⟩
 have e:n=((n.natAbs:Nat):Int):=by omega
 rw[<- e]
 exact⟨rfl,rfl⟩
theorem a6x(neg:Bool)(num den:List UInt8)(w:World)(hd:den.length<=68719476736) :
   Calls Tryz.prog 81 #[raw neg num den] w fun e w'=>∃v',e=.returned v'/\Limbs w' v' (limbsOf (denN den))/\Below w.heap.size w w':=by
 unfold raw
 by_cases h:den=[]
 have h1:=a2j h
 have H:=zh h
 clear h
 rotate_left
 have h1:=a0r h
 have hP:=fun W=>a2d (bs den) W (by rw[a2u];omega)
 rw[a3w]at hP
 have hN:denN den=bv den:=by unfold denN;rw[if_neg h]
 rw[<- hN]at hP
 have HP:=zh hP
 clear hP hN h
 rotate_left
 all_goals
   go_enter Tryz.func81,Tryz.ntmps81
 ·go_wp2
  go_ret
  have hd1:limbsOf (denN den)=[1]:=by
    rw[H.out]
    show limbsOf 1=[1]
    rw[a3p (by decide),show 1/4294967296=0 by decide,a0u]
  have hrow:Row ((w.alloc (Obj.cells #[Value.bool neg,Value.string (bs num),Value.string (bs den)] 39)).alloc (Obj.cells #[Value.int IntKind.u32 1] 124)) (w.heap.size+1) [1]:=Blk.new1 w _ _ _
  rw[hd1]
  exact⟨_,rfl,hrow.limbsN (by rw[small_cons];exact⟨by decide,a3m⟩) rfl (by decide),Ext.alloc (Ext.alloc (Below.refl _ _) _) _⟩
 go_wp2_with fail
 refine(HP.out _).mono ?_
 rintro e w1 ⟨v1,rfl,h1,hb1⟩
 go_wp2
 go_ret
 exact⟨_,rfl,h1,Ext.trans (Ext.alloc (Below.refl _ _) _) hb1⟩
theorem a2a(va vb:Value)(a b:Nat)(w:World)(ha:Limbs w va (limbsOf a))(hb:Limbs w vb (limbsOf b))(la:(limbsOf a).length<=68719476736)(lb:(limbsOf b).length<=68719476736) :
  Calls Tryz.prog 82 #[va,vb] w fun e w'=>∃v',e=.returned v'/\Limbs w' v' (limbsOf (a*b))/\Below w.heap.size w w':=by
 have h:=c9y va vb _ _ w ha hb la lb
 rwa[a0k,a0k]at h
theorem a8n(v:Value)(n:Nat)(w:World)(h:Limbs w v (limbsOf n))(hsz:(limbsOf n).length<=274877906944) :
  Calls Tryz.prog 116 #[v] w fun e w'=>e=.returned (.string (bs (bytesOf n)))/\Below w.heap.size w w':=by
 have h:=b9p v _ w h hsz
 rwa[a0k]at h
theorem Raw.far{w:World}{g:Nat}{neg:Bool}{num den:List UInt8}(h:Raw w g neg num den){p:Addr}(hp:g≠p.block)(u:Value):Raw (w.setCell p u) g neg num den :=
 (Below.heap_setCell w p u g hp).trans h
theorem b7p{n:Nat}(h:n≠0):(((limbsOf n).length:Int)==0)=false:=by
 rw[beq_eq_false_iff_ne]
 intro e
 exact a5b h (List.length_eq_zero_iff.1 (by omega))
theorem a4v(neg:Bool)(vn vd:Value)(n d:Nat)(w:World)(hn:Limbs w vn (limbsOf n))(hd:Limbs w vd (limbsOf d))(hd0:d≠0)(ln:(limbsOf n).length<=137438953472)(ld:(limbsOf d).length<=137438953472) :
   Calls Tryz.prog 84 #[.bool neg,vn,vd] w fun e w'=>e=.returned (rat (mkRat (signed neg n) d))/\Below w.heap.size w w':=by
 have k0:Raw (w.alloc (Obj.cells #[.bool false,.string (bs []),.string (bs [])] 39)) w.heap.size false [] []:=Blk.new w _ _
 have hbw:Hid (Below w.heap.size w (w.alloc (Obj.cells #[.bool false,.string (bs []),.string (bs [])] 39))):=Ext.alloc (Below.refl _ _) _
 have K0:=zh k0
 clear k0
 have hn1:=hn.below hbw.out
 have hd1:=hd.below hbw.out
 obtain⟨An,cn,rfl,hcn,hcn'⟩:=hn.slice
 have HN:=zh hn1
 have HD:=zh hd1
 clear hn hd hn1 hd1
 by_cases h0:n=0
 subst h0
 rw[(b6e (neg:=neg) (n:=0) hd0).1 rfl,b4k,a0u]
 clear HN HD hcn hcn' ln ld
 rotate_left
 rw[rat_mk h0 hd0]
 have hz:=b7p h0
 obtain⟨g,hg⟩:∃g,g=Nat.gcd n d:=⟨_,rfl⟩
 have hg0:0<g:=by rw[hg];exact Nat.gcd_pos_of_pos_left d (by omega)
 have hdn:g∣n:=by rw[hg];exact Nat.gcd_dvd_left n d
 have hdd:g∣d:=by rw[hg];exact Nat.gcd_dvd_right n d
 have lg:=a5q (Nat.le_of_dvd (by omega) hdn) ln
 have lq:=a5q (Nat.div_le_self n g) ln
 have lr:=a5q (Nat.div_le_self d g) ld
 have hq0:0<n/g:=Nat.div_pos (Nat.le_of_dvd (by omega) hdn) hg0
 have hr0:0<d/g:=Nat.div_pos (Nat.le_of_dvd (by omega) hdd) hg0
 have HG:=zh hg
 rw[<- hg]
 clear hg hdn hdd h0 hd0
 rotate_left
 all_goals
   go_enter Tryz.func84,Tryz.ntmps84
 ·go_wp2
  exact bodyPost_ret (a0f rfl _ _ _ _ _ _ rfl (Blk.new w _ _)) rfl ⟨rfl,Ext.alloc (Below.refl _ _) _⟩
 go_wp2_with fail
 refine(b8c _ _ n d _ HN.out HD.out (by omega) (by omega)).mono ?_
 rintro e w1 ⟨v1,rfl,h1,hb1⟩
 rw[<- HG.out]at h1
 have HN1:=zh (HN.out.below hb1)
 have HD1:=zh (HD.out.below hb1)
 obtain⟨Ag,cg,rfl,hcg,hcg'⟩:=h1.slice
 have H1:=zh h1
 have HB1:=zh hb1
 clear h1 hb1 HN HD
 go_upto_region 4 with (fail)
 go_cut [24] (fun c wx=>∃b:Bool,c=.bool b/\Hid (b=decide (g≠1))/\w1=wx)
 case first =>
   rcases c6t g hg0 with hl | ⟨hl,hl0⟩
   ·have hl':decide ((1:Int)<((limbsOf g).length:Int))=true:=decide_eq_true (by omega)
    have hgg:Hid (true=decide (g≠1)):=by
     show _=_
     symm
     rw[decide_eq_true_eq]
     rintro rfl
     have:=a1z 1 1 (by decide)
     omega
    clear hl
    go_wp2
    go_meet
    case rel=>exact⟨true,rfl,hgg,rfl⟩
   have hl':decide ((1:Int)<((limbsOf g).length:Int))=false:=decide_eq_false (by omega)
   obtain⟨bb,ob,y0,rfl,hbb,hy,hyb,hyc⟩:=H1.out.at_ (j:=0) (by omega)
   rw[hl0]at hy
   subst hy
   have hc0:=hyc w1 (Below.refl _ _)
   rw[Nat.add_zero]at hc0
   have hpos:(0:Int)<((limbsOf y0).length:Int):=by omega
   clear hyc hl hl0
   by_cases hg1:y0=1
   ·have hgg:Hid (false=decide (y0≠1)):=by show _=_;simp[hg1]
    have ht:decide ((1:Int)<(y0:Int))=false:=decide_eq_false (by omega)
    clear hg1
    go_wp2
    go_meet
    case rel=>exact⟨false,rfl,hgg,rfl⟩
   have hgg:Hid (true=decide (y0≠1)):=by show _=_;simp[hg1]
   have ht:decide ((1:Int)<(y0:Int))=true:=decide_eq_true (by omega)
   clear hg1
   go_wp2
   go_meet
   case rel=>exact⟨true,rfl,hgg,rfl⟩
 case rest =>
   obtain⟨b,rfl,HBG,rfl⟩:=hcut
   have H1g:=zh H1.out
   go_upto_if 24 with (fail)
   go_cut [1,2] (fun v1 v2 wx=>Hid (Limbs wx v1 (limbsOf (n/g)))/\Hid (Limbs wx v2 (limbsOf (d/g)))/\Hid (Below w1.heap.size w1 wx))
   case first =>
    cases b
    ·have hg1:g=1:=by have:=HBG.out;simpa using this
     go_wp2
     go_meet
     case rel =>
      refine⟨?_,?_,Below.refl _ _⟩
      ·show Limbs _ _ _
       rw[hg1,Nat.div_one];exact HN1.out
      show Limbs _ _ _
      rw[hg1,Nat.div_one];exact HD1.out
    go_wp2_with fail
    refine(b2j _ _ n g _ HN1.out H1.out hg0 (by omega)).mono ?_
    rintro e w2 ⟨vq,vr,rfl,hq2,_,hb2⟩
    have HQ2:=zh hq2
    have HB2:=zh hb2
    clear hq2 hb2
    go_wp2_with fail
    refine(b2j _ _ d g _ (HD1.out.below HB2.out) (H1.out.below HB2.out) hg0 (by omega)).mono ?_
    rintro e w3 ⟨vq3,vr3,rfl,hq3,_,hb3⟩
    have HQ3:=zh hq3
    have HB3:=zh hb3
    clear hq3 hb3
    go_wp2
    go_meet
    case rel=>exact⟨HQ2.out.below HB3.out,HQ3.out,Ext.trans HB2.out HB3.out⟩
   case rest =>
    obtain⟨HQ,HR,HBC⟩:=hcut
    have hb01:=Ext.trans HB1.out HBC.out
    have K1:=zh (K0.out.below hb01 (by rw[size_alloc];omega))
    have HBW:=zh (Ext.trans hbw.out hb01)
    clear hb01 hcg hcg' hcn hcn' hz hq0
    obtain⟨Ar,cr,rfl,hcr,hcr'⟩:=HR.out.slice
    rcases c6t (d/g) hr0 with hl | ⟨hl,hl0⟩
    ·have hl':decide ((1:Int)<((limbsOf (d/g)).length:Int))=true:=decide_eq_true (by omega)
     have hne:Hid (denB (d/g)=bytesOf (d/g)):=by
      show _=_
      rw[denB,if_neg]
      intro h1
      rw[h1]at hl
      have:=a1z 1 1 (by decide)
      omega
     clear hl
     go_wp2_with fail
     refine(a8n _ (n/g) _ HQ.out (by omega)).mono ?_
     rintro e w4 ⟨rfl,hb4⟩
     go_wp2_with fail
     have HR4:=zh (HR.out.below (Ext.alloc hb4 (Obj.cells #[.bool neg,.string (bs (bytesOf (n/g))),.string (bs [])] 39)))
     refine(a8n _ (d/g) _ HR4.out (by omega)).mono ?_
     rintro e w5 ⟨rfl,hb5⟩
     have kr:=(Blk.new w4 #[.bool neg,.string (bs (bytesOf (n/g))),.string (bs [])] 39).below hb5 (by rw[size_alloc];omega)
     have hb45:=Ext.trans hb4 (Ext.trans (Ext.alloc (Below.refl _ _) _) hb5)
     have k1:=K1.out.below hb45 (Raw.lt K1.out)
     have hlt:w.heap.size<w4.heap.size:=Nat.lt_of_lt_of_le (Raw.lt K1.out) hb4.size
     have r0:=kr.cell 0 _ rfl
     have r1:=kr.cell 1 _ rfl
     have r2:=kr.cell 2 _ rfl
     have y2:=kr.frozen 2
     have z0:=k1.frozen 0
     have z1:=k1.frozen 1
     have z2:=k1.frozen 2
     have d0:=k1.c0
     have d1:=k1.c1
     have d2:=k1.c2
     have KR:=zh kr
     have KK:=zh k1
     have HB:=zh (Ext.trans HBW.out hb45)
     clear kr k1 hb45 hb4 hb5
     go_wp2
     rw[hne.out]
     exact bodyPost_ret (a0f rfl _ _ _ _ _ _ rfl ((KK.out.far (by simp;omega) _).put _ _ _)) rfl ⟨rfl,a1k (HB.out.setCell (by simp;omega) _) (Nat.le_refl _) _ _ _⟩
    have hl':decide ((1:Int)<((limbsOf (d/g)).length:Int))=false:=decide_eq_false (by omega)
    have hpos:(0:Int)<((limbsOf (d/g)).length:Int):=by omega
    obtain⟨bb,ob,y0,rfl,hbb,hy,hyb,hyc⟩:=HR.out.at_ (j:=0) (by omega)
    rw[hl0]at hy
    have HYC:=zh hyc
    have HY:=zh hy
    clear hyc hl hl0 hy
    by_cases hg1:y0=1
    ·have hne:Hid (denB (d/g)=[]):=by
      show _=_
      rw[denB,if_pos (by rw[<- HY.out];exact hg1)]
     have ht:decide ((1:Int)<(y0:Int))=false:=decide_eq_false (by omega)
     clear hg1
     go_wp2_with fail
     refine(a8n _ (n/g) _ HQ.out (by omega)).mono ?_
     rintro e w4 ⟨rfl,hb4⟩
     have hc4:=HYC.out _ (Ext.alloc hb4 (Obj.cells #[.bool neg,.string (bs (bytesOf (n/g))),.string ⟨#[]⟩] 39))
     rw[Nat.add_zero]at hc4
     have k1:=(K1.out.below hb4 (Raw.lt K1.out)).alloc (Obj.cells #[.bool neg,.string (bs (bytesOf (n/g))),.string ⟨#[]⟩] 39)
     have z0:=k1.frozen 0
     have z1:=k1.frozen 1
     have z2:=k1.frozen 2
     have d0:=k1.c0
     have d1:=k1.c1
     have d2:=k1.c2
     have KK:=zh k1
     have HB:=zh (Ext.alloc (Ext.trans HBW.out hb4) (Obj.cells #[.bool neg,.string (bs (bytesOf (n/g))),.string (bs [])] 39))
     clear k1 hb4
     go_wp2
     rw[hne.out]
     exact bodyPost_ret (a0f rfl _ _ _ _ _ _ rfl (KK.out.put _ _ _)) rfl ⟨rfl,a1k HB.out (Nat.le_refl _) _ _ _⟩
    have hne:Hid (denB (d/g)=bytesOf (d/g)):=by
     show _=_
     rw[denB,if_neg (by rw[<- HY.out];exact hg1)]
    have hy0:0<y0:=by rw[HY.out];exact hr0
    have ht:decide ((1:Int)<(y0:Int))=true:=decide_eq_true (by omega)
    clear hg1 hy0
    go_wp2_with fail
    refine(a8n _ (n/g) _ HQ.out (by omega)).mono ?_
    rintro e w4 ⟨rfl,hb4⟩
    have hc4:=HYC.out _ (Ext.alloc hb4 (Obj.cells #[.bool neg,.string (bs (bytesOf (n/g))),.string ⟨#[]⟩] 39))
    rw[Nat.add_zero]at hc4
    go_wp2_with fail
    have HR4:=zh (HR.out.below (Ext.alloc hb4 (Obj.cells #[.bool neg,.string (bs (bytesOf (n/g))),.string (bs [])] 39)))
    refine(a8n _ (d/g) _ HR4.out (by omega)).mono ?_
    rintro e w5 ⟨rfl,hb5⟩
    have kr:=(Blk.new w4 #[.bool neg,.string (bs (bytesOf (n/g))),.string (bs [])] 39).below hb5 (by rw[size_alloc];omega)
    have hb45:=Ext.trans hb4 (Ext.trans (Ext.alloc (Below.refl _ _) _) hb5)
    have k1:=K1.out.below hb45 (Raw.lt K1.out)
    have hlt:w.heap.size<w4.heap.size:=Nat.lt_of_lt_of_le (Raw.lt K1.out) hb4.size
    have r0:=kr.cell 0 _ rfl
    have r1:=kr.cell 1 _ rfl
    have r2:=kr.cell 2 _ rfl
    have y2:=kr.frozen 2
    have z0:=k1.frozen 0
    have z1:=k1.frozen 1
    have z2:=k1.frozen 2
    have d0:=k1.c0
    have d1:=k1.c1
    have d2:=k1.c2
    have KR:=zh kr
    have KK:=zh k1
    have HB:=zh (Ext.trans HBW.out hb45)
    clear kr k1 hb45 hb4 hb5
    go_wp2
    rw[hne.out]
    exact bodyPost_ret (a0f rfl _ _ _ _ _ _ rfl ((KK.out.far (by simp;omega) _).put _ _ _)) rfl ⟨rfl,a1k (HB.out.setCell (by simp;omega) _) (Nat.le_refl _) _ _ _⟩
theorem ref_Make(neg:Bool)(num den:List UInt8)(w:World)(hn:num.length<=68719476736)(hd:den.length<=68719476736)(hd0:bv den≠0) :
  Calls Tryz.prog 93 #[.bool neg,.string (bs num),.string (bs den)] w fun e w'=>e=.returned (.tuple #[rat (mkRat (signed neg (bv num)) (bv den)),.bool true])/\Below w.heap.size w w':=by
 have k0:Raw (w.alloc (Obj.cells #[.bool false,.string (bs []),.string (bs [])] 39)) w.heap.size false [] []:=Blk.new w _ _
 have hbw:Hid (Below w.heap.size w (w.alloc (Obj.cells #[.bool false,.string (bs []),.string (bs [])] 39))):=Ext.alloc (Below.refl _ _) _
 have ln:=a1c num
 have ld:=a1c den
 have hP:=fun W=>a2d (bs num) W (by rw[a2u];omega)
 have hQ:=fun W=>a2d (bs den) W (by rw[a2u];omega)
 rw[a3w]at hP hQ
 have K0:=zh k0
 generalize bv num=n at *
 generalize bv den=d at *
 have hz:=b7p hd0
 have hR:=fun(v1 v2:Value) W (h1:Limbs W v1 (limbsOf n)) (h2:Limbs W v2 (limbsOf d))=>a4v neg v1 v2 n d W h1 h2 hd0 (by omega) (by omega)
 have HP:=zh hP
 have HQ:=zh hQ
 have HR:=zh hR
 clear hP hQ k0 hd0 hR
 generalize mkRat (signed neg n) d=q at *
 unfold rat raw at *
 go_enter Tryz.func93,Tryz.ntmps93
 go_wp2_with fail
 refine(HQ.out _).mono ?_
 rintro e w1 ⟨v1,rfl,h1,hb1⟩
 obtain⟨A,c,rfl,hc,hc'⟩:=h1.slice
 have H1:=zh h1
 clear h1
 go_wp2_with fail
 refine(HP.out _).mono ?_
 rintro e w2 ⟨v2,rfl,h2,hb2⟩
 have H2:=zh h2
 clear h2
 go_wp2_with fail
 refine(HR.out _ _ _ H2.out (H1.out.below hb2)).mono ?_
 rintro e w3 ⟨rfl,hb3⟩
 have hb12:=Ext.trans hb1 (Ext.trans hb2 hb3)
 have k1:=K0.out.below hb12 (by rw[size_alloc];omega)
 have z0:=k1.frozen 0
 have z1:=k1.frozen 1
 have z2:=k1.frozen 2
 have d0:=k1.c0
 have d1:=k1.c1
 have d2:=k1.c2
 have K1:=zh k1
 have HB:=zh (Ext.trans hbw.out hb12)
 clear k1 hb1 hb2 hb3 hb12
 go_wp2
 exact bodyPost_ret (b5m rfl _ _ _ _ _ _ rfl (K1.out.put _ _ _)) rfl ⟨rfl,a1k HB.out (Nat.le_refl _) _ _ _⟩
theorem c7s(a:Int):signed (decide (a<0)) a.natAbs=a:=by
 unfold signed
 by_cases h:a<0<;>simp[h]<;>omega
theorem c2a(a b:Int)(w:World)(ha : -9223372036854775808<=a)(ha2:a<=9223372036854775807)(hb:0<b)(hb2:b<=9223372036854775807) :
  Calls Tryz.prog 59 #[.int .i64 a,.int .i64 b] w fun e w'=>e=.returned (.tuple #[rat (mkRat a b.toNat),.bool true])/\Below w.heap.size w w':=by
 have k0:Raw (w.alloc (Obj.cells #[.bool false,.string (bs []),.string (bs [])] 39)) w.heap.size false [] []:=Blk.new w _ _
 have hbw:Hid (Below w.heap.size w (w.alloc (Obj.cells #[.bool false,.string (bs []),.string (bs [])] 39))):=Ext.alloc (Below.refl _ _) _
 have la:=d2v a.natAbs (by omega)
 have lb:=d2v b.natAbs (by omega)
 have eb:b.natAbs=b.toNat:=by omega
 have hSa:=fun W=>b9q a W ha ha2
 have hSb:=fun W=>b9q b W (by omega) hb2
 have hFa:=fun W=>a8q a.natAbs W (by omega)
 have hFb:=fun W=>a8q b.natAbs W (by omega)
 have hM:=fun W=>ref_Make (decide (a<0)) (bytesOf a.natAbs) (bytesOf b.natAbs) W (by omega) (by omega) (by rw[a0c];omega)
 rw[a0c,a0c,c7s,eb]at hM
 rw[eb]at hFb hSb
 have hneg:decide (b<0)=false:=decide_eq_false (by omega)
 have K0:=zh k0
 have HSa:=zh hSa
 have HSb:=zh hSb
 have HFa:=zh hFa
 have HFb:=zh hFb
 have HM:=zh hM
 clear k0 hSa hSb hFa hFb hM eb la lb
 generalize mkRat a b.toNat=q at *
 generalize b.toNat=bn at *
 generalize a.natAbs=an at *
 unfold rat raw at *
 generalize hneg2:decide (a<0)=na at *
 cases na
 all_goals
  go_enter Tryz.func59,Tryz.ntmps59
  go_wp2_with fail
  refine(HSa.out _).mono ?_
  rintro e w1 ⟨rfl,rfl⟩
  go_wp2_with fail
  refine(HFa.out _).mono ?_
  rintro e w2 ⟨rfl,hb2⟩
  go_wp2_with fail
  refine(HSb.out _).mono ?_
  rintro e w3 ⟨rfl,rfl⟩
  go_wp2_with fail
  refine(HFb.out _).mono ?_
  rintro e w4 ⟨rfl,hb4⟩
  go_wp2_with fail
  refine(HM.out _).mono ?_
  rintro e w5 ⟨rfl,hb5⟩
  have hb12:=Ext.trans hb2 (Ext.trans hb4 hb5)
  have k1:=K0.out.below hb12 (by rw[size_alloc];omega)
  have z0:=k1.frozen 0
  have z1:=k1.frozen 1
  have z2:=k1.frozen 2
  have d0:=k1.c0
  have d1:=k1.c1
  have d2:=k1.c2
  have K1:=zh k1
  have HB:=zh (Ext.trans hbw.out hb12)
  clear k1 hb2 hb4 hb5 hb12
  go_wp2
  exact bodyPost_ret (b5m rfl _ _ _ _ _ _ rfl (K1.out.put _ _ _)) rfl ⟨rfl,a1k HB.out (Nat.le_refl _) _ _ _⟩
theorem a2v(a:List UInt8)(w:World)(ha:a.length<=68719476736):Calls Tryz.prog 102 #[.string (bs a)] w fun e w'=>e=.returned (.string (bs (norm a)))/\w=w':=a7n (bs a) w (by rw[a2u];omega)
theorem d0b(neg:Bool)(num den:List UInt8)(w:World)(hn:num.length<=68719476736)(hd:den.length<=68719476736) :
  Calls Tryz.prog 68 #[raw neg num den] w fun e w'=>e=.returned (.bool (a2p neg num den))/\Below w.heap.size w w':=by
 unfold raw
 by_cases h1:norm num=num
 ·have f1:((bs (norm num)).toList==(bs num).toList)=true:=b0t h1
  by_cases h2:norm den=den
  ·have f2:((bs (norm den)).toList==(bs den).toList)=true:=b0t h2
   by_cases h5:den=[1]
   ·have f5:((bs den).toList==[1])=true:=c5m h5
    have hv:a2p neg num den=false:=by unfold a2p;simp[h5]
    rw[hv]
    clear h1 h2 hv h5
    go_enter Tryz.func68,Tryz.ntmps68
    go_wp2
    go_quiet (first
     | (go_at_call 102;with_reducible refine Calls.quiet_same (a2v num _ hn))
     | (go_at_call 102;with_reducible refine Calls.quiet_same (a2v den _ hd)))
    go_wp2
    go_ret
    exact⟨rfl,a0j ((Below.refl _ _).alloc (Nat.le_refl _) _) _⟩
   have f5:((bs den).toList==[1])=false:=b0u h5
   have hv:a2p neg num den=(if num=[]then !neg&&den==[]else den==[]||Nat.gcd (bv num) (bv den)==1):=by
    have e:(den==[1])=false:=by rw[beq_eq_false_iff_ne];exact h5
    unfold a2p;simp[h1,h2,e]
   rw[hv]
   clear h1 h2 hv h5
   by_cases h3:num=[]
   ·have f3:=a2j h3
    rw[if_pos h3]
    clear h3
    by_cases h4:den=[]
    ·have f4:=a2j h4
     have e1:(den==[])=true:=by simp[h4]
     rw[e1]
     clear h4 e1
     cases neg
     all_goals go_enter Tryz.func68,Tryz.ntmps68
     all_goals go_wp2
     all_goals go_quiet (first
      | (go_at_call 102;with_reducible refine Calls.quiet_same (a2v num _ hn))
      | (go_at_call 102;with_reducible refine Calls.quiet_same (a2v den _ hd)))
     all_goals go_wp2
     all_goals go_ret
     all_goals exact⟨rfl,a0j ((Below.refl _ _).alloc (Nat.le_refl _) _) _⟩
    have f4:=a0r h4
    have e1:(den==[])=false:=by simp[h4]
    rw[e1]
    clear h4 e1
    cases neg
    all_goals go_enter Tryz.func68,Tryz.ntmps68
    all_goals go_wp2
    all_goals go_quiet (first
     | (go_at_call 102;with_reducible refine Calls.quiet_same (a2v num _ hn))
     | (go_at_call 102;with_reducible refine Calls.quiet_same (a2v den _ hd)))
    all_goals go_wp2
    all_goals go_ret
    all_goals exact⟨rfl,a0j ((Below.refl _ _).alloc (Nat.le_refl _) _) _⟩
   have f3:=a0r h3
   rw[if_neg h3]
   clear h3
   by_cases h4:den=[]
   ·have f4:=a2j h4
    have e1:(den==[])=true:=by simp[h4]
    rw[e1]
    clear h4 e1
    go_enter Tryz.func68,Tryz.ntmps68
    go_wp2
    go_quiet (first
     | (go_at_call 102;with_reducible refine Calls.quiet_same (a2v num _ hn))
     | (go_at_call 102;with_reducible refine Calls.quiet_same (a2v den _ hd)))
    go_wp2
    go_ret
    exact⟨rfl,a0j ((Below.refl _ _).alloc (Nat.le_refl _) _) _⟩
   have f4:=a0r h4
   have e1:(den==[])=false:=by simp[h4]
   rw[e1,Bool.false_or]
   clear h4 e1
   obtain⟨g,hg⟩:∃g,g=Nat.gcd (bv num) (bv den):=⟨_,rfl⟩
   have hG:=fun W=>ref_GCD num den W hn hd
   rw[<- hg]at hG ⊢
   have HG:=zh hG
   clear hG hg
   by_cases h6:g=1
   ·have f6:((bs (bytesOf g)).toList==[1])=true:=c5m (by rw[h6,a1d])
    have e3:(g==1)=true:=by simp[h6]
    rw[e3]
    clear h6 e3
    go_enter Tryz.func68,Tryz.ntmps68
    go_wp2
    go_quiet (first
     | (go_at_call 102;with_reducible refine Calls.quiet_same (a2v num _ hn))
     | (go_at_call 102;with_reducible refine Calls.quiet_same (a2v den _ hd)))
    go_wp2_with (go_at_call 103;refine(HG.out _).mono ?_;rintro e w' ⟨rfl,hb⟩)
    go_ret
    exact⟨rfl,Ext.trans (a0j ((Below.refl _ _).alloc (Nat.le_refl _) _) _) hb⟩
   have f6:((bs (bytesOf g)).toList==[1])=false:=b0u (by rw[<- a1d];exact fun e=>h6 (a4y e))
   have e3:(g==1)=false:=by simp[h6]
   rw[e3]
   clear h6 e3
   go_enter Tryz.func68,Tryz.ntmps68
   go_wp2
   go_quiet (first
    | (go_at_call 102;with_reducible refine Calls.quiet_same (a2v num _ hn))
    | (go_at_call 102;with_reducible refine Calls.quiet_same (a2v den _ hd)))
   go_wp2_with (go_at_call 103;refine(HG.out _).mono ?_;rintro e w' ⟨rfl,hb⟩)
   go_ret
   exact⟨rfl,Ext.trans (a0j ((Below.refl _ _).alloc (Nat.le_refl _) _) _) hb⟩
  have f2:((bs (norm den)).toList==(bs den).toList)=false:=a6g h2
  have hv:a2p neg num den=false:=by unfold a2p;simp[h2]
  rw[hv]
  clear h1 h2 hv
  go_enter Tryz.func68,Tryz.ntmps68
  go_wp2
  go_quiet (first
   | (go_at_call 102;with_reducible refine Calls.quiet_same (a2v num _ hn))
   | (go_at_call 102;with_reducible refine Calls.quiet_same (a2v den _ hd)))
  go_wp2
  go_ret
  exact⟨rfl,a0j ((Below.refl _ _).alloc (Nat.le_refl _) _) _⟩
 have f1:((bs (norm num)).toList==(bs num).toList)=false:=a6g h1
 have hv:a2p neg num den=false:=by unfold a2p;simp[h1]
 rw[hv]
 clear h1 hv
 go_enter Tryz.func68,Tryz.ntmps68
 go_wp2
 go_quiet (first
  | (go_at_call 102;with_reducible refine Calls.quiet_same (a2v num _ hn))
  | (go_at_call 102;with_reducible refine Calls.quiet_same (a2v den _ hd)))
 go_wp2
 go_ret
 exact⟨rfl,a0j ((Below.refl _ _).alloc (Nat.le_refl _) _) _⟩
theorem b8d(neg:Bool)(num den:List UInt8)(w:World) :
  Calls Tryz.prog 36 #[raw neg num den] w fun e w'=>e=.returned (.int .i64 (sgnR neg num))/\Below w.heap.size w w':=by
 unfold raw sgnR
 by_cases h:num=[]
 ·have h1:=a2j h
  rw[if_pos h]
  have H:=zh h
  clear h
  go_enter Tryz.func36,Tryz.ntmps36
  go_wp2
  go_ret
  exact⟨rfl,(Below.refl _ _).alloc (Nat.le_refl _) _⟩
 have h1:=a0r h
 rw[if_neg h]
 cases neg
 all_goals go_enter Tryz.func36,Tryz.ntmps36
 all_goals go_wp2
 all_goals go_ret
 all_goals exact⟨rfl,(Below.refl _ _).alloc (Nat.le_refl _) _⟩
theorem b5h(neg:Bool)(num den:List UInt8)(w:World)(hn:num.length<=68719476736)(hd:den.length<=68719476736) :
   Calls Tryz.prog 37 #[raw neg num den] w fun e w'=>e=.returned (rat (decR neg num den))/\Below w.heap.size w w':=by
 have hV:=fun W=>d0b neg num den W hn hd
 unfold raw at hV ⊢
 have K1:Hid (Raw ((w.alloc (Obj.cells #[.bool neg,.string (bs num),.string (bs den)] 39)).alloc (Obj.cells #[.bool false,.string (bs []),.string (bs [])] 39)) w.heap.size neg num den):=(Blk.new w _ 39).alloc _
 have K2:Hid (Raw ((w.alloc (Obj.cells #[.bool neg,.string (bs num),.string (bs den)] 39)).alloc (Obj.cells #[.bool false,.string (bs []),.string (bs [])] 39)) (w.heap.size+1) false [] []):=Blk.new1 w _ _ _
 have hbw:Hid (Below w.heap.size w ((w.alloc (Obj.cells #[.bool neg,.string (bs num),.string (bs den)] 39)).alloc (Obj.cells #[.bool false,.string (bs []),.string (bs [])] 39))):=Ext.alloc (Ext.alloc (Below.refl _ _) _) _
 by_cases h:a2p neg num den=true
 have hr:rat (decR neg num den)=.agg #[.bool neg,.string (bs num),.string (bs den)]:=by
   obtain⟨a,b,c⟩:=d2m h
   unfold rat raw;rw[a,b,c]
 rw[hr]
 rw[h]at hV
 have HV:=zh hV
 clear hV h hr
 rotate_left
 have hf:a2p neg num den=false:=by simpa using h
 have hr:rat (decR neg num den)=.agg #[.bool false,.string (bs []),.string (bs [])]:=by
   obtain⟨a,b,c⟩:=c0v
   rw[b6g hf]
   unfold rat raw;rw[a,b,c]
 rw[hr]
 rw[hf]at hV
 have HV:=zh hV
 clear hV h hf hr
 rotate_left
 all_goals
   go_enter Tryz.func37,Tryz.ntmps37
   go_wp2_with fail
   refine(HV.out _).mono ?_
   rintro e w' ⟨rfl,hb⟩
 ·have k1:=K1.out.below hb (by rw[size_alloc,size_alloc];omega)
  have k2:=K2.out.below hb (by rw[size_alloc,size_alloc];omega)
  have c0:=k1.c0
  have c1:=k1.c1
  have c2:=k1.c2
  have d0:=k2.c0
  have d1:=k2.c1
  have d2:=k2.c2
  have z0:=k2.frozen 0
  have z1:=k2.frozen 1
  have z2:=k2.frozen 2
  have hb2:=zh (hbw.out.trans (hb.mono (by rw[size_alloc,size_alloc];omega)))
  have hk2:=zh k2
  clear k1 k2 hb
  go_wp2
  refine bodyPost_ret (a0f rfl _ _ _ _ _ _ rfl (hk2.out.put neg num den)) rfl ?_
  exact⟨rfl,a1k hb2.out (Nat.le_succ _) _ _ _⟩
 have k2:=K2.out.below hb (by rw[size_alloc,size_alloc];omega)
 have d0:=k2.c0
 have d1:=k2.c1
 have d2:=k2.c2
 have z0:=k2.frozen 0
 have z1:=k2.frozen 1
 have z2:=k2.frozen 2
 have hb2:=zh (hbw.out.trans (hb.mono (by rw[size_alloc,size_alloc];omega)))
 have hk2:=zh k2
 clear k2 hb
 go_wp2
 refine bodyPost_ret (a0f rfl _ _ _ _ _ _ rfl (hk2.out.put false [] [])) rfl ?_
 exact⟨rfl,a1k hb2.out (Nat.le_succ _) _ _ _⟩
theorem b4j(neg:Bool)(num den:List UInt8)(w:World)(hn:num.length<=68719476736)(hd:den.length<=68719476736) :
  Calls Tryz.prog 14 #[raw neg num den] w fun e w'=>e=.returned (.int .i64 (sgn (decR neg num den).num))/\Below w.heap.size w w':=by
 have hV:=fun W=>b5h neg num den W hn hd
 generalize decR neg num den=q at *
 have hs:sgnR (negB q) (numB q)=sgn q.num:=by
  unfold sgnR numB
  have:=a4d q
  by_cases h0:q.num=0
  ·rw[h0];simp[a0y,b1c]
  rw[if_neg (fun e=>h0 (by have:=bytesOf_eq_nil.1 e;omega))]
  rcases Int.lt_or_lt_of_ne h0 with h | h
  ·rw[a1y h];unfold negB;simp[this.2 h]
  rw[a2y h];unfold negB
  have h1:¬q<0:=fun h2=>by have:=this.1 h2;omega
  simp[h1]
 unfold raw at hV ⊢
 have HV:=zh hV
 have HS:=zh hs
 clear hV hs
 go_enter Tryz.func14,Tryz.ntmps14
 go_wp2_with fail
 refine(HV.out _).mono ?_
 rintro e w1 ⟨rfl,hb1⟩
 go_wp2_with fail
 refine(b8d (negB q) (numB q) (a0a q) _).mono ?_
 rintro e w2 ⟨rfl,hb2⟩
 rw[HS.out]
 go_wp2
 go_ret
 exact⟨rfl,(Ext.trans (Ext.alloc (Below.refl _ _) _) (Ext.trans hb1 hb2))⟩
theorem b6u(q:Rat):bv (numB q)=q.num.natAbs:=by unfold numB;rw[a0c]
theorem numB_nil{q:Rat}:numB q=[]↔q=0:=by
 unfold numB
 rw[bytesOf_eq_nil,Int.natAbs_eq_zero,Rat.num_eq_zero]
theorem b1s{a b m n:Nat}(ha:(limbsOf a).length<=m)(hb:(limbsOf b).length<=n):(limbsOf (a*b)).length<=m+n:=by
 refine a1z _ _ ?_
 have h1:=a3z a
 have h2:=a3z b
 exact b2s (Nat.lt_of_lt_of_le h1 (Nat.pow_le_pow_right (by decide) ha)) (Nat.lt_of_lt_of_le h2 (Nat.pow_le_pow_right (by decide) hb))
theorem Raw.drew{w:World}{g:Nat}{neg:Bool}{num den:List UInt8}(h:Raw w g neg num den):Raw w.drew g neg num den:=h
theorem a9u(l:List UInt8):(limbsOf (denN l)).length<=(l.length+4)/4:=by
 unfold denN
 split
 ·have:=a1z 1 1 (by decide)
  omega
 have:=a1c l
 omega
theorem b1h(p q:Rat)(w:World)(sp:Sized 17179869184 p)(sq:Sized 17179869184 q) :
  Calls Tryz.prog 91 #[rat p,rat q] w fun e w'=>e=.returned (rat (p*q))/\Below w.heap.size w w':=by
 have hp:=sp.num
 have hp2:=sp.denom
 have hq:=sq.num
 have hq2:=sq.denom
 clear sp sq
 have hbw:Hid (Below w.heap.size w (((w.alloc (Obj.cells #[.bool (negB p),.string (bs (numB p)),.string (bs (a0a p))] 39)).alloc (Obj.cells #[.bool (negB q),.string (bs (numB q)),.string (bs (a0a q))] 39)).alloc (Obj.cells #[.bool false,.string (bs []),.string (bs [])] 39))) :=
  Ext.alloc (Ext.alloc (Ext.alloc (Below.refl _ _) _) _) _
 by_cases h0:p=0\/q=0
 ·have e:p*q=0:=by rcases h0 with h | h<;>simp[h]
  rw[e,b4k]
  unfold rat raw
  by_cases hp0:p=0
  ·have f1:=a2j (numB_nil.2 hp0)
   clear h0 e hp0
   go_enter Tryz.func91,Tryz.ntmps91
   go_wp2
   exact bodyPost_ret (a0f rfl _ _ _ _ _ _ rfl (Blk.new2 w _ _ _ _)) rfl ⟨rfl,hbw.out⟩
  have hq0:q=0:=h0.resolve_left hp0
  have f1:=a0r (mt numB_nil.1 hp0)
  have f2:=a2j (numB_nil.2 hq0)
  clear h0 e hp0 hq0
  go_enter Tryz.func91,Tryz.ntmps91
  go_wp2
  exact bodyPost_ret (a0f rfl _ _ _ _ _ _ rfl (Blk.new2 w _ _ _ _)) rfl ⟨rfl,hbw.out⟩
 have f1:=a0r (mt numB_nil.1 (fun h=>h0 (.inl h)))
 have f2:=a0r (mt numB_nil.1 (fun h=>h0 (.inr h)))
 have hm:=d1f p q
 rw[<- hm]
 have ln1:=a1c (numB p)
 have ln2:=a1c (numB q)
 have ld1:=a9u (a0a p)
 have ld2:=a9u (a0a q)
 have hL1:=fun W=>a2d (bs (numB p)) W (by rw[a2u];omega)
 have hL2:=fun W=>a2d (bs (numB q)) W (by rw[a2u];omega)
 have hD1:=fun W=>a6x (negB p) (numB p) (a0a p) W (by omega)
 have hD2:=fun W=>a6x (negB q) (numB q) (a0a q) W (by omega)
 simp only[a3w,b6u,a7f]at hL1 hL2 hD1 hD2 ln1 ln2 ld1 ld2
 have lm:=b1s ln1 ln2
 have lk:=b1s ld1 ld2
 have hd0:p.den*q.den≠0:=Nat.mul_ne_zero p.den_nz q.den_nz
 clear hm h0
 unfold raw at hD1 hD2
 have HL1:=zh hL1
 have HL2:=zh hL2
 have HD1:=zh hD1
 have HD2:=zh hD2
 have hR:=fun(v1 v2:Value) W (h1:Limbs W v1 (limbsOf (p.num.natAbs*q.num.natAbs))) (h2:Limbs W v2 (limbsOf (p.den*q.den)))=>a4v (!(negB p==negB q)) v1 v2 _ _ W h1 h2 hd0 (by omega) (by omega)
 have HR:=zh hR
 clear hL1 hL2 hD1 hD2 hR hd0
 generalize mkRat (signed (!(negB p==negB q)) (p.num.natAbs*q.num.natAbs)) (p.den*q.den)=r at *
 unfold rat raw at *
 generalize p.num.natAbs=m at *
 generalize q.num.natAbs=n at *
 generalize p.den=pd at *
 generalize q.den=qd at *
 generalize negB p=np at *
 generalize negB q=nq at *
 generalize numB p=bp at *
 generalize numB q=bq at *
 generalize a0a p=dp at *
 generalize a0a q=dq at *
 have KA:Hid (Raw (((w.alloc (Obj.cells #[.bool np,.string (bs bp),.string (bs dp)] 39)).alloc (Obj.cells #[.bool nq,.string (bs bq),.string (bs dq)] 39)).alloc (Obj.cells #[.bool false,.string (bs []),.string (bs [])] 39)).drew w.heap.size np bp dp):=Raw.drew (((Blk.new w _ 39).alloc _).alloc _)
 have KB:Hid (Raw (((w.alloc (Obj.cells #[.bool np,.string (bs bp),.string (bs dp)] 39)).alloc (Obj.cells #[.bool nq,.string (bs bq),.string (bs dq)] 39)).alloc (Obj.cells #[.bool false,.string (bs []),.string (bs [])] 39)).drew (w.heap.size+1) nq bq dq):=Raw.drew ((Blk.new1 w _ _ 39).alloc _)
 have KC:Hid (Raw (((w.alloc (Obj.cells #[.bool np,.string (bs bp),.string (bs dp)] 39)).alloc (Obj.cells #[.bool nq,.string (bs bq),.string (bs dq)] 39)).alloc (Obj.cells #[.bool false,.string (bs []),.string (bs [])] 39)).drew (w.heap.size+1+1) false [] []):=Raw.drew (Blk.new2 w _ _ _ 39)
 have hne1:¬ (w.heap.size=w.heap.size+1+1):=by omega
 have hne2:¬ (w.heap.size+1+1=w.heap.size):=by omega
 go_enter Tryz.func91,Tryz.ntmps91
 go_wp2
 go_region_held3 (fun w'=>w'.cell? ⟨w.heap.size,0,none⟩=some (.bool np)/\w'.cell? ⟨w.heap.size,1,none⟩=some (.string (bs bp))/\w'.cell? ⟨w.heap.size,2,none⟩=some (.string (bs dp))/\w'.cell? ⟨w.heap.size+1,0,none⟩=some (.bool nq)/\w'.cell? ⟨w.heap.size+1,1,none⟩=some (.string (bs bq))/\w'.cell? ⟨w.heap.size+1,2,none⟩=some (.string (bs dq))) (go_keep) (first
  | (go_at_call_of 83 (Value.string (bs bp));with_reducible refine(HL1.out _).mono ?_;rintro e w1 ⟨v1,rfl,h1,hb1⟩;have HB1:=zh hb1;have H1:=zh h1;clear h1;clear hb1;have x0:=(KA.out.below HB1.out (Raw.lt KA.out)).c0;have x1:=(KA.out.below HB1.out (Raw.lt KA.out)).c1;have x2:=(KA.out.below HB1.out (Raw.lt KA.out)).c2;have y0:=(KB.out.below HB1.out (Raw.lt KB.out)).c0;have y1:=(KB.out.below HB1.out (Raw.lt KB.out)).c1;have y2:=(KB.out.below HB1.out (Raw.lt KB.out)).c2)
  | (go_at_call_of 83 (Value.string (bs bq));with_reducible refine(HL2.out _).mono ?_;rintro e w2 ⟨v2,rfl,h2,hb2⟩;have HB2:=zh (Ext.trans HB1.out hb2);have H2:=zh h2;clear h2;have HB12:=zh hb2;clear x0 x1 x2 y0 y1 y2 hb2;have x0:=(KA.out.below HB2.out (Raw.lt KA.out)).c0;have x1:=(KA.out.below HB2.out (Raw.lt KA.out)).c1;have x2:=(KA.out.below HB2.out (Raw.lt KA.out)).c2;have y0:=(KB.out.below HB2.out (Raw.lt KB.out)).c0;have y1:=(KB.out.below HB2.out (Raw.lt KB.out)).c1;have y2:=(KB.out.below HB2.out (Raw.lt KB.out)).c2)
  | (go_at_call_of 82 (v1);with_reducible refine(a2a _ _ m n _ (H1.out.below HB12.out) H2.out (by omega) (by omega)).mono ?_;rintro e w3 ⟨v3,rfl,h3,hb3⟩;have HB3:=zh (Ext.trans HB2.out hb3);have H3:=zh h3;clear h3;clear x0 x1 x2 y0 y1 y2 hb3;have x0:=(KA.out.below HB3.out (Raw.lt KA.out)).c0;have x1:=(KA.out.below HB3.out (Raw.lt KA.out)).c1;have x2:=(KA.out.below HB3.out (Raw.lt KA.out)).c2;have y0:=(KB.out.below HB3.out (Raw.lt KB.out)).c0;have y1:=(KB.out.below HB3.out (Raw.lt KB.out)).c1;have y2:=(KB.out.below HB3.out (Raw.lt KB.out)).c2)
  | (go_at_call_of 81 (Value.agg #[Value.bool np,Value.string (bs bp),Value.string (bs dp)]);with_reducible refine(HD1.out _).mono ?_;rintro e w4 ⟨v4,rfl,h4,hb4⟩;have HB4:=zh (Ext.trans HB3.out hb4);have H4:=zh h4;clear h4;have HB34:=zh hb4;clear x0 x1 x2 y0 y1 y2 hb4;have x0:=(KA.out.below HB4.out (Raw.lt KA.out)).c0;have x1:=(KA.out.below HB4.out (Raw.lt KA.out)).c1;have x2:=(KA.out.below HB4.out (Raw.lt KA.out)).c2;have y0:=(KB.out.below HB4.out (Raw.lt KB.out)).c0;have y1:=(KB.out.below HB4.out (Raw.lt KB.out)).c1;have y2:=(KB.out.below HB4.out (Raw.lt KB.out)).c2)
  | (go_at_call_of 81 (Value.agg #[Value.bool nq,Value.string (bs bq),Value.string (bs dq)]);with_reducible refine(HD2.out _).mono ?_;rintro e w5 ⟨v5,rfl,h5,hb5⟩;have HB5:=zh (Ext.trans HB4.out hb5);have H5:=zh h5;clear h5;have HB45:=zh hb5;clear x0 x1 x2 y0 y1 y2 hb5;have x0:=(KA.out.below HB5.out (Raw.lt KA.out)).c0;have x1:=(KA.out.below HB5.out (Raw.lt KA.out)).c1;have x2:=(KA.out.below HB5.out (Raw.lt KA.out)).c2;have y0:=(KB.out.below HB5.out (Raw.lt KB.out)).c0;have y1:=(KB.out.below HB5.out (Raw.lt KB.out)).c1;have y2:=(KB.out.below HB5.out (Raw.lt KB.out)).c2)
  | (go_at_call_of 82 (v4);with_reducible refine(a2a _ _ pd qd _ (H4.out.below HB45.out) H5.out (by omega) (by omega)).mono ?_;rintro e w6 ⟨v6,rfl,h6,hb6⟩;have HB6:=zh (Ext.trans HB5.out hb6);have H6:=zh h6;clear h6;have HB36:=zh (Ext.trans HB34.out (Ext.trans HB45.out hb6));clear x0 x1 x2 y0 y1 y2 hb6;have x0:=(KA.out.below HB6.out (Raw.lt KA.out)).c0;have x1:=(KA.out.below HB6.out (Raw.lt KA.out)).c1;have x2:=(KA.out.below HB6.out (Raw.lt KA.out)).c2;have y0:=(KB.out.below HB6.out (Raw.lt KB.out)).c0;have y1:=(KB.out.below HB6.out (Raw.lt KB.out)).c1;have y2:=(KB.out.below HB6.out (Raw.lt KB.out)).c2)
  | (go_at_call 84;with_reducible refine(HR.out _ _ _ (H3.out.below HB36.out) H6.out).mono ?_;rintro e w7 ⟨rfl,hb7⟩;have HB7:=zh (Ext.trans HB6.out hb7);clear x0 x1 x2 y0 y1 y2 hb7;have x0:=(KA.out.below HB7.out (Raw.lt KA.out)).c0;have x1:=(KA.out.below HB7.out (Raw.lt KA.out)).c1;have x2:=(KA.out.below HB7.out (Raw.lt KA.out)).c2;have y0:=(KB.out.below HB7.out (Raw.lt KB.out)).c0;have y1:=(KB.out.below HB7.out (Raw.lt KB.out)).c1;have y2:=(KB.out.below HB7.out (Raw.lt KB.out)).c2;have k1:=KC.out.below HB7.out (Raw.lt KC.out);have z0:=k1.frozen 0;have z1:=k1.frozen 1;have z2:=k1.frozen 2;have d0:=k1.c0;have d1:=k1.c1;have d2:=k1.c2;have KK:=zh k1;have HBB:=zh (hbw.out.drew.trans (HB7.out.mono (by simp;omega)));clear k1))
 go_wp2
 exact bodyPost_ret (a0f rfl _ _ _ _ _ _ rfl (KK.out.put _ _ _)) rfl ⟨rfl,a1k HBB.out (by omega) _ _ _⟩
theorem b9r(p q:Rat)(w:World)(sp:Sized 17179869184 p)(sq:Sized 17179869184 q)(hq0:q≠0) :
  Calls Tryz.prog 90 #[rat p,rat q] w fun e w'=>e=.returned (rat (p/q))/\Below w.heap.size w w':=by
 have hp:=sp.num
 have hp2:=sp.denom
 have hq:=sq.num
 have hq2:=sq.denom
 clear sp sq
 have hbw:Hid (Below w.heap.size w (((w.alloc (Obj.cells #[.bool (negB p),.string (bs (numB p)),.string (bs (a0a p))] 39)).alloc (Obj.cells #[.bool (negB q),.string (bs (numB q)),.string (bs (a0a q))] 39)).alloc (Obj.cells #[.bool false,.string (bs []),.string (bs [])] 39))) :=
  Ext.alloc (Ext.alloc (Ext.alloc (Below.refl _ _) _) _) _
 by_cases h0:p=0
 have e:p/q=0:=by rw[h0,Rat.div_def,Rat.zero_mul]
 rw[e,b4k]
 unfold rat raw
 have f1:=a2j (numB_nil.2 h0)
 clear h0 e
 rotate_left
 have f1:=a0r (mt numB_nil.1 h0)
 have hqa:q.num.natAbs≠0:=fun h=>hq0 (Rat.num_eq_zero.1 (Int.natAbs_eq_zero.1 h))
 have hm:=d2n p q hq0
 rw[<- hm]
 have ln1:=a1c (numB p)
 have ln2:=a1c (numB q)
 have ld1:=a9u (a0a p)
 have ld2:=a9u (a0a q)
 have hL1:=fun W=>a2d (bs (numB p)) W (by rw[a2u];omega)
 have hL2:=fun W=>a2d (bs (numB q)) W (by rw[a2u];omega)
 have hD1:=fun W=>a6x (negB p) (numB p) (a0a p) W (by omega)
 have hD2:=fun W=>a6x (negB q) (numB q) (a0a q) W (by omega)
 simp only[a3w,b6u,a7f]at hL1 hL2 hD1 hD2 ln1 ln2 ld1 ld2
 have lm:=b1s ln1 ld2
 have lk:=b1s ld1 ln2
 have hd0:p.den*q.num.natAbs≠0:=Nat.mul_ne_zero p.den_nz hqa
 clear hm h0 hqa hq0
 unfold raw at hD1 hD2
 have HL1:=zh hL1
 have HL2:=zh hL2
 have HD1:=zh hD1
 have HD2:=zh hD2
 have hR:=fun(v1 v2:Value) W (h1:Limbs W v1 (limbsOf (p.num.natAbs*q.den))) (h2:Limbs W v2 (limbsOf (p.den*q.num.natAbs)))=>a4v (!(negB p==negB q)) v1 v2 _ _ W h1 h2 hd0 (by omega) (by omega)
 have HR:=zh hR
 clear hL1 hL2 hD1 hD2 hR hd0
 generalize mkRat (signed (!(negB p==negB q)) (p.num.natAbs*q.den)) (p.den*q.num.natAbs)=r at *
 unfold rat raw at *
 generalize p.num.natAbs=m at *
 generalize q.num.natAbs=n at *
 generalize p.den=pd at *
 generalize q.den=qd at *
 generalize negB p=np at *
 generalize negB q=nq at *
 generalize numB p=bp at *
 generalize numB q=bq at *
 generalize a0a p=dp at *
 generalize a0a q=dq at *
 have KA:Hid (Raw (((w.alloc (Obj.cells #[.bool np,.string (bs bp),.string (bs dp)] 39)).alloc (Obj.cells #[.bool nq,.string (bs bq),.string (bs dq)] 39)).alloc (Obj.cells #[.bool false,.string (bs []),.string (bs [])] 39)).drew w.heap.size np bp dp):=Raw.drew (((Blk.new w _ 39).alloc _).alloc _)
 have KB:Hid (Raw (((w.alloc (Obj.cells #[.bool np,.string (bs bp),.string (bs dp)] 39)).alloc (Obj.cells #[.bool nq,.string (bs bq),.string (bs dq)] 39)).alloc (Obj.cells #[.bool false,.string (bs []),.string (bs [])] 39)).drew (w.heap.size+1) nq bq dq):=Raw.drew ((Blk.new1 w _ _ 39).alloc _)
 have KC:Hid (Raw (((w.alloc (Obj.cells #[.bool np,.string (bs bp),.string (bs dp)] 39)).alloc (Obj.cells #[.bool nq,.string (bs bq),.string (bs dq)] 39)).alloc (Obj.cells #[.bool false,.string (bs []),.string (bs [])] 39)).drew (w.heap.size+1+1) false [] []):=Raw.drew (Blk.new2 w _ _ _ 39)
 have hne1:¬ (w.heap.size=w.heap.size+1+1):=by omega
 have hne2:¬ (w.heap.size+1+1=w.heap.size):=by omega
 rotate_left
 all_goals
  go_enter Tryz.func90,Tryz.ntmps90
  go_wp2
 ·exact bodyPost_ret (a0f rfl _ _ _ _ _ _ rfl (Blk.new2 w _ _ _ _)) rfl ⟨rfl,hbw.out⟩
 go_region_held3 (fun w'=>w'.cell? ⟨w.heap.size,0,none⟩=some (.bool np)/\w'.cell? ⟨w.heap.size,1,none⟩=some (.string (bs bp))/\w'.cell? ⟨w.heap.size,2,none⟩=some (.string (bs dp))/\w'.cell? ⟨w.heap.size+1,0,none⟩=some (.bool nq)/\w'.cell? ⟨w.heap.size+1,1,none⟩=some (.string (bs bq))/\w'.cell? ⟨w.heap.size+1,2,none⟩=some (.string (bs dq))) (go_keep) (first
  | (go_at_call_of 83 (Value.string (bs bp));with_reducible refine(HL1.out _).mono ?_;rintro e w1 ⟨v1,rfl,h1,hb1⟩;have HB1:=zh hb1;have H1:=zh h1;clear h1;clear hb1;have x0:=(KA.out.below HB1.out (Raw.lt KA.out)).c0;have x1:=(KA.out.below HB1.out (Raw.lt KA.out)).c1;have x2:=(KA.out.below HB1.out (Raw.lt KA.out)).c2;have y0:=(KB.out.below HB1.out (Raw.lt KB.out)).c0;have y1:=(KB.out.below HB1.out (Raw.lt KB.out)).c1;have y2:=(KB.out.below HB1.out (Raw.lt KB.out)).c2)
  | (go_at_call_of 81 (Value.agg #[Value.bool nq,Value.string (bs bq),Value.string (bs dq)]);with_reducible refine(HD2.out _).mono ?_;rintro e w2 ⟨v2,rfl,h2,hb2⟩;have HB2:=zh (Ext.trans HB1.out hb2);have H2:=zh h2;clear h2;have HB12:=zh hb2;clear x0 x1 x2 y0 y1 y2 hb2;have x0:=(KA.out.below HB2.out (Raw.lt KA.out)).c0;have x1:=(KA.out.below HB2.out (Raw.lt KA.out)).c1;have x2:=(KA.out.below HB2.out (Raw.lt KA.out)).c2;have y0:=(KB.out.below HB2.out (Raw.lt KB.out)).c0;have y1:=(KB.out.below HB2.out (Raw.lt KB.out)).c1;have y2:=(KB.out.below HB2.out (Raw.lt KB.out)).c2)
  | (go_at_call_of 82 (v1);with_reducible refine(a2a _ _ m qd _ (H1.out.below HB12.out) H2.out (by omega) (by omega)).mono ?_;rintro e w3 ⟨v3,rfl,h3,hb3⟩;have HB3:=zh (Ext.trans HB2.out hb3);have H3:=zh h3;clear h3;clear x0 x1 x2 y0 y1 y2 hb3;have x0:=(KA.out.below HB3.out (Raw.lt KA.out)).c0;have x1:=(KA.out.below HB3.out (Raw.lt KA.out)).c1;have x2:=(KA.out.below HB3.out (Raw.lt KA.out)).c2;have y0:=(KB.out.below HB3.out (Raw.lt KB.out)).c0;have y1:=(KB.out.below HB3.out (Raw.lt KB.out)).c1;have y2:=(KB.out.below HB3.out (Raw.lt KB.out)).c2)
  | (go_at_call_of 81 (Value.agg #[Value.bool np,Value.string (bs bp),Value.string (bs dp)]);with_reducible refine(HD1.out _).mono ?_;rintro e w4 ⟨v4,rfl,h4,hb4⟩;have HB4:=zh (Ext.trans HB3.out hb4);have H4:=zh h4;clear h4;have HB34:=zh hb4;clear x0 x1 x2 y0 y1 y2 hb4;have x0:=(KA.out.below HB4.out (Raw.lt KA.out)).c0;have x1:=(KA.out.below HB4.out (Raw.lt KA.out)).c1;have x2:=(KA.out.below HB4.out (Raw.lt KA.out)).c2;have y0:=(KB.out.below HB4.out (Raw.lt KB.out)).c0;have y1:=(KB.out.below HB4.out (Raw.lt KB.out)).c1;have y2:=(KB.out.below HB4.out (Raw.lt KB.out)).c2)
  | (go_at_call_of 83 (Value.string (bs bq));with_reducible refine(HL2.out _).mono ?_;rintro e w5 ⟨v5,rfl,h5,hb5⟩;have HB5:=zh (Ext.trans HB4.out hb5);have H5:=zh h5;clear h5;have HB45:=zh hb5;clear x0 x1 x2 y0 y1 y2 hb5;have x0:=(KA.out.below HB5.out (Raw.lt KA.out)).c0;have x1:=(KA.out.below HB5.out (Raw.lt KA.out)).c1;have x2:=(KA.out.below HB5.out (Raw.lt KA.out)).c2;have y0:=(KB.out.below HB5.out (Raw.lt KB.out)).c0;have y1:=(KB.out.below HB5.out (Raw.lt KB.out)).c1;have y2:=(KB.out.below HB5.out (Raw.lt KB.out)).c2)
  | (go_at_call_of 82 (v4);with_reducible refine(a2a _ _ pd n _ (H4.out.below HB45.out) H5.out (by omega) (by omega)).mono ?_;rintro e w6 ⟨v6,rfl,h6,hb6⟩;have HB6:=zh (Ext.trans HB5.out hb6);have H6:=zh h6;clear h6;have HB36:=zh (Ext.trans HB34.out (Ext.trans HB45.out hb6));clear x0 x1 x2 y0 y1 y2 hb6;have x0:=(KA.out.below HB6.out (Raw.lt KA.out)).c0;have x1:=(KA.out.below HB6.out (Raw.lt KA.out)).c1;have x2:=(KA.out.below HB6.out (Raw.lt KA.out)).c2;have y0:=(KB.out.below HB6.out (Raw.lt KB.out)).c0;have y1:=(KB.out.below HB6.out (Raw.lt KB.out)).c1;have y2:=(KB.out.below HB6.out (Raw.lt KB.out)).c2)
  | (go_at_call 84;with_reducible refine(HR.out _ _ _ (H3.out.below HB36.out) H6.out).mono ?_;rintro e w7 ⟨rfl,hb7⟩;have HB7:=zh (Ext.trans HB6.out hb7);clear x0 x1 x2 y0 y1 y2 hb7;have x0:=(KA.out.below HB7.out (Raw.lt KA.out)).c0;have x1:=(KA.out.below HB7.out (Raw.lt KA.out)).c1;have x2:=(KA.out.below HB7.out (Raw.lt KA.out)).c2;have y0:=(KB.out.below HB7.out (Raw.lt KB.out)).c0;have y1:=(KB.out.below HB7.out (Raw.lt KB.out)).c1;have y2:=(KB.out.below HB7.out (Raw.lt KB.out)).c2;have k1:=KC.out.below HB7.out (Raw.lt KC.out);have z0:=k1.frozen 0;have z1:=k1.frozen 1;have z2:=k1.frozen 2;have d0:=k1.c0;have d1:=k1.c1;have d2:=k1.c2;have KK:=zh k1;have HBB:=zh (hbw.out.drew.trans (HB7.out.mono (by simp;omega)));clear k1))
 go_wp2
 exact bodyPost_ret (a0f rfl _ _ _ _ _ _ rfl (KK.out.put _ _ _)) rfl ⟨rfl,a1k HBB.out (by omega) _ _ _⟩
theorem one_enc:rat 1=raw false [1] []:=by
 unfold rat
 have h1:negB 1=false:=rfl
 have h2:numB 1=[1]:=by unfold numB;exact a1d
 have h3:a0a 1=[]:=rfl
 rw[h1,h2,h3]
theorem ref_One(w:World):Calls Tryz.prog 79 #[] w fun e w'=>e=.returned (rat 1)/\Below w.heap.size w w':=by
 rw[one_enc]
 unfold raw
 go_enter Tryz.func79,Tryz.ntmps79
 go_wp2
 exact bodyPost_ret (a0f rfl _ _ _ _ _ _ rfl (Blk.new w _ _)) rfl ⟨rfl,Ext.alloc (Below.refl _ _) _⟩
theorem int_enc(n:Int):rat (n:Rat)=raw (decide (n<0)) (bytesOf n.natAbs) []:=by
 unfold rat
 have h1:negB (n:Rat)=decide (n<0):=by
  unfold negB
  exact decide_eq_decide.2 (a4d (n:Rat))
 rw[h1]
 rfl
theorem ref_Int(n:Int)(w:World)(hn : -9223372036854775808<=n)(hn2:n<=9223372036854775807) :
  Calls Tryz.prog 60 #[.int .i64 n] w fun e w'=>e=.returned (rat (n:Rat))/\Below w.heap.size w w':=by
 have k0:Raw (w.alloc (Obj.cells #[.bool false,.string (bs []),.string (bs [])] 39)) w.heap.size false [] []:=Blk.new w _ _
 have hbw:Hid (Below w.heap.size w (w.alloc (Obj.cells #[.bool false,.string (bs []),.string (bs [])] 39))):=Ext.alloc (Below.refl _ _) _
 have hS:=fun W=>b9q n W hn hn2
 have hF:=fun W=>a8q n.natAbs W (by omega)
 rw[int_enc]
 have HS:=zh hS
 have HF:=zh hF
 have K0:=zh k0
 clear hS hF k0
 generalize n.natAbs=m at *
 generalize hng:decide (n<0)=ng at *
 unfold raw
 go_enter Tryz.func60,Tryz.ntmps60
 go_wp2_with fail
 refine(HS.out _).mono ?_
 rintro e w1 ⟨rfl,rfl⟩
 go_wp2_with fail
 refine(HF.out _).mono ?_
 rintro e w2 ⟨rfl,hb2⟩
 have k1:=K0.out.below hb2 (Raw.lt K0.out)
 have z0:=k1.frozen 0
 have z1:=k1.frozen 1
 have z2:=k1.frozen 2
 have d0:=k1.c0
 have d1:=k1.c1
 have d2:=k1.c2
 have K1:=zh k1
 have HB:=zh (Ext.trans hbw.out hb2)
 clear k1 hb2
 go_wp2
 exact bodyPost_ret (a0f rfl _ _ _ _ _ _ rfl (K1.out.put _ _ _)) rfl ⟨rfl,a1k HB.out (Nat.le_refl _) _ _ _⟩
theorem b8r(n:Int)(w:World)(hn : -9223372036854775808<=n)(hn2:n<=9223372036854775807) :
  Calls Tryz.prog 29 #[.int .i64 n] w fun e w'=>e=.returned (rat (n:Rat))/\Below w.heap.size w w':=by
 have k0:Raw (w.alloc (Obj.cells #[.bool false,.string (bs []),.string (bs [])] 39)) w.heap.size false [] []:=Blk.new w _ _
 have hbw:Hid (Below w.heap.size w (w.alloc (Obj.cells #[.bool false,.string (bs []),.string (bs [])] 39))):=Ext.alloc (Below.refl _ _) _
 have hF:=fun W=>ref_Int n W hn hn2
 have HF:=zh hF
 have K0:=zh k0
 clear hF k0
 generalize (n:Rat)=q at *
 unfold rat raw at *
 go_enter Tryz.func29,Tryz.ntmps29
 go_wp2_with fail
 refine(HF.out _).mono ?_
 rintro e w2 ⟨rfl,hb2⟩
 have k1:=K0.out.below hb2 (Raw.lt K0.out)
 have z0:=k1.frozen 0
 have z1:=k1.frozen 1
 have z2:=k1.frozen 2
 have d0:=k1.c0
 have d1:=k1.c1
 have d2:=k1.c2
 have K1:=zh k1
 have HB:=zh (Ext.trans hbw.out hb2)
 clear k1 hb2
 go_wp2
 exact bodyPost_ret (a0f rfl _ _ _ _ _ _ rfl (K1.out.put _ _ _)) rfl ⟨rfl,a1k HB.out (Nat.le_refl _) _ _ _⟩
theorem c8n(a b:Int)(w:World)(ha : -9223372036854775808<=a)(ha2:a<=9223372036854775807)(hb:0<b)(hb2:b<=9223372036854775807) :
  Calls Tryz.prog 28 #[.int .i64 a,.int .i64 b] w fun e w'=>e=.returned (rat (mkRat a b.toNat))/\Below w.heap.size w w':=by
 have k0:Raw (w.alloc (Obj.cells #[.bool false,.string (bs []),.string (bs [])] 39)) w.heap.size false [] []:=Blk.new w _ _
 have hbw:Hid (Below w.heap.size w (w.alloc (Obj.cells #[.bool false,.string (bs []),.string (bs [])] 39))):=Ext.alloc (Below.refl _ _) _
 have hF:=fun W=>c2a a b W ha ha2 hb hb2
 have HF:=zh hF
 have K0:=zh k0
 clear hF k0
 generalize mkRat a b.toNat=q at *
 unfold rat raw at *
 go_enter Tryz.func28,Tryz.ntmps28
 go_wp2_with fail
 refine(HF.out _).mono ?_
 rintro e w2 ⟨rfl,hb2⟩
 have k1:=(K0.out.below hb2 (Raw.lt K0.out)).alloc (Obj.cells #[.bool (negB q),.string (bs (numB q)),.string (bs (a0a q))] 39)
 have z0:=k1.frozen 0
 have z1:=k1.frozen 1
 have z2:=k1.frozen 2
 have d0:=k1.c0
 have d1:=k1.c1
 have d2:=k1.c2
 have K1:=zh k1
 have HB:=zh (Ext.alloc (Ext.trans hbw.out hb2) (Obj.cells #[.bool (negB q),.string (bs (numB q)),.string (bs (a0a q))] 39))
 clear k1 hb2
 go_wp2
 exact bodyPost_ret (a0f rfl _ _ _ _ _ _ rfl (K1.out.put _ _ _)) rfl ⟨rfl,a1k HB.out (Nat.le_refl _) _ _ _⟩
end Go.Proofs.YtjmiicjialkpiaaGreatDoor
