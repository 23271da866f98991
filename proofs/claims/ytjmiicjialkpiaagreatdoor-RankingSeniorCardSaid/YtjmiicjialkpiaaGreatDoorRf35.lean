/-
Part 35 of the base.
-/
import Derived.Shelf.Sort.AssemblyIn
import Derived.Sort.EveryDepth
import Derived.Sort.OwnSortedInts
import Derived.Test.YtjmiicjialkpiaaGreatDoorProg
import Derived.Test.YtjmiicjialkpiaaGreatDoorRf37
namespace Go.Proofs.YtjmiicjialkpiaaGreatDoor
open Go.Shelf
def srt_ren:Go.Shelf.Ren:=⟨fun | 189=>76 | 125=>112 | 257=>111 | 128=>134 | 129=>135 | 294=>125 | 295=>126 | 296=>127 | 297=>128 | 298=>129 | 299=>130 | 216=>131 | 300=>132 | 301=>133 | 328=>146 | 329=>147 | 330=>148 | 331=>149 | 332=>150 | 215=>151 | 343=>155 | n=>n,fun | 28=>29 | 3=>3 | 46=>62 | 0=>0 | 51=>124 | 53=>125 | 4=>4 | 183=>178 | 182=>177 | 131=>98 | 5=>5 | 9=>9 | 218=>195 | 222=>199 | 228=>203 | 229=>204 | n=>n,fun | n=>n⟩
theorem srt_lays:Go.Proofs.Lays.n189 Tryz.prog srt_ren:={
 mixed:=by kernel_rfl
 f125:=Tryz.func112.trans (congrArg some (by kernel_rfl))
 f128:=Tryz.func134.trans (congrArg some (by kernel_rfl))
 f129:=Tryz.func135.trans (congrArg some (by kernel_rfl))
 f189:=Tryz.func76.trans (congrArg some (by kernel_rfl))
 f215:=Tryz.func151.trans (congrArg some (by kernel_rfl))
 f216:=Tryz.func131.trans (congrArg some (by kernel_rfl))
 f257:=Tryz.func111.trans (congrArg some (by kernel_rfl))
 f294:=Tryz.func125.trans (congrArg some (by kernel_rfl))
 f295:=Tryz.func126.trans (congrArg some (by kernel_rfl))
 f296:=Tryz.func127.trans (congrArg some (by kernel_rfl))
 f297:=Tryz.func128.trans (congrArg some (by kernel_rfl))
 f298:=Tryz.func129.trans (congrArg some (by kernel_rfl))
 f299:=Tryz.func130.trans (congrArg some (by kernel_rfl))
 f300:=Tryz.func132.trans (congrArg some (by kernel_rfl))
 f301:=Tryz.func133.trans (congrArg some (by kernel_rfl))
 f328:=Tryz.func146.trans (congrArg some (by kernel_rfl))
 f329:=Tryz.func147.trans (congrArg some (by kernel_rfl))
 f330:=Tryz.func148.trans (congrArg some (by kernel_rfl))
 f331:=Tryz.func149.trans (congrArg some (by kernel_rfl))
 f332:=Tryz.func150.trans (congrArg some (by kernel_rfl))
 f343:=Tryz.func155.trans (congrArg some (by kernel_rfl))
 t0:=Tryz.underlying0
 a0:=Tryz.isAgg0
 z0:=Tryz.sizeOf0
 v0:=Tryz.zeroValue0
 t3:=Tryz.underlying3
 a3:=Tryz.isAgg3
 z3:=Tryz.sizeOf3
 v3:=Tryz.zeroValue3
 t4:=Tryz.underlying4
 a4:=Tryz.isAgg4
 z4:=Tryz.sizeOf4
 v4:=Tryz.zeroValue4
 t5:=Tryz.underlying5
 a5:=Tryz.isAgg5
 z5:=Tryz.sizeOf5
 v5:=Tryz.zeroValue5
 t9:=Tryz.underlying9
 a9:=Tryz.isAgg9
 z9:=Tryz.sizeOf9
 v9:=Tryz.zeroValue9
 t28:=Tryz.underlying29
 a28:=Tryz.isAgg29
 z28:=Tryz.sizeOf29
 v28:=Tryz.zeroValue29
 t46:=Tryz.underlying62
 a46:=Tryz.isAgg62
 z46:=Tryz.sizeOf62
 v46:=Tryz.zeroValue62
 t51:=Tryz.underlying124
 a51:=Tryz.isAgg124
 z51:=Tryz.sizeOf124
 v51:=Tryz.zeroValue124
 t53:=Tryz.underlying125
 a53:=Tryz.isAgg125
 z53:=Tryz.sizeOf125
 v53:=Tryz.zeroValue125
 t131:=Tryz.underlying98
 a131:=Tryz.isAgg98
 z131:=Tryz.sizeOf98
 v131:=Tryz.zeroValue98
 t182:=Tryz.underlying177
 a182:=Tryz.isAgg177
 z182:=Tryz.sizeOf177
 v182:=Tryz.zeroValue177
 t183:=Tryz.underlying178
 a183:=Tryz.isAgg178
 z183:=Tryz.sizeOf178
 v183:=Tryz.zeroValue178
 t218:=Tryz.underlying195
 a218:=Tryz.isAgg195
 z218:=Tryz.sizeOf195
 v218:=Tryz.zeroValue195
 t222:=Tryz.underlying199
 a222:=Tryz.isAgg199
 z222:=Tryz.sizeOf199
 v222:=Tryz.zeroValue199
 t228:=Tryz.underlying203
 a228:=Tryz.isAgg203
 z228:=Tryz.sizeOf203
 v228:=Tryz.zeroValue203
 t229:=Tryz.underlying204
 a229:=Tryz.isAgg204
 z229:=Tryz.sizeOf204
 v229:=Tryz.zeroValue204}
set_option maxRecDepth 100000
open Go.RowKit Go.Sort
theorem b4x(base g cap n:Nat)(zs:List Int)(w:World)(h:World.ownsRow w base 3 1 (.slice (some ⟨g,0,none⟩) n cap) n (zs.map (.int .i64)))(hn:n<=1000000) :
  Calls Tryz.prog 76 #[.slice (some ⟨g,0,none⟩) n cap] w fun e w'=>e=.returned (.tuple #[])/\∃ts:List Int,ts.Perm zs/\World.ownsRow w' base 3 1 (.slice (some ⟨g,0,none⟩) n cap) n (ts.map (.int .i64))/\w.grownBy w' (some g):=by
 have hl:zs.length=n:=by have:=h.1;rw[List.length_map]at this;omega
 subst hl
 rcases h.2 with ⟨h1,_⟩ | ⟨g',cap',cur,h1,hb,hg,hc,hm,hs,ht⟩
 ·cases h1
 injection h1 with h1 _ h2
 injection h1 with h1
 injection h1 with h1
 subst h1
 subst h2
 have hgl:g<w.heap.size:=(Array.getElem?_eq_some_iff.1 hg).1
 have hH:Holds (Value.int .i64) w g 0 zs.toArray:=holds_of_blockI hg (by rw[Nat.mul_one]at ht;exact ht)
 have hcall:Calls Tryz.prog 76 #[.slice (some ⟨g,0,none⟩) zs.length cap] w fun e w'=>e=.returned (.tuple #[])/\∃n os,w'=grow (putRow (Value.int .i64) (Sort.ahead w n) g 0 (zs.mergeSort fun x y=>decide (x<=y)).toArray) os :=
  calls_of_every_depth fun D=>AnyS.slices_Sort_int_in srt_lays D g 0 cap zs w hH hgl (by omega)
 refine hcall.mono ?_
 rintro e w' ⟨rfl,m,os,rfl⟩
 exact⟨rfl,_,List.mergeSort_perm _ _,ownsRow_sortedI (List.length_mergeSort _) hb hg hc hm hs,grownBy_sortedI _⟩
theorem b6b:∀D:List Nat,flat intE D=(D.map fun(i:Nat)=>(i:Int)).map (.int .i64)
 | []=>rfl
 | d::D=>by rw[flat,b6b D];rfl
theorem b4y(base g cap n:Nat)(D:List Nat)(w:World)(h:World.ownsRow w base 3 1 (.slice (some ⟨g,0,none⟩) n cap) n (flat intE D))(hn:n<=1000000) :
  Calls Tryz.prog 76 #[.slice (some ⟨g,0,none⟩) n cap] w fun e w'=>e=.returned (.tuple #[])/\∃D':List Nat,D'.Perm D/\World.ownsRow w' base 3 1 (.slice (some ⟨g,0,none⟩) n cap) n (flat intE D')/\w.grownBy w' (some g):=by
 rw[b6b]at h
 refine(b4x base g cap n _ w h hn).mono ?_
 rintro e w' ⟨rfl,ts,hp,ho,hg⟩
 have hts:ts=(ts.map Int.toNat).map fun(i:Nat)=>(i:Int):=by
  rw[List.map_map]
  conv=>lhs;rw[<- List.map_id ts]
  refine List.map_congr_left fun t ht=>?_
  obtain⟨d,_,rfl⟩:=List.mem_map.1 (hp.mem_iff.1 ht)
  rfl
 refine⟨rfl,ts.map Int.toNat,?_,by rw[b6b,<-hts];exact ho,hg⟩
 have:=hp.map Int.toNat
 rw[List.map_map]at this
 rwa[show(Int.toNat∘fun(i:Nat)=>(i:Int))=id from rfl,List.map_id]at this
theorem den_some{cl:List Nmd}{l:List Cls}(h1:Ok1 cl l)(h2:∀c∈l,err2 cl l c=0)(h3:∀c∈l,c.kind=1->¬Way (Mem l) c.name c.name):∀s,a6c cl l s=true->∃k,Den cl l s k:=by
 classical
 have key:∀ (n:Nat) (s:List UInt8),(allN l).countP (fun x=>decide (Way (Mem l) s x))<=n->a6c cl l s=true->∃k,Den cl l s k:=by
  intro n
  induction n with
  | zero =>
   intro s hn hk
   cases hc:a0g cl s with
   | some k=>exact⟨k,.inl hc⟩
   | none =>
    exfalso
    have hcl:(a0q l s).isSome=true:=by unfold a6c at hk;rw[hc]at hk;simpa using hk
    obtain⟨c,hm,hk1,hcn⟩:=class_any.1 hcl
    obtain⟨_,hp⟩:=(h1.1 c hm).2 hk1
    obtain⟨m,hml⟩:=List.exists_mem_of_ne_nil c.list (fun e=>hp.2.1 (by rw[e];rfl))
    have hmem:Mem l s m:=(b1q (b0k h1)).2 ⟨c,hm,hk1,hcn,hml⟩
    have hpos:0<(allN l).countP (fun x=>decide (Way (Mem l) s x)):=List.countP_pos_iff.2 ⟨m,b4n hmem,decide_eq_true (.one hmem)⟩
    omega
  | succ n ih =>
   intro s hn hk
   cases hc:a0g cl s with
   | some k=>exact⟨k,.inl hc⟩
   | none =>
    have hcl:(a0q l s).isSome=true:=by unfold a6c at hk;rw[hc]at hk;simpa using hk
    obtain⟨c,hm,hk1,hcn⟩:=class_any.1 hcl
    obtain⟨_,hp⟩:=(h1.1 c hm).2 hk1
    obtain⟨m,hml⟩:=List.exists_mem_of_ne_nil c.list (fun e=>hp.2.1 (by rw[e];rfl))
    have hmem:Mem l s m:=(b1q (b0k h1)).2 ⟨c,hm,hk1,hcn,hml⟩
    have hkm:a6c cl l m=true:=by
     have h4:=h2 c hm
     unfold err2 at h4
     rw[if_neg (by omega)]at h4
     by_cases ha:(a5c c).all (a6c cl l)=true
     ·rw[List.all_eq_true]at ha
      exact ha m (by rw[uses1 hk1];exact hml)
     rw[if_neg ha]at h4;cases h4
    cases hcm:a0g cl m with
    | some k=>exact⟨k,.inr ⟨hc,m,.one hmem,hcm⟩⟩
    | none =>
     have hclm:(a0q l m).isSome=true:=by unfold a6c at hkm;rw[hcm]at hkm;simpa using hkm
     obtain⟨d,hd,hdk,hdn⟩:=class_any.1 hclm
     have hless:(allN l).countP (fun x=>decide (Way (Mem l) m x))<(allN l).countP (fun x=>decide (Way (Mem l) s x)) :=
      b6h (fun x _ hx=>decide_eq_true (.head hmem (of_decide_eq_true hx))) ⟨m,b4n hmem,decide_eq_true (.one hmem),decide_eq_false (fun hw=>h3 d hd hdk (by rw[hdn];exact hw))⟩
     obtain⟨k,hk'⟩:=ih m (by omega) hkm
     rcases hk' with hk' | ⟨_,x,hx,hxc⟩
     ·rw[hcm]at hk';cases hk'
     exact⟨k,.inr ⟨hc,x,.head hmem hx,hxc⟩⟩
 exact fun s hk=>key _ s (Nat.le_refl _) hk
theorem RRng.ne_own{P:Program}{kt:TypeId}{κ:Type}{kl:κ->Lit}{S L:κ->Bool}{f:κ->Value}{w:World}{b r n cnt base k m:Nat}{e:TypeId}{v:Value}{xs:List Value}(h:RRng P kt kl w b r n S f L cnt)(ho:World.ownsRow w base e k v m xs):some b≠v.ownBlock/\some r≠v.ownBlock:=by
 rcases ho.2 with ⟨rfl,_⟩ | ⟨g',cap,cur,rfl,_,hg,_⟩
 ·exact⟨by simp[Value.ownBlock],by simp[Value.ownBlock]⟩
 refine⟨fun e1=>?_,fun e1=>?_⟩
 ·have e2:b=g':=by simpa [Value.ownBlock]using e1
  exact h.own.ne_blk (show Blk w g' cur e from hg) e2
 have e2:r=g':=by simpa [Value.ownBlock]using e1
 exact h.ne_blk (show Blk w g' cur e from hg) e2
set_option maxHeartbeats 4000000
open Go.RowKit
def DenR(cl:List Nmd)(l:List Cls)(s:List UInt8)(w:World)(e:Ending)(w':World):Prop:=∃ (v:Value) (D:List Nat),e=.returned v/\Grows w' w.heap.size 3 1 v D.length (flat intE D)/\(∀i,i∈D↔Den cl l s i)/\Below w.heap.size w w'
theorem a6t{w:World}{g:Nat}{cs:Array Value}{t:TypeId}{news:List Value}(h:Blk w g cs t)(hc:cs.toList=news):∀j u,news[j]? =some u->w.cell? ((⟨g,0,none⟩:Addr).add j)=some u:=by
 intro j u hu
 rw[Addr.add_lit,Nat.zero_add]
 exact h.cell j u (by rw[<- Array.getElem?_toList,hc];exact hu)
structure Gat(cl:List Nmd)(F L:List UInt8->Bool)(D:List Nat):Prop where
 mem:∀i,i∈D↔∃m,F m=true/\L m=false/\a0g cl m=some i
 nodup:D.Nodup
theorem Gat.start{cl:List Nmd}{F:List UInt8->Bool}:Gat cl F F []:=⟨fun i=>⟨fun h=>(by cases h),fun⟨m,h1,h2,_⟩=>by rw[h1]at h2;cases h2⟩,List.nodup_nil⟩
theorem Gat.len{cl:List Nmd}{F L:List UInt8->Bool}{D:List Nat}(h:Gat cl F L D):D.length<=cl.length:=a5z _ _ h.nodup fun x hx=>by
 obtain⟨m,_,_,hm⟩:=(h.mem x).1 hx
 exact a7x hm
theorem Gat.none{cl:List Nmd}{F L:List UInt8->Bool}{D:List Nat}{p:List UInt8}(h:Gat cl F L D)(hc:a0g cl p=none):Gat cl F (fun q=>L q && !decide (q=p)) D:=by
 refine⟨fun i=>(h.mem i).trans ⟨fun⟨m,h1,h2,h3⟩=>⟨m,h1,by rw[h2];rfl,h3⟩,fun⟨m,h1,h2,h3⟩=>⟨m,h1,?_,h3⟩⟩,h.nodup⟩
 have hm:m≠p:=fun e=>by rw[e,hc]at h3;cases h3
 rw[decide_eq_false hm]at h2
 simpa using h2
theorem Gat.some{cl:List Nmd}{F L:List UInt8->Bool}{D:List Nat}{p:List UInt8}{i:Nat}(h:Gat cl F L D)(hF:F p=true)(hL:L p=true)(hc:a0g cl p=some i):Gat cl F (fun q=>L q && !decide (q=p)) (D++[i]):=by
 have key:∀m,a0g cl m=Option.some i->m=p:=fun m hm=>by
  obtain⟨a,a1,a2⟩:=a4h hm
  obtain⟨b,b1,b2⟩:=a4h hc
  rw[a1]at b1
  obtain rfl:=Option.some.inj b1
  rw[<- a2,<-b2]
 refine⟨fun j=>?_,?_⟩
 ·rw[List.mem_append,List.mem_singleton,h.mem]
  constructor
  ·rintro(⟨m,h1,h2,h3⟩ | rfl)
   ·exact⟨m,h1,by rw[h2];rfl,h3⟩
   exact⟨p,hF,by rw[hL,decide_eq_true rfl];rfl,hc⟩
  rintro⟨m,h1,h2,h3⟩
  by_cases hm:m=p
  ·subst hm
   rw[hc]at h3
   exact .inr (Option.some.inj h3).symm
  rw[decide_eq_false hm]at h2
  exact .inl ⟨m,h1,by simpa using h2,h3⟩
 rw[List.nodup_append]
 refine⟨h.nodup,by simp,fun a ha b hb=>?_⟩
 rw[List.mem_singleton.1 hb]
 rintro rfl
 obtain⟨m,h1,h2,h3⟩:=(h.mem a).1 ha
 rw[key m h3,hL]at h2
 cases h2
theorem a4b{w0:World}{cl:List Nmd}{l:List Cls}{A:CAd}{C:CCo}(s:List UInt8)(w:World)(h:Cst w0 cl l A C w)(hF:Full w0 l C)(hlen:∀x∈allN l,x.length<=maxLen)(hbig:a6h l (fun _=>false)<=1000000)(hs:s.length<=maxLen)(hne:∃k,Den cl l s k)(hcl:cl.length<=1000) :
  Calls Tryz.prog 43 #[.pointer (some ⟨A.g,0,none⟩),.string (bs s)] w (DenR cl l s w):=by
 have hcol:=fun b W hb hM hge=>a7z h hF hlen (a6h l (fun _=>false)) (fun _=>false) s b 0 W rfl hb hM hge (by omega) hs
 have hmm:=@run_makeMap Tryz.prog
 obtain⟨ii,hii,hz0,hz1,hz2⟩:=c0n
 obtain⟨g,v1,v2,mc,mk,ml,nc,vb,vp,vr,gsb,gsp,ex⟩:=A
 have HD:=zh (show ∀w',Below w.heap.size w w'->∀ (j:Nat) (v:Value),[v1,v2,.map (some mc),.map (some mk),vb,vp,.map (some ml),vr][j]? =some v->w'.cell? ⟨g,j,none⟩=some v from fun w' hb=>Cst.rd (Cst.below h hb))
 have HM:=zh h.mc
 have HC:=zh hcol
 have HL:=zh hs
 have HNE:=zh hne
 have LN:=zh hcl
 have HZ0:=zh hz0
 clear h hF hlen hbig hs hne hcl hcol hz0
 dsimp only at HM ⊢
 cases hq:a0g cl s with
 | some k =>
  go_enter Tryz.func43,Tryz.ntmps43
  have HS:=zh (St.start w)
  have x1:=HD.out _ HS.out.below 2 _ rfl
  go_wp2_with (at_lookup;refine a0t rfl _ _ 65 rfl 9 3 a2r Tryz.underlying65 (a5a _) HM.out (by simp[Act.eval]) (s) (by simp[Act.eval,strV]) HL.out (.int .i64 (k:Nat)) true (by rw[hq];rfl) (by rw[hq];rfl) ?_)
  clear x1
  go_wp2
  have HS2:=aL HS #[.int .i64 (k:Nat)] 3 w.heap.size
  go_ret
  exact⟨_,[k],rfl,⟨rfl,.inr ⟨_,1,_,rfl,Nat.le_refl _,HS2.out.blk 0 rfl,Nat.le_refl _,by decide,rfl,rfl⟩⟩,fun i=>⟨fun hi=>.inl (by rw[List.mem_singleton.1 hi];exact hq),fun hd=>by rcases hd with hd | ⟨hd,_⟩;(rw[hq]at hd;exact List.mem_singleton.2 (Option.some.inj hd).symm);(rw[hq]at hd;cases hd)⟩,HS2.out.below⟩
 | none =>
  go_enter Tryz.func43,Tryz.ntmps43
  have HS:=zh (St.start w)
  have x1:=HD.out _ HS.out.below 2 _ rfl
  go_wp2_with (at_lookup;refine a0t rfl _ _ 65 rfl 9 3 a2r Tryz.underlying65 (a5a _) HM.out (by simp[Act.eval]) (s) (by simp[Act.eval,strV]) HL.out (.int .i64 0) false (by rw[hq];rfl) (by rw[hq];rfl) ?_)
  clear x1
  have HQ:=zh hq
  clear hq
  skip
  have HS2:=zh (St.alloc' (HS.out) (Obj.map #[] 0))
  refine(HC.out (w.heap.size) _ HS2.out.below (RMap.made _ _ (by simp)) (Nat.le_refl _)).mono ?_
  rintro e w3 ⟨rfl,F3,n3,hCol3,hM3,_,hg3⟩
  have hst3:=HS2.out.turnedR hg3 (Nat.le_refl _) (fun z hz=>by cases hz)
  have HS3:Hid (St w [] w3):=zh hst3
  clear hst3 HS HS2
  have HF3:=zh hM3
  have HCO:=zh (fun m=>hCol3.all m)
  clear hCol3 hM3 hg3
  go_wp2_with (at_range;refine b2c rfl _ 96 rfl 9 4 a2r Tryz.underlying96 HF3.out (by simp[Act.eval]) ?_)
  intro w8 ct hrg8 hg8 hs8
  have HG8:=zh hrg8
  have HBW:=zh (show w.heap.size<=w3.heap.size from HS3.out.below.size)
  have hmc:=zh (show mc≠w3.heap.size from fun e=>absurd HM.out.lt (by have:=HBW.out;omega))
  have HS8:=zh (HS3.out.call ((Below.refl _ _).grown hg8 (Nat.le_refl _) (fun k hk=>by cases hk)))
  have HM8:=zh (HM.out.below HS8.out.below)
  clear hrg8 hg8 hs8 HS3 HF3 HM
  go_wp2
  go_loopw [8] (fun v_ wr=>∃ (L:List UInt8->Bool) (cnt:Nat) (D:List Nat),Hid (RRng Tryz.prog 9 strL wr w.heap.size w3.heap.size n3 F3 (fun _=>.bool true) L cnt)/\Hid (Gat cl F3 L D)/\Hid (Grows wr w.heap.size 3 1 v_ D.length (flat intE D))/\Hid (RMap Tryz.prog 9 strL wr mc nc (fun s=>(a0g cl s).isSome) (fun s=>.int .i64 (optI (a0g cl s))))/\Hid (St w [] wr)) (fun _ wr=>wr.rangeLeft w.heap.size w3.heap.size)
  case atStart=>exact⟨_,_,[],HG8.out,Gat.start,World.ownsRow_nil _ _ _ _,HM8.out,HS8.out⟩
  case round =>
   clear HG8 HS8 HM8
   obtain⟨L,cnt,D,HG,HGT,HO,HM,HS⟩:=hrel
   rename_i u8
   go_wp2_with (at_next;refine b3p rfl _ rfl 9 a2r HG.out (by simp[Act.eval]) ?_ ?_)
   ·intro hl0
    have hmem:∀i,i∈D↔Den cl l s i:=fun i=>by rw[HGT.out.mem];exact⟨fun⟨m,h1,_,h3⟩=>.inr ⟨HQ.out,m,(HCO.out m).1 h1,h3⟩,fun hd=>by rcases hd with hd | ⟨_,m,h1,h3⟩;(rw[HQ.out]at hd;cases hd);exact⟨m,(HCO.out m).2 h1,hl0 m,h3⟩⟩
    have hpos:0<D.length:=by obtain⟨k,hk⟩:=HNE.out;exact List.length_pos_of_mem ((hmem k).2 hk)
    have hdl:=HGT.out.len
    obtain⟨g8,c8,rfl,hg81,hg82⟩:=World.ownsRow.form HO.out hpos
    have HSRT:=zh (fun W (hb:Below wr.heap.size wr W)=>b4y w.heap.size g8 c8 D.length D W (Grows.below HO.out hb) (by have:=LN.out;omega))
    have HDM:=zh hmem
    have HG81:=zh hg81
    skip
    clear hl0 hmem hpos hdl HG HGT HO HM
    go_wp2_with fail
    refine(HSRT.out _ (Below.refl _ _)).mono ?_
    rintro e w4 ⟨rfl,D9,hp9,ho9,hg9⟩
    have hst4:=HS.out.turnedR hg9 HG81.out (fun z hz=>by cases hz)
    have HS4:Hid (St w [] w4):=zh hst4
    clear hst4 HS
    have HO9:=zh ho9
    have HP9:=zh hp9
    clear ho9 hp9 hg9
    go_wp2
    go_ret
    exact⟨_,D9,rfl,by rw[HP9.out.length_eq];exact HO9.out,fun i=>HP9.out.mem_iff.trans (HDM.out i),HS4.out.below⟩
   intro p w1 cnt1 hLp hok hrg1 hlt1 hg1 hs1 hen
   have hFp:F3 p=true:=by obtain⟨_,_,_,_,_,h4⟩:=HG.out;exact h4 p hLp
   have hge:w.heap.size<=w3.heap.size:=by exact HBW.out
   have HS1:=zh (HS.out.turnedN HG.out hg1 hge)
   have HO1:=zh (show Grows w1 w.heap.size 3 1 u8 D.length (flat intE D)from World.ownsRow.kept HO.out hg1 (.inr (fun e=>(HG.out.ne_own HO.out).2 e.symm)))
   have hmr:=HM.out.kept hg1 (fun e=>hmc.out (Option.some.inj e))
   have HM1:=zh hmr
   have HG1:=zh hrg1
   have hle:=HG.out.left_eq
   have HLE:=zh hle
   have HLT:=zh hlt1
   have HPL:=zh (show p.length<=maxLen from hok)
   have HFP:=zh hFp
   have HLP:=zh hLp
   have hdl:=zh HGT.out.len
   clear HS HG HO HM hrg1 hg1 hs1 hmr hle hlt1 hLp hok hFp hge
   cases hcp:a0g cl p with
   | none =>
    have HCP:=zh hcp
    clear hcp
    have x2:=HD.out _ HS1.out.below 2 _ rfl
    go_wp2_with (at_lookup;refine a0t rfl _ _ 65 rfl 9 3 a2r Tryz.underlying65 (a5a _) HM1.out (by simp[Act.eval]) (p) (by simp[Act.eval,strV]) HPL.out (.int .i64 0) false (by rw[HCP.out];rfl) (by rw[HCP.out];rfl) ?_)
    clear x2
    skip
    go_roundw
    case rel=>exact⟨_,cnt1,D,HG1.out,HGT.out.none HCP.out,HO1.out,HM1.out,HS1.out⟩
    case measure=>rw[RRng.left_eq HG1.out,HLE.out];exact HLT.out
   | some i =>
    have HCP:=zh hcp
    clear hcp
    have x2:=HD.out _ HS1.out.below 2 _ rfl
    have HS4:=aL HS1 #[.int .i64 (i:Nat)] 3 w1.heap.size
    have hsz:=HS4.out.below.size
    have hblk:=HS4.out.blk 0 rfl
    have hgr:World.ownsRow _ w.heap.size 3 1 u8 D.length (flat intE D):=(HO1.out.below (Ext.alloc (Below.refl w1.heap.size w1) (Obj.cells #[.int .i64 (i:Nat)] 3)))
    have hMn:=(HM1.out.below (Ext.alloc (Below.refl w1.heap.size w1) (Obj.cells #[.int .i64 (i:Nat)] 3)))
    have hGn:=(HG1.out.below (Ext.alloc (Below.refl w1.heap.size w1) (Obj.cells #[.int .i64 (i:Nat)] 3)))
    go_wp2_with (first | (at_lookup;refine a0t rfl _ _ 65 rfl 9 3 a2r Tryz.underlying65 (a5a _) HM1.out (by simp[Act.eval]) (p) (by simp[Act.eval,strV]) HPL.out (.int .i64 (i:Nat)) true (by rw[HCP.out];rfl) (by rw[HCP.out];rfl) ?_) | (at_builtin;refine wpList_append_own _ rfl _ _ 29 rfl w.heap.size 3 ii _ 1 8 Tryz.underlying29 hii HZ0.out hz1 hz2 rfl (by decide) u8 D.length (flat intE D) (by simp[Act.eval]) hgr ⟨w1.heap.size,0,none⟩ 1 1 (intE i) (by simp[Act.eval]) rfl (a6t hblk rfl) (fun u hu=>by rw[List.mem_singleton.1 hu];rfl) (by have:=hdl.out;have:=LN.out;unfold maxLen;omega) (by have:=hdl.out;have:=LN.out;omega) hsz ?_;intro v9 w9 hown9 hg9 _))
    have HSA:=zh ((HS4.out.sub (List.sublist_cons_self ..)).turnedO hg9 (fun q hq=>(World.ownsRow.lt hgr q hq).1) (fun x hx=>by cases hx))
    have HOA:=zh (show Grows w9 w.heap.size 3 1 v9 (D++[i]).length (flat intE (D++[i]))from by rw[a2s,List.length_append];exact hown9)
    have HMA:=zh (hMn.kept hg9 (fun e=>(hMn.ne_own hgr) e.symm))
    have HGA:=zh (hGn.kept hg9 (hGn.ne_own hgr).1 (hGn.ne_own hgr).2)
    skip
    clear hown9 hg9 hgr hMn hGn hblk hsz HS4 x2
    go_wp2
    go_roundw
    case rel=>exact⟨_,cnt1,D++[i],HGA.out,HGT.out.some HFP.out HLP.out HCP.out,HOA.out,HMA.out,HSA.out⟩
    case measure=>rw[RRng.left_eq HGA.out,HLE.out];exact HLT.out
def IdxR(p:Nat->Bool)(D:List Nat)(w:World)(e:Ending)(w':World):Prop:=∃r:Int,e=.returned (.int .i64 r)/\Below w.heap.size w w'/\(0<=r↔∃i,i∈D/\p i=true)
theorem idx_hit{p:Nat->Bool}{D:List Nat}{k i:Nat}{w w':World}(h:D[k]? =some i)(hp:p i=true)(hb:Below w.heap.size w w'):IdxR p D w (.returned (.int .i64 (k:Nat))) w':=⟨_,rfl,hb,⟨fun _=>⟨i,List.mem_of_getElem? h,hp⟩,fun _=>by omega⟩⟩
theorem idx_no{p:Nat->Bool}{D:List Nat}{w w':World}(h:∀ (j:Nat) t,j<D.length->D[j]? =some t->p t=false)(hb:Below w.heap.size w w'):IdxR p D w (.returned (.int .i64 (-1))) w':=⟨_,rfl,hb,⟨fun h=>absurd h (by omega),fun⟨i,hi,hp⟩=>by
 obtain⟨j,hj,e⟩:=List.mem_iff_getElem.1 hi
 rw[h j i hj (by rw[List.getElem?_eq_getElem hj,e])]at hp
 cases hp⟩⟩
theorem c8s{F:FuncId}{cv:Value}(p:Nat->Bool)(D:List Nat)(v:Value)(w:World)(h:Slc intE 1 w v D)(eg:∀ (args:Array Value) (W:World),(callFunc F args).run Tryz.prog W=.ok (.enter F args) W)
  (hst:∀i W,i∈D->Below w.heap.size w W->Calls Tryz.prog F #[.int .i64 (i:Nat),cv] W fun e w'=>e=.returned (.bool (p i))/\W=w') :
  Calls Tryz.prog 110 #[v,.func (.func F) #[] #[cv]] w (IdxR p D w):=by
 have HST:=zh hst
 have H:=zh h
 obtain⟨A2,c2,rfl,hl5,hl6⟩:=h.slice
 have LL:=zh (Nat.le_trans hl5 hl6)
 clear h hst hl5 hl6
 go_enter Tryz.func110,Tryz.ntmps110
 have HS:=zh (St.start w)
 go_wp2
 go_loopw [8] (fun i_ wr=>∃k:Nat,k<=D.length/\i_=.int .i64 k/\Hid (∀ (j:Nat) t,j<k->D[j]? =some t->p t=false)/\Hid (St w [] wr)) (fun i_ _=>D.length-(intOf i_).toNat)
 case atStart=>exact⟨0,Nat.zero_le _,rfl,(fun j t h=>absurd h (Nat.not_lt_zero _)),HS.out⟩
 case round =>
  clear HS
  obtain⟨k,hk,rfl,HN,HS⟩:=hrel
  by_cases hlt:k<D.length
  ·obtain⟨b,o,i,rfl,hbb,hq,hx⟩:=H.out.at_ hlt
   simp only[Nat.mul_one]at hx
   have HX:=zh (fun w' (hb:Below w.heap.size w w') (j:Nat) (v:Value) (hv:[.int .i64 ((i:Nat):Int)][j]? =some v)=>hx w' hb j v hv)
   have HQ:=zh hq
   have HCI:=zh (fun W hb=>HST.out i W (List.mem_of_getElem? hq) hb)
   have e1:(0:Int)<=((k:Nat):Int):=by omega
   have e2:((k:Nat):Int)<(D.length:Int):=by omega
   have e3:decide (((k:Nat):Int)<(D.length:Int))=true:=decide_eq_true e2
   have i5:IntKind.i64.wrap ((k:Int)+1)=((k+1:Nat):Int):=by have:=LL.out;rw[IntWalk.i64_in _ (by omega)];rfl
   obtain⟨q,hpq⟩:∃q,q=p i:=⟨_,rfl⟩
   have HP:Hid (p i=q):=hpq.symm
   rw[<- hpq]at HCI
   clear hq hx hpq
   cases q
   ·have x1:=HX.out _ HS.out.below 0 _ rfl
    rw[Nat.add_zero]at x1
    go_wp2_with fail
    refine(HCI.out _ HS.out.below).mono ?_
    rintro e w' ⟨rfl,rfl⟩
    clear x1
    go_wp2
    go_roundw
    case rel=>exact⟨k+1,by omega,by go_num,a7a (p:=p) HN.out HQ.out HP.out,HS.out⟩
    case measure=>simp[intOf];omega
   have x1:=HX.out _ HS.out.below 0 _ rfl
   rw[Nat.add_zero]at x1
   go_wp2_with fail
   refine(HCI.out _ HS.out.below).mono ?_
   rintro e w' ⟨rfl,rfl⟩
   clear x1
   go_wp2
   go_ret
   exact idx_hit HQ.out HP.out HS.out.below
  obtain rfl:k=D.length:=by omega
  have e2:decide (((D.length:Nat):Int)<(D.length:Int))=false:=decide_eq_false (by omega)
  go_wp2
  go_ret
  exact idx_no HN.out HS.out.below
theorem c0y{F:FuncId}{cv:Value}(p:Nat->Bool)(D:List Nat)(v:Value)(w:World)(h:Slc intE 1 w v D)(eg:∀ (args:Array Value) (W:World),(callFunc F args).run Tryz.prog W=.ok (.enter F args) W)
  (hst:∀i W,i∈D->Below w.heap.size w W->Calls Tryz.prog F #[.int .i64 (i:Nat),cv] W fun e w'=>e=.returned (.bool (p i))/\W=w') :
  Calls Tryz.prog 74 #[v,.func (.func F) #[] #[cv]] w fun e w'=>e=.returned (.bool (D.any p))/\Below w.heap.size w w':=by
 have hi:=fun W (hb:Below w.heap.size w W)=>c8s p D v W (h.below hb) eg (fun i V hi hV=>hst i V hi (Ext.trans hb hV))
 have HI:=zh hi
 clear h hst hi
 go_enter Tryz.func74,Tryz.ntmps74
 have HS:=zh (St.start w)
 go_wp2_with fail
 refine(HI.out _ HS.out.below).mono ?_
 rintro e w2 ⟨r2,rfl,hb2,hR2⟩
 have HS2:=zh (HS.out.call hb2)
 have HR2:=zh hR2
 clear hR2
 obtain⟨q9,hq9⟩:∃q,q=decide (r2≥0):=⟨_,rfl⟩
 have d9:decide (r2≥0)=q9:=hq9.symm
 have d8:decide (0<=r2)=q9:=hq9.symm
 have HQ9:=zh hq9
 clear hq9 hb2 HS
 go_wp2
 go_ret
 have hq:D.any p=q9:=by
  rw[HQ9.out,Bool.eq_iff_iff,List.any_eq_true,decide_eq_true_iff]
  exact HR2.out.symm
 rw[hq]
 exact⟨rfl,HS2.out.below⟩
theorem c4h{w0:World}{cl:List Nmd}{l:List Cls}{A:CAd}{C:CCo}(i gb:Nat)(x:Nmd)(w:World)(h:Cst w0 cl l A C w)(hi:cl[i]? =some x)(hb:∀ (j:Nat) (v:Value),[.pointer (some ⟨A.g,0,none⟩)][j]? =some v->w.cell? ⟨gb,j,none⟩=some v)(hlt:gb<w.heap.size) :
  Calls Tryz.prog 75 #[.int .i64 (i:Nat),.pointer (some ⟨gb,0,none⟩)] w fun e w'=>e=.returned (.bool (decide (x.rank<=1)))/\w=w':=by
 have hil:=(List.getElem?_eq_some_iff.1 hi).1
 have h1:=h.n1
 obtain⟨g,v1,v2,mc,mk,ml,nc,vb,vp,vr,gsb,gsp,ex⟩:=A
 dsimp only at h1 hb ⊢
 obtain⟨A1,c1,rfl,_,_⟩:=h1.slice
 obtain⟨b,o,y,rfl,hbb,hq,hx⟩:=h1.at_ hil
 obtain rfl:x=y:=by rw[hi]at hq;exact Option.some.inj hq
 have HD:=zh (show ∀w',Below w.heap.size w w'->∀ (j:Nat) (v:Value),[.slice (some ⟨b,o,none⟩) cl.length c1,v2,.map (some mc),.map (some mk),vb,vp,.map (some ml),vr][j]? =some v->w'.cell? ⟨g,j,none⟩=some v from fun w' hb=>Cst.rd (Cst.below h hb))
 unfold Nmd.enc at hx
 have HX:=zh hx
 have HB:=zh (show ∀w',Below w.heap.size w w'->∀ (j:Nat) (v:Value),[.pointer (some ⟨g,0,none⟩)][j]? =some v->w'.cell? ⟨gb,j,none⟩=some v from fun w' hw j v hv=>(hw.cell hlt).trans (hb j v hv))
 have hg:=h.lt
 dsimp only at hg
 have e1:(0:Int)<=((i:Nat):Int):=by omega
 have e2:((i:Nat):Int)<(cl.length:Int):=by omega
 obtain⟨q9,hq9⟩:∃q,q=decide (x.rank<=1):=⟨_,rfl⟩
 have d9:decide (x.rank<=1)=q9:=hq9.symm
 rw[<- hq9]
 clear h h1 hi hb hq hx hq9
 go_enter Tryz.func75,Tryz.ntmps75
 have HS:=zh (St.start w)
 have x1:=HB.out _ HS.out.below 0 _ rfl
 have x2:=HD.out _ HS.out.below 0 _ rfl
 have x3:=HX.out _ HS.out.below 1 _ rfl
 go_wp2
 go_ret
 exact⟨rfl,rfl⟩
def nmd0:Nmd:=⟨[],0,⟨false,[],[]⟩⟩
def PrtR(cl:List Nmd)(l:List Cls)(s:List UInt8)(w:World)(e:Ending)(w':World):Prop:=∃q:Bool,e=.returned (.bool q)/\(q=true↔Stat cl l s)/\Below w.heap.size w w'
theorem b6f{cl:List Nmd}{l:List Cls}{s:List UInt8}{i:Nat}(h:Den cl l s i):i<cl.length:=by
 rcases h with h | ⟨_,m,_,h⟩
 ·exact a7x h
 exact a7x h
theorem prot_any{cl:List Nmd}{l:List Cls}{s:List UInt8}{D:List Nat}(hD:∀i,i∈D↔Den cl l s i):(D.any fun i=>decide ((cl.getD i nmd0).rank<=1))=true↔Stat cl l s:=by
 rw[List.any_eq_true]
 constructor
 ·rintro⟨i,hi,h⟩
  have hd:=(hD i).1 hi
  refine⟨i,cl.getD i nmd0,hd,?_,of_decide_eq_true h⟩
  rw[List.getD_eq_getElem?_getD,List.getElem?_eq_getElem (b6f hd)]
  rfl
 rintro⟨i,c,hd,hc,h⟩
 refine⟨i,(hD i).2 hd,decide_eq_true ?_⟩
 rw[List.getD_eq_getElem?_getD,hc]
 exact h
theorem a6s{w0:World}{cl:List Nmd}{l:List Cls}{A:CAd}{C:CCo}(s:List UInt8)(w:World)(h:Cst w0 cl l A C w)(hF:Full w0 l C)(hlen:∀x∈allN l,x.length<=maxLen)(hbig:a6h l (fun _=>false)<=1000000)(hs:s.length<=maxLen)(hne:∃k,Den cl l s k)(hcl:cl.length<=1000) :
  Calls Tryz.prog 42 #[.pointer (some ⟨A.g,0,none⟩),.string (bs s)] w (PrtR cl l s w):=by
 have hden:=fun W (hb:Below w.heap.size w W)=>a4b s W (h.below hb) hF hlen hbig hs hne hcl
 have hcon:=fun W (hb:Below w.heap.size w W) gb v D (hv:Slc intE 1 W v D) (hlt:∀i,i∈D->i<cl.length) (hB:∀W',Below W.heap.size W W'->∀ (j:Nat) (v:Value),[.pointer (some ⟨A.g,0,none⟩)][j]? =some v->W'.cell? ⟨gb,j,none⟩=some v) (hg:gb<W.heap.size) =>
  c0y (F:=75) (cv:=.pointer (some ⟨gb,0,none⟩)) (fun i=>decide ((cl.getD i nmd0).rank<=1)) D v W hv (fun _ _=>rfl)
   (fun i V hi hV=>c4h i gb (cl.getD i nmd0) V (h.below (Ext.trans hb hV)) (by rw[List.getD_eq_getElem?_getD,List.getElem?_eq_getElem (hlt i hi)];rfl) (hB V hV) (Nat.lt_of_lt_of_le hg hV.size))
 have hmf:∀ (fn:Fn) (first cap:Array Value) (w:World),(Instr.makeFunc fn first cap).run Tryz.prog w=.ok (.func fn first cap) w:=fun _ _ _ _=>rfl
 obtain⟨g,v1,v2,mc,mk,ml,nc,vb,vp,vr,gsb,gsp,ex⟩:=A
 have HDN:=zh hden
 have HCN:=zh hcon
 clear h hF hlen hbig hs hne hcl hden hcon
 dsimp only at HDN HCN ⊢
 go_enter Tryz.func42,Tryz.ntmps42
 have HS:=zh (St.start w)
 go_wp2_with fail
 have HS2:=aL HS #[.pointer (some ⟨g,0,none⟩)] 64 w.heap.size
 refine(HDN.out _ HS2.out.below).mono ?_
 rintro e w3 ⟨v3,D3,rfl,hs3,hd3,hb3⟩
 have HS3:=zh (HS2.out.call hb3)
 have HSL3:=zh (Slc.of_own a2h hs3 rfl)
 have HDD3:=zh hd3
 clear hs3 hd3
 have HLI:=zh (fun i hi=>b6f ((HDD3.out i).1 hi))
 clear hb3 HS HS2
 go_wp2_with fail
 refine cL (HCN.out _ HS3.out.below w.heap.size _ _ HSL3.out HLI.out (fun W hb j v hv=>(St.call HS3.out hb).cell 0 rfl j (by rw[List.getElem?_toArray];exact hv)) (HS3.out.lt 0 rfl)) HS3 fun w4 HS4=>?_
 clear HS3
 go_wp2
 go_ret
 exact⟨_,rfl,prot_any HDD3.out,HS4.out.below⟩
end Go.Proofs.YtjmiicjialkpiaaGreatDoor
