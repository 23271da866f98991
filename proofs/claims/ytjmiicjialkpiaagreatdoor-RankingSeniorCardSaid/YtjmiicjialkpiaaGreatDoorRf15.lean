/-
Part 15 of the base.
-/
import Derived.Test.YtjmiicjialkpiaaGreatDoorRf14
namespace Go.Proofs.YtjmiicjialkpiaaGreatDoor
open Go.RowKit
def putI(F:Nat->Bool)(m:Nat)(x:Nat):Bool:=F x||x==m
theorem putI_iff{F:Nat->Bool}{m x:Nat}:putI F m x=true↔F x=true\/x=m:=by
 unfold putI
 rw[Bool.or_eq_true,beq_iff_eq]
def Srch(r:Nat->Nat->Prop)(a:Nat)(inn:Nat->Bool)(todo:List Nat)(x y:Nat):Prop :=
 inn a=true/\(∀u,inn u=true->Conn r a u)/\(∀u∈todo,inn u=true)/\inn x=true/\(∀u v,inn u=true->u∉todo->u≠x->(r u v\/r v u)->inn v=true)/\∀v,v<y->(r x v\/r v x)->inn v=true
def Srch0(r:Nat->Nat->Prop)(a:Nat)(inn:Nat->Bool)(todo:List Nat):Prop :=
 inn a=true/\(∀u,inn u=true->Conn r a u)/\(∀u∈todo,inn u=true)/\∀u v,inn u=true->u∉todo->(r u v\/r v u)->inn v=true
theorem Srch0.start(r:Nat->Nat->Prop)(a:Nat):Srch0 r a (putI (fun _=>false) a) [a]:=by
 refine⟨putI_iff.2 (.inr rfl),fun u hu=>?_,fun u hu=>putI_iff.2 (.inr (by simpa using hu)),fun u v hu hn=>?_⟩
 ·rcases putI_iff.1 hu with h | rfl
  ·cases h
  exact .refl _
 rcases putI_iff.1 hu with h | rfl
 ·cases h
 exact absurd (List.mem_singleton.2 rfl) hn
theorem Srch0.pop{r:Nat->Nat->Prop}{a x:Nat}{inn:Nat->Bool}{todo:List Nat}(h:Srch0 r a inn (x::todo)):Srch r a inn todo x 0:=by
 obtain⟨h1,h2,h3,h4⟩:=h
 refine⟨h1,h2,fun u hu=>h3 u (List.mem_cons_of_mem _ hu),h3 x (List.mem_cons_self ..),fun u v hu hn hx=>h4 u v hu (fun hm=>?_),fun v hv=>absurd hv (Nat.not_lt_zero _)⟩
 rcases List.mem_cons.1 hm with rfl | hm
 ·exact hx rfl
 exact hn hm
theorem Srch.new{r:Nat->Nat->Prop}{a x y:Nat}{inn:Nat->Bool}{todo:List Nat}(h:Srch r a inn todo x y)(hy:r x y\/r y x):Srch r a (putI inn y) (todo++[y]) x (y+1):=by
 obtain⟨h1,h2,h3,h4,h5,h6⟩:=h
 refine⟨putI_iff.2 (.inl h1),fun u hu=>?_,fun u hu=>?_,putI_iff.2 (.inl h4),fun u v hu hn hx he=>?_,fun v hv he=>?_⟩
 ·rcases putI_iff.1 hu with hu | rfl
  ·exact h2 u hu
  exact .step (h2 x h4) hy
 ·rcases List.mem_append.1 hu with hu | hu
  ·exact putI_iff.2 (.inl (h3 u hu))
  exact putI_iff.2 (.inr (by simpa using hu))
 ·rcases putI_iff.1 hu with hu | rfl
  ·exact putI_iff.2 (.inl (h5 u v hu (fun hm=>hn (List.mem_append_left _ hm)) hx he))
  exact absurd (List.mem_append_right _ (List.mem_singleton.2 rfl)) hn
 by_cases hvy:v<y
 ·exact putI_iff.2 (.inl (h6 v hvy he))
 exact putI_iff.2 (.inr (by omega))
theorem Srch.old{r:Nat->Nat->Prop}{a x y:Nat}{inn:Nat->Bool}{todo:List Nat}(h:Srch r a inn todo x y)(hy:(r x y\/r y x)->inn y=true):Srch r a inn todo x (y+1):=by
 obtain⟨h1,h2,h3,h4,h5,h6⟩:=h
 refine⟨h1,h2,h3,h4,h5,fun v hv he=>?_⟩
 by_cases hvy:v<y
 ·exact h6 v hvy he
 obtain rfl:v=y:=by omega
 exact hy he
theorem Srch.done{r:Nat->Nat->Prop}{n a x:Nat}{inn:Nat->Bool}{todo:List Nat}(hb:∀i j,r i j->i<n/\j<n)(h:Srch r a inn todo x n):Srch0 r a inn todo:=by
 obtain⟨h1,h2,h3,h4,h5,h6⟩:=h
 refine⟨h1,h2,h3,fun u v hu hn he=>?_⟩
 by_cases hx:u=x
 ·subst hx
  refine h6 v ?_ he
  rcases he with he | he
  ·exact(hb _ _ he).2
  exact(hb _ _ he).1
 exact h5 u v hu hn hx he
theorem Srch0.all{r:Nat->Nat->Prop}{a:Nat}{inn:Nat->Bool}(h:Srch0 r a inn [])(u:Nat):inn u=true↔Conn r a u :=
 ⟨h.2.1 u,fun hu=>hu.closed (S:=fun x=>inn x=true) h.1 fun x y hx he=>h.2.2.2 x y hx (by simp) he⟩
structure b0v(cl:List Nmd)(l:List Cls):Prop where
 own:∀ (i:Nat) (c:Cls),l[i]? =some c->c.kind=1->a0q l c.name=some i
 apart:∀ (s:List UInt8) (i:Nat),a0q l s=some i->a0g cl s=none
theorem b2t{l:List Cls}{s:List UInt8}{i:Nat}{c:Cls}(h:a0q l s=some i)(hc:l[i]? =some c):memb l s=c.list:=by
 unfold memb
 rw[h]
 dsimp only
 rw[hc]
theorem b8u{cl:List Nmd}{l:List Cls}(h:∀ (i:Nat) (c:Cls),l[i]? =some c->err1 cl (l.take i) c=0):b0v cl l:=by
 have key:∀ (i:Nat) (c:Cls),l[i]? =some c->c.kind=1->a0g cl c.name=none/\a0q (l.take i) c.name=none:=by
  intro i c hc hk
  have h0:=h i c hc
  unfold err1 at h0
  rw[if_neg (by omega),if_neg (by omega)]at h0
  by_cases hp:(a0g cl c.name).isSome=true\/(a0q (l.take i) c.name).isSome=true
  ·rw[if_pos hp]at h0;cases h0
  constructor
  ·cases hx:a0g cl c.name with
   | none=>rfl
   | some _=>exact absurd (.inl (by rw[hx];rfl)) hp
  cases hx:a0q (l.take i) c.name with
  | none=>rfl
  | some _=>exact absurd (.inr (by rw[hx];rfl)) hp
 refine⟨fun i c hc hk=>?_,fun s i hi=>?_⟩
 ·cases hx:a0q l c.name with
  | none=>exact absurd rfl (a9x hx i c hc hk)
  | some j =>
   obtain⟨d,hd,hdk,hdn⟩:=a3u hx
   rcases Nat.lt_trichotomy j i with hlt | rfl | hlt
   ·exact absurd hdn (a9x (key i c hc hk).2 j d (by rw[List.getElem?_take,if_pos hlt];exact hd) hdk)
   ·rfl
   exact absurd hdn.symm (a9x (key j d hd hdk).2 i c (by rw[List.getElem?_take,if_pos hlt];exact hc) hk)
 obtain⟨c,hc,hk,rfl⟩:=a3u hi
 exact(key i c hc hk).1
def Led(l:List Cls)(i:Nat)(m:List UInt8)(seen:Nat->Bool):Prop:=a0q l m≠some i/\∀c,a0q l m=some c->seen c=true
theorem Led.more{l:List Cls}{i:Nat}{m:List UInt8}{seen:Nat->Bool}(h:Led l i m seen)(c:Nat):Led l i m (putI seen c):=⟨h.1,fun d hd=>putI_iff.2 (.inl (h.2 d hd))⟩
def Ldr0(l:List Cls)(i:Nat)(s0:List UInt8)(seen:Nat->Bool)(todo:List Nat):Prop :=
 (∀c∈todo,∃m,a0q l m=some c/\(m=s0\/Way (Mem l) s0 m))/\(∀c,seen c=true->∃m,a0q l m=some c/\Way (Mem l) s0 m)/\∀c,(c=i\/seen c=true)->c∉todo->∀x,l[c]? =some x->∀m∈x.list,Led l i m seen
def Ldr(l:List Cls)(i:Nat)(s0:List UInt8)(seen:Nat->Bool)(todo:List Nat)(x k:Nat):Prop :=
 (∀c∈todo,∃m,a0q l m=some c/\(m=s0\/Way (Mem l) s0 m))/\(∀c,seen c=true->∃m,a0q l m=some c/\Way (Mem l) s0 m)/\(∃m,a0q l m=some x/\(m=s0\/Way (Mem l) s0 m)) /\
 (∀c,(c=i\/seen c=true)->c∉todo->c≠x->∀y,l[c]? =some y->∀m∈y.list,Led l i m seen)/\∀y,l[x]? =some y->∀ (q:Nat) m,q<k->y.list[q]? =some m->Led l i m seen
theorem Ldr0.start{l:List Cls}{i:Nat}{s0:List UInt8}(h:a0q l s0=some i):Ldr0 l i s0 (fun _=>false) [i]:=by
 refine⟨fun c hc=>⟨s0,by rw[h,List.mem_singleton.1 hc],.inl rfl⟩,fun c hc=>absurd hc (by simp),fun c hc hn=>?_⟩
 rcases hc with rfl | hc
 ·exact absurd (List.mem_singleton.2 rfl) hn
 cases hc
theorem Ldr0.pop{l:List Cls}{i x:Nat}{s0:List UInt8}{seen:Nat->Bool}{todo:List Nat}(h:Ldr0 l i s0 seen (x::todo)):Ldr l i s0 seen todo x 0:=by
 obtain⟨h1,h2,h3⟩:=h
 refine⟨fun c hc=>h1 c (List.mem_cons_of_mem _ hc),h2,h1 x (List.mem_cons_self ..),fun c hc hn hx=>h3 c hc (fun hm=>?_),fun y _ q m hq=>absurd hq (Nat.not_lt_zero _)⟩
 rcases List.mem_cons.1 hm with rfl | hm
 ·exact hx rfl
 exact hn hm
theorem Ldr.way{l:List Cls}{i x k:Nat}{s0 m:List UInt8}{seen:Nat->Bool}{todo:List Nat}{y:Cls}(h:Ldr l i s0 seen todo x k)(hy:l[x]? =some y)(hm:y.list[k]? =some m):Way (Mem l) s0 m:=by
 obtain⟨n,hn,hw⟩:=h.2.2.1
 have hmm:Mem l n m:=by unfold Mem;rw[b2t hn hy];exact List.mem_of_getElem? hm
 rcases hw with rfl | hw
 ·exact .one hmm
 exact .more hw hmm
theorem Ldr.skip{l:List Cls}{i x k:Nat}{s0 m:List UInt8}{seen:Nat->Bool}{todo:List Nat}{y:Cls}(h:Ldr l i s0 seen todo x k)(hy:l[x]? =some y)(hm:y.list[k]? =some m)(hl:Led l i m seen):Ldr l i s0 seen todo x (k+1):=by
 obtain⟨h1,h2,h3,h4,h5⟩:=h
 refine⟨h1,h2,h3,h4,fun z hz q u hq hu=>?_⟩
 rw[hy]at hz
 obtain rfl:y=z:=Option.some.inj hz
 by_cases hqk:q<k
 ·exact h5 y hy q u hqk hu
 obtain rfl:q=k:=by omega
 rw[hm]at hu
 obtain rfl:m=u:=Option.some.inj hu
 exact hl
theorem Ldr.push{l:List Cls}{i x k c:Nat}{s0 m:List UInt8}{seen:Nat->Bool}{todo:List Nat}{y:Cls}(h:Ldr l i s0 seen todo x k)(hy:l[x]? =some y)(hm:y.list[k]? =some m)(hc:a0q l m=some c)(hci:c≠i):Ldr l i s0 (putI seen c) (todo++[c]) x (k+1):=by
 have hw:=h.way hy hm
 obtain⟨h1,h2,h3,h4,h5⟩:=h
 have hl:Led l i m (putI seen c):=⟨by rw[hc];exact fun e=>hci (Option.some.inj e),fun d hd=>by rw[hc]at hd;exact putI_iff.2 (.inr (Option.some.inj hd).symm)⟩
 refine⟨fun d hd=>?_,fun d hd=>?_,h3,fun d hd hn hx z hz u hu=>?_,fun z hz q u hq hu=>?_⟩
 ·rcases List.mem_append.1 hd with hd | hd
  ·exact h1 d hd
  exact⟨m,by rw[hc,List.mem_singleton.1 hd],.inr hw⟩
 ·rcases putI_iff.1 hd with hd | rfl
  ·exact h2 d hd
  exact⟨m,hc,hw⟩
 ·have hnt:d∉todo:=fun hm=>hn (List.mem_append_left _ hm)
  have hdc:d≠c:=fun e=>hn (List.mem_append_right _ (List.mem_singleton.2 e))
  refine(h4 d ?_ hnt hx z hz u hu).more c
  rcases hd with hd | hd
  ·exact .inl hd
  rcases putI_iff.1 hd with hd | hd
  ·exact .inr hd
  exact absurd hd hdc
 rw[hy]at hz
 obtain rfl:y=z:=Option.some.inj hz
 by_cases hqk:q<k
 ·exact(h5 y hy q u hqk hu).more c
 obtain rfl:q=k:=by omega
 rw[hm]at hu
 obtain rfl:m=u:=Option.some.inj hu
 exact hl
theorem Ldr.done{l:List Cls}{i x:Nat}{s0:List UInt8}{seen:Nat->Bool}{todo:List Nat}{y:Cls}(hy:l[x]? =some y)(h:Ldr l i s0 seen todo x y.list.length):Ldr0 l i s0 seen todo:=by
 obtain⟨h1,h2,h3,h4,h5⟩:=h
 refine⟨h1,h2,fun c hc hn z hz m hm=>?_⟩
 by_cases hcx:c=x
 ·subst hcx
  rw[hy]at hz
  obtain rfl:y=z:=Option.some.inj hz
  obtain⟨q,hq⟩:=List.mem_iff_getElem?.1 hm
  exact h5 y hy q m (List.getElem?_eq_some_iff.1 hq).1 hq
 exact h4 c hc hn hcx z hz m hm
theorem Ldr0.none{l:List Cls}{i:Nat}{s0:List UInt8}{seen:Nat->Bool}(hs:a0q l s0=some i)(h:Ldr0 l i s0 seen []):¬Way (Mem l) s0 s0:=by
 intro hw
 have hstep:∀ (s m:List UInt8) (c:Nat),a0q l s=some c->(c=i\/seen c=true)->Mem l s m->Led l i m seen:=by
  intro s m c hc hv hm
  obtain⟨x,hx,_⟩:=a3u hc
  unfold Mem at hm
  rw[b2t hc hx]at hm
  exact h.2.2 c hv (by simp) x hx m hm
 have:=hw.closed (S:=fun m=>Led l i m seen) (fun x hx=>hstep s0 x i hs (.inl rfl) hx) fun x y hx hxy=>by
  cases hc:a0q l x with
  | none=>unfold Mem memb at hxy;rw[hc]at hxy;cases hxy
  | some c=>exact hstep x y c hc (.inr (hx.2 c hc)) hxy
 exact this.1 hs
def Fnd(cl:List Nmd)(l:List Cls)(m:List UInt8)(out seen:Nat->Bool):Prop:=(∀k,a0g cl m=some k->out k=true)/\(a0g cl m=none->∀c,a0q l m=some c->seen c=true)
theorem Fnd.more{cl:List Nmd}{l:List Cls}{m:List UInt8}{out out' seen seen':Nat->Bool}(h:Fnd cl l m out seen)(ho:∀k,out k=true->out' k=true)(hs:∀k,seen k=true->seen' k=true):Fnd cl l m out' seen' :=
 ⟨fun k hk=>ho k (h.1 k hk),fun hn c hc=>hs c (h.2 hn c hc)⟩
def DenQ(cl:List Nmd)(l:List Cls)(s:List UInt8)(out seen:Nat->Bool)(todo:List (List UInt8)):Prop :=
 (∀k,out k=true->Den cl l s k)/\(∀m∈todo,m=s\/(a0g cl s=none/\Way (Mem l) s m))/\(s∈todo\/Fnd cl l s out seen)/\∀c,seen c=true->∀x,l[c]? =some x->∀m∈x.list,m∈todo\/Fnd cl l m out seen
theorem DenQ.start(cl:List Nmd)(l:List Cls)(s:List UInt8):DenQ cl l s (fun _=>false) (fun _=>false) [s] :=
 ⟨fun _ hk=>absurd hk (by simp),fun m hm=>.inl (List.mem_singleton.1 hm),.inl (List.mem_singleton.2 rfl),fun _ hc=>absurd hc (by simp)⟩
theorem b8h{cl:List Nmd}{l:List Cls}{m x:List UInt8}{out out' seen seen':Nat->Bool}{todo more:List (List UInt8)}(h:x∈m::todo\/Fnd cl l x out seen)(hm:Fnd cl l m out' seen')(ho:∀k,out k=true->out' k=true)(hs:∀k,seen k=true->seen' k=true) :
  x∈todo++more\/Fnd cl l x out' seen':=by
 rcases h with h | h
 ·rcases List.mem_cons.1 h with rfl | h
  ·exact .inr hm
  exact .inl (List.mem_append_left _ h)
 exact .inr (h.more ho hs)
theorem DenQ.claim{cl:List Nmd}{l:List Cls}{s m:List UInt8}{out seen:Nat->Bool}{todo:List (List UInt8)}{k:Nat}(h:DenQ cl l s out seen (m::todo))(hk:a0g cl m=some k):DenQ cl l s (putI out k) seen todo:=by
 obtain⟨h1,h2,h3,h4⟩:=h
 have ho:∀j,out j=true->putI out k j=true:=fun j hj=>putI_iff.2 (.inl hj)
 have hf:Fnd cl l m (putI out k) seen:=⟨fun j hj=>by rw[hk]at hj;exact putI_iff.2 (.inr (Option.some.inj hj).symm),fun hn=>by rw[hk]at hn;cases hn⟩
 refine⟨fun j hj=>?_,fun x hx=>h2 x (List.mem_cons_of_mem _ hx),?_,fun c hc x hx u hu=>?_⟩
 ·rcases putI_iff.1 hj with hj | rfl
  ·exact h1 j hj
  rcases h2 m (List.mem_cons_self ..)with rfl | ⟨hn,hw⟩
  ·exact .inl hk
  exact .inr ⟨hn,m,hw,hk⟩
 ·simpa using b8h (more:=[]) h3 hf ho fun _ h=>h
 simpa using b8h (more:=[]) (h4 c hc x hx u hu) hf ho fun _ h=>h
theorem DenQ.skip{cl:List Nmd}{l:List Cls}{s m:List UInt8}{out seen:Nat->Bool}{todo:List (List UInt8)}(h:DenQ cl l s out seen (m::todo))(hk:a0g cl m=none)(hc:∀c,a0q l m=some c->seen c=true):DenQ cl l s out seen todo:=by
 obtain⟨h1,h2,h3,h4⟩:=h
 have hf:Fnd cl l m out seen:=⟨fun j hj=>(by rw[hk]at hj;cases hj),fun _=>hc⟩
 refine⟨h1,fun x hx=>h2 x (List.mem_cons_of_mem _ hx),?_,fun c hc x hx u hu=>?_⟩
 ·simpa using b8h (more:=[]) h3 hf (fun _ h=>h) fun _ h=>h
 simpa using b8h (more:=[]) (h4 c hc x hx u hu) hf (fun _ h=>h) fun _ h=>h
theorem DenQ.open_{cl:List Nmd}{l:List Cls}{s m:List UInt8}{out seen:Nat->Bool}{todo:List (List UInt8)}{c:Nat}{y:Cls}(h:DenQ cl l s out seen (m::todo))(hk:a0g cl m=none)(hc:a0q l m=some c)(hy:l[c]? =some y):DenQ cl l s out (putI seen c) (todo++y.list):=by
 obtain⟨h1,h2,h3,h4⟩:=h
 have hs:∀j,seen j=true->putI seen c j=true:=fun j hj=>putI_iff.2 (.inl hj)
 have hf:Fnd cl l m out (putI seen c):=⟨fun j hj=>(by rw[hk]at hj;cases hj),fun _ d hd=>by rw[hc]at hd;exact putI_iff.2 (.inr (Option.some.inj hd).symm)⟩
 refine⟨h1,fun x hx=>?_,b8h h3 hf (fun _ h=>h) hs,fun d hd x hx u hu=>?_⟩
 ·rcases List.mem_append.1 hx with hx | hx
  ·exact h2 x (List.mem_cons_of_mem _ hx)
  have hmm:Mem l m x:=by unfold Mem;rw[b2t hc hy];exact hx
  right
  rcases h2 m (List.mem_cons_self ..)with rfl | ⟨hn,hw⟩
  ·exact⟨hk,.one hmm⟩
  exact⟨hn,.more hw hmm⟩
 rcases putI_iff.1 hd with hd | rfl
 ·exact b8h (h4 d hd x hx u hu) hf (fun _ h=>h) hs
 rw[hy]at hx
 obtain rfl:y=x:=Option.some.inj hx
 exact .inl (List.mem_append_right _ hu)
theorem DenQ.all{cl:List Nmd}{l:List Cls}{s:List UInt8}{out seen:Nat->Bool}(hC:b0v cl l)(h:DenQ cl l s out seen [])(k:Nat):out k=true↔Den cl l s k:=by
 refine⟨h.1 k,fun hd=>?_⟩
 have hs:Fnd cl l s out seen:=by
  rcases h.2.2.1 with h0 | h0
  ·cases h0
  exact h0
 rcases hd with hd | ⟨_,m,hw,hm⟩
 ·exact hs.1 k hd
 have hstep:∀x y,Fnd cl l x out seen->Mem l x y->Fnd cl l y out seen:=by
  intro x y hx hxy
  cases hc:a0q l x with
  | none=>unfold Mem memb at hxy;rw[hc]at hxy;cases hxy
  | some c =>
   obtain⟨z,hz,_⟩:=a3u hc
   unfold Mem at hxy
   rw[b2t hc hz]at hxy
   rcases h.2.2.2 c (hx.2 (hC.apart x c hc) c hc) z hz y hxy with h0 | h0
   ·cases h0
   exact h0
 exact(hw.closed (S:=fun x=>Fnd cl l x out seen) (fun x hx=>hstep s x hs hx) fun x y hx hxy=>hstep x y hx hxy).1 k hm
def Cmp(r:Nat->Nat->Prop)(n:Nat)(c:Nat->Int):Prop:=∀i,i<n->((¬ ∃j,r i j\/r j i)->c i = -1)/\((∃j,r i j\/r j i)->∃m:Nat,c i=m/\m<=i/\Conn r i m)
theorem Cmp.start{r:Nat->Nat->Prop}{n:Nat}{c:Nat->Int}(h:∀i,i<n->((∃j,r i j\/r j i)->c i=i)/\((¬ ∃j,r i j\/r j i)->c i = -1)):Cmp r n c:=fun i hi =>
 ⟨(h i hi).2,fun he=>⟨i,(h i hi).1 he,Nat.le_refl _,.refl _⟩⟩
theorem Cmp.lower{r:Nat->Nat->Prop}{n:Nat}{c:Nat->Int}(h:Cmp r n c){i j:Nat}(hj:j<n)(he:r i j\/r j i)(hlt:c j<c i):Cmp r n (fun x=>if x=i then c j else c x):=by
 intro x hx
 dsimp only
 by_cases hxi:x=i
 ·subst hxi
  rw[if_pos rfl]
  refine⟨fun hn=>absurd ⟨j,he⟩ hn,fun _=>?_⟩
  obtain⟨m,h1,h2,h3⟩:=(h j hj).2 ⟨x,he.symm⟩
  obtain⟨m',g1,g2,_⟩:=(h x hx).2 ⟨j,he⟩
  exact⟨m,h1,by omega,(Conn.step (.refl _) he).trans h3⟩
 rw[if_neg hxi]
 exact h x hx
def Trs(lev:Nat->Nat)(cn:Nat->Nat->Bool)(part:Nat->Prt)(k j:Nat)(T:List (List Prt)):Prop :=
 (∀t x,T[t]? =some x->x=((List.range j).filter fun i=>cn k i&&decide (lev i=t)).map part)/\(∀i,i<j->cn k i=true->lev i<T.length)/\∀t,t<T.length->∃i,i<j/\cn k i=true/\t<=lev i
theorem a0v(p:Nat->Bool)(j:Nat):(List.range (j+1)).filter p=(List.range j).filter p++if p j=true then[j]else[]:=by
 rw[List.range_succ,List.filter_append]
 congr 1
 rw[List.filter_cons]
 split<;>rfl
theorem Trs.start(lev:Nat->Nat)(cn:Nat->Nat->Bool)(part:Nat->Prt)(k:Nat):Trs lev cn part k 0 []:=⟨fun t x h=>by simp at h,fun i h=>absurd h (Nat.not_lt_zero _),fun t h=>absurd h (Nat.not_lt_zero _)⟩
theorem Trs.skip{lev:Nat->Nat}{cn:Nat->Nat->Bool}{part:Nat->Prt}{k j:Nat}{T:List (List Prt)}(h:Trs lev cn part k j T)(hj:cn k j=false):Trs lev cn part k (j+1) T:=by
 refine⟨fun t x hx=>?_,fun i hi hc=>?_,fun t ht=>?_⟩
 ·rw[h.1 t x hx,a0v,hj];simp
 ·by_cases hij:i<j
  ·exact h.2.1 i hij hc
  obtain rfl:i=j:=by omega
  rw[hj]at hc;cases hc
 obtain⟨i,h1,h2⟩:=h.2.2 t ht
 exact⟨i,by omega,h2⟩
theorem Trs.add{lev:Nat->Nat}{cn:Nat->Nat->Bool}{part:Nat->Prt}{k j:Nat}{T:List (List Prt)}{m:Nat}{x:List Prt}(h:Trs lev cn part k j T)(hj:cn k j=true)
  (hm:T.length+m=max T.length (lev j+1)) (hx:(T++List.replicate m [])[lev j]? =some x):Trs lev cn part k (j+1) ((T++List.replicate m []).set (lev j) (x++[part j])):=by
 have hget:∀t y,(T++List.replicate m [])[t]? =some y->y=((List.range j).filter fun i=>cn k i&&decide (lev i=t)).map part:=by
  intro t y hy
  rw[List.getElem?_append]at hy
  split at hy
  ·exact h.1 t y hy
  rename_i ht
  rw[List.getElem?_replicate]at hy
  split at hy
  ·obtain rfl:[]=y:=Option.some.inj hy
   rw[List.filter_eq_nil_iff.2,List.map_nil]
   intro i hi
   rw[Bool.and_eq_true,decide_eq_true_eq]
   rintro⟨h1,h2⟩
   have:=h.2.1 i (List.mem_range.1 hi) h1
   omega
  cases hy
 refine⟨fun t y hy=>?_,fun i hi hc=>?_,fun t ht=>?_⟩
 ·rw[List.getElem?_set]at hy
  rw[a0v]
  split at hy
  ·rename_i e
   subst e
   split at hy
   ·obtain rfl:_=y:=Option.some.inj hy
    rw[hget _ _ hx,hj]
    simp
   cases hy
  rename_i e
  have:(cn k j&&decide (lev j=t))=false:=by rw[decide_eq_false e,Bool.and_false]
  rw[this,hget t y hy];simp
 ·rw[List.length_set,List.length_append,List.length_replicate]
  by_cases hij:i<j
  ·have:=h.2.1 i hij hc
   omega
  obtain rfl:i=j:=by omega
  omega
 rw[List.length_set,List.length_append,List.length_replicate]at ht
 by_cases htl:t<T.length
 ·obtain⟨i,h1,h2⟩:=h.2.2 t htl
  exact⟨i,by omega,h2⟩
 exact⟨j,by omega,hj,by omega⟩
theorem Trs.done{r:Nat->Nat->Prop}{n:Nat}{lev:Nat->Nat}{cn:Nat->Nat->Bool}{part:Nat->Prt}{k:Nat}{T:List (List Prt)}(hb:∀i j,r i j->i<n/\j<n)(hcn:∀a b,cn a b=true↔Conn r a b)(hl:Lv r n lev)(hn:∀j,j<n->lev j<n)(h:Trs lev cn part k n T) :
  T=b0c n lev cn part k:=by
 have hdown:∀ (d i:Nat),i<n->cn k i=true->d<=lev i->∃i',i'<n/\cn k i'=true/\lev i'=lev i-d:=by
  intro d
  induction d with
  | zero=>exact fun i hi hc _=>⟨i,hi,hc,rfl⟩
  | succ d ih =>
   intro i hi hc hd
   obtain⟨i',h1,h2,h3⟩:=ih i hi hc (by omega)
   rcases hl.2 i' h1 with h0 | ⟨u,h4,h5⟩
   ·omega
   exact⟨u,(hb _ _ h4).1,(hcn k u).2 (((hcn k i').1 h2).step (.inr h4)),by omega⟩
 have hT:T=(List.range T.length).map (a4r n lev cn part k):=by
  refine List.ext_getElem? fun t=>?_
  by_cases ht:t<T.length
  ·have h1:(List.range T.length)[t]? =some t:=by simp[ht]
   rw[List.getElem?_map,h1,List.getElem?_eq_getElem ht,h.1 t _ (List.getElem?_eq_getElem ht)]
   rfl
  rw[List.getElem?_eq_none (by omega),List.getElem?_eq_none (by simp;omega)]
 have hTn:T.length<=n:=by
  rcases Nat.eq_zero_or_pos T.length with h0 | h0
  ·omega
  obtain⟨i,h1,_,h3⟩:=h.2.2 (T.length-1) (by omega)
  have:=hn i h1
  omega
 have hfull:∀t,t<T.length->(a4r n lev cn part k t).isEmpty=false:=by
  intro t ht
  obtain⟨i,h1,h2,h3⟩:=h.2.2 t ht
  obtain⟨i',g1,g2,g3⟩:=hdown (lev i-t) i h1 h2 (by omega)
  have:part i'∈a4r n lev cn part k t:=by
   unfold a4r
   refine List.mem_map.2 ⟨i',List.mem_filter.2 ⟨List.mem_range.2 g1,?_⟩,rfl⟩
   rw[g2,decide_eq_true (show lev i'=t by omega)];rfl
  cases hk:a4r n lev cn part k t with
  | nil=>rw[hk]at this;cases this
  | cons _ _=>rfl
 have hempty:∀t,T.length<=t->(a4r n lev cn part k t).isEmpty=true:=by
  intro t ht
  unfold a4r
  rw[List.filter_eq_nil_iff.2]
  ·rfl
  intro i hi
  rw[Bool.and_eq_true,decide_eq_true_eq]
  rintro⟨h1,h2⟩
  have:=h.2.1 i (List.mem_range.1 hi) h1
  omega
 unfold b0c
 obtain⟨d,hd⟩:∃d,n=T.length+d:=⟨n-T.length,by omega⟩
 have hr:List.range n=List.range T.length++(List.range d).map (T.length + ·):=by rw[hd,List.range_add]
 rw[hr,List.map_append,List.filter_append]
 have h1:((List.range T.length).map (a4r n lev cn part k)).filter (fun t=>!t.isEmpty)=(List.range T.length).map (a4r n lev cn part k):=by
  refine List.filter_eq_self.2 fun x hx=>?_
  obtain⟨t,ht,rfl⟩:=List.mem_map.1 hx
  rw[hfull t (List.mem_range.1 ht)];rfl
 have h2:(((List.range d).map (T.length + ·)).map (a4r n lev cn part k)).filter (fun t=>!t.isEmpty)=[]:=by
  refine List.filter_eq_nil_iff.2 fun x hx=>?_
  obtain⟨t,ht,rfl⟩:=List.mem_map.1 hx
  obtain⟨u,_,rfl⟩:=List.mem_map.1 ht
  rw[hempty _ (Nat.le_add_right ..)]
  decide
 rw[h1,h2,List.append_nil,<-hT]
end Go.Proofs.YtjmiicjialkpiaaGreatDoor
