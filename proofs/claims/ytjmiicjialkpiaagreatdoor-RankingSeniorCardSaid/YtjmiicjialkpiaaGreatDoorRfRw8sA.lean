/-
RankingSenior: its row,lifted.
-/
import Derived.Test.YtjmiicjialkpiaaGreatDoorRf48
namespace Go.Proofs.YtjmiicjialkpiaaGreatDoor
open Go.ChangeShapes Go.WideShapes Go.ChangeAt Go.ChangeMaps Go.RowKit

set_option maxRecDepth 100000 in
theorem rankingSenior_lifted(os:Os)(started:os.Started)(H:Type)(enc:TypeId×Value->H) :
    ReturnsInHanded {} Tryz.checked os 3 .any (fun w args=>(Rows.rankingSeniorSpec.pre enc Tryz.prog Tryz.f3 [] false w args/\laidMetH Tryz.prog c4y w)/\sizedMet enc Tryz.prog Tryz.f3 (OpenSpec.ofChange Rows.rankingSeniorSpec) false w args)
      (Rows.rankingSeniorSpec.post enc Tryz.prog Tryz.f3 false true false false):=by
  refine returnsInHanded_of_change_and (C:=Tryz.checked) (X:=fun w _=>laidMetH Tryz.prog c4y w) (fun _ _ _ hh h=>h.of_heap hh) own_knob started (by kernel_rfl) Tryz.func3
    (ChangeSpec.witness_shaped (enc:=enc) (C:=Tryz.checked) (os:=os) (X:=fun w _=>laidMetH Tryz.prog c4y w) false (World.laidAll Tryz.prog os c4y) #[.slice none 0 0,.slice none 0 0,.int .u16 0] 8 (World.laidAll_os _ _ _)
      (c4x os _) (by kernel_rfl) (by kernel_rfl) (by kernel_rfl) (laid_met os _)) ?_
  intro W base args ds gs before hval0 hW _ _ hL _
  have hval:∀ (j:Nat) t v,Tryz.f3.params[j]? =some t->args[j]? =some v->Value.okWide Tryz.prog W .any base t v:=hval0
  have hW':=hW
  obtain⟨p,q,hA0,hV,rfl,_,_⟩:=hW
  have hA:DataW.TrodAll enc Tryz.prog W 0 (fun _=>true) true Tryz.f3.params.toList args.toList ds p:=hA0
  rw[Tryz.params3]at hA hval
  have hkeep:=hA
  obtain⟨rfl,rfl⟩:=trodVars_none hV
  simp only[List.append_nil]at hW'
  have hlt:∀x∈p,x.block<W.heap.size:=fun x hx=>by simpa using hW'.lt x hx
  obtain⟨v0,vs0,d0,ds0,p0,q0,hargs0,rfl,rfl,h0,hA0'⟩:=trodAll_cons hA
  obtain⟨v1,vs1,d1,ds1,p1,q1,hargs1,rfl,rfl,h1,hA1'⟩:=trodAll_cons hA0'
  obtain⟨v2,vs2,d2,ds2,p2,q2,hargs2,rfl,rfl,h2,hA2'⟩:=trodAll_cons hA1'
  obtain⟨e1,rfl,rfl⟩:=trodAll_nil hA2'
  subst e1
  subst hargs2
  subst hargs1
  have hargs':args=#[v0,v1,v2]:=Array.toList_inj.1 hargs0
  subst hargs'
  have hh0:=h0
  obtain⟨fuel0,g0⟩:=hh0
  obtain⟨x0,qs0,hv0,hq0,hday0⟩:=c6r (⟨0,0⟩:Duo) Duo.ok Tryz.underlying22 (by decide) b8x duo_len (fun n cs' y h=>dec_arr2 h) g0
  obtain⟨a0,len0,cap0,rfl⟩:=okWide_slice Tryz.underlying22 (hval 0 _ v0 rfl rfl)
  have hx0:x0=.slice a0 len0 cap0:=by
    have:[Value.slice a0 len0 cap0]=[x0]:=hv0
    injection this with this
    exact this.symm
  subst hx0
  have hh1:=h1
  obtain⟨fuel1,g1⟩:=hh1
  obtain⟨x1,qs1,hv1,hq1,hday1⟩:=c6r (⟨0,0,0,0⟩:Qua) Qua.ok Tryz.underlying23 (by decide) b8w qua_len (fun n cs' y h=>dec_arr4 h) g1
  obtain⟨a1,len1,cap1,rfl⟩:=okWide_slice Tryz.underlying23 (hval 1 _ v1 rfl rfl)
  have hx1:x1=.slice a1 len1 cap1:=by
    have:[Value.slice a1 len1 cap1]=[x1]:=hv1
    injection this with this
    exact this.symm
  subst hx1
  obtain⟨n2,rfl,rfl,_,wf2⟩:=open_int Tryz.underlying24 (hval 2 _ v2 rfl rfl) h2
  refine(b2x _ qs0 _ qs1 n2 W hq0 hday0 hq1 hday1 (a5v wf2)).mono fun e W' ⟨he,hb⟩=>?_
  subst he
  exact⟨_,rfl,_,_,_,[],_,[],hW',trodAll_mk1 (shut_bool Tryz.underlying4 _),
    b0x laidOut hb hkeep (fun t ht=>by
      have hall:([22,23,24].all fun u=>Tryz.prog.readableRec u&&decide (u<Tryz.prog.types.size))=true:=by kernel_rfl
      have:=List.all_eq_true.1 hall t ht
      rw[Bool.and_eq_true,decide_eq_true_eq]at this
      exact this) hlt,rfl,hb.frame _,fun h=>by cases h⟩

end Go.Proofs.YtjmiicjialkpiaaGreatDoor
