/-
Part 17 of the base.
-/
import Derived.Test.YtjmiicjialkpiaaGreatDoorRf14
import Derived.Deep.DeepCutAuto
import Derived.Test.YtjmiicjialkpiaaGreatDoorRf12
set_option maxRecDepth 100000
set_option maxHeartbeats 1000000
namespace Go.Proofs.YtjmiicjialkpiaaGreatDoor
open Go.RowKit
def letN(b:Nat):Bool:=(decide (97<=b)&&decide (b<=122))||(decide (65<=b)&&decide (b<=90))
def digN(b:Nat):Bool:=decide (48<=b)&&decide (b<=57)
def nameN(b:Nat):Bool:=letN b||(digN b||(decide (b=45)||decide (b=95)))
theorem letN_of(c:UInt8):b2w c=letN c.toNat:=rfl
theorem nameN_of(c:UInt8):a3y c=nameN c.toNat:=rfl
theorem b0e(b:Nat)(w:World):Calls Tryz.prog 108 #[.int .u8 (b:Nat)] w fun e w'=>e=.returned (.bool (letN b))/\w=w':=by
 unfold letN
 obtain⟨x,hx⟩:∃y,y=decide (97<=b):=⟨_,rfl⟩
 obtain⟨y,hy⟩:∃y,y=decide (b<=122):=⟨_,rfl⟩
 obtain⟨z,hz⟩:∃y,y=decide (65<=b):=⟨_,rfl⟩
 obtain⟨u,hu⟩:∃y,y=decide (b<=90):=⟨_,rfl⟩
 rw[<- hx,<-hy,<-hz,<-hu]
 have x1:decide ((97:Int)<=(b:Int))=x:=by rw[hx];exact decide_eq_decide.2 (by omega)
 have x2:decide (97<=b)=x:=hx.symm
 have y1:decide ((b:Int)<=122)=y:=by rw[hy];exact decide_eq_decide.2 (by omega)
 have y2:decide (b<=122)=y:=hy.symm
 have z1:decide ((65:Int)<=(b:Int))=z:=by rw[hz];exact decide_eq_decide.2 (by omega)
 have z2:decide (65<=b)=z:=hz.symm
 have u1:decide ((b:Int)<=90)=u:=by rw[hu];exact decide_eq_decide.2 (by omega)
 have u2:decide (b<=90)=u:=hu.symm
 clear hx hy hz hu
 cases x<;>cases y<;>cases z<;>cases u
 all_goals
  go_enter Tryz.func108,Tryz.ntmps108
  go_wp2
  go_ret
  exact⟨rfl,rfl⟩
theorem c0a(b:Nat)(w:World):Calls Tryz.prog 109 #[.int .u8 (b:Nat)] w fun e w'=>e=.returned (.bool (digN b))/\w=w':=by
 unfold digN
 obtain⟨x,hx⟩:∃y,y=decide (48<=b):=⟨_,rfl⟩
 obtain⟨y,hy⟩:∃y,y=decide (b<=57):=⟨_,rfl⟩
 rw[<- hx,<-hy]
 have x1:decide ((48:Int)<=(b:Int))=x:=by rw[hx];exact decide_eq_decide.2 (by omega)
 have x2:decide (48<=b)=x:=hx.symm
 have y1:decide ((b:Int)<=57)=y:=by rw[hy];exact decide_eq_decide.2 (by omega)
 have y2:decide (b<=57)=y:=hy.symm
 clear hx hy
 cases x<;>cases y
 all_goals
  go_enter Tryz.func109,Tryz.ntmps109
  go_wp2
  go_ret
  exact⟨rfl,rfl⟩
theorem nm_at{l:List UInt8}{i:Nat}(hi:i<l.length):l[i]? =some (l.getD i 0):=by rw[List.getD_eq_getElem?_getD,List.getElem?_eq_getElem hi];rfl
theorem nm_step{l:List UInt8}{i:Nat}(hi:i<l.length):(l.take (i+1)).all a3y=((l.take i).all a3y&&a3y (l.getD i 0)):=take_all (nm_at hi)
theorem nm_false{l:List UInt8}{i:Nat}(hi:i<l.length)(h:a3y (l.getD i 0)=false):b2r l=false:=by
 unfold b2r
 have:l.all a3y=false:=by
  rw[List.all_eq_false]
  exact⟨l.getD i 0,List.mem_of_getElem? (nm_at hi),by rw[h];decide⟩
 rw[this];simp
theorem nm_head{l:List UInt8}(h:b2w (l.getD 0 0)=false):b2r l=false:=by unfold b2r;rw[h];simp
theorem nm_empty{l:List UInt8}(h:l.length=0):b2r l=false:=by unfold b2r;rw[h];rfl
theorem nm_long{l:List UInt8}(h:32<l.length):b2r l=false:=by unfold b2r;rw[decide_eq_false (show ¬l.length<=32 by omega)];simp
theorem nm_true{l:List UInt8}(h1:1<=l.length)(h2:l.length<=32)(h3:b2w (l.getD 0 0)=true)(h4:(l.take l.length).all a3y=true):b2r l=true:=by
 rw[List.take_length]at h4
 unfold b2r;rw[decide_eq_true h1,decide_eq_true h2,h3,h4];rfl
theorem c2m(l:List UInt8)(w:World)(_:l.length<=9223372036854775807) :
   Calls Tryz.prog 72 #[.string (bs l)] w fun e w'=>e=.returned (.bool (b2r l))/\w=w':=by
 have hsz:(bs l).size=l.length:=a2u l
 by_cases h0:l=[]
 have f0:=a2j h0
 have f1:decide (((bs l).size:Int)<1)=true:=decide_eq_true (by rw[hsz,h0];decide)
 have f2:decide ((bs l).size<1)=true:=decide_eq_true (by rw[hsz,h0];decide)
 have R:=zh (nm_empty (show l.length=0 by rw[h0];rfl))
 clear h0 hsz
 rotate_left
 have f0:=a0r h0
 have hpos:0<l.length:=List.length_pos_iff.2 h0
 have f1:decide (((bs l).size:Int)<1)=false:=decide_eq_false (by rw[hsz];omega)
 have f2:decide ((bs l).size<1)=false:=decide_eq_false (by rw[hsz];omega)
 by_cases h1:32<l.length
 have d1:decide ((32:Int)<((bs l).size:Int))=true:=decide_eq_true (by rw[hsz];omega)
 have d2:decide (32<(bs l).size)=true:=decide_eq_true (by rw[hsz];omega)
 have R:=zh (nm_long h1)
 clear h0 hsz h1 hpos
 rotate_left
 have d1:decide ((32:Int)<((bs l).size:Int))=false:=decide_eq_false (by rw[hsz];omega)
 have d2:decide (32<(bs l).size)=false:=decide_eq_false (by rw[hsz];omega)
 obtain⟨b0,hb0,hi0⟩:=a8f 9 Tryz.underlying9 (bs l) 0 0 rfl (by rw[hsz];exact hpos)
 have hL0:b2w (l.getD 0 0)=letN b0:=by rw[letN_of,hb0,a3w]
 have c0:=fun W=>b0e b0 W
 obtain⟨x,hx⟩:∃x,x=letN b0:=⟨_,rfl⟩
 rw[<- hx]at c0 hL0
 have C0:=zh c0
 have HSZ:=zh hsz
 clear h0 c0 hx hb0 hsz
 cases x
 have R:=zh (nm_head hL0)
 clear hL0
 rotate_left
 have HL0:=zh hL0
 have H1:=zh h1
 have HP:=zh hpos
 clear hL0 h1 hpos
 rotate_left
 all_goals
   go_enter Tryz.func72,Tryz.ntmps72
 ·go_wp2
  go_ret
  rw[R.out]
  exact⟨rfl,rfl⟩
 ·go_wp2
  go_ret
  rw[R.out]
  exact⟨rfl,rfl⟩
 all_goals
   go_wp2_with fail
   refine(C0.out _).mono ?_
   rintro e w' ⟨rfl,rfl⟩
   go_wp2
 ·go_ret
  rw[R.out]
  exact⟨rfl,rfl⟩
 go_loop [19] (fun i=>∃k:Nat,k<=l.length/\i=.int .i64 k/\Hid ((l.take k).all a3y=true)) (fun i=>l.length-(intOf i).toNat)
 case atStart=>exact⟨0,Nat.zero_le _,rfl,rfl⟩
 case round =>
   clear f0 f1 f2 d1 d2 hi0 C0
   obtain⟨k,hk,rfl,ha⟩:=hrel
   by_cases hlt:k<l.length
   ·have e1:decide (((k:Nat):Int)<((bs l).size:Int))=true:=decide_eq_true (by rw[HSZ.out];omega)
    have e2:decide (k<(bs l).size)=true:=decide_eq_true (by rw[HSZ.out];omega)
    obtain⟨b,hbs,hidx⟩:=a8f 9 Tryz.underlying9 (bs l) (k:Int) k rfl (by rw[HSZ.out];exact hlt)
    have hN:a3y (l.getD k 0)=nameN b:=by rw[nameN_of,hbs,a3w]
    unfold nameN at hN
    have c1:=fun W=>b0e b W
    have c2:=fun W=>c0a b W
    have hst:=nm_step hlt
    have hfl:=nm_false hlt
    obtain⟨x,hx⟩:∃x,x=letN b:=⟨_,rfl⟩
    obtain⟨y,hy⟩:∃y,y=digN b:=⟨_,rfl⟩
    obtain⟨z,hz⟩:∃z,z=decide (b=45):=⟨_,rfl⟩
    obtain⟨u,hu⟩:∃u,u=decide (b=95):=⟨_,rfl⟩
    rw[<- hx]at hN c1
    rw[<- hy]at hN c2
    rw[<- hz,<-hu]at hN
    have z1:((b:Int)==45)=z:=by rw[hz,Bool.eq_iff_iff];simp;omega
    have z2:((b:Int) != 45)=!z:=by rw[bne,z1]
    have u1:((b:Int)==95)=u:=by rw[hu,Bool.eq_iff_iff];simp;omega
    have u2:((b:Int) != 95)=!u:=by rw[bne,u1]
    have C1:=zh c1
    have C2:=zh c2
    have HN:=zh hN
    have HST:=zh hst
    have HFL:=zh hfl
    clear c1 c2 hN hst hfl hx hy hz hu hbs
    cases x
    ·cases y
     ·cases z
      ·cases u
       ·go_wp2_with fail
        refine(C1.out _).mono ?_
        rintro e w' ⟨rfl,rfl⟩
        go_wp2_with fail
        refine(C2.out _).mono ?_
        rintro e w' ⟨rfl,rfl⟩
        go_wp2
        go_ret
        rw[HFL.out HN.out]
        exact⟨rfl,rfl⟩
       go_wp2_with fail
       refine(C1.out _).mono ?_
       rintro e w' ⟨rfl,rfl⟩
       go_wp2_with fail
       refine(C2.out _).mono ?_
       rintro e w' ⟨rfl,rfl⟩
       go_wp2
       go_round
       case rel=>exact⟨k+1,by omega,by go_num,by show _=_;rw[HST.out,HN.out,ha.out];simp⟩
       case measure=>simp[intOf];omega
      go_wp2_with fail
      refine(C1.out _).mono ?_
      rintro e w' ⟨rfl,rfl⟩
      go_wp2_with fail
      refine(C2.out _).mono ?_
      rintro e w' ⟨rfl,rfl⟩
      go_wp2
      go_round
      case rel=>exact⟨k+1,by omega,by go_num,by show _=_;rw[HST.out,HN.out,ha.out];simp⟩
      case measure=>simp[intOf];omega
     go_wp2_with fail
     refine(C1.out _).mono ?_
     rintro e w' ⟨rfl,rfl⟩
     go_wp2_with fail
     refine(C2.out _).mono ?_
     rintro e w' ⟨rfl,rfl⟩
     go_wp2
     go_round
     case rel=>exact⟨k+1,by omega,by go_num,by show _=_;rw[HST.out,HN.out,ha.out];simp⟩
     case measure=>simp[intOf];omega
    go_wp2_with fail
    refine(C1.out _).mono ?_
    rintro e w' ⟨rfl,rfl⟩
    go_wp2
    go_round
    case rel=>exact⟨k+1,by omega,by go_num,by show _=_;rw[HST.out,HN.out,ha.out];simp⟩
    case measure=>simp[intOf];omega
   obtain rfl:k=l.length:=by omega
   have e1:decide (((l.length:Nat):Int)<((bs l).size:Int))=false:=decide_eq_false (by rw[HSZ.out];omega)
   have e2:decide (l.length<(bs l).size)=false:=decide_eq_false (by rw[HSZ.out];omega)
   have R:=zh (nm_true (by have:=HP.out;omega) (by have:=H1.out;omega) HL0.out ha.out)
   go_wp2
   go_ret
   rw[R.out]
   exact⟨rfl,rfl⟩
def strE(s:List UInt8):List Value:=[.string (bs s)]
theorem a3h(s:List UInt8):(strE s).length=1:=rfl
abbrev b0b(w:World)(v:Value)(l:List (List UInt8)):Prop:=Slc strE 1 w v l
theorem c4n(c:Nmd):c.enc.length=5:=rfl
abbrev NmdL(w:World)(v:Value)(l:List Nmd):Prop:=Slc Nmd.enc 5 w v l
theorem prt_len(p:Prt):p.enc.length=5:=rfl
structure CRow where
 c:Cls
 v:Value
def CRow.enc(r:CRow):List Value:=[.int .i64 r.c.kind,.string (bs r.c.name),.string (bs r.c.other),r.v,.bool r.c.am.n,.string (bs r.c.am.a),.string (bs r.c.am.b),.int .i64 r.c.at_]
theorem a7w(r:CRow):r.enc.length=8:=rfl
def ClsL(w:World)(v:Value)(l:List Cls):Prop:=∃rs:List CRow,Slc CRow.enc 8 w v rs/\rs.map (·.c)=l/\∀r,r∈rs->b0b w r.v r.c.list
theorem ClsL.below{w w':World}{v:Value}{l:List Cls}(h:ClsL w v l)(hb:Below w.heap.size w w'):ClsL w' v l:=by
 obtain⟨rs,h1,h2,h3⟩:=h
 exact⟨rs,h1.below hb,h2,fun r hr=>(h3 r hr).below hb⟩
theorem ClsL.slice{w:World}{v:Value}{l:List Cls}(h:ClsL w v l):∃A c,v=.slice A l.length c/\l.length<=c/\c<=9223372036854775807:=by
 obtain⟨rs,h1,rfl,_⟩:=h
 rw[List.length_map]
 exact h1.slice
theorem ClsL.at_{w:World}{A:Option Addr}{n c:Nat}{l:List Cls}(h:ClsL w (.slice A n c) l){j:Nat}(hj:j<l.length) :
  ∃b o x v,A=some ⟨b,o,none⟩/\b<w.heap.size/\l[j]? =some x/\b0b w v x.list/\∀w',Below w.heap.size w w'->∀i u,((CRow.mk x v).enc)[i]? =some u->w'.cell? ⟨b,o+j*8+i,none⟩=some u:=by
 obtain⟨rs,h1,rfl,h3⟩:=h
 rw[List.length_map]at hj
 obtain⟨b,o,r,hA,hb,hr,hx⟩:=h1.at_ hj
 exact⟨b,o,r.c,r.v,hA,hb,by rw[List.getElem?_map,hr];rfl,h3 r (List.mem_of_getElem? hr),hx⟩
theorem ClsL.first{w:World}{A:Option Addr}{n c h:Nat}{l:List Cls}(hs:ClsL w (.slice A n c) l)(hhn:h<=l.length):ClsL w (.slice A h c) (l.take h):=by
 obtain⟨rs,h1,rfl,h3⟩:=hs
 rw[List.length_map]at hhn
 exact⟨rs.take h,h1.first hhn,by rw[List.map_take],fun r hr=>h3 r (List.mem_of_mem_take hr)⟩
end Go.Proofs.YtjmiicjialkpiaaGreatDoor
