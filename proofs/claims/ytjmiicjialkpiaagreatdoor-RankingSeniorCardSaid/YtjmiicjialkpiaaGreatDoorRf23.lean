/-
Part 23 of the base.
-/
import Derived.Test.YtjmiicjialkpiaaGreatDoorRf22
namespace Go.Proofs.YtjmiicjialkpiaaGreatDoor
open Go.RowKit
theorem er4_sub1{cl:List Nmd}{l:List Cls}{i:Nat}{x:Cls}(k:x.kind=4)(h:Stat cl l x.name):Err4 cl l i x 18 :=
 ⟨fun _=>⟨fun _=>rfl,fun hn=>absurd h hn⟩,fun h2=>by omega,fun h3=>by omega,fun _ _ h4=>absurd k h4⟩
theorem er4_sub0{cl:List Nmd}{l:List Cls}{i:Nat}{x:Cls}(k:x.kind=4)(h:¬Stat cl l x.name):Err4 cl l i x 0 :=
 ⟨fun _=>⟨fun hn=>absurd hn h,fun _=>rfl⟩,fun h2=>by omega,fun h3=>by omega,fun _ _ h4=>absurd k h4⟩
theorem er4_bef1{cl:List Nmd}{l:List Cls}{i:Nat}{x:Cls}(k:x.kind=2)(h:Stat cl l x.other):Err4 cl l i x 18 :=
 ⟨fun h4=>by omega,fun _=>⟨fun _=>rfl,fun hn=>absurd h hn,fun hn=>absurd h hn⟩,fun h3=>by omega,fun h2=>absurd k h2⟩
theorem er4_bef2{cl:List Nmd}{l:List Cls}{i:Nat}{x:Cls}(k:x.kind=2)(h:¬Stat cl l x.other)(hc:Circ cl l (i+1)):Err4 cl l i x 17 :=
 ⟨fun h4=>by omega,fun _=>⟨fun hn=>absurd hn h,fun _ _=>rfl,fun _ hn=>absurd hc hn⟩,fun h3=>by omega,fun h2=>absurd k h2⟩
theorem er4_bef0{cl:List Nmd}{l:List Cls}{i:Nat}{x:Cls}(k:x.kind=2)(h:¬Stat cl l x.other)(hc:¬Circ cl l (i+1)):Err4 cl l i x 0 :=
 ⟨fun h4=>by omega,fun _=>⟨fun hn=>absurd hn h,fun _ hn=>absurd hn hc,fun _ _=>rfl⟩,fun h3=>by omega,fun h2=>absurd k h2⟩
theorem c5e{cl:List Nmd}{l:List Cls}{i:Nat}{x:Cls}{e:Int}(k:x.kind=3)(h:e=if sgn x.am.val.num<0 then 7 else if limB l i x.name=true then 12 else 0):Err4 cl l i x e :=
 ⟨fun h4=>by omega,fun h2=>by omega,fun _=>h,fun _ h3=>absurd k h3⟩
theorem er4_no{cl:List Nmd}{l:List Cls}{i:Nat}{x:Cls}(h2:x.kind≠2)(h3:x.kind≠3)(h4:x.kind≠4):Err4 cl l i x 0 :=
 ⟨fun h=>absurd h h4,fun h=>absurd h h2,fun h=>absurd h h3,fun _ _ _=>rfl⟩
end Go.Proofs.YtjmiicjialkpiaaGreatDoor
