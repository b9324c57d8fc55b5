/- Maps with names for keys; nodes replaced by a function value with one captured cell. -/
import Derived.Test.YtbgicephinomlaaGreatDoorE37
import Derived.Test.YtbgicephinomlaaGreatDoorE42
set_option linter.unusedVariables false
set_option linter.unusedSimpArgs false
namespace Go.Vc
open Go Go.Dig
def MapAt (h:Heap) (L:Vc.Own) (b:Nat) (es:Array MapEntry) (clock:Nat):Prop:=(b,.map es clock)∈L∨h b=some (.map es clock)
end Go.Vc
namespace Go.Proofs.YtbgicephinomlaaGreatDoor
open Go Go.Vc Go.Dig
class UpV {α:Type} (P:Heap→Value→α→Prop):Prop where
 up:∀{h h':Heap} {v:Value} {a:α},h.le h'→P h v a→P h' v a
instance:UpV VE:=⟨fun hl ⟨op,arg,neg,n,d,name,s,e,w⟩=>⟨op,arg,neg,n,d,name,s,e,w.mono hl⟩⟩
def EntR {α:Type} (P:Heap→Value→α→Prop) (h:Heap) (x:MapEntry) (b:List Nat × α):Prop:=x.key=.string (txt b.1)∧(∀y∈b.1,y<256)∧P h x.val b.2
def EntsR {α:Type} (P:Heap→Value→α→Prop) (h:Heap):List MapEntry→List (List Nat × α)→Prop
 | [],[]=>True
 | x::xs,b::bs=>EntR P h x b∧EntsR P h xs bs
 | _,_=>False
def findB {α:Type}:List (List Nat × α)→List Nat→Option α
 | [],_=>none
 | (n,u)::bs,name=>if n=name then some u else findB bs name
def byM (bs:List (List Nat × Tr)):Tr→Option Tr
 | .mk op _ _ _ _ name _=>if op=2 then findB bs name else none
end Go.Proofs.YtbgicephinomlaaGreatDoor
/- Subst on both sides; its law. -/
namespace Go.Vc
open Go Go.Dig
end Go.Vc
namespace Go.Proofs.YtbgicephinomlaaGreatDoor
open Go Go.Vc Go.Dig
def MsR {α:Type} (ms ps:List (List Nat × α)):Prop:=(∀n,n∈ms.map (·.1)↔n∈ps.map (·.1))∧((ps.map (·.1)).Nodup→ms=ps)
end Go.Proofs.YtbgicephinomlaaGreatDoor