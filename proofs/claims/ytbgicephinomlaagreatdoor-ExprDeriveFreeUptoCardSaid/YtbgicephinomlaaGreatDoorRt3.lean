/- Contracts of the roots of natural numbers: package word's and the reference's. -/
import Derived.Test.YtbgicephinomlaaGreatDoorRep3
import Derived.Test.YtbgicephinomlaaGreatDoorL4
set_option linter.unusedVariables false
set_option linter.unusedSimpArgs false
namespace Go.Proofs.YtbgicephinomlaaGreatDoor
open Go Go.Vc Go.Dig

end Go.Proofs.YtbgicephinomlaaGreatDoor
/- Rational roots: number.Root, the reference's Exact and Root; what the statement on roots computes: true. -/
namespace Go.Dig
def exactQ (q:Rat) (n:Nat):Rat × Bool:=
 if sg q=true∧n%2=0 then (0,false) else if rt (nu q) n^n=nu q∧rt q.den n^n=q.den then (mkQ (sg q) (rt (nu q) n) (rt q.den n),true) else (0,false)
end Go.Dig
namespace Go.Proofs.YtbgicephinomlaaGreatDoor
open Go Go.Vc Go.Dig
def specRoot (n1:Bool) (l1 m1:List Nat) (n:Int):Rat × Bool × Int:=
 if okR n1 l1 m1 then (if n<2∨8<n then (0,false,2) else ((exactQ (ratOf n1 l1 m1) n.toNat).1,(exactQ (ratOf n1 l1 m1) n.toNat).2,0)) else (0,false,1)
def ResB (h:Heap) (v:Value) (x:Rat × Bool × Int):Prop:=∃a b:Sl,v=.tuple #[.agg #[.bool (sg x.1),a.val,b.val],.bool x.2.1,.int .i64 x.2.2]∧IsRat h a b x.1
end Go.Proofs.YtbgicephinomlaaGreatDoor