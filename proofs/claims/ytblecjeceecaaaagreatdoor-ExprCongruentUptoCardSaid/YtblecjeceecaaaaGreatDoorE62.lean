/- Subst on both sides; its law. -/
import Derived.Test.YtblecjeceecaaaaGreatDoorE66
set_option linter.all false
namespace Go.Vc
open Go Go.Dig
end Go.Vc
namespace Go.Proofs.Y
open Go Go.Vc Go.Dig
def MsR{α:Type}(ms ps:List (List Nat × α)):Prop:=(∀n,n∈ms.map (·.1)↔n∈ps.map (·.1))/\((ps.map (·.1)).Nodup->ms=ps)
theorem bGq:((0:Int):Rat)=0:=rfl
theorem bCk:((1:Int):Rat)=1:=rfl
def bEr(h:aA)(v:Value)(q:Rat):Prop:=∃n,∃a b:Sl,v=.agg #[.bool n,a.val,b.val]/\bP h n a b (some q)
instance:UpV bEr:=⟨fun hl ⟨n,a,b,e,w⟩=>⟨n,a,b,e,by obtain⟨l,m,v,e2⟩:=w.ex;exact⟨l,m,v.mono hl,e2⟩⟩⟩
def VQ(h:aA)(v:Value)(x:Option Rat):Prop:=∃n,∃a b:Sl,∃bb,v=.tuple #[.agg #[.bool n,a.val,b.val],.bool bb]/\(bb=true->∃q,x=some q/\bP h n a b (some q))/\(bb=false->x=none)
def NQ(h:aA)(v:Value)(p:Rat × Int):Prop:=∃n,∃a b:Sl,v=.tuple #[.agg #[.bool n,a.val,b.val],.int .i64 p.2]/\bP h n a b (some p.1)
def mS(p:Rat × Int)(x:Option Rat):Prop:=(p.2=0->x=some p.1)/\(p.2≠0->x=none)
def aNm(q:Rat)(arg:Int):Rat × Int:=if arg<0/\q=0 then (0,10) else eO (oX q arg)
end Go.Proofs.Y
/- Values of variables that come in: a slice of them in memory. -/
namespace Go.Vc
open Go Go.Dig
theorem LdN.hasN{h:aA}{L:Vc.Own}{b o m:Nat}{k:Value->Prop}(vs:List Value)(hl:vs.length=m)(hv:∀(i:Nat) v,vs[i]?=some v->Has h L ⟨b,o+i,none⟩ v)(hk:k (.agg vs.toArray)):LdN h L ⟨b,o,none⟩ m k:=
 ⟨vs,hl,fun i hi=>by
   rw[bQ];exact hv i _ (by rw[bIp,bIq Aa];rfl),hk⟩
end Go.Vc
namespace Go.Proofs.Y
open Go Go.Vc Go.Dig
def tK(h:aA)(c:Array Value):Nat->List (List Nat × Option Rat)->Prop
 | _,[]=>True
 | off,(n,x)::bs=>(c[off]?=some (.string (txt n))/\(∀y∈n,y<256)/\∃ng,∃a b:Sl,(∀i v,[Value.bool ng,a.val,b.val][i]?=some v->c[off+1+i]?=some v)/\bP h ng a b x)/\tK h c (off+4) bs
structure IsV (h:aA) (s:Sl) (bs:List (List Nat × Option Rat)):Prop where
 len:s.l=bs.length
 cap:s.l<=s.c
 mem:bs=[]\/∃bl off c T fz,s.a=some ⟨bl,off,none⟩/\h bl=some (.cells c T fz)/\tK h c off bs
def aS(bs:List (List Nat × Option Rat)):List (List Nat × Rat):=bs.map fun b=>(b.1,b.2.getD 0)
def iY(bs:List (List Nat × Option Rat)):Prop:=∀b∈bs,b.2.isSome=true
instance (bs:List (List Nat × Option Rat)):Decidable (iY bs):=by unfold iY;exact inferInstance
def jN(bs:List (List Nat × Option Rat))(t:Tr):Rat × Bool × Int:=
 if ¬bB t then (0,false,40) else if ¬eS bs then (0,false,41) else if ¬iY bs then (0,false,1) else match bL (aS bs) t with
  | none=>(0,false,0)
  | some q=>(q,true,0)
end Go.Proofs.Y