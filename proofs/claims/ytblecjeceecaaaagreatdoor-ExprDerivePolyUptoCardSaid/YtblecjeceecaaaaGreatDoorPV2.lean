/- The program's values of trees. -/
import Derived.Test.YtblecjeceecaaaaGreatDoorE68
import Derived.Test.YtblecjeceecaaaaGreatDoorPF12
set_option linter.all false
namespace Go.Proofs.Y
open Go Go.Vc Go.Dig
def QC(h:aA)(xs:List Value)(qs:List Rat):Prop:=∀(j:Nat) q,qs[j]?=some q->∃ng,∃a b:Sl,(∀i v,[Value.bool ng,a.val,b.val][i]?=some v->xs[3*j+i]?=some v)/\bP h ng a b (some q)
end Go.Proofs.Y
/- Value: the program's side. -/
namespace Go.Vc
open Go Go.Dig
end Go.Vc
namespace Go.Proofs.Y
open Go Go.Vc Go.Dig
end Go.Proofs.Y
/- What Value hands out, in plain words; two numbers told apart. -/
namespace Go.Proofs.Y
open Go Go.Vc Go.Dig
def bGy:Option Rat->Rat × Bool × Int
 | none=>(0,false,0)
 | some q=>(q,true,0)
end Go.Proofs.Y
/- Value: the document's side. -/
namespace Go.Proofs.Y
open Go Go.Vc Go.Dig
def RV(h:aA)(v:Value)(x:Option Rat):Prop:=RQ h v x
def tL(bs:List (List Nat × Option Rat)):Int:=if ¬eS bs then 41 else if ¬iY bs then 1 else 0
end Go.Proofs.Y
/- The value of a form's terms: the document's sum. -/
namespace Go.Vc
open Go Go.Dig
theorem Sto.tl4{A F G tl:Vc.Own}{u:Nat × Obj}{b off:Nat}{vs l:List Value}{T:TypeId}{k:Vc.Own->Prop}(hl:Nat.ble (off+vs.length) l.length=true)(ho:vs.all gT=true)
  (hk:zG vs l off fun l=>k (A++(F++(G++u::(b,.cells l.toArray T (0,0))::tl)))):Sto (A++(F++(G++u::(b,.cells l.toArray T (0,0))::tl))) ⟨b,off,none⟩ vs k:=by
 have:=Sto.tl3 (A:=A) (F:=F) (G:=G++[u]) (tl:=tl) (b:=b) (off:=off) (vs:=vs) (l:=l) (T:=T) (k:=k) hl ho (by simpa[bIt] using hk)
 simpa[bIt] using this
theorem LdN.tl4{h:aA}{A F G tl:Vc.Own}{u:Nat × Obj}{b o m:Nat}{k:Value->Prop}{l:List Value}{T:TypeId}(hl:Nat.ble (o+m) l.length=true)(hk:k (.agg ((l.drop o).take m).toArray)):LdN h (A++(F++(G++u::(b,.cells l.toArray T (0,0))::tl))) ⟨b,o,none⟩ m k:=by
 have:=LdN.tl3 (h:=h) (A:=A) (F:=F) (G:=G++[u]) (tl:=tl) (b:=b) (l:=l) (T:=T) hl hk
 simpa[bIt] using this
end Go.Vc
namespace Go.Proofs.Y
open Go Go.Vc Go.Dig
structure bG1 (p:Pol):Prop where
 fit:∀t∈p,fits t.2
 len:p.length<=200
 key:∀t∈p,t.1.length<=300
 deg:∀t∈p,∀f∈t.1,f.2<=64
theorem aYe{t:Tr}{p:Pol}(h:dM t=.ok p):bB t/\aO t=.ok p/\bG1 p:=by
 have hv:bB t:=Classical.byContradiction fun hn=>by unfold dM at h;rw[if_neg hn] at h;cases h
 have h2:aO t=.ok p:=by unfold dM at h;rw[if_pos hv] at h;exact h
 obtain⟨S,hS,-,g⟩:=kB t 1 hv.1 h2;exact⟨hv,h2,g.good.fit,g.good.len,fun t ht=>bJd (g.len t ht) (bJd hS hv.2),g.good.deg⟩
theorem aYh(h:aA)(a b:Sl)(q:Rat)(hq:eA h a b q)(hf:fits q):Fn0 T F.q21 [.agg #[.bool (sg q),a.val,b.val]] h fun v h'=>∃c d:Sl,v=.agg #[.bool (sg q),c.val,d.val]/\IsQ h' c d q:=by
 have:=sM h (sg q) a b _ _ (lO hq (oK hf));rw[jO] at this;exact this
attribute [local irreducible] Vc.Fn FnP
end Go.Proofs.Y