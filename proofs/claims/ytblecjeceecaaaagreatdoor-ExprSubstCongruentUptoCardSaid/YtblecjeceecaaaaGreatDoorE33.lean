/- The reference's side of valid trees: kinds, arguments, nodes. -/
import Derived.Test.YtblecjeceecaaaaGreatDoorE29
set_option linter.all false
namespace Go.Proofs.Y
open Go Go.Vc Go.Dig
theorem lF{x y:Int}:eq x y=dec (x=y):=by
 unfold eq;rw[kU]
end Go.Proofs.Y
/- The reference's walk over a tree, and Valid. -/
namespace Go.Proofs.Y
open Go Go.Vc Go.Dig
def rV(d n:Nat)(t:Tr):Int:=if okT d t/\szT t<=n then (n:Int)-(szT t:Nat) else -1
end Go.Proofs.Y
/- Equal trees: plain; the reference's Same, the program's equal. -/
namespace Go.Proofs.Y
open Go Go.Vc Go.Dig
mutual
def aVr:Tr->Tr->Bool
 | .mk op arg neg l m name ks,.mk op' arg' neg' l' m' name' ks'=>decide (op=op'/\arg=arg'/\name=name'/\aK neg l m=aK neg' l' m') && aVs ks ks'
def aVs:List Tr->List Tr->Bool
 | [],[]=>true
 | [],_::_=>false
 | _::_,[]=>false
 | t::ts,u::us=>aVr t u && aVs ts us
end
theorem qA{neg:Bool}{l m:List Nat}(h:evl 4294967296 l=0):aK neg l m=0:=by
 unfold aK;rw[h,aBf]
theorem iK{d:Nat}:∀{ts:List Tr} {j:Nat} {t:Tr},dB d ts->ts[j]?=some t->okT d t
 | u::ts,0,t,h,e=>by
  rw[dB] at h;simp at e;subst e;exact h.1
 | u::ts,j+1,t,h,e=>by
  rw[dB] at h;exact iK h.2 (by simpa using e)
 | [],j,t,_,e=>by simp at e
def eqX(t u:Tr):Bool × Int:=if bB t/\bB u then (aVr t u,0) else (false,40)
attribute [local irreducible] Vc.Fn
end Go.Proofs.Y
/- Trees with numbers (iX): equal trees have equal iX; copies keep them; nodes replaced. -/
namespace Go.Proofs.Y
open Go Go.Vc Go.Dig
inductive Kt where
 | mk (op arg:Int) (q:Rat) (name:List Nat) (kids:List Kt)
mutual
def key:Tr->Kt
 | .mk op arg neg l m name ks=>.mk op arg (aK neg l m) name (iX ks)
def iX:List Tr->List Kt
 | []=>[]
 | t::ts=>key t::iX ts
end

mutual
def lK(g:Tr->Option Tr):Tr->Tr
 | .mk op arg neg l m name ks=>match g (.mk op arg neg l m name ks) with
  | some u=>u
  | none=>.mk op arg neg l m name (fZ g ks)
def fZ(g:Tr->Option Tr):List Tr->List Tr
 | []=>[]
 | t::ts=>lK g t::fZ g ts
end
theorem xE(g:Tr->Option Tr):∀(a b:List Tr),fZ g (a++b)=fZ g a++fZ g b
 | [],b=>by rw[fZ];rfl
 | t::a,b=>by rw[bJ7,fZ,fZ,xE g a b];rfl
theorem aEk(g:Tr->Option Tr):∀a:List Tr,(fZ g a).length=a.length
 | []=>by rw[fZ]
 | t::a=>by rw[fZ,bIs,bIs,aEk g a]
theorem uB{g:Tr->Option Tr}{t u:Tr}(h:g t=some u):lK g t=u:=by
 obtain⟨op,arg,neg,l,m,name,ks⟩:=t;rw[lK,h]
theorem nA{g:Tr->Option Tr}{op arg:Int}{neg:Bool}{l m name:List Nat}{ks:List Tr}(h:g (.mk op arg neg l m name ks)=none):lK g (.mk op arg neg l m name ks)=.mk op arg neg l m name (fZ g ks):=by
 rw[lK,h]
mutual
theorem yR:∀{d:Nat} {t:Tr},okT d t->key (lC t)=key t
 | d,.mk op arg neg l m name ks,h=>by
  rw[okT] at h;obtain⟨-,hn,hk⟩:=h;have hq:=hn.2.2.2.2;rw[lC]
  split
  .rename_i o;rw[if_pos o] at hq;rw[key,key,jO,pC,if_pos hq.1,vN hk]
  .rename_i o;rw[if_neg o] at hq;rw[key,key,vN hk,qA hq,qA (show evl 4294967296 []=0 from bH _)]
theorem vN:∀{d:Nat} {ts:List Tr},dB d ts->iX (dP ts)=iX ts
 | _,[],_=>by rw[dP]
 | d,t::ts,h=>by
  rw[dB] at h;rw[dP,iX,iX,yR h.1,vN h.2]
end
mutual
def okG:Tr->Prop
 | .mk op arg neg l m name ks=>fC op arg neg l m name ks.length/\aJl ks
def aJl:List Tr->Prop
 | []=>True
 | t::ts=>okG t/\aJl ts
end
mutual
theorem aG2:∀{d:Nat} {t:Tr},okT d t->okG t
 | d,.mk op arg neg l m name ks,h=>by
  rw[okT] at h;rw[okG];exact⟨h.2.1,aO4 h.2.2⟩
theorem aO4:∀{d:Nat} {ts:List Tr},dB d ts->aJl ts
 | _,[],_=>by rw[aJl];trivial
 | d,t::ts,h=>by
  rw[dB] at h;rw[aJl];exact⟨aG2 h.1,aO4 h.2⟩
end
end Go.Proofs.Y