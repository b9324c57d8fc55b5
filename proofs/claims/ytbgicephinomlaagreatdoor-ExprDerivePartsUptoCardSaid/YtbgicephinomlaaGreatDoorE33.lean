/- The reference's side of valid trees: kinds, arguments, nodes. -/
import Derived.Test.YtbgicephinomlaaGreatDoorE29
import Derived.Test.YtbgicephinomlaaGreatDoorL4
import Derived.Test.YtbgicephinomlaaGreatDoorE19
set_option linter.unusedVariables false
set_option linter.unusedSimpArgs false
namespace Go.Proofs.YtbgicephinomlaaGreatDoor
open Go Go.Vc Go.Dig
theorem eq_dec {x y:Int}:eq x y=dec (x=y):=by
 unfold eq
 rw [dec_eq]
end Go.Proofs.YtbgicephinomlaaGreatDoor
/- The reference's walk over a tree, and Valid. -/
namespace Go.Proofs.YtbgicephinomlaaGreatDoor
open Go Go.Vc Go.Dig
def wlkT (d n:Nat) (t:Tr):Int:=if okT d t∧szT t≤n then (n:Int)-(szT t:Nat) else -1
end Go.Proofs.YtbgicephinomlaaGreatDoor
/- Equal trees: plain; the reference's Same, the program's equal. -/
namespace Go.Proofs.YtbgicephinomlaaGreatDoor
open Go Go.Vc Go.Dig
mutual
def sameB:Tr→Tr→Bool
 | .mk op arg neg l m name ks,.mk op' arg' neg' l' m' name' ks'=>decide (op=op'∧arg=arg'∧name=name'∧ratOf neg l m=ratOf neg' l' m') && sameBs ks ks'
def sameBs:List Tr→List Tr→Bool
 | [],[]=>true
 | [],_::_=>false
 | _::_,[]=>false
 | t::ts,u::us=>sameB t u && sameBs ts us
end
theorem ratOf_nil {neg:Bool} {l m:List Nat} (h:evl 4294967296 l=0):ratOf neg l m=0:=by
 unfold ratOf
 rw [h,mkQ_zero]
theorem okTs_get {d:Nat}:∀{ts:List Tr} {j:Nat} {t:Tr},okTs d ts→ts[j]?=some t→okT d t
 | u::ts,0,t,h,e=>by
  rw [okTs] at h
  simp at e;subst e;exact h.1
 | u::ts,j+1,t,h,e=>by
  rw [okTs] at h
  exact okTs_get h.2 (by simpa using e)
 | [],j,t,_,e=>by simp at e
def eqX (t u:Tr):Bool × Int:=if ValT t∧ValT u then (sameB t u,0) else (false,40)
attribute [local irreducible] Vc.Fn
end Go.Proofs.YtbgicephinomlaaGreatDoor
/- Trees with numbers (keys): equal trees have equal keys; copies keep them; nodes replaced. -/
namespace Go.Proofs.YtbgicephinomlaaGreatDoor
open Go Go.Vc Go.Dig
inductive Kt where
 | mk (op arg:Int) (q:Rat) (name:List Nat) (kids:List Kt)
mutual
def key:Tr→Kt
 | .mk op arg neg l m name ks=>.mk op arg (ratOf neg l m) name (keys ks)
def keys:List Tr→List Kt
 | []=>[]
 | t::ts=>key t::keys ts
end

mutual
def rplT (g:Tr→Option Tr):Tr→Tr
 | .mk op arg neg l m name ks=>match g (.mk op arg neg l m name ks) with
  | some u=>u
  | none=>.mk op arg neg l m name (rplTs g ks)
def rplTs (g:Tr→Option Tr):List Tr→List Tr
 | []=>[]
 | t::ts=>rplT g t::rplTs g ts
end
theorem rplT_some {g:Tr→Option Tr} {t u:Tr} (h:g t=some u):rplT g t=u:=by
 obtain ⟨op,arg,neg,l,m,name,ks⟩:=t
 rw [rplT,h]
theorem rplT_none {g:Tr→Option Tr} {op arg:Int} {neg:Bool} {l m name:List Nat} {ks:List Tr} (h:g (.mk op arg neg l m name ks)=none):rplT g (.mk op arg neg l m name ks)=.mk op arg neg l m name (rplTs g ks):=by
 rw [rplT,h]
mutual
theorem key_clone:∀{d:Nat} {t:Tr},okT d t→key (cloneT t)=key t
 | d,.mk op arg neg l m name ks,h=>by
  rw [okT] at h
  obtain ⟨-,hn,hk⟩:=h
  have hq:=hn.2.2.2.2
  rw [cloneT]
  split
  ·rename_i o
   rw [if_pos o] at hq
   rw [key,key,ratOf_dg,canQ,if_pos hq.1,keys_clone hk]
  ·rename_i o
   rw [if_neg o] at hq
   rw [key,key,keys_clone hk,ratOf_nil hq,ratOf_nil (show evl 4294967296 []=0 from evl_nil _)]
theorem keys_clone:∀{d:Nat} {ts:List Tr},okTs d ts→keys (cloneTs ts)=keys ts
 | _,[],_=>by rw [cloneTs]
 | d,t::ts,h=>by
  rw [okTs] at h
  rw [cloneTs,keys,keys,key_clone h.1,keys_clone h.2]
end
mutual
def okG:Tr→Prop
 | .mk op arg neg l m name ks=>nodeB op arg neg l m name ks.length∧okGs ks
def okGs:List Tr→Prop
 | []=>True
 | t::ts=>okG t∧okGs ts
end
mutual
theorem okG_of:∀{d:Nat} {t:Tr},okT d t→okG t
 | d,.mk op arg neg l m name ks,h=>by
  rw [okT] at h
  rw [okG]
  exact ⟨h.2.1,okGs_of h.2.2⟩
theorem okGs_of:∀{d:Nat} {ts:List Tr},okTs d ts→okGs ts
 | _,[],_=>by rw [okGs];trivial
 | d,t::ts,h=>by
  rw [okTs] at h
  rw [okGs]
  exact ⟨okG_of h.1,okGs_of h.2⟩
end
theorem okGs_mem:∀{ts:List Tr} {t:Tr},okGs ts→t∈ts→okG t
 | u::us,t,h,hm=>by
  rw [okGs] at h
  cases hm with
  | head=>exact h.1
  | tail _ hm=>exact okGs_mem h.2 hm
end Go.Proofs.YtbgicephinomlaaGreatDoor