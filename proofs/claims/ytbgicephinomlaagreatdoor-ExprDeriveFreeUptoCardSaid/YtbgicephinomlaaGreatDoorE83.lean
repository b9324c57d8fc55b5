/- Simplify: plain. -/
import Derived.Test.YtbgicephinomlaaGreatDoorE63
import Derived.Test.YtbgicephinomlaaGreatDoorE42
import Derived.Test.YtbgicephinomlaaGreatDoorE38
set_option linter.unusedVariables false
set_option linter.unusedSimpArgs false
namespace Go.Proofs.YtbgicephinomlaaGreatDoor
open Go Go.Vc Go.Dig
def numQ (q:Rat):Tr:=.mk 1 0 (sg q) (dg 4294967296 (nu q)) (dg 4294967296 (dn q)) [] []
def mkL (q:Rat):Tr:=if q<0 then nodeT 4 0 [numQ (-q)] else numQ q
def isNeg:Tr→Prop
 | .mk op _ _ _ _ _ _=>op=4
instance (t:Tr):Decidable (isNeg t):=by cases t;unfold isNeg;exact inferInstance
def kidT:Tr→Tr
 | .mk _ _ _ _ _ _ (k::_)=>k
 | t=>t
def negS (e a:Tr):Tr:=match litT a with
 | some v=>mkL (-v)
 | none=>if isNeg a then kidT a else e
def foldQ (op:Int) (x y:Rat):Option Rat:=if op=5 then fitO (x+y) else if op=6 then fitO (x-y) else if op=7 then fitO (x*y) else if y=0 then none else fitO (x / y)
def foldT (op:Int) (a b:Tr):Option Rat:=(litT a).bind fun x=>(litT b).bind fun y=>foldQ op x y
def addS (e a b:Tr):Tr:=if litT a=some 0 then b else if litT b=some 0 then a else if isNeg b then nodeT 6 0 [a,kidT b] else e
def subS (e a b:Tr):Tr:=if litT b=some 0 then a else if litT a=some 0 then negS (nodeT 4 0 [b]) b else if isNeg b then nodeT 5 0 [a,kidT b] else e
def mulS (e a b:Tr):Tr:=if litT a=some 0∨litT b=some 0 then mkL 0 else if litT a=some 1 then b else if litT b=some 1 then a else if litT a=some (-1) then negS (nodeT 4 0 [b]) b else e
def divS (e a b:Tr):Tr:=if litT a=some 0 then mkL 0 else if litT b=some 1 then a else e
def binS (e:Tr) (op:Int) (a b:Tr):Tr:=match foldT op a b with
 | some q=>mkL q
 | none=>if op=5 then addS e a b else if op=6 then subS e a b else if op=7 then mulS e a b else divS e a b
def powV (arg:Int) (a:Tr):Option Rat:=(litT a).bind fun x=>if arg<0∧x=0 then none else fitO (powQ x arg)
def powS (e:Tr) (arg:Int) (a:Tr):Tr:=match powV arg a with
 | some q=>mkL q
 | none=>if arg=0 then mkL 1 else if arg=1 then a else e
def nodeS (op arg:Int) (e:Tr):List Tr→Tr
 | [a]=>if op=4 then negS e a else if op=9 then powS e arg a else e
 | [a,b]=>if op=5∨op=6∨op=7∨op=8 then binS e op a b else e
 | _=>e
mutual
def simT:Tr→Tr
 | .mk op arg neg l m name ks=>nodeS op arg (.mk op arg neg l m name (simTs ks)) (simTs ks)
def simTs:List Tr→List Tr
 | []=>[]
 | t::ts=>simT t::simTs ts
end
theorem simTs_len:∀ts:List Tr,(simTs ts).length=ts.length
 | []=>rfl
 | t::ts=>by rw [simTs,List.length_cons,List.length_cons,simTs_len ts]
theorem simTs_append:∀(a b:List Tr),simTs (a++b)=simTs a++simTs b
 | [],b=>by rw [List.nil_append,simTs,List.nil_append]
 | t::a,b=>by rw [List.cons_append,simTs,simTs,simTs_append a b,List.cons_append]
/-! nodes that are right, and their sizes -/
theorem numQ_ok {d:Nat} {q:Rat} (hd:d≤30) (h0:0≤q) (hf:fits q):okT d (numQ q):=by
 unfold numQ
 rw [okT,okTs]
 refine ⟨hd,⟨rfl,by decide,by decide,rfl,?_⟩,trivial⟩
 rw [if_pos rfl]
 exact ⟨okR_dg hf,by rw [ratOf_dg];exact h0⟩
theorem fits_neg {q:Rat} (h:fits q):fits (-q):=⟨by rw [nu_neg];exact h.1,by rw [Rat.neg_den];exact h.2⟩
mutual
theorem okT_up {d d':Nat} (hd:d≤d'):∀{t:Tr},okT d' t→okT d t
 | .mk op arg neg l m name ks,h=>by
  rw [okT] at h ⊢
  exact ⟨Nat.le_trans hd h.1,h.2.1,okTs_up (Nat.add_le_add_right hd 1) h.2.2⟩
theorem okTs_up {d d':Nat} (hd:d≤d'):∀{ts:List Tr},okTs d' ts→okTs d ts
 | [],_=>by rw [okTs];trivial
 | t::ts,h=>by
  rw [okTs] at h ⊢
  exact ⟨okT_up hd h.1,okTs_up hd h.2⟩
end
theorem okT_d {d:Nat}:∀{t:Tr},okT d t→d≤30
 | .mk op arg neg l m name ks,h=>by rw [okT] at h;exact h.1
theorem node1_ok {d:Nat} {op arg:Int} {a:Tr} (hk:kidsN op=1) (h1:lowA op≤arg) (h2:arg≤highA op) (h:okT (d+1) a):okT d (nodeT op arg [a]):=by
 have hd:=okT_d h
 have hop:op≠2∧op≠1:=⟨fun e=>by rw [e] at hk;exact absurd hk (by decide),fun e=>by rw [e] at hk;exact absurd hk (by decide)⟩
 unfold nodeT
 rw [okT,okTs,okTs]
 refine ⟨by omega,⟨hk.symm,h1,h2,?_,?_⟩,h,trivial⟩
 ·rw [if_neg hop.1]
 ·rw [if_neg hop.2];simp [evl_nil]
theorem mkL_ok {d:Nat} {q:Rat} (hd:d+1≤30) (hf:fits q):okT d (mkL q):=by
 unfold mkL
 split
 ·rename_i h
  refine node1_ok (by decide) (by decide) (by decide) (numQ_ok hd ?_ (fits_neg hf))
  have:=Rat.neg_lt_neg h
  rw [Rat.neg_zero] at this
  exact Rat.le_of_lt this
 ·rename_i h
  exact numQ_ok (by omega) (Rat.not_lt.1 h) hf
def Fit (d n:Nat) (t:Tr):Prop:=okT d t∧szT t≤n
theorem foldQ_fits {op:Int} {x y r:Rat} (h:foldQ op x y=some r):fits r:=by
 unfold foldQ at h
 repeat' split at h
 all_goals first
  | (cases h;done)
  | exact fitO_fits h
theorem foldT_fits {op:Int} {a b:Tr} {r:Rat} (h:foldT op a b=some r):fits r:=by
 obtain ⟨x,-,h⟩:=Option.bind_eq_some_iff.1 h
 obtain ⟨y,-,h⟩:=Option.bind_eq_some_iff.1 h
 exact foldQ_fits h
theorem powV_fits {arg:Int} {a:Tr} {r:Rat} (h:powV arg a=some r):fits r:=by
 obtain ⟨x,-,h⟩:=Option.bind_eq_some_iff.1 h
 split at h
 ·cases h
 ·exact fitO_fits h
theorem absQ_pos {q:Rat} (h:0≤q):absQ q=q:=by
 unfold absQ
 have e:sg q=false:=by
  unfold sg
  exact decide_eq_false (by have:=Rat.num_nonneg.2 h;omega)
 rw [← e]
 exact mkQ_self q
theorem absQ_neg {q:Rat} (h:¬0≤q):absQ q=-q:=by
 have h1:0≤-q:=by
  have:=Rat.neg_lt_neg (Rat.not_le.1 h)
  rw [Rat.neg_zero] at this
  exact Rat.le_of_lt this
 rw [← absQ_pos h1]
 unfold absQ
 rw [nu_neg,Rat.neg_den]
end Go.Proofs.YtbgicephinomlaaGreatDoor
/- A tree keeps its value when it is simplified: plain. -/
namespace Go.Proofs.YtbgicephinomlaaGreatDoor
open Go Go.Vc Go.Dig
theorem fitO_eq {q r:Rat} (h:fitO q=some r):q=r:=by
 unfold fitO at h
 split at h
 ·exact Option.some.inj h
 ·cases h
section
variable {vals:List (List Nat × Rat)} (hv:∀b∈vals,fits b.2)
include hv
end
end Go.Proofs.YtbgicephinomlaaGreatDoor
/- Values of trees in which literals stand for variables, of copies, of resolved case distinctions: plain. -/
namespace Go.Proofs.YtbgicephinomlaaGreatDoor
open Go Go.Vc Go.Dig
def litsB (vals:List (List Nat × Rat)):List (List Nat × Tr):=vals.map fun b=>(b.1,mkL b.2)
section
variable {vals:List (List Nat × Rat)} (hv:∀b∈vals,fits b.2)
include hv
end
section
variable {vals:List (List Nat × Rat)} (hv:∀b∈vals,fits b.2)
include hv
end
end Go.Proofs.YtbgicephinomlaaGreatDoor
/- Simplify, plain, of trees of any depth. -/
namespace Go.Proofs.YtbgicephinomlaaGreatDoor
open Go Go.Vc Go.Dig
theorem litV_fitsG {a:Tr} {v:Rat} (h:okG a) (e:litT a=some v):fits v:=by
 obtain ⟨op,arg,neg,l,m,name,ks⟩:=a
 rw [okG] at h
 by_cases e1:op=1
 ·rw [litT_num e1] at e
  cases e
  have hn:=h.1.2.2.2.2
  rw [if_pos e1] at hn
  exact hn.1.2.2
 by_cases e4:op=4
 ·match ks,h,e with
  | .mk o a n l' m' nm ks'::us,h,e=>
   rw [litT_neg e4] at e
   split at e
   ·rename_i e1
    cases e
    have h2:=h.2
    rw [okGs,okG] at h2
    have hn:=h2.1.1.2.2.2.2
    rw [if_pos e1] at hn
    exact fits_neg hn.1.2.2
   ·cases e
  | [],h,e=>
   have:=h.1.1
   rw [e4] at this
   exact absurd this (by decide)
 ·rw [litT_no e1 e4] at e;cases e
theorem isNeg_kidG {a:Tr} (h:okG a) (e:isNeg a):∃k neg l m name arg,a=.mk 4 arg neg l m name [k]∧kidT a=k∧okG k:=by
 obtain ⟨op,arg,neg,l,m,name,ks⟩:=a
 rw [okG] at h
 have e1:op=4:=e
 subst e1
 have hl:=h.1.1
 match ks,hl,h with
 | [k],_,h=>
  rw [okGs] at h
  exact ⟨k,neg,l,m,name,arg,rfl,rfl,h.2.1⟩
 | [],hl,_=>exact absurd hl (by decide)
 | _::_::us,hl,_=>
  have:kidsN 4=1:=by decide
  rw [this] at hl
  simp at hl
  omega
theorem node1_G {op arg:Int} {a:Tr} (hk:kidsN op=1) (h1:lowA op≤arg) (h2:arg≤highA op) (h:okG a):okG (nodeT op arg [a]):=by
 have hop:op≠2∧op≠1:=⟨fun e=>by rw [e] at hk;exact absurd hk (by decide),fun e=>by rw [e] at hk;exact absurd hk (by decide)⟩
 unfold nodeT
 rw [okG,okGs,okGs]
 refine ⟨⟨hk.symm,h1,h2,?_,?_⟩,h,trivial⟩
 ·rw [if_neg hop.1]
 ·rw [if_neg hop.2];simp [evl_nil]
theorem node2_G {op:Int} {a b:Tr} (hk:kidsN op=2) (h1:lowA op=0) (h2:highA op=0) (h:okG a) (h':okG b):okG (nodeT op 0 [a,b]):=by
 have hop:op≠2∧op≠1:=⟨fun e=>by rw [e] at hk;exact absurd hk (by decide),fun e=>by rw [e] at hk;exact absurd hk (by decide)⟩
 unfold nodeT
 rw [okG,okGs,okGs,okGs]
 refine ⟨⟨hk.symm,by omega,by omega,?_,?_⟩,h,h',trivial⟩
 ·rw [if_neg hop.1]
 ·rw [if_neg hop.2];simp [evl_nil]
theorem mkL_G {q:Rat} (hf:fits q):okG (mkL q):=okG_of (d:=0) (mkL_ok (by decide) hf)
theorem negS_G {e a:Tr} (he:okG e) (ha:okG a):okG (negS e a):=by
 unfold negS
 split
 ·exact mkL_G (fits_neg (litV_fitsG ha (by assumption)))
 ·split
  ·obtain ⟨k,-,-,-,-,-,-,e1,e2⟩:=isNeg_kidG ha (by assumption)
   rw [e1]
   exact e2
  ·exact he
theorem binS_G {e a b:Tr} (op:Int) (he:okG e) (ha:okG a) (hb:okG b):okG (binS e op a b):=by
 have fn:okG (negS (nodeT 4 0 [b]) b):=negS_G (node1_G (by decide) (by decide) (by decide) hb) hb
 have fk:∀o,kidsN o=2→lowA o=0→highA o=0→isNeg b→okG (nodeT o 0 [a,kidT b]):=fun o k1 k2 k3 hn=>by
  obtain ⟨k,-,-,-,-,-,-,e1,e2⟩:=isNeg_kidG hb hn
  rw [e1]
  exact node2_G k1 k2 k3 ha e2
 unfold binS
 split
 ·exact mkL_G (foldT_fits (by assumption))
 split
 ·unfold addS
  repeat' split
  ·exact hb
  ·exact ha
  ·exact fk 6 (by decide) (by decide) (by decide) (by assumption)
  ·exact he
 split
 ·unfold subS
  repeat' split
  ·exact ha
  ·exact fn
  ·exact fk 5 (by decide) (by decide) (by decide) (by assumption)
  ·exact he
 split
 ·unfold mulS
  repeat' split
  ·exact mkL_G fits_zero
  ·exact hb
  ·exact ha
  ·exact fn
  ·exact he
 ·unfold divS
  repeat' split
  ·exact mkL_G fits_zero
  ·exact ha
  ·exact he
theorem powS_G {e a:Tr} (arg:Int) (he:okG e) (ha:okG a):okG (powS e arg a):=by
 unfold powS
 split
 ·exact mkL_G (powV_fits (by assumption))
 ·repeat' split
  ·exact mkL_G fits_one
  ·exact ha
  ·exact he
theorem nodeS_G {op arg:Int} {e:Tr} {ks:List Tr} (he:okG e) (hk:okGs ks):okG (nodeS op arg e ks):=by
 match ks,hk with
 | [a],hk=>
  rw [okGs] at hk
  rw [nodeS]
  repeat' split
  ·exact negS_G he hk.1
  ·exact powS_G _ he hk.1
  ·exact he
 | [a,b],hk=>
  rw [okGs,okGs] at hk
  rw [nodeS]
  split
  ·exact binS_G op he hk.1 hk.2.1
  ·exact he
 | [],_=>exact he
 | _::_::_::_,_=>exact he
mutual
theorem simT_G:∀{t:Tr},okG t→okG (simT t)
 | .mk op arg neg l m name ks,h=>by
  rw [okG] at h
  have g:=simTs_G h.2
  rw [simT]
  refine nodeS_G ?_ g
  rw [okG]
  exact ⟨by rw [simTs_len];exact h.1,g⟩
theorem simTs_G:∀{ts:List Tr},okGs ts→okGs (simTs ts)
 | [],_=>by rw [simTs,okGs];trivial
 | t::ts,h=>by
  rw [okGs] at h
  rw [simTs,okGs]
  exact ⟨simT_G h.1,simTs_G h.2⟩
end
end Go.Proofs.YtbgicephinomlaaGreatDoor