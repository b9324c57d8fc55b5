/- Simplify: plain. -/
import Derived.Test.YtmblpmegfmgjgaaGreatDoorE62
import Derived.Test.YtmblpmegfmgjgaaGreatDoorE42
import Derived.Test.YtmblpmegfmgjgaaGreatDoorE38
set_option linter.unusedVariables false
set_option linter.unusedSimpArgs false
namespace Go.Proofs.YtmblpmegfmgjgaaGreatDoor
open Go Go.Vc Go.Dig
def numQ (q:Rat):Tr:=.mk 1 0 (sg q) (dg 4294967296 (nu q)) (dg 4294967296 (dn q)) [] []
def mkL (q:Rat):Tr:=if q<0 then nodeT 4 0 [numQ (-q)] else numQ q
def isNeg:Tr→Prop
 | .mk op _ _ _ _ _ _=>op=4
instance (t:Tr):Decidable (isNeg t):=by cases t;unfold isNeg;exact inferInstance
def kidT:Tr→Tr
 | .mk _ _ _ _ _ _ (k::_)=>k
 | t=>t
def negS (e a:Tr):Tr:=match litT a with
 | some v=>mkL (-v)
 | none=>if isNeg a then kidT a else e
def foldQ (op:Int) (x y:Rat):Option Rat:=if op=5 then fitO (x+y) else if op=6 then fitO (x-y) else if op=7 then fitO (x*y) else if y=0 then none else fitO (x / y)
def foldT (op:Int) (a b:Tr):Option Rat:=(litT a).bind fun x=>(litT b).bind fun y=>foldQ op x y
def addS (e a b:Tr):Tr:=if litT a=some 0 then b else if litT b=some 0 then a else if isNeg b then nodeT 6 0 [a,kidT b] else e
def subS (e a b:Tr):Tr:=if litT b=some 0 then a else if litT a=some 0 then negS (nodeT 4 0 [b]) b else if isNeg b then nodeT 5 0 [a,kidT b] else e
def mulS (e a b:Tr):Tr:=if litT a=some 0∨litT b=some 0 then mkL 0 else if litT a=some 1 then b else if litT b=some 1 then a else if litT a=some (-1) then negS (nodeT 4 0 [b]) b else e
def divS (e a b:Tr):Tr:=if litT a=some 0 then mkL 0 else if litT b=some 1 then a else e
def binS (e:Tr) (op:Int) (a b:Tr):Tr:=match foldT op a b with
 | some q=>mkL q
 | none=>if op=5 then addS e a b else if op=6 then subS e a b else if op=7 then mulS e a b else divS e a b
def powV (arg:Int) (a:Tr):Option Rat:=(litT a).bind fun x=>if arg<0∧x=0 then none else fitO (powQ x arg)
def powS (e:Tr) (arg:Int) (a:Tr):Tr:=match powV arg a with
 | some q=>mkL q
 | none=>if arg=0 then mkL 1 else if arg=1 then a else e
def nodeS (op arg:Int) (e:Tr):List Tr→Tr
 | [a]=>if op=4 then negS e a else if op=9 then powS e arg a else e
 | [a,b]=>if op=5∨op=6∨op=7∨op=8 then binS e op a b else e
 | _=>e
mutual
def simT:Tr→Tr
 | .mk op arg neg l m name ks=>nodeS op arg (.mk op arg neg l m name (simTs ks)) (simTs ks)
def simTs:List Tr→List Tr
 | []=>[]
 | t::ts=>simT t::simTs ts
end
/-! nodes that are right, and their sizes -/
theorem numQ_ok {d:Nat} {q:Rat} (hd:d≤30) (h0:0≤q) (hf:fits q):okT d (numQ q):=by
 unfold numQ
 rw [okT,okTs]
 refine ⟨hd,⟨rfl,by decide,by decide,rfl,?_⟩,trivial⟩
 rw [if_pos rfl]
 exact ⟨okR_dg hf,by rw [ratOf_dg];exact h0⟩
theorem fits_neg {q:Rat} (h:fits q):fits (-q):=⟨by rw [nu_neg];exact h.1,by rw [Rat.neg_den];exact h.2⟩
mutual
theorem okT_up {d d':Nat} (hd:d≤d'):∀{t:Tr},okT d' t→okT d t
 | .mk op arg neg l m name ks,h=>by
  rw [okT] at h ⊢
  exact ⟨Nat.le_trans hd h.1,h.2.1,okTs_up (Nat.add_le_add_right hd 1) h.2.2⟩
theorem okTs_up {d d':Nat} (hd:d≤d'):∀{ts:List Tr},okTs d' ts→okTs d ts
 | [],_=>by rw [okTs];trivial
 | t::ts,h=>by
  rw [okTs] at h ⊢
  exact ⟨okT_up hd h.1,okTs_up hd h.2⟩
end
theorem okT_d {d:Nat}:∀{t:Tr},okT d t→d≤30
 | .mk op arg neg l m name ks,h=>by rw [okT] at h;exact h.1
theorem node1_ok {d:Nat} {op arg:Int} {a:Tr} (hk:kidsN op=1) (h1:lowA op≤arg) (h2:arg≤highA op) (h:okT (d+1) a):okT d (nodeT op arg [a]):=by
 have hd:=okT_d h
 have hop:op≠2∧op≠1:=⟨fun e=>by rw [e] at hk;exact absurd hk (by decide),fun e=>by rw [e] at hk;exact absurd hk (by decide)⟩
 unfold nodeT
 rw [okT,okTs,okTs]
 refine ⟨by omega,⟨hk.symm,h1,h2,?_,?_⟩,h,trivial⟩
 ·rw [if_neg hop.1]
 ·rw [if_neg hop.2];simp [evl_nil]
theorem mkL_ok {d:Nat} {q:Rat} (hd:d+1≤30) (hf:fits q):okT d (mkL q):=by
 unfold mkL
 split
 ·rename_i h
  refine node1_ok (by decide) (by decide) (by decide) (numQ_ok hd ?_ (fits_neg hf))
  have:=Rat.neg_lt_neg h
  rw [Rat.neg_zero] at this
  exact Rat.le_of_lt this
 ·rename_i h
  exact numQ_ok (by omega) (Rat.not_lt.1 h) hf
theorem mkL_sz (q:Rat):szT (mkL q)≤2:=by
 unfold mkL
 split
 ·unfold nodeT numQ;simp [szT,szTs]
 ·unfold numQ;simp [szT,szTs]
def Fit (d n:Nat) (t:Tr):Prop:=okT d t∧szT t≤n
theorem absQ_pos {q:Rat} (h:0≤q):absQ q=q:=by
 unfold absQ
 have e:sg q=false:=by
  unfold sg
  exact decide_eq_false (by have:=Rat.num_nonneg.2 h;omega)
 rw [← e]
 exact mkQ_self q
theorem absQ_neg {q:Rat} (h:¬0≤q):absQ q=-q:=by
 have h1:0≤-q:=by
  have:=Rat.neg_lt_neg (Rat.not_le.1 h)
  rw [Rat.neg_zero] at this
  exact Rat.le_of_lt this
 rw [← absQ_pos h1]
 unfold absQ
 rw [nu_neg,Rat.neg_den]
end Go.Proofs.YtmblpmegfmgjgaaGreatDoor
/- A tree keeps its value when it is simplified: plain. -/
namespace Go.Proofs.YtmblpmegfmgjgaaGreatDoor
open Go Go.Vc Go.Dig
theorem valT_num {vals:List (List Nat × Rat)} {arg:Int} {neg:Bool} {l m name:List Nat} {ks:List Tr}:valT vals (.mk 1 arg neg l m name ks)=some (ratOf neg l m):=by rw [valT,if_pos rfl]
theorem valT_one {vals:List (List Nat × Rat)} {op arg:Int} {neg:Bool} {l m name:List Nat} {a:Tr} (h:op≠1∧op≠2∧op≠3):valT vals (.mk op arg neg l m name [a])=(valT vals a).bind (unQ op arg):=by
 rw [valT,if_neg h.1,if_neg h.2.1,if_neg h.2.2,valTs,valTs];rfl
theorem unQ_neg (arg:Int) (q:Rat):unQ 4 arg q=fitO (-q):=if_pos rfl
theorem numQ_val {vals:List (List Nat × Rat)} (q:Rat):valT vals (numQ q)=some q:=by
 unfold numQ
 rw [valT_num,ratOf_dg]
theorem mkL_val {vals:List (List Nat × Rat)} {q:Rat} (hf:fits q):valT vals (mkL q)=some q:=by
 unfold mkL
 split
 ·unfold nodeT
  rw [valT_one (by decide),numQ_val]
  show unQ 4 0 (-q)=some q
  rw [unQ_neg,Rat.neg_neg]
  exact if_pos hf
 ·exact numQ_val q
section
variable {vals:List (List Nat × Rat)} (hv:∀b∈vals,fits b.2)
include hv
end
end Go.Proofs.YtmblpmegfmgjgaaGreatDoor
/- Values of trees in which literals stand for variables, of copies, of resolved case distinctions: plain. -/
namespace Go.Proofs.YtmblpmegfmgjgaaGreatDoor
open Go Go.Vc Go.Dig
def litsB (vals:List (List Nat × Rat)):List (List Nat × Tr):=vals.map fun b=>(b.1,mkL b.2)
theorem findB_lits {name:List Nat}:∀{vals:List (List Nat × Rat)},findB (litsB vals) name=(findB vals name).map mkL
 | []=>rfl
 | (n,q)::l=>by
  show (if n=name then some (mkL q) else findB (litsB l) name)=_
  rw [findB]
  split
  ·rfl
  ·exact findB_lits
theorem valT_congr {vals vals':List (List Nat × Rat)} {op arg:Int} {neg neg':Bool} {l l' m m' name name':List Nat} {ks ks':List Tr} (h:op≠1∧op≠2) (e:valTs vals ks=valTs vals' ks'):valT vals (.mk op arg neg l m name ks)=valT vals' (.mk op arg neg' l' m' name' ks'):=by
 rw [valT,valT,if_neg h.1,if_neg h.1,if_neg h.2,if_neg h.2,e]
theorem kids0 {d:Nat} {op arg:Int} {neg:Bool} {l m name:List Nat} {ks:List Tr} (h:okT d (.mk op arg neg l m name ks)) (e:kidsN op=0):ks=[]:=by
 rw [okT] at h
 have:=h.2.1.1
 rw [e] at this
 exact List.length_eq_zero_iff.1 (by omega)
section
variable {vals:List (List Nat × Rat)} (hv:∀b∈vals,fits b.2)
include hv
mutual
theorem rpl_val {d:Nat}:∀{t:Tr},okT d t→valT [] (rplT (byM (litsB vals)) t)=valT vals t
 | .mk op arg neg l m name ks,h=>by
  by_cases o:op=2
  ·have e0:=kids0 h (by rw [o];decide)
   have hm:byM (litsB vals) (.mk op arg neg l m name ks)=(findB vals name).map mkL:=(if_pos o).trans findB_lits
   have hr:valT vals (.mk op arg neg l m name ks)=findB vals name:=by rw [valT,if_neg (by omega),if_pos o]
   rw [hr]
   cases hf:findB vals name with
   | some q=>rw [rplT_some (hm.trans (by rw [hf];rfl)),mkL_val (findB_fits hv hf)]
   | none=>rw [rplT_none (hm.trans (by rw [hf];rfl)),valT,if_neg (by omega),if_pos o];rfl
  ·rw [rplT_none (show byM (litsB vals) (.mk op arg neg l m name ks)=none from if_neg o)]
   by_cases o1:op=1
   ·rw [valT,valT,if_pos o1,if_pos o1]
   ·rw [okT] at h
    exact valT_congr ⟨o1,o⟩ (rpls_val h.2.2)
theorem rpls_val {d:Nat}:∀{ts:List Tr},okTs d ts→valTs [] (rplTs (byM (litsB vals)) ts)=valTs vals ts
 | [],_=>by rw [rplTs,valTs,valTs]
 | t::ts,h=>by
  have _:=hv
  rw [okTs] at h
  rw [rplTs,valTs,valTs,rpl_val h.1,rpls_val h.2]
end
end
mutual
theorem clone_val {vals:List (List Nat × Rat)} {d:Nat}:∀{t:Tr},okT d t→valT vals (cloneT t)=valT vals t
 | .mk op arg neg l m name ks,h=>by
  have h':=h
  rw [okT] at h
  have hk:=clones_val (vals:=vals) h.2.2
  rw [cloneT]
  by_cases o1:op=1
  ·have hn:=h.2.1.2.2.2.2
   rw [if_pos o1] at hn
   rw [if_pos o1,valT,valT,if_pos o1,if_pos o1,ratOf_dg,canQ,if_pos hn.1]
  ·rw [if_neg o1]
   by_cases o:op=2
   ·rw [valT,valT,if_neg o1,if_neg o1,if_pos o,if_pos o]
   ·exact valT_congr ⟨o1,o⟩ hk
theorem clones_val {vals:List (List Nat × Rat)} {d:Nat}:∀{ts:List Tr},okTs d ts→valTs vals (cloneTs ts)=valTs vals ts
 | [],_=>by rw [cloneTs]
 | t::ts,h=>by
  rw [okTs] at h
  rw [cloneTs,valTs,valTs,clone_val h.1,clones_val h.2]
end
section
variable {vals:List (List Nat × Rat)} (hv:∀b∈vals,fits b.2)
include hv
end
end Go.Proofs.YtmblpmegfmgjgaaGreatDoor