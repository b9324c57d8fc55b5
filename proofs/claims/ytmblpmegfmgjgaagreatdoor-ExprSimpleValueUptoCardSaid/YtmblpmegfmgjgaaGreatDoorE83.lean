/- Simplify, plain, of trees of any depth. -/
import Derived.Test.YtmblpmegfmgjgaaGreatDoorE66
set_option linter.unusedVariables false
set_option linter.unusedSimpArgs false
namespace Go.Proofs.YtmblpmegfmgjgaaGreatDoor
open Go Go.Vc Go.Dig
theorem litV_fitsG {a:Tr} {v:Rat} (h:okG a) (e:litT a=some v):fits v:=by
 obtain ⟨op,arg,neg,l,m,name,ks⟩:=a
 rw [okG] at h
 by_cases e1:op=1
 ·rw [litT_num e1] at e
  cases e
  have hn:=h.1.2.2.2.2
  rw [if_pos e1] at hn
  exact hn.1.2.2
 by_cases e4:op=4
 ·match ks,h,e with
  | .mk o a n l' m' nm ks'::us,h,e=>
   rw [litT_neg e4] at e
   split at e
   ·rename_i e1
    cases e
    have h2:=h.2
    rw [okGs,okG] at h2
    have hn:=h2.1.1.2.2.2.2
    rw [if_pos e1] at hn
    exact fits_neg hn.1.2.2
   ·cases e
  | [],h,e=>
   have:=h.1.1
   rw [e4] at this
   exact absurd this (by decide)
 ·rw [litT_no e1 e4] at e;cases e
theorem isNeg_kidG {a:Tr} (h:okG a) (e:isNeg a):∃k neg l m name arg,a=.mk 4 arg neg l m name [k]∧kidT a=k∧okG k:=by
 obtain ⟨op,arg,neg,l,m,name,ks⟩:=a
 rw [okG] at h
 have e1:op=4:=e
 subst e1
 have hl:=h.1.1
 match ks,hl,h with
 | [k],_,h=>
  rw [okGs] at h
  exact ⟨k,neg,l,m,name,arg,rfl,rfl,h.2.1⟩
 | [],hl,_=>exact absurd hl (by decide)
 | _::_::us,hl,_=>
  have:kidsN 4=1:=by decide
  rw [this] at hl
  simp at hl
  omega
theorem node1_G {op arg:Int} {a:Tr} (hk:kidsN op=1) (h1:lowA op≤arg) (h2:arg≤highA op) (h:okG a):okG (nodeT op arg [a]):=by
 have hop:op≠2∧op≠1:=⟨fun e=>by rw [e] at hk;exact absurd hk (by decide),fun e=>by rw [e] at hk;exact absurd hk (by decide)⟩
 unfold nodeT
 rw [okG,okGs,okGs]
 refine ⟨⟨hk.symm,h1,h2,?_,?_⟩,h,trivial⟩
 ·rw [if_neg hop.1]
 ·rw [if_neg hop.2];simp [evl_nil]
theorem node2_G {op:Int} {a b:Tr} (hk:kidsN op=2) (h1:lowA op=0) (h2:highA op=0) (h:okG a) (h':okG b):okG (nodeT op 0 [a,b]):=by
 have hop:op≠2∧op≠1:=⟨fun e=>by rw [e] at hk;exact absurd hk (by decide),fun e=>by rw [e] at hk;exact absurd hk (by decide)⟩
 unfold nodeT
 rw [okG,okGs,okGs,okGs]
 refine ⟨⟨hk.symm,by omega,by omega,?_,?_⟩,h,h',trivial⟩
 ·rw [if_neg hop.1]
 ·rw [if_neg hop.2];simp [evl_nil]
theorem mkL_G {q:Rat} (hf:fits q):okG (mkL q):=okG_of (d:=0) (mkL_ok (by decide) hf)
theorem negS_G {e a:Tr} (he:okG e) (ha:okG a):okG (negS e a):=by
 unfold negS
 split
 ·exact mkL_G (fits_neg (litV_fitsG ha (by assumption)))
 ·split
  ·obtain ⟨k,-,-,-,-,-,-,e1,e2⟩:=isNeg_kidG ha (by assumption)
   rw [e1]
   exact e2
  ·exact he
theorem binS_G {e a b:Tr} (op:Int) (he:okG e) (ha:okG a) (hb:okG b):okG (binS e op a b):=by
 have fn:okG (negS (nodeT 4 0 [b]) b):=negS_G (node1_G (by decide) (by decide) (by decide) hb) hb
 have fk:∀o,kidsN o=2→lowA o=0→highA o=0→isNeg b→okG (nodeT o 0 [a,kidT b]):=fun o k1 k2 k3 hn=>by
  obtain ⟨k,-,-,-,-,-,-,e1,e2⟩:=isNeg_kidG hb hn
  rw [e1]
  exact node2_G k1 k2 k3 ha e2
 unfold binS
 split
 ·exact mkL_G (foldT_fits (by assumption))
 split
 ·unfold addS
  repeat' split
  ·exact hb
  ·exact ha
  ·exact fk 6 (by decide) (by decide) (by decide) (by assumption)
  ·exact he
 split
 ·unfold subS
  repeat' split
  ·exact ha
  ·exact fn
  ·exact fk 5 (by decide) (by decide) (by decide) (by assumption)
  ·exact he
 split
 ·unfold mulS
  repeat' split
  ·exact mkL_G fits_zero
  ·exact hb
  ·exact ha
  ·exact fn
  ·exact he
 ·unfold divS
  repeat' split
  ·exact mkL_G fits_zero
  ·exact ha
  ·exact he
theorem powS_G {e a:Tr} (arg:Int) (he:okG e) (ha:okG a):okG (powS e arg a):=by
 unfold powS
 split
 ·exact mkL_G (powV_fits (by assumption))
 ·repeat' split
  ·exact mkL_G fits_one
  ·exact ha
  ·exact he
theorem nodeS_G {op arg:Int} {e:Tr} {ks:List Tr} (he:okG e) (hk:okGs ks):okG (nodeS op arg e ks):=by
 match ks,hk with
 | [a],hk=>
  rw [okGs] at hk
  rw [nodeS]
  repeat' split
  ·exact negS_G he hk.1
  ·exact powS_G _ he hk.1
  ·exact he
 | [a,b],hk=>
  rw [okGs,okGs] at hk
  rw [nodeS]
  split
  ·exact binS_G op he hk.1 hk.2.1
  ·exact he
 | [],_=>exact he
 | _::_::_::_,_=>exact he
mutual
theorem simT_G:∀{t:Tr},okG t→okG (simT t)
 | .mk op arg neg l m name ks,h=>by
  rw [okG] at h
  have g:=simTs_G h.2
  rw [simT]
  refine nodeS_G ?_ g
  rw [okG]
  exact ⟨by rw [simTs_len];exact h.1,g⟩
theorem simTs_G:∀{ts:List Tr},okGs ts→okGs (simTs ts)
 | [],_=>by rw [simTs,okGs];trivial
 | t::ts,h=>by
  rw [okGs] at h
  rw [simTs,okGs]
  exact ⟨simT_G h.1,simTs_G h.2⟩
end
end Go.Proofs.YtmblpmegfmgjgaaGreatDoor