/- Simplify: plain. -/
import Derived.Test.YtbgicephinomlaaGreatDoorE63
import Derived.Test.YtbgicephinomlaaGreatDoorE42
import Derived.Test.YtbgicephinomlaaGreatDoorE38
set_option linter.unusedVariables false
set_option linter.unusedSimpArgs false
namespace Go.Proofs.YtbgicephinomlaaGreatDoor
open Go Go.Vc Go.Dig
def numQ (q:Rat):Tr:=.mk 1 0 (sg q) (dg 4294967296 (nu q)) (dg 4294967296 (dn q)) [] []
def mkL (q:Rat):Tr:=if q<0 then nodeT 4 0 [numQ (-q)] else numQ q
def isNeg:Tr→Prop
 | .mk op _ _ _ _ _ _=>op=4
instance (t:Tr):Decidable (isNeg t):=by cases t;unfold isNeg;exact inferInstance
def kidT:Tr→Tr
 | .mk _ _ _ _ _ _ (k::_)=>k
 | t=>t
def negS (e a:Tr):Tr:=match litT a with
 | some v=>mkL (-v)
 | none=>if isNeg a then kidT a else e
def foldQ (op:Int) (x y:Rat):Option Rat:=if op=5 then fitO (x+y) else if op=6 then fitO (x-y) else if op=7 then fitO (x*y) else if y=0 then none else fitO (x / y)
def foldT (op:Int) (a b:Tr):Option Rat:=(litT a).bind fun x=>(litT b).bind fun y=>foldQ op x y
def addS (e a b:Tr):Tr:=if litT a=some 0 then b else if litT b=some 0 then a else if isNeg b then nodeT 6 0 [a,kidT b] else e
def subS (e a b:Tr):Tr:=if litT b=some 0 then a else if litT a=some 0 then negS (nodeT 4 0 [b]) b else if isNeg b then nodeT 5 0 [a,kidT b] else e
def mulS (e a b:Tr):Tr:=if litT a=some 0∨litT b=some 0 then mkL 0 else if litT a=some 1 then b else if litT b=some 1 then a else if litT a=some (-1) then negS (nodeT 4 0 [b]) b else e
def divS (e a b:Tr):Tr:=if litT a=some 0 then mkL 0 else if litT b=some 1 then a else e
def binS (e:Tr) (op:Int) (a b:Tr):Tr:=match foldT op a b with
 | some q=>mkL q
 | none=>if op=5 then addS e a b else if op=6 then subS e a b else if op=7 then mulS e a b else divS e a b
def powV (arg:Int) (a:Tr):Option Rat:=(litT a).bind fun x=>if arg<0∧x=0 then none else fitO (powQ x arg)
def powS (e:Tr) (arg:Int) (a:Tr):Tr:=match powV arg a with
 | some q=>mkL q
 | none=>if arg=0 then mkL 1 else if arg=1 then a else e
def nodeS (op arg:Int) (e:Tr):List Tr→Tr
 | [a]=>if op=4 then negS e a else if op=9 then powS e arg a else e
 | [a,b]=>if op=5∨op=6∨op=7∨op=8 then binS e op a b else e
 | _=>e
mutual
def simT:Tr→Tr
 | .mk op arg neg l m name ks=>nodeS op arg (.mk op arg neg l m name (simTs ks)) (simTs ks)
def simTs:List Tr→List Tr
 | []=>[]
 | t::ts=>simT t::simTs ts
end
theorem simTs_len:∀ts:List Tr,(simTs ts).length=ts.length
 | []=>rfl
 | t::ts=>by rw [simTs,List.length_cons,List.length_cons,simTs_len ts]
theorem simTs_append:∀(a b:List Tr),simTs (a++b)=simTs a++simTs b
 | [],b=>by rw [List.nil_append,simTs,List.nil_append]
 | t::a,b=>by rw [List.cons_append,simTs,simTs,simTs_append a b,List.cons_append]
/-! nodes that are right, and their sizes -/
theorem numQ_ok {d:Nat} {q:Rat} (hd:d≤30) (h0:0≤q) (hf:fits q):okT d (numQ q):=by
 unfold numQ
 rw [okT,okTs]
 refine ⟨hd,⟨rfl,by decide,by decide,rfl,?_⟩,trivial⟩
 rw [if_pos rfl]
 exact ⟨okR_dg hf,by rw [ratOf_dg];exact h0⟩
theorem fits_neg {q:Rat} (h:fits q):fits (-q):=⟨by rw [nu_neg];exact h.1,by rw [Rat.neg_den];exact h.2⟩
mutual
theorem okT_up {d d':Nat} (hd:d≤d'):∀{t:Tr},okT d' t→okT d t
 | .mk op arg neg l m name ks,h=>by
  rw [okT] at h ⊢
  exact ⟨Nat.le_trans hd h.1,h.2.1,okTs_up (Nat.add_le_add_right hd 1) h.2.2⟩
theorem okTs_up {d d':Nat} (hd:d≤d'):∀{ts:List Tr},okTs d' ts→okTs d ts
 | [],_=>by rw [okTs];trivial
 | t::ts,h=>by
  rw [okTs] at h ⊢
  exact ⟨okT_up hd h.1,okTs_up hd h.2⟩
end
theorem okT_d {d:Nat}:∀{t:Tr},okT d t→d≤30
 | .mk op arg neg l m name ks,h=>by rw [okT] at h;exact h.1
theorem node1_ok {d:Nat} {op arg:Int} {a:Tr} (hk:kidsN op=1) (h1:lowA op≤arg) (h2:arg≤highA op) (h:okT (d+1) a):okT d (nodeT op arg [a]):=by
 have hd:=okT_d h
 have hop:op≠2∧op≠1:=⟨fun e=>by rw [e] at hk;exact absurd hk (by decide),fun e=>by rw [e] at hk;exact absurd hk (by decide)⟩
 unfold nodeT
 rw [okT,okTs,okTs]
 refine ⟨by omega,⟨hk.symm,h1,h2,?_,?_⟩,h,trivial⟩
 ·rw [if_neg hop.1]
 ·rw [if_neg hop.2];simp [evl_nil]
theorem node2_ok {d:Nat} {op:Int} {a b:Tr} (hk:kidsN op=2) (h1:lowA op=0) (h2:highA op=0) (h:okT (d+1) a) (h':okT (d+1) b):okT d (nodeT op 0 [a,b]):=by
 have hd:=okT_d h
 have hop:op≠2∧op≠1:=⟨fun e=>by rw [e] at hk;exact absurd hk (by decide),fun e=>by rw [e] at hk;exact absurd hk (by decide)⟩
 unfold nodeT
 rw [okT,okTs,okTs,okTs]
 refine ⟨by omega,⟨hk.symm,by omega,by omega,?_,?_⟩,h,h',trivial⟩
 ·rw [if_neg hop.1]
 ·rw [if_neg hop.2];simp [evl_nil]
theorem mkL_ok {d:Nat} {q:Rat} (hd:d+1≤30) (hf:fits q):okT d (mkL q):=by
 unfold mkL
 split
 ·rename_i h
  refine node1_ok (by decide) (by decide) (by decide) (numQ_ok hd ?_ (fits_neg hf))
  have:=Rat.neg_lt_neg h
  rw [Rat.neg_zero] at this
  exact Rat.le_of_lt this
 ·rename_i h
  exact numQ_ok (by omega) (Rat.not_lt.1 h) hf
theorem mkL_sz (q:Rat):szT (mkL q)≤2:=by
 unfold mkL
 split
 ·unfold nodeT numQ;simp [szT,szTs]
 ·unfold numQ;simp [szT,szTs]
theorem litV_fits {d:Nat} {a:Tr} {v:Rat} (h:okT d a) (e:litT a=some v):fits v:=by
 obtain ⟨op,arg,neg,l,m,name,ks⟩:=a
 rw [okT] at h
 by_cases e1:op=1
 ·rw [litT_num e1] at e
  cases e
  have hn:=h.2.1.2.2.2.2
  rw [if_pos e1] at hn
  exact hn.1.2.2
 by_cases e4:op=4
 ·match ks,h,e with
  | .mk o a n l' m' nm ks'::us,h,e=>
   rw [litT_neg e4] at e
   split at e
   ·rename_i e1
    cases e
    have h2:=h.2.2
    rw [okTs,okT] at h2
    have hn:=h2.1.2.1.2.2.2.2
    rw [if_pos e1] at hn
    exact fits_neg hn.1.2.2
   ·cases e
  | [],h,e=>
   have:=h.2.1.1
   rw [e4] at this
   exact absurd this (by decide)
 ·rw [litT_no e1 e4] at e;cases e
theorem isNeg_kid {d:Nat} {a:Tr} (h:okT d a) (e:isNeg a):∃k neg l m name arg,a=.mk 4 arg neg l m name [k]∧kidT a=k∧okT (d+1) k∧szT a=1+szT k:=by
 obtain ⟨op,arg,neg,l,m,name,ks⟩:=a
 rw [okT] at h
 have e1:op=4:=e
 subst e1
 have hl:=h.2.1.1
 match ks,hl,h with
 | [k],_,h=>
  rw [okTs] at h
  exact ⟨k,neg,l,m,name,arg,rfl,rfl,h.2.2.1,by simp [szT,szTs]⟩
 | [],hl,_=>exact absurd hl (by decide)
 | _::_::us,hl,_=>
  have:kidsN 4=1:=by decide
  rw [this] at hl
  simp at hl
  omega
def Fit (d n:Nat) (t:Tr):Prop:=okT d t∧szT t≤n
theorem negS_fit {d:Nat} {e a:Tr} (he:okT d e) (hz:szT e=1+szT a) (ha:okT (d+1) a):Fit d (szT e) (negS e a):=by
 have hp:=szT_pos a
 unfold negS
 split
 ·rename_i v hv
  have:=mkL_sz (-v)
  exact ⟨mkL_ok (okT_d ha) (fits_neg (litV_fits ha hv)),by omega⟩
 ·split
  ·rename_i hn
   obtain ⟨k,-,-,-,-,-,-,e1,e2,e3⟩:=isNeg_kid ha hn
   rw [e1]
   exact ⟨okT_up (by omega) e2,by omega⟩
  ·exact ⟨he,Nat.le_refl _⟩
theorem foldQ_fits {op:Int} {x y r:Rat} (h:foldQ op x y=some r):fits r:=by
 unfold foldQ at h
 repeat' split at h
 all_goals first
  | (cases h;done)
  | exact fitO_fits h
theorem foldT_fits {op:Int} {a b:Tr} {r:Rat} (h:foldT op a b=some r):fits r:=by
 obtain ⟨x,-,h⟩:=Option.bind_eq_some_iff.1 h
 obtain ⟨y,-,h⟩:=Option.bind_eq_some_iff.1 h
 exact foldQ_fits h
theorem powV_fits {arg:Int} {a:Tr} {r:Rat} (h:powV arg a=some r):fits r:=by
 obtain ⟨x,-,h⟩:=Option.bind_eq_some_iff.1 h
 split at h
 ·cases h
 ·exact fitO_fits h
theorem binS_fit {d:Nat} {e a b:Tr} (op:Int) (he:okT d e) (hz:szT e=1+(szT a+szT b)) (ha:okT (d+1) a) (hb:okT (d+1) b):Fit d (szT e) (binS e op a b):=by
 have h1:=szT_pos a
 have h2:=szT_pos b
 have hd:=okT_d ha
 have lit:∀q,fits q→Fit d (szT e) (mkL q):=fun q hq=>by
  have:=mkL_sz q
  exact ⟨mkL_ok hd hq,by omega⟩
 have fa:Fit d (szT e) a:=⟨okT_up (by omega) ha,by omega⟩
 have fb:Fit d (szT e) b:=⟨okT_up (by omega) hb,by omega⟩
 have fe:Fit d (szT e) e:=⟨he,Nat.le_refl _⟩
 have fn:Fit d (szT e) (negS (nodeT 4 0 [b]) b):=by
  have e1:szT (nodeT 4 0 [b])=1+szT b:=by unfold nodeT;simp [szT,szTs]
  have:=negS_fit (node1_ok (d:=d) (op:=4) (arg:=0) (by decide) (by decide) (by decide) hb) e1 hb
  exact ⟨this.1,Nat.le_trans this.2 (by omega)⟩
 have fk:∀o,kidsN o=2→lowA o=0→highA o=0→isNeg b→Fit d (szT e) (nodeT o 0 [a,kidT b]):=fun o k1 k2 k3 hn=>by
  obtain ⟨k,-,-,-,-,-,-,e1,e2,e3⟩:=isNeg_kid hb hn
  rw [e1]
  refine ⟨node2_ok k1 k2 k3 ha (okT_up (by omega) e2),?_⟩
  unfold nodeT
  simp only [szT,szTs]
  omega
 unfold binS
 split
 ·exact lit _ (foldT_fits (by assumption))
 split
 ·unfold addS
  repeat' split
  ·exact fb
  ·exact fa
  ·exact fk 6 (by decide) (by decide) (by decide) (by assumption)
  ·exact fe
 split
 ·unfold subS
  repeat' split
  ·exact fa
  ·exact fn
  ·exact fk 5 (by decide) (by decide) (by decide) (by assumption)
  ·exact fe
 split
 ·unfold mulS
  repeat' split
  ·exact lit _ fits_zero
  ·exact fb
  ·exact fa
  ·exact fn
  ·exact fe
 ·unfold divS
  repeat' split
  ·exact lit _ fits_zero
  ·exact fa
  ·exact fe
theorem powS_fit {d:Nat} {e a:Tr} (arg:Int) (he:okT d e) (hz:szT e=1+szT a) (ha:okT (d+1) a):Fit d (szT e) (powS e arg a):=by
 have h1:=szT_pos a
 have hd:=okT_d ha
 have lit:∀q,fits q→Fit d (szT e) (mkL q):=fun q hq=>by
  have:=mkL_sz q
  exact ⟨mkL_ok hd hq,by omega⟩
 unfold powS
 split
 ·exact lit _ (powV_fits (by assumption))
 ·repeat' split
  ·exact lit _ fits_one
  ·exact ⟨okT_up (by omega) ha,by omega⟩
  ·exact ⟨he,Nat.le_refl _⟩
theorem nodeS_fit {d:Nat} {op arg:Int} {neg:Bool} {l m name:List Nat} {ks:List Tr} (h:okT d (.mk op arg neg l m name ks)):Fit d (szT (.mk op arg neg l m name ks)) (nodeS op arg (.mk op arg neg l m name ks) ks):=by
 have h':=h
 rw [okT] at h'
 have h2:=h'.2.2
 match ks,h,h2 with
 | [a],h,h2=>
  rw [okTs] at h2
  have hz:szT (.mk op arg neg l m name [a])=1+szT a:=by simp [szT,szTs]
  rw [nodeS]
  repeat' split
  ·exact negS_fit h hz h2.1
  ·exact powS_fit _ h hz h2.1
  ·exact ⟨h,Nat.le_refl _⟩
 | [a,b],h,h2=>
  rw [okTs,okTs] at h2
  have hz:szT (.mk op arg neg l m name [a,b])=1+(szT a+szT b):=by simp [szT,szTs]
  rw [nodeS]
  split
  ·exact binS_fit op h hz h2.1 h2.2.1
  ·exact ⟨h,Nat.le_refl _⟩
 | [],h,_=>exact ⟨h,Nat.le_refl _⟩
 | _::_::_::_,h,_=>exact ⟨h,Nat.le_refl _⟩
mutual
theorem simT_fit {d:Nat}:∀{t:Tr},okT d t→Fit d (szT t) (simT t)
 | .mk op arg neg l m name ks,h=>by
  rw [okT] at h
  obtain ⟨g1,g2⟩:=simTs_fit h.2.2
  have hk:okT d (.mk op arg neg l m name (simTs ks)):=by
   rw [okT]
   exact ⟨h.1,by rw [simTs_len];exact h.2.1,g1⟩
  have:=nodeS_fit hk
  rw [simT]
  refine ⟨this.1,Nat.le_trans this.2 ?_⟩
  rw [szT,szT]
  omega
theorem simTs_fit {d:Nat}:∀{ts:List Tr},okTs d ts→okTs d (simTs ts)∧szTs (simTs ts)≤szTs ts
 | [],_=>by rw [simTs,okTs];exact ⟨trivial,Nat.le_refl _⟩
 | t::ts,h=>by
  rw [okTs] at h
  have h1:=simT_fit h.1
  have h2:=simTs_fit h.2
  rw [simTs,okTs,szTs,szTs]
  exact ⟨⟨h1.1,h2.1⟩,Nat.add_le_add h1.2 h2.2⟩
end
theorem absQ_pos {q:Rat} (h:0≤q):absQ q=q:=by
 unfold absQ
 have e:sg q=false:=by
  unfold sg
  exact decide_eq_false (by have:=Rat.num_nonneg.2 h;omega)
 rw [← e]
 exact mkQ_self q
theorem absQ_neg {q:Rat} (h:¬0≤q):absQ q=-q:=by
 have h1:0≤-q:=by
  have:=Rat.neg_lt_neg (Rat.not_le.1 h)
  rw [Rat.neg_zero] at this
  exact Rat.le_of_lt this
 rw [← absQ_pos h1]
 unfold absQ
 rw [nu_neg,Rat.neg_den]
end Go.Proofs.YtbgicephinomlaaGreatDoor
/- A tree keeps its value when it is simplified: plain. -/
namespace Go.Proofs.YtbgicephinomlaaGreatDoor
open Go Go.Vc Go.Dig
theorem valT_num {vals:List (List Nat × Rat)} {arg:Int} {neg:Bool} {l m name:List Nat} {ks:List Tr}:valT vals (.mk 1 arg neg l m name ks)=some (ratOf neg l m):=by rw [valT,if_pos rfl]
theorem valT_one {vals:List (List Nat × Rat)} {op arg:Int} {neg:Bool} {l m name:List Nat} {a:Tr} (h:op≠1∧op≠2∧op≠3):valT vals (.mk op arg neg l m name [a])=(valT vals a).bind (unQ op arg):=by
 rw [valT,if_neg h.1,if_neg h.2.1,if_neg h.2.2,valTs,valTs];rfl
theorem valT_two {vals:List (List Nat × Rat)} {op arg:Int} {neg:Bool} {l m name:List Nat} {a b:Tr} (h:op≠1∧op≠2∧op≠3):valT vals (.mk op arg neg l m name [a,b])=(valT vals a).bind fun x=>(valT vals b).bind fun y=>biQ op x y:=by
 rw [valT,if_neg h.1,if_neg h.2.1,if_neg h.2.2,valTs,valTs,valTs];rfl
theorem unQ_neg (arg:Int) (q:Rat):unQ 4 arg q=fitO (-q):=if_pos rfl
theorem fitO_eq {q r:Rat} (h:fitO q=some r):q=r:=by
 unfold fitO at h
 split at h
 ·exact Option.some.inj h
 ·cases h
theorem litV_val {vals:List (List Nat × Rat)} {d:Nat} {a:Tr} {v:Rat} (h:okT d a) (e:litT a=some v):valT vals a=some v:=by
 have hf:=litV_fits h e
 obtain ⟨op,arg,neg,l,m,name,ks⟩:=a
 by_cases e1:op=1
 ·rw [litT_num e1] at e
  subst e1
  cases e
  exact valT_num
 by_cases e4:op=4
 ·subst e4
  rw [okT] at h
  match ks,h,e with
  | [],h,_=>exact absurd h.2.1.1 (by decide)
  | [.mk o a n l' m' nm ks'],h,e=>
   rw [litT_neg rfl] at e
   split at e
   ·rename_i e1
    subst e1
    cases e
    rw [valT_one (by decide),valT_num]
    exact (unQ_neg _ _).trans (if_pos hf)
   ·cases e
  | .mk o a n l' m' nm ks'::y::us,h,e=>
   have h1:=h.2.1.1
   rw [show kidsN 4=1 by decide] at h1
   simp at h1
   omega
 ·rw [litT_no e1 e4] at e;cases e
theorem numQ_val {vals:List (List Nat × Rat)} (q:Rat):valT vals (numQ q)=some q:=by
 unfold numQ
 rw [valT_num,ratOf_dg]
theorem mkL_val {vals:List (List Nat × Rat)} {q:Rat} (hf:fits q):valT vals (mkL q)=some q:=by
 unfold mkL
 split
 ·unfold nodeT
  rw [valT_one (by decide),numQ_val]
  show unQ 4 0 (-q)=some q
  rw [unQ_neg,Rat.neg_neg]
  exact if_pos hf
 ·exact numQ_val q
theorem biQ_five (x y:Rat):biQ 5 x y=fitO (x+y):=if_pos rfl
theorem biQ_six (x y:Rat):biQ 6 x y=fitO (x-y):=(if_neg (by decide)).trans (if_pos rfl)
theorem biQ_fold {op:Int} (h:op=5∨op=6∨op=7∨op=8) (x y:Rat):biQ op x y=foldQ op x y:=by
 unfold biQ foldQ
 rcases h with rfl|rfl|rfl|rfl <;> rfl
theorem unQ_pow (arg:Int) (q:Rat):unQ 9 arg q=if arg<0∧q=0 then none else fitO (powQ q arg):=(if_neg (by decide)).trans (if_pos rfl)
theorem comb_mono {op arg:Int} {q:Rat}:∀{xs ys:List (Option Rat)},(xs.length=ys.length∧∀(i:Nat) v,xs[i]?=some (some v)→ys[i]?=some (some v))→combQ op arg xs=some q→combQ op arg ys=some q
 | [a],[b],⟨_,h⟩,e=>by
  obtain ⟨x,h1,h2⟩:=Option.bind_eq_some_iff.1 e
  have:=h 0 x (by rw [h1];rfl)
  simp at this
  rw [this]
  exact h2
 | [a,b],[c,d],⟨_,h⟩,e=>by
  obtain ⟨x,h1,h2⟩:=Option.bind_eq_some_iff.1 e
  obtain ⟨y,h3,h4⟩:=Option.bind_eq_some_iff.1 h2
  have g1:=h 0 x (by rw [h1];rfl)
  have g2:=h 1 y (by rw [h3];rfl)
  simp at g1 g2
  rw [g1,g2]
  exact h4
 | [a,b,c],[a',b',c'],⟨_,h⟩,e=>by
  obtain ⟨x,h1,h2⟩:=Option.bind_eq_some_iff.1 e
  have g1:=h 0 x (by rw [h1];rfl)
  simp at g1
  rw [g1]
  show (if 0≤x then b' else c')=some q
  split at h2
  ·rename_i z
   have g2:=h 1 q (by rw [h2];rfl)
   simp at g2
   rw [if_pos z,g2]
  ·rename_i z
   have g2:=h 2 q (by rw [h2];rfl)
   simp at g2
   rw [if_neg z,g2]
 | [],_,_,e=>by cases e
 | _::_::_::_::_,_,_,e=>by simp only [combQ] at e;cases e
 | [_],[],⟨h,_⟩,_=>by simp at h
 | [_],_::_::_,⟨h,_⟩,_=>by simp at h
 | [_,_],[],⟨h,_⟩,_=>by simp at h
 | [_,_],[_],⟨h,_⟩,_=>by simp at h
 | [_,_],_::_::_::_,⟨h,_⟩,_=>by simp at h
 | [_,_,_],[],⟨h,_⟩,_=>by simp at h
 | [_,_,_],[_],⟨h,_⟩,_=>by simp at h
 | [_,_,_],[_,_],⟨h,_⟩,_=>by simp at h
 | [_,_,_],_::_::_::_::_,⟨h,_⟩,_=>by simp at h
section
variable {vals:List (List Nat × Rat)} (hv:∀b∈vals,fits b.2)
include hv
theorem negS_val {d:Nat} {e a:Tr} {q:Rat} (he:valT vals e=(valT vals a).bind (unQ 4 0)) (ha:okT d a) (h:valT vals e=some q):valT vals (negS e a)=some q:=by
 have _:=hv
 unfold negS
 split
 ·rename_i v hl
  rw [he,litV_val ha hl] at h
  have h2:fitO (-v)=some q:=(unQ_neg 0 v).symm.trans h
  rw [mkL_val (fits_neg (litV_fits ha hl)),fitO_eq h2]
 ·split
  ·rename_i hn
   obtain ⟨k,neg,l,m,name,arg,e1,e2,e3,-⟩:=isNeg_kid ha hn
   rw [e2]
   rw [he,e1,valT_one (by decide)] at h
   obtain ⟨x,h1,h2⟩:=Option.bind_eq_some_iff.1 h
   obtain ⟨y,h3,h4⟩:=Option.bind_eq_some_iff.1 h1
   rw [unQ_neg] at h2 h4
   rw [h3,← fitO_eq h2,← fitO_eq h4,Rat.neg_neg]
  ·exact h
theorem negS_val' {d:Nat} {b:Tr} {q:Rat} (hb:okT d b) (h:(valT vals b).bind (fun y=>fitO (-y))=some q):valT vals (negS (nodeT 4 0 [b]) b)=some q:=by
 have e:valT vals (nodeT 4 0 [b])=(valT vals b).bind (unQ 4 0):=by unfold nodeT;exact valT_one (by decide)
 exact negS_val hv e hb (e.trans h)
theorem binS_val {d:Nat} {e a b:Tr} {op:Int} {q:Rat} (hop:op=5∨op=6∨op=7∨op=8) (he:valT vals e=(valT vals a).bind fun x=>(valT vals b).bind fun y=>biQ op x y) (ha:okT d a) (hb:okT d b) (h:valT vals e=some q):valT vals (binS e op a b)=some q:=by
 have h0:=h
 rw [he] at h
 obtain ⟨x,hx,h⟩:=Option.bind_eq_some_iff.1 h
 obtain ⟨y,hy,h⟩:=Option.bind_eq_some_iff.1 h
 rw [biQ_fold hop] at h
 have fx:=valT_fits hv a d ha x hx
 have fy:=valT_fits hv b d hb y hy
 have la:∀v,litT a=some v→x=v:=fun v w=>Option.some.inj (hx.symm.trans (litV_val ha w))
 have lb:∀v,litT b=some v→y=v:=fun v w=>Option.some.inj (hy.symm.trans (litV_val hb w))
 have kb:isNeg b→∃z,valT vals (kidT b)=some z∧y=-z:=fun hn=>by
  obtain ⟨k,neg,l,m,name,arg,e1,e2,e3,-⟩:=isNeg_kid hb hn
  rw [e2]
  rw [e1,valT_one (by decide)] at hy
  obtain ⟨z,h1,h2⟩:=Option.bind_eq_some_iff.1 hy
  rw [unQ_neg] at h2
  exact ⟨z,h1,(fitO_eq h2).symm⟩
 unfold binS
 split
 ·rename_i r hr
  obtain ⟨u,h1,hr⟩:=Option.bind_eq_some_iff.1 hr
  obtain ⟨v,h2,hr⟩:=Option.bind_eq_some_iff.1 hr
  rw [← la u h1,← lb v h2,h] at hr
  cases hr
  exact mkL_val (foldQ_fits h)
 clear he
 have fq:fits q:=foldQ_fits h
 rcases hop with rfl|rfl|rfl|rfl
 ·rw [if_pos rfl]
  have h:x+y=q:=fitO_eq h
  unfold addS
  repeat' split
  ·rename_i z;rw [hy,← h,la _ z,Rat.zero_add]
  ·rename_i z;rw [hx,← h,lb _ z,Rat.add_zero]
  ·rename_i hn
   obtain ⟨z,h1,h2⟩:=kb hn
   unfold nodeT
   rw [valT_two (by decide),hx,h1]
   show biQ 6 x z=some q
   rw [biQ_six,show x-z=q by rw [← h,h2,Rat.sub_eq_add_neg]]
   exact if_pos fq
  ·exact h0
 ·rw [if_neg (by decide),if_pos rfl]
  have h:x-y=q:=fitO_eq h
  unfold subS
  repeat' split
  ·rename_i z;rw [hx,← h,lb _ z,Rat.sub_eq_add_neg,Rat.neg_zero,Rat.add_zero]
  ·rename_i z
   refine negS_val' hv hb ?_
   rw [hy,Option.bind_some,show -y=q by rw [← h,la _ z,Rat.sub_eq_add_neg,Rat.zero_add]]
   exact if_pos fq
  ·rename_i hn
   obtain ⟨z,h1,h2⟩:=kb hn
   unfold nodeT
   rw [valT_two (by decide),hx,h1]
   show biQ 5 x z=some q
   rw [biQ_five,show x+z=q by rw [← h,h2,Rat.sub_eq_add_neg,Rat.neg_neg]]
   exact if_pos fq
  ·exact h0
 ·rw [if_neg (by decide),if_neg (by decide),if_pos rfl]
  have h:x*y=q:=fitO_eq h
  unfold mulS
  repeat' split
  ·rename_i z
   have:q=0:=by
    rw [← h]
    rcases z with z|z
    ·rw [la _ z,Rat.zero_mul]
    ·rw [lb _ z,Rat.mul_zero]
   rw [this]
   exact mkL_val fits_zero
  ·rename_i z;rw [hy,← h,la _ z,Rat.one_mul]
  ·rename_i z;rw [hx,← h,lb _ z,Rat.mul_one]
  ·rename_i z
   refine negS_val' hv hb ?_
   rw [hy,Option.bind_some,show -y=q by rw [← h,la _ z,Rat.neg_mul,Rat.one_mul]]
   exact if_pos fq
  ·exact h0
 ·rw [if_neg (by decide),if_neg (by decide),if_neg (by decide)]
  have h:(if y=0 then none else fitO (x / y))=some q:=h
  split at h
  ·cases h
  have h:x / y=q:=fitO_eq h
  unfold divS
  repeat' split
  ·rename_i z
   rw [show q=0 by rw [← h,la _ z,Rat.div_def,Rat.zero_mul]]
   exact mkL_val fits_zero
  ·rename_i z;rw [hx,← h,lb _ z,Rat.div_def,show (1:Rat)⁻¹=1 by decide +kernel,Rat.mul_one]
  ·exact h0
theorem powS_val {d:Nat} {e a:Tr} {arg:Int} {q:Rat} (he:valT vals e=(valT vals a).bind (unQ 9 arg)) (ha:okT d a) (h:valT vals e=some q):valT vals (powS e arg a)=some q:=by
 have _:=hv
 have h0:=h
 rw [he] at h
 obtain ⟨x,hx,h⟩:=Option.bind_eq_some_iff.1 h
 rw [unQ_pow] at h
 unfold powS
 split
 ·rename_i r hr
  obtain ⟨u,h1,hr⟩:=Option.bind_eq_some_iff.1 hr
  rw [← Option.some.inj (hx.symm.trans (litV_val ha h1)),h] at hr
  cases hr
  split at h
  ·cases h
  ·exact mkL_val (fitO_fits h)
 ·split at h
  ·cases h
  have h:=fitO_eq h
  repeat' split
  ·rename_i e1
   rw [← h,e1,show powQ x 0=1 by unfold powQ;rw [if_neg (by decide)];exact Rat.pow_zero _]
   exact mkL_val fits_one
  ·rename_i e1
   rw [hx,← h,e1]
   refine congrArg some ?_
   unfold powQ
   rw [if_neg (by decide),show (1:Int).toNat=0+1 from rfl,Rat.pow_succ,Rat.pow_zero,Rat.one_mul]
  ·exact h0
theorem nodeS_val {d:Nat} {op arg:Int} {neg:Bool} {l m name:List Nat} {ks:List Tr} {q:Rat} (h:okT d (.mk op arg neg l m name ks)) (e:valT vals (.mk op arg neg l m name ks)=some q):valT vals (nodeS op arg (.mk op arg neg l m name ks) ks)=some q:=by
 have h':=h
 rw [okT] at h'
 have h2:=h'.2.2
 match ks,h,h2,h',e with
 | [a],h,h2,h',e=>
  rw [okTs] at h2
  rw [nodeS]
  split
  ·rename_i e1
   have ea:arg=0:=by
    have h3:=h'.2.1.2.1
    have h4:=h'.2.1.2.2.1
    rw [e1] at h3 h4
    rw [show lowA 4=0 by decide] at h3
    rw [show highA 4=0 by decide] at h4
    omega
   exact negS_val hv (by rw [valT_one (by omega),e1,ea]) h2.1 e
  split
  ·rename_i e1 e2
   exact powS_val hv (by rw [valT_one (by omega),e2]) h2.1 e
  ·exact e
 | [a,b],h,h2,h',e=>
  rw [okTs,okTs] at h2
  rw [nodeS]
  split
  ·rename_i e1
   exact binS_val hv e1 (valT_two (by omega)) h2.1 h2.2.1 e
  ·exact e
 | [],h,_,_,e=>exact e
 | _::_::_::_,h,_,_,e=>exact e
mutual
theorem simT_value {d:Nat}:∀{t:Tr},okT d t→∀q,valT vals t=some q→valT vals (simT t)=some q
 | .mk op arg neg l m name ks,h,q,e=>by
  rw [okT] at h
  have g1:=(simTs_fit h.2.2).1
  have hk:okT d (.mk op arg neg l m name (simTs ks)):=by
   rw [okT]
   exact ⟨h.1,by rw [simTs_len];exact h.2.1,g1⟩
  rw [simT]
  refine nodeS_val hv hk ?_
  rw [valT] at e ⊢
  split at e
  ·rename_i e1;rw [if_pos e1];exact e
  rename_i e1
  rw [if_neg e1]
  split at e
  ·rename_i e2;rw [if_pos e2];exact e
  rename_i e2
  rw [if_neg e2]
  split at e
  ·cases e
  rename_i e3
  rw [if_neg e3]
  exact comb_mono ⟨(simTs_value h.2.2).1,(simTs_value h.2.2).2⟩ e
theorem simTs_value {d:Nat}:∀{ts:List Tr},okTs d ts→(valTs vals ts).length=(valTs vals (simTs ts)).length∧∀(i:Nat) v,(valTs vals ts)[i]?=some (some v)→(valTs vals (simTs ts))[i]?=some (some v)
 | [],_=>by rw [simTs];exact ⟨rfl,fun i v h=>h⟩
 | t::ts,h=>by
  have _:=hv
  rw [okTs] at h
  have h1:=fun q=>simT_value h.1 q
  have h2:=simTs_value h.2
  rw [simTs,valTs,valTs]
  refine ⟨by simp [h2.1],fun i v e=>?_⟩
  cases i with
  | zero=>
   simp at e ⊢
   exact h1 v e
  | succ i=>
   simp at e ⊢
   exact h2.2 i v e
end
end
end Go.Proofs.YtbgicephinomlaaGreatDoor
/- Values of trees in which literals stand for variables, of copies, of resolved case distinctions: plain. -/
namespace Go.Proofs.YtbgicephinomlaaGreatDoor
open Go Go.Vc Go.Dig
def litsB (vals:List (List Nat × Rat)):List (List Nat × Tr):=vals.map fun b=>(b.1,mkL b.2)
theorem findB_lits {name:List Nat}:∀{vals:List (List Nat × Rat)},findB (litsB vals) name=(findB vals name).map mkL
 | []=>rfl
 | (n,q)::l=>by
  show (if n=name then some (mkL q) else findB (litsB l) name)=_
  rw [findB]
  split
  ·rfl
  ·exact findB_lits
theorem valT_congr {vals vals':List (List Nat × Rat)} {op arg:Int} {neg neg':Bool} {l l' m m' name name':List Nat} {ks ks':List Tr} (h:op≠1∧op≠2) (e:valTs vals ks=valTs vals' ks'):valT vals (.mk op arg neg l m name ks)=valT vals' (.mk op arg neg' l' m' name' ks'):=by
 rw [valT,valT,if_neg h.1,if_neg h.1,if_neg h.2,if_neg h.2,e]
theorem kids0 {d:Nat} {op arg:Int} {neg:Bool} {l m name:List Nat} {ks:List Tr} (h:okT d (.mk op arg neg l m name ks)) (e:kidsN op=0):ks=[]:=by
 rw [okT] at h
 have:=h.2.1.1
 rw [e] at this
 exact List.length_eq_zero_iff.1 (by omega)
section
variable {vals:List (List Nat × Rat)} (hv:∀b∈vals,fits b.2)
include hv
mutual
theorem rpl_val {d:Nat}:∀{t:Tr},okT d t→valT [] (rplT (byM (litsB vals)) t)=valT vals t
 | .mk op arg neg l m name ks,h=>by
  by_cases o:op=2
  ·have e0:=kids0 h (by rw [o];decide)
   have hm:byM (litsB vals) (.mk op arg neg l m name ks)=(findB vals name).map mkL:=(if_pos o).trans findB_lits
   have hr:valT vals (.mk op arg neg l m name ks)=findB vals name:=by rw [valT,if_neg (by omega),if_pos o]
   rw [hr]
   cases hf:findB vals name with
   | some q=>rw [rplT_some (hm.trans (by rw [hf];rfl)),mkL_val (findB_fits hv hf)]
   | none=>rw [rplT_none (hm.trans (by rw [hf];rfl)),valT,if_neg (by omega),if_pos o];rfl
  ·rw [rplT_none (show byM (litsB vals) (.mk op arg neg l m name ks)=none from if_neg o)]
   by_cases o1:op=1
   ·rw [valT,valT,if_pos o1,if_pos o1]
   ·rw [okT] at h
    exact valT_congr ⟨o1,o⟩ (rpls_val h.2.2)
theorem rpls_val {d:Nat}:∀{ts:List Tr},okTs d ts→valTs [] (rplTs (byM (litsB vals)) ts)=valTs vals ts
 | [],_=>by rw [rplTs,valTs,valTs]
 | t::ts,h=>by
  have _:=hv
  rw [okTs] at h
  rw [rplTs,valTs,valTs,rpl_val h.1,rpls_val h.2]
end
end
mutual
theorem clone_val {vals:List (List Nat × Rat)} {d:Nat}:∀{t:Tr},okT d t→valT vals (cloneT t)=valT vals t
 | .mk op arg neg l m name ks,h=>by
  have h':=h
  rw [okT] at h
  have hk:=clones_val (vals:=vals) h.2.2
  rw [cloneT]
  by_cases o1:op=1
  ·have hn:=h.2.1.2.2.2.2
   rw [if_pos o1] at hn
   rw [if_pos o1,valT,valT,if_pos o1,if_pos o1,ratOf_dg,canQ,if_pos hn.1]
  ·rw [if_neg o1]
   by_cases o:op=2
   ·rw [valT,valT,if_neg o1,if_neg o1,if_pos o,if_pos o]
   ·exact valT_congr ⟨o1,o⟩ hk
theorem clones_val {vals:List (List Nat × Rat)} {d:Nat}:∀{ts:List Tr},okTs d ts→valTs vals (cloneTs ts)=valTs vals ts
 | [],_=>by rw [cloneTs]
 | t::ts,h=>by
  rw [okTs] at h
  rw [cloneTs,valTs,valTs,clone_val h.1,clones_val h.2]
end
section
variable {vals:List (List Nat × Rat)} (hv:∀b∈vals,fits b.2)
include hv
end
end Go.Proofs.YtbgicephinomlaaGreatDoor
/- Simplify, plain, of trees of any depth. -/
namespace Go.Proofs.YtbgicephinomlaaGreatDoor
open Go Go.Vc Go.Dig
theorem litV_fitsG {a:Tr} {v:Rat} (h:okG a) (e:litT a=some v):fits v:=by
 obtain ⟨op,arg,neg,l,m,name,ks⟩:=a
 rw [okG] at h
 by_cases e1:op=1
 ·rw [litT_num e1] at e
  cases e
  have hn:=h.1.2.2.2.2
  rw [if_pos e1] at hn
  exact hn.1.2.2
 by_cases e4:op=4
 ·match ks,h,e with
  | .mk o a n l' m' nm ks'::us,h,e=>
   rw [litT_neg e4] at e
   split at e
   ·rename_i e1
    cases e
    have h2:=h.2
    rw [okGs,okG] at h2
    have hn:=h2.1.1.2.2.2.2
    rw [if_pos e1] at hn
    exact fits_neg hn.1.2.2
   ·cases e
  | [],h,e=>
   have:=h.1.1
   rw [e4] at this
   exact absurd this (by decide)
 ·rw [litT_no e1 e4] at e;cases e
theorem isNeg_kidG {a:Tr} (h:okG a) (e:isNeg a):∃k neg l m name arg,a=.mk 4 arg neg l m name [k]∧kidT a=k∧okG k:=by
 obtain ⟨op,arg,neg,l,m,name,ks⟩:=a
 rw [okG] at h
 have e1:op=4:=e
 subst e1
 have hl:=h.1.1
 match ks,hl,h with
 | [k],_,h=>
  rw [okGs] at h
  exact ⟨k,neg,l,m,name,arg,rfl,rfl,h.2.1⟩
 | [],hl,_=>exact absurd hl (by decide)
 | _::_::us,hl,_=>
  have:kidsN 4=1:=by decide
  rw [this] at hl
  simp at hl
  omega
theorem node1_G {op arg:Int} {a:Tr} (hk:kidsN op=1) (h1:lowA op≤arg) (h2:arg≤highA op) (h:okG a):okG (nodeT op arg [a]):=by
 have hop:op≠2∧op≠1:=⟨fun e=>by rw [e] at hk;exact absurd hk (by decide),fun e=>by rw [e] at hk;exact absurd hk (by decide)⟩
 unfold nodeT
 rw [okG,okGs,okGs]
 refine ⟨⟨hk.symm,h1,h2,?_,?_⟩,h,trivial⟩
 ·rw [if_neg hop.1]
 ·rw [if_neg hop.2];simp [evl_nil]
theorem node2_G {op:Int} {a b:Tr} (hk:kidsN op=2) (h1:lowA op=0) (h2:highA op=0) (h:okG a) (h':okG b):okG (nodeT op 0 [a,b]):=by
 have hop:op≠2∧op≠1:=⟨fun e=>by rw [e] at hk;exact absurd hk (by decide),fun e=>by rw [e] at hk;exact absurd hk (by decide)⟩
 unfold nodeT
 rw [okG,okGs,okGs,okGs]
 refine ⟨⟨hk.symm,by omega,by omega,?_,?_⟩,h,h',trivial⟩
 ·rw [if_neg hop.1]
 ·rw [if_neg hop.2];simp [evl_nil]
theorem mkL_G {q:Rat} (hf:fits q):okG (mkL q):=okG_of (d:=0) (mkL_ok (by decide) hf)
theorem negS_G {e a:Tr} (he:okG e) (ha:okG a):okG (negS e a):=by
 unfold negS
 split
 ·exact mkL_G (fits_neg (litV_fitsG ha (by assumption)))
 ·split
  ·obtain ⟨k,-,-,-,-,-,-,e1,e2⟩:=isNeg_kidG ha (by assumption)
   rw [e1]
   exact e2
  ·exact he
theorem binS_G {e a b:Tr} (op:Int) (he:okG e) (ha:okG a) (hb:okG b):okG (binS e op a b):=by
 have fn:okG (negS (nodeT 4 0 [b]) b):=negS_G (node1_G (by decide) (by decide) (by decide) hb) hb
 have fk:∀o,kidsN o=2→lowA o=0→highA o=0→isNeg b→okG (nodeT o 0 [a,kidT b]):=fun o k1 k2 k3 hn=>by
  obtain ⟨k,-,-,-,-,-,-,e1,e2⟩:=isNeg_kidG hb hn
  rw [e1]
  exact node2_G k1 k2 k3 ha e2
 unfold binS
 split
 ·exact mkL_G (foldT_fits (by assumption))
 split
 ·unfold addS
  repeat' split
  ·exact hb
  ·exact ha
  ·exact fk 6 (by decide) (by decide) (by decide) (by assumption)
  ·exact he
 split
 ·unfold subS
  repeat' split
  ·exact ha
  ·exact fn
  ·exact fk 5 (by decide) (by decide) (by decide) (by assumption)
  ·exact he
 split
 ·unfold mulS
  repeat' split
  ·exact mkL_G fits_zero
  ·exact hb
  ·exact ha
  ·exact fn
  ·exact he
 ·unfold divS
  repeat' split
  ·exact mkL_G fits_zero
  ·exact ha
  ·exact he
theorem powS_G {e a:Tr} (arg:Int) (he:okG e) (ha:okG a):okG (powS e arg a):=by
 unfold powS
 split
 ·exact mkL_G (powV_fits (by assumption))
 ·repeat' split
  ·exact mkL_G fits_one
  ·exact ha
  ·exact he
theorem nodeS_G {op arg:Int} {e:Tr} {ks:List Tr} (he:okG e) (hk:okGs ks):okG (nodeS op arg e ks):=by
 match ks,hk with
 | [a],hk=>
  rw [okGs] at hk
  rw [nodeS]
  repeat' split
  ·exact negS_G he hk.1
  ·exact powS_G _ he hk.1
  ·exact he
 | [a,b],hk=>
  rw [okGs,okGs] at hk
  rw [nodeS]
  split
  ·exact binS_G op he hk.1 hk.2.1
  ·exact he
 | [],_=>exact he
 | _::_::_::_,_=>exact he
mutual
theorem simT_G:∀{t:Tr},okG t→okG (simT t)
 | .mk op arg neg l m name ks,h=>by
  rw [okG] at h
  have g:=simTs_G h.2
  rw [simT]
  refine nodeS_G ?_ g
  rw [okG]
  exact ⟨by rw [simTs_len];exact h.1,g⟩
theorem simTs_G:∀{ts:List Tr},okGs ts→okGs (simTs ts)
 | [],_=>by rw [simTs,okGs];trivial
 | t::ts,h=>by
  rw [okGs] at h
  rw [simTs,okGs]
  exact ⟨simT_G h.1,simTs_G h.2⟩
end
end Go.Proofs.YtbgicephinomlaaGreatDoor