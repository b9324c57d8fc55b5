/- Periods: plain. -/
import Derived.Test.YtmblpmegfmgjgaaGreatDoorE38
import Derived.Test.YtmblpmegfmgjgaaGreatDoorE37
import Derived.Test.YtmblpmegfmgjgaaGreatDoorE23
set_option linter.unusedVariables false
set_option linter.unusedSimpArgs false
set_option maxHeartbeats 1000000
set_option maxRecDepth 20000
namespace Go.Proofs.YtmblpmegfmgjgaaGreatDoor
open Go Go.Vc Go.Dig
mutual
def hasT (nm:List Nat):Tr→Bool
 | .mk op _ _ _ _ name ks=>decide (op=2∧name=nm) || hasTs nm ks
def hasTs (nm:List Nat):List Tr→Bool
 | []=>false
 | t::ts=>hasT nm t || hasTs nm ts
end
def litT:Tr→Option Rat
 | .mk op _ neg l m _ ks=>if op=1 then some (ratOf neg l m) else if op=4 then (match ks with
   | .mk op' _ neg' l' m' _ _::_=>if op'=1 then some (-(ratOf neg' l' m')) else none
   | []=>none) else none
def intL (t:Tr):Bool:=match litT t with|some q=>decide (q.den=1)|none=>false
def linF (nm:List Nat):Nat→Tr→Bool
 | 0,_=>false
 | f+1,.mk op _ _ _ _ name ks=>if op=2 then decide (name=nm) else if op=4 then linF nm f (ks.getD 0 zeroT) else
   if op=5∨op=6 then (linF nm f (ks.getD 0 zeroT) || linF nm f (ks.getD 1 zeroT)) && (linF nm f (ks.getD 0 zeroT) || !hasT nm (ks.getD 0 zeroT)) && (linF nm f (ks.getD 1 zeroT) || !hasT nm (ks.getD 1 zeroT)) else
   if op=7 then (intL (ks.getD 0 zeroT) && linF nm f (ks.getD 1 zeroT)) || (intL (ks.getD 1 zeroT) && linF nm f (ks.getD 0 zeroT)) else false
def linT (nm:List Nat) (t:Tr):Bool:=linF nm (szT t) t
mutual
def perP (nm:List Nat):Tr→Bool
 | .mk op arg _ _ _ name ks=>if op=2 then decide (name≠nm) else if op=11∧3≤arg∧arg≤5∧linT nm (ks.getD 0 zeroT)=true then true else perPs nm ks
def perPs (nm:List Nat):List Tr→Bool
 | []=>true
 | t::ts=>perP nm t && perPs nm ts
end
mutual
def perR (nm:List Nat):Bool→Tr→Bool
 | w,.mk op arg _ _ _ name ks=>if op=2∧name=nm then w else perRs nm (if op=11∧3≤arg∧arg≤5 then linT nm (ks.getD 0 zeroT) else w) ks
def perRs (nm:List Nat):Bool→List Tr→Bool
 | _,[]=>true
 | w,t::ts=>perR nm w t && perRs nm w ts
end
theorem ks_one {op:Int} {ks:List Tr} (h:(ks.length:Int)=kidsN op) (hk:kidsN op=1):ks=[ks.getD 0 zeroT]:=by
 match ks,h with
 | [a],_=>rfl
 | [],h=>simp at h;omega
 | _::_::_,h=>simp at h;omega
end Go.Proofs.YtmblpmegfmgjgaaGreatDoor
/- Subst: plain. -/
namespace Go.Proofs.YtmblpmegfmgjgaaGreatDoor
open Go Go.Vc Go.Dig
def NmsB {α:Type} (bs:List (List Nat × α)):Prop:=(∀b∈bs,IsNm b.1)∧(bs.map (·.1)).Nodup
def ValB (bs:List (List Nat × Tr)):Prop:=∀b∈bs,ValT b.2
instance {α:Type} (bs:List (List Nat × α)):Decidable (NmsB bs):=by unfold NmsB;exact inferInstance
instance (bs:List (List Nat × Tr)):Decidable (ValB bs):=by unfold ValB;exact inferInstance
def substX (bs:List (List Nat × Tr)) (t:Tr):Tr × Nat:=if ¬(ValT t∧ValB bs) then (zeroT,40) else if ¬NmsB bs then (zeroT,41) else chkdT (rplT (byR bs) t)
def substY (bs:List (List Nat × Tr)) (t:Tr):Tr × Nat:=if ¬(ValT t∧ValB bs) then (zeroT,40) else if ¬NmsB bs then (zeroT,41) else if ValT (rplT (byR bs) t) then (rplT (byR bs) t,0) else (zeroT,4)
end Go.Proofs.YtmblpmegfmgjgaaGreatDoor
/- A range over the nodes of a tree: the iterator's contract; has, smooth. -/
namespace Go.Proofs.YtmblpmegfmgjgaaGreatDoor
open Go Go.Vc Go.Dig Go.RowKit Go.Shelf
attribute [local go_sem] Oper.semAt_some
end Go.Proofs.YtmblpmegfmgjgaaGreatDoor
/- Literals of a tree, on both sides; Has. -/
namespace Go.Proofs.YtmblpmegfmgjgaaGreatDoor
open Go Go.Vc Go.Dig
theorem litT_num {arg:Int} {op:Int} {neg:Bool} {l m name:List Nat} {ks:List Tr} (h:op=1):litT (.mk op arg neg l m name ks)=some (ratOf neg l m):=by
 unfold litT;dsimp only;rw [if_pos h]
theorem litT_neg {arg op:Int} {neg:Bool} {l m name:List Nat} {op0 arg0:Int} {neg0:Bool} {l0 m0 name0:List Nat} {ks0 ks:List Tr} (h:op=4):litT (.mk op arg neg l m name (.mk op0 arg0 neg0 l0 m0 name0 ks0::ks))=if op0=1 then some (-(ratOf neg0 l0 m0)) else none:=by
 unfold litT;dsimp only;rw [if_neg (by omega),if_pos h]
theorem litT_no {arg op:Int} {neg:Bool} {l m name:List Nat} {ks:List Tr} (h1:op≠1) (h4:op≠4):litT (.mk op arg neg l m name ks)=none:=by
 unfold litT;dsimp only;rw [if_neg h1,if_neg h4]
theorem sz_neg' {k:Nat} {q:Rat} (h:Sz k q):Sz k (-q):=by
 refine ⟨?_,?_⟩
 ·have:nu (-q)=nu q:=by unfold nu;rw [Rat.neg_num,Int.natAbs_neg]
  rw [this];exact h.num
 ·have:(-q).den=q.den:=Rat.neg_den q
  rw [this];exact h.den
theorem isFr_neg {h:Heap} {a b:Sl} {q:Rat} (w:IsFr h a b q):IsFr h a b (-q):=by
 refine ⟨?_,?_⟩
 ·have:nu (-q)=nu q:=by unfold nu;rw [Rat.neg_num,Int.natAbs_neg]
  rw [this];exact w.num
 ·have:(-q).den=q.den:=Rat.neg_den q
  rw [this];exact w.den
theorem isQ_neg {h:Heap} {a b:Sl} {q:Rat} (w:IsQ h a b q):IsQ h a b (-q):=by
 refine ⟨?_,?_⟩
 ·have:nu (-q)=nu q:=by unfold nu;rw [Rat.neg_num,Int.natAbs_neg]
  rw [this];exact w.num
 ·have:(-q).den=q.den:=Rat.neg_den q
  rw [this];exact w.den
theorem LdN.part3 {h h':Heap} {L:Vc.Own} {bl off o:Nat} {ws:List Value} {x y z:Value} {k:Value→Prop} (hc:∀(i:Nat) v,h.le h'→ws[i]?=some v→Has h' L ⟨bl,off+i,none⟩ v) (hl:h.le h') (h0:ws[o]?=some x)
  (h1:ws[o+1]?=some y) (h2:ws[o+2]?=some z) (hk:k (.agg #[x,y,z])):LdN h' L ⟨bl,off+o,none⟩ 3 k:=
 ⟨[x,y,z],rfl,fun i hi=>by
   rw [add_lit,Nat.add_assoc]
   match i,hi with
   | 0,_=>exact hc _ _ hl h0
   | 1,_=>exact hc _ _ hl h1
   | 2,_=>exact hc _ _ hl h2,hk⟩
theorem IsK.kidP {h:Heap} {s:Sl} {ts:List Tr} (w:IsK h s ts) (j:Nat) (t:Tr) (ht:ts[j]?=some t):
  ∃(bl off:Nat) (op arg:Int) (neg:Bool) (a b:Sl) (name:List Nat) (s':Sl),IsE h [.int .i64 op,.int .i64 arg,.bool neg,a.val,b.val,.string (txt name),s'.val] t∧
   (∀h' (L:Vc.Own) (i:Nat) v,h.le h'→[.int .i64 op,.int .i64 arg,.bool neg,a.val,b.val,.string (txt name),s'.val][i]?=some v→Has h' L ⟨bl,off+i,none⟩ v)∧
   (∀h' (L:Vc.Own) (k':Value→Prop),h.le h'→k' (.agg #[.bool neg,a.val,b.val])→LdN h' L ⟨bl,off+2,none⟩ 3 k')∧
   ∀(i:Int) (k:Addr→Prop),i=j→k ⟨bl,off,none⟩→Idx s.a i s.l 7 k:=by
 obtain ⟨hj,-⟩:=List.getElem?_eq_some_iff.1 ht
 rcases w.mem with e|⟨bl,off,c,T,fz,e1,e2,e3⟩
 ·subst e;simp at ht
 ·obtain ⟨vs,h1,h2,h3⟩:=IsKs.get e3 ht
  obtain ⟨op,arg,neg,l,m,name,ks⟩:=t
  have h3':=h3
  rw [IsE] at h3
  obtain ⟨a,b,s',rfl,-⟩:=h3
  have hc:∀h' (L:Vc.Own) (i:Nat) v,h.le h'→[.int .i64 op,.int .i64 arg,.bool neg,a.val,b.val,.string (txt name),s'.val][i]?=some v→Has h' L ⟨bl,off+j*7+i,none⟩ v:=fun h' L i v hl hv=>by
   have hi7:i<7:=(List.getElem?_eq_some_iff.1 hv).1
   exact Has.imm (hl _ _ e2) (by rw [h2 i hi7,hv])
  exact ⟨bl,off+j*7,op,arg,neg,a,b,name,s',h3',hc,fun h' L k' hl hk'=>LdN.part3 (o:=2) (hc h' L) hl rfl rfl rfl hk',fun i k hi hk=>Idx.of j e1 hi (by rw [w.len];exact hj) hk⟩
def LitF (h:Heap) (v:Value) (o:Option Rat):Prop:=∃(b:Bool) (c e:Sl) (i:Bool),v=.tuple #[.agg #[.bool b,c.val,e.val],.bool i]∧(i=true→∃q,o=some q∧Sz 64 q∧b=sg q∧IsFr h c e q)∧(i=false→o=none)
def LitQ (h:Heap) (v:Value) (o:Option Rat):Prop:=∃(b:Bool) (c e:Sl) (i:Bool),v=.tuple #[.agg #[.bool b,c.val,e.val],.bool i]∧(i=true→∃q,o=some q∧Sz 64 q∧b=sg q∧IsQ h c e q)∧(i=false→o=none)
theorem literal_g (t:Tr) (hok:okG t) (h:Heap) (vs:List Value) (tb:Tb h) (w:IsE h vs t):Fn0 T F.expr_literal [.agg vs.toArray] h fun v h'=>LitF h' v (litT t):=by
 obtain ⟨op,arg,neg,l,m,name,ks⟩:=t
 obtain ⟨a,b,s,rfl,ho,ha,hv,hb,hk⟩:=w.isK
 rw [okG] at hok
 obtain ⟨hnb,hoks⟩:=hok
 have hkl:=hk.len
 have hq1:=hnb.2.2.2.2
 have c1:=fun h tb hv=>Read_ct h tb neg a b l m hv
 by_cases o4:op=4
 ·have hks:=ks_one hnb.1 (by rw [o4];rfl)
  obtain ⟨⟨op0,arg0,neg0,l0,m0,name0,ks0⟩,hk0⟩:∃k0,k0=ks.getD 0 zeroT:=⟨_,rfl⟩
  rw [← hk0] at hks
  subst hks
  rw [okGs,okG] at hoks
  have hq0:=hoks.1.1.2.2.2.2
  have r1:=litT_neg (arg:=arg) (neg:=neg) (l:=l) (m:=m) (name:=name) (op0:=op0) (arg0:=arg0) (neg0:=neg0) (l0:=l0) (m0:=m0) (name0:=name0) (ks0:=ks0) (ks:=[]) o4
  have c2:=fun h tb a b hv=>Read_ct h tb neg0 a b l0 m0 hv
  obtain ⟨R,hR⟩:∃R,R=litT (.mk op arg neg l m name [.mk op0 arg0 neg0 l0 m0 name0 ks0]):=⟨_,rfl⟩
  rw [← hR] at r1 ⊢
  have hks1:([.mk op0 arg0 neg0 l0 m0 name0 ks0]:List Tr).length=1:=rfl
  rw [hks1] at hkl
  refine f0C ok D.expr_literal rfl ?_
  conv=>whnf
  repeat ((first|refine oI.z ?_|refine cI.z ?_);conv=>whnf)
  repeat' first|((first|(show SeqN _ _ _ _ _ _ _;refine SeqN.go ?_)|(show LdN _ _ _ _ _;((first|refine LdN.ownAt 0 rfl rfl ?_|refine LdN.ownAt 1 rfl rfl ?_|refine LdN.ownAt 2 rfl rfl ?_)))|(show Idx _ _ _ _ _;(refine Idx.kid hk 0 _ rfl rfl (fun ad op2 arg2 neg2 a2 b2 name2 s2 hE hld=>?_);obtain ⟨rfl,rfl,rfl,hv2,hnm2,hb2,hk2⟩:=IsE.inv hE))|refine hld _ _ _ (Heap.le_refl _) ?_|((first|refine oI.z ?_|refine cI.z ?_))|intro (_:Nat)|(show CN _ _ _ _ _ _;first|(refine CN.fn rfl (c2 _ (by assumption) _ _ hv2) (fun v h' hl2 hr=>?_);obtain ⟨sb,cc,dd,rfl,hrr⟩:=hr;obtain ⟨rfl,hfr⟩:=hrr (by rw [if_pos (by assumption)] at hq0;exact hq0.1))|(refine CN.quiet rfl (Opposite_ct _ _ _ _ (by assumption) ((okR.sz (by rw [if_pos (by assumption)] at hq0;exact hq0.1)).mono (by decide))) ?_))|refine Ld.own 1 rfl rfl ?_|(show Sto _ _ _ _;first|refine Sto.lit 0 rfl rfl rfl ?_|refine Sto.lit 1 rfl rfl rfl ?_)) <;> (conv=>whnf))|(show cnd _ _ _;first|(refine cnd_eq (fun _=>?_) (fun _=>?_) <;> first|(exfalso;omega)|(conv=>whnf))|(refine cnd_not ?_))
  ·have hq00:=hq0
   rw [if_pos (by assumption)] at hq00
   refine RetN.all (R:=fun v h'=>LitF h' v R) ?_
   exact ⟨_,cc,dd,true,rfl,fun _=>⟨_,by rw [r1,if_pos (by assumption)],sz_neg' (okR.sz hq00.1),rfl,isFr_neg (hfr)⟩,fun x=>by cases x⟩
  ·refine RetN.all ⟨_,⟨none,0,0⟩,⟨none,0,0⟩,false,rfl,(fun x=>by cases x),fun _=>by rw [r1,if_neg (by assumption)]⟩
 ·have r1:op=1→litT (.mk op arg neg l m name ks)=some (ratOf neg l m):=litT_num
  have r2:¬op=1→litT (.mk op arg neg l m name ks)=none:=fun x=>litT_no x o4
  obtain ⟨R,hR⟩:∃R,R=litT (.mk op arg neg l m name ks):=⟨_,rfl⟩
  rw [← hR] at r1 r2 ⊢
  refine f0C ok D.expr_literal rfl ?_
  conv=>whnf
  repeat ((first|refine oI.z ?_|refine cI.z ?_);conv=>whnf)
  repeat' first|((first|(show SeqN _ _ _ _ _ _ _;refine SeqN.go ?_)|(show LdN _ _ _ _ _;((first|refine LdN.ownAt 0 rfl rfl ?_|refine LdN.ownAt 1 rfl rfl ?_|refine LdN.ownAt 2 rfl rfl ?_)))|(show CN _ _ _ _ _ _;(refine CN.fn rfl (c1 _ (by assumption) (by assumption)) (fun v h' hl2 hr=>?_);obtain ⟨sb,cc,dd,rfl,hrr⟩:=hr;obtain ⟨rfl,hfr⟩:=hrr (by rw [if_pos (by assumption)] at hq1;exact hq1.1)))|((first|refine oI.z ?_|refine cI.z ?_))|intro (_:Nat)|refine Ld.own 1 rfl rfl ?_|(show Sto _ _ _ _;first|refine Sto.lit 0 rfl rfl rfl ?_|refine Sto.lit 1 rfl rfl rfl ?_)) <;> (conv=>whnf))|(show cnd _ _ _;first|(refine cnd_eq (fun _=>?_) (fun _=>?_) <;> first|(exfalso;omega)|(conv=>whnf))|(refine cnd_not ?_))
  ·have hq00:=hq1
   rw [if_pos (by assumption)] at hq00
   refine RetN.all ⟨_,_,_,true,rfl,fun _=>⟨_,r1 (by assumption),okR.sz hq00.1,rfl,by assumption⟩,fun x=>by cases x⟩
  ·refine RetN.all ⟨_,⟨none,0,0⟩,⟨none,0,0⟩,false,rfl,(fun x=>by cases x),fun _=>r2 (by assumption)⟩
theorem rliteral_g (t:Tr) (hok:okG t) (h:Heap) (vs:List Value) (w:IsE h vs t):Fn0 T F.ref04_literal [.agg vs.toArray] h fun v h'=>LitQ h' v (litT t):=by
 obtain ⟨op,arg,neg,l,m,name,ks⟩:=t
 obtain ⟨a,b,s,rfl,ho,ha,hv,hb,hk⟩:=w.isK
 rw [okG] at hok
 obtain ⟨hnb,hoks⟩:=hok
 have hkl:=hk.len
 have hq1:=hnb.2.2.2.2
 have c1:=fun h hv=>QOf_ct h neg a b l m hv
 by_cases o4:op=4
 ·have hks:=ks_one hnb.1 (by rw [o4];rfl)
  obtain ⟨⟨op0,arg0,neg0,l0,m0,name0,ks0⟩,hk0⟩:∃k0,k0=ks.getD 0 zeroT:=⟨_,rfl⟩
  rw [← hk0] at hks
  subst hks
  rw [okGs,okG] at hoks
  have hq0:=hoks.1.1.2.2.2.2
  have r1:=litT_neg (arg:=arg) (neg:=neg) (l:=l) (m:=m) (name:=name) (op0:=op0) (arg0:=arg0) (neg0:=neg0) (l0:=l0) (m0:=m0) (name0:=name0) (ks0:=ks0) (ks:=[]) o4
  have c2:=fun h a b hv=>QOf_ct h neg0 a b l0 m0 hv
  obtain ⟨R,hR⟩:∃R,R=litT (.mk op arg neg l m name [.mk op0 arg0 neg0 l0 m0 name0 ks0]):=⟨_,rfl⟩
  rw [← hR] at r1 ⊢
  have hks1:([.mk op0 arg0 neg0 l0 m0 name0 ks0]:List Tr).length=1:=rfl
  rw [hks1] at hkl
  obtain ⟨bl,off,op2,arg2,neg2,a2,b2,name2,s2,hE,hld,hln,hix⟩:=hk.kidP 0 _ rfl
  obtain ⟨rfl,rfl,rfl,hv2,hnm2,hb2,hk2⟩:=IsE.inv hE
  refine f0C ok D.ref04_literal rfl ?_
  conv=>whnf
  repeat ((first|refine oI.z ?_|refine cI.z ?_);conv=>whnf)
  repeat' first|((first|(show LdN _ _ _ _ _;((first|refine LdN.ownAt 0 rfl rfl ?_|refine LdN.ownAt 1 rfl rfl ?_|refine LdN.ownAt 2 rfl rfl ?_)))|refine hix _ _ rfl ?_|refine hln _ _ _ (Heap.le_refl _) ?_|((first|refine oI.z ?_|refine cI.z ?_))|intro (_:Nat)|(show Ld _ _ _ _;first|refine Ld.of (hld _ _ 0 _ (Heap.le_refl _) rfl) ?_|refine Ld.own 1 rfl rfl ?_)|(show CN _ _ _ _ _ _;first|(refine CN.fn rfl (c2 _ _ _ hv2) (fun v h' hl2 hr=>?_);obtain ⟨cc,dd,rfl,hfr⟩:=hr)|(refine CN.quiet rfl (Opp_q _ _ _ _ (by assumption) ((Sr.of (okR.sz (by rw [if_pos (by assumption)] at hq0;exact hq0.1))).mono (by decide))) ?_))|refine Sto.lit 0 rfl rfl rfl ?_) <;> (conv=>whnf))|(refine cnd_eq (fun _=>?_) (fun _=>?_) <;> first|(exfalso;omega)|(conv=>whnf))
  ·have hq00:=hq0
   rw [if_pos (by assumption)] at hq00
   refine RetN.all ⟨_,_,_,true,rfl,fun _=>⟨_,by rw [r1,if_pos (by assumption)],sz_neg' (okR.sz hq00.1),rfl,isQ_neg (by assumption)⟩,fun x=>by cases x⟩
  ·refine RetN.all ⟨_,⟨none,0,0⟩,⟨none,0,0⟩,false,rfl,(fun x=>by cases x),fun _=>by rw [r1,if_neg (by assumption)]⟩
 ·have r1:op=1→litT (.mk op arg neg l m name ks)=some (ratOf neg l m):=litT_num
  have r2:¬op=1→litT (.mk op arg neg l m name ks)=none:=fun x=>litT_no x o4
  obtain ⟨R,hR⟩:∃R,R=litT (.mk op arg neg l m name ks):=⟨_,rfl⟩
  rw [← hR] at r1 r2 ⊢
  refine f0C ok D.ref04_literal rfl ?_
  conv=>whnf
  repeat ((first|refine oI.z ?_|refine cI.z ?_);conv=>whnf)
  repeat' first|((first|(show LdN _ _ _ _ _;((first|refine LdN.ownAt 0 rfl rfl ?_|refine LdN.ownAt 1 rfl rfl ?_|refine LdN.ownAt 2 rfl rfl ?_)))|(show CN _ _ _ _ _ _;(refine CN.fn rfl (c1 _ (by assumption)) (fun v h' hl2 hr=>?_);obtain ⟨cc,dd,rfl,hfr⟩:=hr))|((first|refine oI.z ?_|refine cI.z ?_))|intro (_:Nat)|refine Ld.own 1 rfl rfl ?_|refine Sto.lit 0 rfl rfl rfl ?_) <;> (conv=>whnf))|(refine cnd_eq (fun _=>?_) (fun _=>?_) <;> first|(exfalso;omega)|(conv=>whnf))
  ·have hq00:=hq1
   rw [if_pos (by assumption)] at hq00
   refine RetN.all ⟨_,_,_,true,rfl,fun _=>⟨_,r1 (by assumption),okR.sz hq00.1,rfl,by assumption⟩,fun x=>by cases x⟩
  ·refine RetN.all ⟨_,⟨none,0,0⟩,⟨none,0,0⟩,false,rfl,(fun x=>by cases x),fun _=>r2 (by assumption)⟩
end Go.Proofs.YtmblpmegfmgjgaaGreatDoor