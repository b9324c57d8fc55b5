/- The program's values of trees. -/
import Derived.Test.YtbgicephinomlaaGreatDoorE63
set_option linter.unusedVariables false
set_option linter.unusedSimpArgs false
set_option maxHeartbeats 4000000
set_option maxRecDepth 20000
namespace Go.Proofs.YtbgicephinomlaaGreatDoor
open Go Go.Vc Go.Dig
theorem ops1 {op arg:Int} (hk:kidsN op=1) (h1:lowA op≤arg) (h2:arg≤highA op):op=4∨op=9∧-32≤arg∧arg≤32∨op=10∧2≤arg∧arg≤8∨op=11∧1≤arg∧arg≤8∨op=12:=by
 unfold kidsN at hk
 unfold lowA at h1
 unfold highA at h2
 repeat' split at hk
 all_goals first
  | omega
  | (rename_i e _;rcases e with rfl|rfl|rfl|rfl|rfl <;> simp at h1 h2 ⊢ <;> omega)
  | (rename_i e;rcases e with rfl|rfl|rfl|rfl|rfl <;> simp at h1 h2 ⊢ <;> omega)
theorem ops2 {op:Int} (hk:kidsN op=2):op=5∨op=6∨op=7∨op=8∨op=13∨op=14:=by
 unfold kidsN at hk
 repeat' split at hk
 all_goals omega
theorem ops3 {op:Int} (hk:kidsN op=3):op=15:=by
 unfold kidsN at hk
 repeat' split at hk
 all_goals omega
theorem len3 {ks:List Tr} (h:(ks.length:Int)=kidsN 15):∃k0 k1 k2,ks=[k0,k1,k2]:=by
 have h:(ks.length:Int)=3:=h
 match ks,h with
 | [k0,k1,k2],_=>exact ⟨k0,k1,k2,rfl⟩
 | [],h=>simp at h
 | [_],h=>simp at h
 | [_,_],h=>simp at h
 | _::_::_::_::us,h=>simp at h;omega
theorem SignP (h:Heap) (n:Bool) (a b:Sl) (q:Rat) (tb:Tb h) (w:IsNum h n a b (some q)):Fn0 T F.number_Sign [.agg #[.bool n,a.val,b.val]] h fun v _=>v=.tuple #[.int .i64 (signQ q),.int .i64 0]:=SignN h n a b (some q) tb w
def QC (h:Heap) (xs:List Value) (qs:List Rat):Prop:=∀(j:Nat) q,qs[j]?=some q→∃ng,∃a b:Sl,(∀i v,[Value.bool ng,a.val,b.val][i]?=some v→xs[3*j+i]?=some v)∧IsNum h ng a b (some q)
theorem QC.nil (h:Heap):QC h [] []:=fun j q h=>by simp at h
theorem QC.mono {h h':Heap} {xs:List Value} {qs:List Rat} (w:QC h xs qs) (hl:h.le h'):QC h' xs qs:=fun j q e=>by
 obtain ⟨ng,a,b,h1,h2⟩:=w j q e
 exact ⟨ng,a,b,h1,h2.mono hl⟩
theorem QC.snoc {h:Heap} {xs:List Value} {qs:List Rat} {ng:Bool} {a b:Sl} {q:Rat} (w:QC h xs qs) (hl:xs.length=qs.length*3) (hq:IsNum h ng a b (some q)):QC h (xs++[.bool ng,a.val,b.val]) (qs++[q]):=fun j r e=>by
 rcases Nat.lt_or_ge j qs.length with hj|hj
 ·rw [List.getElem?_append_left hj] at e
  obtain ⟨n1,a1,b1,h1,h2⟩:=w j r e
  refine ⟨n1,a1,b1,fun i v hv=>?_,h2⟩
  have hi:i<3:=(List.getElem?_eq_some_iff.1 hv).1
  rw [List.getElem?_append_left (by omega)]
  exact h1 i v hv
 ·rw [List.getElem?_append_right hj] at e
  have hj0:j=qs.length:=by
   have:=(List.getElem?_eq_some_iff.1 e).1
   simp at this;omega
  subst hj0
  simp at e
  subst e
  refine ⟨ng,a,b,fun i v hv=>?_,hq⟩
  rw [List.getElem?_append_right (by omega),show 3*qs.length+i-xs.length=i by omega]
  exact hv
theorem GrowS.num {h:Heap} {e:TypeId} {v:Value} {n:Nat} {xs:List Value} {F:Vc.Own} {qs:List Rat} (g:GrowS e 3 v n xs F) (w:QC h xs qs) (hn:0<n):∃(b cap:Nat) (l:List Value),v=.slice (some ⟨b,0,none⟩) n cap∧(b,Obj.cells l.toArray e (0,0))∈F∧QC h l qs:=by
 obtain ⟨b,cap,c,h1,h2,h3⟩:=GrowS.block g hn
 refine ⟨b,cap,c.toList,h1,by simpa using h2,fun j q e=>?_⟩
 obtain ⟨ng,a,d,h4,h5⟩:=w j q e
 refine ⟨ng,a,d,fun i v hv=>?_,h5⟩
 rw [Array.getElem?_toList]
 exact h3 _ _ (h4 i v hv)
theorem comb_stop {vals:List (List Nat × Rat)} {op arg:Int} {ks:List Tr} {j:Nat} {t:Tr} (hk:ks.length≤2) (ht:ks[j]?=some t) (hn:valT vals t=none):combQ op arg (valTs vals ks)=none:=by
 match ks,j,ht,hk with
 | [a],0,ht,_=>
  have e:valT vals a=none:=by cases ht;exact hn
  rw [valTs,valTs]
  show (valT vals a).bind _=none
  rw [e];rfl
 | [a,b],0,ht,_=>
  have e:valT vals a=none:=by cases ht;exact hn
  rw [valTs,valTs,valTs]
  show (valT vals a).bind _=none
  rw [e];rfl
 | [a,b],1,ht,_=>
  have e:valT vals b=none:=by cases ht;exact hn
  rw [valTs,valTs,valTs]
  show (valT vals a).bind (fun x=>(valT vals b).bind _)=none
  rw [e]
  cases valT vals a <;> rfl
 | [a],j+1,ht,_=>simp at ht
 | [a,b],j+2,ht,_=>simp at ht
 | [],j,ht,_=>simp at ht
theorem valTs_append {vals:List (List Nat × Rat)}:∀(a b:List Tr),valTs vals (a++b)=valTs vals a++valTs vals b
 | [],b=>by rw [valTs];rfl
 | t::a,b=>by rw [List.cons_append,valTs,valTs,valTs_append a b];rfl
theorem value_ct (vals:List (List Nat × Rat)) (bm:Nat) (es:Array MapEntry) (clock:Nat):∀t:Tr,∀(h:Heap) (vs:List Value) (d:Nat),Tb h→h bm=some (.map es clock)→EntsR NumV h es.toList vals→IsE h vs t→okT d t→Fn0 T F.expr_value [.agg vs.toArray,.map (some bm)] h fun v h'=>VQ h' v (valT vals t):=by
 refine tree_ind fun t ih=>?_
 intro h vs d tb mm me w hok
 obtain ⟨op,arg,neg,l,m,name,ks⟩:=t
 obtain ⟨a,b,s,rfl,ho,ha,hv,hb,hk⟩:=w.isK
 rw [okT] at hok
 obtain ⟨hd,hnb,hoks⟩:=hok
 have hks:=hnb.1
 have hkl:=hk.len
 have fe:=EntsR.find hb 0 me
 have r2:op=2→valT vals (.mk op arg neg l m name ks)=findB vals name:=fun x=>by rw [valT,if_neg (by omega),if_pos x]
 have hnum:op=1→IsNum h neg a b (some (ratOf neg l m)):=fun x=>by
  have hn:=hnb.2.2.2.2
  rw [if_pos x] at hn
  exact ⟨l,m,hv,(if_pos hn.1).symm⟩
 have r1:op=1→valT vals (.mk op arg neg l m name ks)=some (ratOf neg l m):=fun x=>by rw [valT,if_pos x]
 have r3:op=3→valT vals (.mk op arg neg l m name ks)=none:=fun x=>by rw [valT,if_neg (by omega),if_neg (by omega),if_pos x]
 have r4:op≠1→op≠2→op≠3→valT vals (.mk op arg neg l m name ks)=combQ op arg (valTs vals ks):=fun x y z=>by rw [valT,if_neg x,if_neg y,if_neg z]
 obtain ⟨R,hR⟩:∃R,R=valT vals (.mk op arg neg l m name ks):=⟨_,rfl⟩
 obtain ⟨N,hN⟩:∃N,N=ratOf neg l m:=⟨_,rfl⟩
 rw [← hR] at r1 r2 r3 r4 ⊢
 rw [← hN] at r1 hnum
 clear hR hN
 by_cases o2:op=2
 ·replace r2:=r2 o2
  clear r1 r3 r4 hnum
  rcases fe with ⟨j,x,q,e1,e2,e3,e4,⟨n1,a1,b1,e5,hq⟩,e6⟩|⟨e1,e2,e3⟩
  ·rw [e5] at e1
   refine f0C ok D.expr_value rfl ?_
   conv=>whnf
   repeat ((first|refine oI.z ?_|refine cI.z ?_);conv=>whnf)
   repeat' first|((first|(show LdN _ _ _ _ _;first|refine LdN.oA 0 rfl rfl ?_|refine LdN.oA 1 rfl rfl ?_)|(show Ext _ _ _ _ _ _ _;refine Ext.mapFind (d:=.string) (key:=.string (txt name)) (.inr mm) rfl rfl rfl (by decide) trivial (.inl ⟨_,_,e1,?_⟩))|((first|refine oI.z ?_|refine cI.z ?_))|intro (_:Nat)|refine Ld.o 1 rfl rfl ?_|(show Sto _ _ _ _;first|refine Sto.l 0 rfl rfl rfl ?_|refine Sto.l 1 rfl rfl rfl ?_)) <;> (conv=>whnf))|(refine cnd_eq (fun _=>?_) (fun _=>?_) <;> first|(exfalso;omega)|(conv=>whnf))
   all_goals
    rw [r2,e6]
    exact RN.a ⟨n1,a1,b1,true,rfl,fun _=>⟨q,rfl,hq⟩,fun x=>by cases x⟩
  ·refine f0C ok D.expr_value rfl ?_
   conv=>whnf
   repeat ((first|refine oI.z ?_|refine cI.z ?_);conv=>whnf)
   repeat' first|((first|(show LdN _ _ _ _ _;first|refine LdN.oA 0 rfl rfl ?_|refine LdN.oA 1 rfl rfl ?_)|(show Ext _ _ _ _ _ _ _;refine Ext.mapFind (d:=.string) (key:=.string (txt name)) (.inr mm) rfl rfl rfl (by decide) trivial (.inr ⟨e1,?_⟩))|((first|refine oI.z ?_|refine cI.z ?_))|intro (_:Nat)|refine Ld.o 1 rfl rfl ?_|(show Sto _ _ _ _;first|refine Sto.l 0 rfl rfl rfl ?_|refine Sto.l 1 rfl rfl rfl ?_)) <;> (conv=>whnf))|(refine cnd_eq (fun _=>?_) (fun _=>?_) <;> first|(exfalso;omega)|(conv=>whnf))
   all_goals
    rw [r2,e3]
    exact RN.a ⟨false,⟨none,0,0⟩,⟨none,0,0⟩,false,rfl,fun x=>(by cases x),fun _=>rfl⟩
 clear r2 fe
 by_cases o15:op=15
 ·obtain ⟨k0,k1,k2,rfl⟩:=len3 (by rw [← o15];exact hks)
  replace r4:=r4 (by omega) (by omega) (by omega)
  rw [valTs,valTs,valTs,valTs] at r4
  replace r4:R=(valT vals k0).bind fun c=>if 0≤c then valT vals k1 else valT vals k2:=r4
  have i0:=fun h vs tb mm me w=>ih k0 (szT_kid (j:=0) rfl) h vs (d+1) tb mm me w (okTs_get hoks (j:=0) rfl)
  have i1:=fun h vs tb mm me w=>ih k1 (szT_kid (j:=1) rfl) h vs (d+1) tb mm me w (okTs_get hoks (j:=1) rfl)
  have i2:=fun h vs tb mm me w=>ih k2 (szT_kid (j:=2) rfl) h vs (d+1) tb mm me w (okTs_get hoks (j:=2) rfl)
  have g0:valT vals k0=none→R=none:=fun x=>by rw [r4,x];rfl
  have g1:∀c,valT vals k0=some c→0≤signQ c→R=valT vals k1:=fun c x y=>by
   rw [r4,x]
   exact if_pos (by have:=le_sign c;rw [Vc.le_true' y] at this;by_cases z:0≤c;exact z;rw [dec_false z] at this;cases this)
  have g2:∀c,valT vals k0=some c→¬0≤signQ c→R=valT vals k2:=fun c x y=>by
   rw [r4,x]
   exact if_neg fun z=>by have:=le_sign c;rw [dec_true z,Vc.le_false' (by omega)] at this;cases this
  clear r1 r3 r4 hnum ih
  obtain ⟨V0,h0⟩:∃V,V=valT vals k0:=⟨_,rfl⟩
  obtain ⟨V1,h1⟩:∃V,V=valT vals k1:=⟨_,rfl⟩
  obtain ⟨V2,h2⟩:∃V,V=valT vals k2:=⟨_,rfl⟩
  simp only [← h0] at i0 g0 g1 g2
  simp only [← h1] at i1 g1
  simp only [← h2] at i2 g2
  clear h0 h1 h2
  simp only [List.length_cons,List.length_nil] at hkl
  refine f0C ok D.expr_value rfl ?_
  conv=>whnf
  repeat ((first|refine oI.z ?_|refine cI.z ?_);conv=>whnf)
  repeat' first|((first|(show LdN _ _ _ _ _;first|refine LdN.oA 0 rfl rfl ?_|refine LdN.oA 1 rfl rfl ?_)|(show Idx _ _ _ _ _;first|(refine Idx.kid (hk.mono (by first|assumption|exact Heap.lr _)) 0 k0 (by omega) rfl (fun ad op3 arg3 neg3 a3 b3 name3 s3 hE hld=>?_))|refine Idx.kid (hk.mono (by assumption)) 1 k1 (by omega) rfl (fun ad op3 arg3 neg3 a3 b3 name3 s3 hE hld=>?_)|refine Idx.kid (hk.mono (by assumption)) 2 k2 (by omega) rfl (fun ad op3 arg3 neg3 a3 b3 name3 s3 hE hld=>?_))|(refine hld _ _ _ (by first|assumption|exact Heap.lr _) ?_)|((first|refine oI.z ?_|refine cI.z ?_))|intro (_:Nat)|(show CN _ _ _ _ _ _;first|(refine CN.f rfl (i0 _ _ (by (iterate 30 try first|assumption|refine Tb.mono ?_ (by assumption));first|done|assumption) (((by (iterate 30 try first|assumption|exact Heap.lr _|refine Heap.lt ?_ (by assumption));first|done|assumption):Heap.le h _) _ _ mm) (me.mono (by (iterate 30 try first|assumption|exact Heap.lr _|refine Heap.lt ?_ (by assumption));first|done|assumption)) (by (iterate 30 try first|assumption|refine IsE.mono ?_ (by assumption));first|done|assumption)) (fun v h' hl hr=>?_);obtain ⟨n1,a1,b1,bb1,rfl,t1,t2⟩:=hr)|((first|refine CN.f rfl (i1 _ _ (by (iterate 30 try first|assumption|refine Tb.mono ?_ (by assumption));first|done|assumption) (((by (iterate 30 try first|assumption|refine Heap.lt ?_ (by assumption));first|done|assumption):Heap.le h _) _ _ mm) (me.mono (by (iterate 30 try first|assumption|refine Heap.lt ?_ (by assumption));first|done|assumption)) (by (iterate 30 try first|assumption|refine IsE.mono ?_ (by assumption));first|done|assumption)) (fun v h' hl hr=>?_)|refine CN.f rfl (i2 _ _ (by (iterate 30 try first|assumption|refine Tb.mono ?_ (by assumption));first|done|assumption) (((by (iterate 30 try first|assumption|refine Heap.lt ?_ (by assumption));first|done|assumption):Heap.le h _) _ _ mm) (me.mono (by (iterate 30 try first|assumption|refine Heap.lt ?_ (by assumption));first|done|assumption)) (by (iterate 30 try first|assumption|refine IsE.mono ?_ (by assumption));first|done|assumption)) (fun v h' hl hr=>?_));obtain ⟨n2,a2,b2,bb2,rfl,u1,u2⟩:=hr)|(obtain ⟨c,t3,t4⟩:=t1 rfl;refine CN.f rfl (SignP _ _ _ _ c (by (iterate 30 try first|assumption|refine Tb.mono ?_ (by assumption));first|done|assumption) (by assumption)) (fun v h' hl hr=>?_);subst hr))|(show Ld _ _ _ _;first|refine Ld.o 1 rfl rfl ?_|refine Ld.o 2 rfl rfl ?_)|(show Sto _ _ _ _;first|refine Sto.l 0 rfl rfl rfl ?_|refine Sto.l 1 rfl rfl rfl ?_)) <;> (conv=>whnf))|(show cnd _ _ _;first|(refine cnd_le (fun _=>?_) (fun _=>?_) <;> first|(exfalso;omega)|(conv=>whnf))|(refine cnd_eq (fun _=>?_) (fun _=>?_) <;> first|(exfalso;omega)|(conv=>whnf))|(refine cnd_not ?_)|(refine cnd_bool (fun hb=>?_) (fun hb=>?_) <;> (first|cases hb|subst hb) <;> (conv=>whnf)))
  all_goals first
   | (rw [g0 (t2 rfl)];exact RN.a ⟨false,⟨none,0,0⟩,⟨none,0,0⟩,false,rfl,fun x=>(by cases x),fun _=>rfl⟩)
   | (rw [g1 c t3 (by omega)];exact RN.a ⟨n2,a2,b2,bb2,rfl,u1,u2⟩)
   | (rw [g2 c t3 (by omega)];exact RN.a ⟨n2,a2,b2,bb2,rfl,u1,u2⟩)
 ·have hk2:op≠1→op≠2→op≠3→1≤ks.length∧ks.length≤2:=fun x y z=>by
   have h:=kidsN_le op
   have:kidsN op≠3:=fun e=>o15 (ops3 e)
   have h0:kidsN op≠0:=fun e=>by
    unfold kidsN at e
    repeat' split at e
    all_goals omega
   omega
  have hun:=fun (e:ks.length=1)=>ops1 (op:=op) (arg:=arg) (by omega) hnb.2.1 hnb.2.2.1
  have hbi:=fun (e:ks.length=2)=>ops2 (op:=op) (by omega)
  have st:op≠1→op≠2→op≠3→∀(j:Nat) t,ks[j]?=some t→valT vals t=none→R=none:=fun x y z j t ht hn=>(r4 x y z).trans (comb_stop (hk2 x y z).2 ht hn)
  have fin1:op≠1→op≠2→op≠3→∀q,valTs vals ks=[q].map some→R=unQ op arg q:=fun x y z q e=>by rw [r4 x y z,e];rfl
  have fin2:op≠1→op≠2→op≠3→∀p q,valTs vals ks=[p,q].map some→R=biQ op p q:=fun x y z p q e=>by rw [r4 x y z,e];rfl
  clear r4
  refine f0C ok D.expr_value rfl ?_
  conv=>whnf
  repeat ((first|refine oI.z ?_|refine cI.z ?_);conv=>whnf)
  repeat' first|((first|(show LdN _ _ _ _ _;first|refine LdN.oA 0 rfl rfl ?_|refine LdN.oA 1 rfl rfl ?_)|((first|refine oI.z ?_|refine cI.z ?_))|intro (_:Nat)|refine Ld.o 1 rfl rfl ?_|refine Sto.l 0 rfl rfl rfl ?_) <;> (conv=>whnf))|(refine cnd_eq (fun _=>?_) (fun _=>?_) <;> first|(exfalso;omega)|(conv=>whnf))
  all_goals try (rw [r1 (by assumption)];exact RN.a ⟨neg,a,b,true,rfl,fun _=>⟨N,rfl,hnum (by assumption)⟩,fun x=>by cases x⟩)
  all_goals try (rw [r3 (by assumption)];exact RN.a ⟨false,⟨none,0,0⟩,⟨none,0,0⟩,false,rfl,fun x=>(by cases x),fun _=>rfl⟩)
  rename_i b2 b4 n1 n2 n3 n4
  have hk2:=hk2 (by omega) (by omega) (by omega)
  replace st:=st (by omega) (by omega) (by omega)
  replace fin1:=fin1 (by omega) (by omega) (by omega)
  replace fin2:=fin2 (by omega) (by omega) (by omega)
  refine LpN.of (fun r ρ hx L=>∃(j:Nat) (V:Value) (F1:Vc.Own) (xs:List Value) (qs:List Rat),r=ks.length-j∧h.le hx∧j≤ks.length∧rd ρ 77=.int .i64 j∧rd ρ 12=V∧
    L=F1++((b4,.cells [.bool false,.slice none 0 0,.slice none 0 0].toArray Ty.api_Rat (0,0))::(b2,.cells [.int .i64 op,.int .i64 arg,.bool neg,a.val,b.val,.string (txt name),s.val].toArray Ty.api_Expr (0,0))::[])∧GrowS Ty.api_Rat 3 V j xs F1∧QC hx xs qs∧qs.length=j∧Hq (valTs vals (ks.take j)=qs.map some)) ks.length
   ⟨0,_,[],[],[],rfl,Heap.lr _,Nat.zero_le _,rfl,rfl,rfl,GrowS.nil _ _ _,QC.nil _,rfl,⟨by rw [List.take_zero,valTs];rfl⟩⟩ ?_
  conv=>whnf
  repeat intro _
  rename_i r hx L2 hI
  obtain ⟨j,V,F1,xs,qs,rfl,hle,hj,e77,e12,rfl,gF,hQ,hql,hq⟩:=hI
  conv at e77=>lhs;whnf
  subst e77
  conv at e12=>lhs;whnf
  subst e12
  by_cases hjl:j=ks.length
  ·subst hjl
   have hq:=hq.out
   rw [List.take_length] at hq
   obtain ⟨bl,cap,l0,hV,hF,hQ0⟩:=GrowS.num gF hQ (by omega)
   rw [hV]
   rcases (by omega:ks.length=1∨ks.length=2) with e1|e1
   ·obtain ⟨q0,rfl⟩:∃q0,qs=[q0]:=by
     rw [e1] at hql
     match qs,hql with
     | [q0],_=>exact ⟨q0,rfl⟩
    obtain ⟨ng,a1,b1,w1,w2⟩:=hQ0 0 q0 rfl
    have c1:=fun h tb w=>unary_ct q0 h tb op arg neg a b s name ng a1 b1 (hun e1) w
    rw [fin1 q0 hq]
    rw [e1]
    conv=>whnf
    repeat ((first|refine oI.z ?_|refine cI.z ?_);conv=>whnf)
    repeat' first|((first|(show DrN _ _ _ _ _ _;refine DrN.each (by decide +kernel) ?_)|(show Idx _ _ _ _ _;refine Idx.of 0 rfl rfl (by decide) ?_)|(show LdN _ _ _ _ _;first|refine LdN.three (.inr (List.mem_append_left _ hF)) (w1 0 _ rfl) (w1 1 _ rfl) (w1 2 _ rfl) ?_|refine LdN.tl (A:=F1) (F:=[_]) rfl ?_|refine LdN.tl (A:=F1) (F:=[]) rfl ?_)|(show Sto _ _ _ _;refine Sto.tl (A:=F1) (X:=[]) rfl rfl ?_)|(show CN _ _ _ _ _ _;(refine CN.f rfl (c1 _ (by (iterate 30 try first|assumption|refine Tb.mono ?_ (by assumption));first|done|assumption) (by assumption)) (fun v h' hl hr=>?_);obtain ⟨n5,a5,b5,bb5,rfl,u1,u2⟩:=hr))|((first|refine oI.z ?_|refine cI.z ?_))|refine ⟨fun _=>HasLe.o (Heap.lr _),?_⟩|refine ⟨fun _=>HasLe.o (by assumption),?_⟩|refine ⟨fun hst=>(by cases (show true=false from hst)),?_⟩) <;> (conv=>whnf))|(show cnd _ _ _;first|(refine cnd_lt (fun _=>?_) (fun _=>?_) <;> first|(exfalso;omega)|(conv=>whnf))|(refine cnd_eq (fun _=>?_) (fun _=>?_) <;> first|(exfalso;omega)|(conv=>whnf)))|(refine Both.mk ?_ ?_ <;> (conv=>whnf))
    all_goals exact RN.a ⟨_,_,_,_,rfl,u1,u2⟩
   ·obtain ⟨q0,q1,rfl⟩:∃q0 q1,qs=[q0,q1]:=by
     rw [e1] at hql
     match qs,hql with
     | [q0,q1],_=>exact ⟨q0,q1,rfl⟩
    obtain ⟨ng,a1,b1,w1,w2⟩:=hQ0 0 q0 rfl
    obtain ⟨ng',a2,b2',w3,w4⟩:=hQ0 1 q1 rfl
    have c1:=fun h tb w w'=>binary_ct q0 q1 h tb op ng a1 b1 ng' a2 b2' (hbi e1) w w'
    rw [fin2 q0 q1 hq]
    rw [e1]
    conv=>whnf
    repeat ((first|refine oI.z ?_|refine cI.z ?_);conv=>whnf)
    repeat' first|((first|(show DrN _ _ _ _ _ _;refine DrN.run (by decide +kernel) ?_)|(show Idx _ _ _ _ _;first|refine Idx.of 0 rfl rfl (by decide) ?_|refine Idx.of 1 rfl rfl (by decide) ?_)|(show LdN _ _ _ _ _;first|refine LdN.three (.inr (List.mem_append_left _ hF)) (w1 0 _ rfl) (w1 1 _ rfl) (w1 2 _ rfl) ?_|refine LdN.three (.inr (List.mem_append_left _ hF)) (w3 0 _ rfl) (w3 1 _ rfl) (w3 2 _ rfl) ?_|refine LdN.tl (A:=F1) (F:=[]) rfl ?_)|(show Ld _ _ _ _;refine Ld.tl (A:=F1) (F:=[_]) rfl ?_)|(show Sto _ _ _ _;refine Sto.tl (A:=F1) (X:=[]) rfl rfl ?_)|(show CN _ _ _ _ _ _;(refine CN.f rfl (c1 _ (by (iterate 30 try first|assumption|refine Tb.mono ?_ (by assumption));first|done|assumption) (by assumption) (by assumption)) (fun v h' hl hr=>?_);obtain ⟨n5,a5,b5,bb5,rfl,u1,u2⟩:=hr))|((first|refine oI.z ?_|refine cI.z ?_))|refine ⟨fun _=>HasLe.o (by assumption),?_⟩|refine ⟨fun hst=>(by cases (show true=false from hst)),?_⟩) <;> (conv=>whnf))|(show cnd _ _ _;first|(refine cnd_lt (fun _=>?_) (fun _=>?_) <;> first|(exfalso;omega)|(conv=>whnf))|(refine cnd_eq (fun _=>?_) (fun _=>?_) <;> first|(exfalso;omega)|(conv=>whnf)))
    all_goals exact RN.a ⟨_,_,_,_,rfl,u1,u2⟩
  ·obtain ⟨t,ht⟩:∃t,ks[j]?=some t:=⟨_,List.getElem?_eq_getElem (by omega)⟩
   have c2:=fun h vs tb mm me w=>ih t (szT_kid ht) h vs (d+1) tb mm me w (okTs_mem hoks (List.mem_of_getElem? ht))
   have hkx:=hk.mono hle
   have stj:=st j t ht
   have htk:∀q,valT vals t=some q→Hq (valTs vals (ks.take (j+1))=(qs++[q]).map some):=fun q e=>⟨by rw [take_snoc ht,valTs_append,hq.out,valTs,valTs,e,List.map_append];rfl⟩
   obtain ⟨X,hX⟩:∃X,X=valT vals t:=⟨_,rfl⟩
   simp only [← hX] at c2 stj htk
   clear hX hq
   have hxl:=gF.1
   conv=>whnf
   repeat ((first|refine oI.z ?_|refine cI.z ?_);conv=>whnf)
   repeat' first|((first|(show Idx _ _ _ _ _;refine Idx.kid hkx j t (by omega) ht (fun ad op3 arg3 neg3 a3 b3 name3 s3 hE hld=>?_))|(refine hld _ _ _ (by first|assumption|exact Heap.lr _) ?_)|((first|refine oI.z ?_|refine cI.z ?_))|intro (_:Nat)|(show CN _ _ _ _ _ _;(refine CN.f rfl (c2 _ _ (by (iterate 30 try first|assumption|refine Tb.mono ?_ (by assumption));first|done|assumption) (hle _ _ mm) (me.mono hle) (by assumption)) (fun v h' hl2 hr=>?_);obtain ⟨n5,a5,b5,bb5,rfl,u1,u2⟩:=hr;have hQ2:=hQ.mono hl2))|(show Sto _ _ _ _;first|refine Sto.tl (A:=_::_::F1) (X:=[]) rfl rfl ?_|refine Sto.l 0 rfl rfl rfl ?_)|(show LdN _ _ _ _ _;first|refine LdN.tl (A:=_::_::F1) (F:=[]) rfl ?_|refine LdN.o 0 rfl rfl ?_)|(show App _ _ _ _ _ _ _ _ _;refine App.growK (A:=[_,_,_]) (F:=F1) (size:=3) (bytes:=56) (z:=[.bool false,.slice none 0 0,.slice none 0 0]) rfl rfl gF ⟨_,0,none⟩ 1 1 [_,_,_] rfl (Has.front _) rfl (by decide) (by omega) (by omega) (by decide) (fun v' F' g'=>?_))|refine WN.i64 (by omega) (by omega) ?_) <;> (conv=>whnf))|(show cnd _ _ _;first|(refine cnd_lt (fun _=>?_) (fun _=>?_) <;> first|(exfalso;omega)|(conv=>whnf))|(refine cnd_not ?_)|(refine cnd_bool (fun hb=>?_) (fun hb=>?_) <;> (first|cases hb|subst hb) <;> (conv=>whnf)))
   all_goals first
    | (rw [stj (u2 rfl)];exact RN.a ⟨false,⟨none,0,0⟩,⟨none,0,0⟩,false,rfl,fun x=>(by cases x),fun _=>rfl⟩)
    | (obtain ⟨q,u3,u4⟩:=u1 rfl
       exact ⟨rfl,ks.length-(j+1),by omega,j+1,_,_::_::_::F',_,qs++[q],rfl,(by (iterate 30 try first|assumption|refine Heap.lt ?_ (by assumption));first|done|assumption),by omega,vi (by omega),rfl,rfl,((g'.cons _).cons _).cons _,QC.snoc hQ2 (by omega) u4,by rw [List.length_append,hql];rfl,htk q u3⟩)
end Go.Proofs.YtbgicephinomlaaGreatDoor
/- Value: the program's side. -/
namespace Go.Vc
open Go Go.Dig
theorem CN.keepX {T:Tab} {f:FuncId} {args:List Value} {h:Heap} {k:Value→Heap→Vc.Own→Prop} {Fe tl:Vc.Own} {b:Nat} {p:Obj} (hf:T.fn f=true)
  (hk:∀h',h.le h'→h' b=some p→CN T f args h' (Fe++tl) k):CN T f args h (Fe++((b,p)::tl)) k:=by
 have e1:(Fe++(b,p)::tl).eraseIdx Fe.length=Fe++tl:=by rw [List.eraseIdx_append_of_length_le (Nat.le_refl _)];simp
 refine CN.keep (b:=b) (o:=p) Fe.length (by simp) hf fun h1=>?_
 rw [e1]
 exact hk _ h1 (by simp [Heap.put])
end Go.Vc
namespace Go.Proofs.YtbgicephinomlaaGreatDoor
open Go Go.Vc Go.Dig
theorem MsR.strip {ms:List (List Nat × Rat)} {bs:List (List Nat × Option Rat)} (r:MsR ms (stripV bs)) (h:NmsB bs):ms=stripV bs:=r.2 (by rw [stripV_names];exact h.2)
theorem Value_ct (bs:List (List Nat × Option Rat)) (hbl:bs.length≤1099511627776) (sb:Sl) (t:Tr) (h:Heap) (vs:List Value) (tb:Tb h) (wb:IsV h sb bs) (w:IsE h vs t):Fn0 T F.expr_Value [.agg vs.toArray,sb.val] h fun v h'=>ResB h' v (valX bs t):=by
 have c1:=fun h vs tb w=>Valid_ct t h vs tb w
 have c2:=fun h n hn=>XIsName_ct h n hn
 have c3:=fun h tb n a b x w=>CanonV h tb n a b x w
 have c4:=fun h vs bm es clock ms tb mm me w (x:ValT t)=>value_ct ms bm es clock t h vs 1 tb mm me w x.1
 have r1:¬ValT t→valX bs t=(0,false,40):=valX_node
 have r2:ValT t→¬NmsB bs→valX bs t=(0,false,41):=valX_name
 have r3:ValT t→NmsB bs→¬SmlV bs→valX bs t=(0,false,1):=valX_size
 have r4:∀ms,MsR ms (stripV bs)→ValT t→NmsB bs→SmlV bs→valT ms t=none→valX bs t=(0,false,0):=fun ms r x y z u=>valX_none x y z (by rw [← r.strip y];exact u)
 have r5:∀ms,MsR ms (stripV bs)→ValT t→NmsB bs→SmlV bs→∀q,valT ms t=some q→valX bs t=(q,true,0):=fun ms r x y z q u=>valX_some x y z (by rw [← r.strip y];exact u)
 obtain ⟨R,hR⟩:∃R,R=valX bs t:=⟨_,rfl⟩
 rw [← hR] at r1 r2 r3 ⊢
 simp only [← hR] at r4 r5
 clear hR
 have hsl:=wb.len
 obtain ⟨⟨op,arg,neg,l,m,name,ks⟩,ht⟩:∃x,x=t:=⟨_,rfl⟩
 obtain ⟨a,b,s,hvs,-⟩:=(ht.symm▸w:IsE h vs (.mk op arg neg l m name ks)).isK
 subst hvs
 refine f0C ok D.expr_Value rfl ?_
 conv=>whnf
 repeat ((first|refine oI.z ?_|refine cI.z ?_);conv=>whnf)
 repeat' first|((first|(show Ext _ _ _ _ _ _ _;refine Ext.makeMap fun bm=>?_)|((first|refine oI.z ?_|refine cI.z ?_))|intro (_:Nat)) <;> (conv=>whnf))
 rename_i b2 b4
 refine LpN.of (fun r ρ hx L=>∃(j:Nat) (X:Vc.Own) (es:Array MapEntry) (clock:Nat) (ms:List (List Nat × Rat)),r=bs.length-j∧h.le hx∧j≤bs.length∧rd ρ 21=.int .i64 j∧rd ρ 8=.bool (dec (NmsB (bs.take j)))∧rd ρ 9=.bool (dec (SmlV (bs.take j)))∧
     L=X++((bm,.map es clock)::(b4,.cells [.bool false,.slice none 0 0,.slice none 0 0].toArray Ty.api_Rat (0,0))::(b2,.cells [.int .i64 op,.int .i64 arg,.bool neg,a.val,b.val,.string (txt name),s.val].toArray Ty.api_Expr (0,0))::[])∧EntsR NumV hx es.toList ms∧MsR ms (stripV (bs.take j))) bs.length
  ⟨0,[],#[],0,[],rfl,Heap.lr _,Nat.zero_le _,rfl,congrArg Value.bool (dec_true NmsB_nil).symm,congrArg Value.bool (dec_true SmlV_nil).symm,rfl,trivial,⟨fun _=>Iff.rfl,fun _=>rfl⟩⟩ ?_
 conv=>whnf
 repeat intro _
 rename_i r hx L2 hI
 obtain ⟨j,X,es,clock,ms,rfl,hle,hj,e21,e8,e9,rfl,me,mr⟩:=hI
 conv at e21=>lhs;whnf
 subst e21
 conv at e8=>lhs;whnf
 subst e8
 conv at e9=>lhs;whnf
 subst e9
 by_cases hjl:j=bs.length
 ·subst hjl
  rw [List.take_length] at *
  have r4:=r4 ms mr
  have r5:=r5 ms mr
  have c4:=fun h vs bm es clock tb mm me w x=>c4 h vs bm es clock ms tb mm me w x
  obtain ⟨V,hV⟩:∃V,V=valT ms t:=⟨_,rfl⟩
  simp only [← hV] at c4 r4 r5
  clear hV
  conv=>whnf
  repeat ((first|refine oI.z ?_|refine cI.z ?_);conv=>whnf)
  repeat' first|((first|(show LdN _ _ _ _ _;first|refine LdN.tl3 (A:=[]) (F:=X) (G:=[_,_]) rfl ?_|refine LdN.tl3 (A:=[]) (F:=X) (G:=[_]) rfl ?_|refine LdN.tl3 (A:=[_]) (F:=X) (G:=[]) rfl ?_|refine LdN.o 0 rfl rfl ?_)|(show Sto _ _ _ _;first|refine Sto.tl3 (A:=[]) (F:=X) (G:=[_]) rfl rfl ?_|refine Sto.tl3 (A:=[_]) (F:=X) (G:=[]) rfl rfl ?_|refine Sto.l 0 rfl rfl rfl ?_)|(show CN _ _ _ _ _ _;first|(refine CN.f rfl (c1 _ _ (by (iterate 30 try first|assumption|refine Tb.mono ?_ (by assumption));first|done|assumption) (by (iterate 30 try first|assumption|refine IsE.mono ?_ (by assumption));first|done|assumption)) (fun v h' hl2 hr=>?_);subst hr)|(refine CN.keepX (Fe:=X) rfl (fun h' hl2 mm=>?_);refine CN.f rfl (c4 h' _ _ _ _ (by (iterate 30 try first|assumption|refine Tb.mono ?_ (by assumption));first|done|assumption) mm (me.mono (by (iterate 30 try first|assumption|refine Heap.lt ?_ (by assumption));first|done|assumption)) (by (iterate 30 try first|assumption|refine IsE.mono ?_ (by assumption));first|done|assumption) (by assumption)) (fun v h'' hl3 hr=>?_);obtain ⟨n1,a1,b1,bb1,rfl,g1,g2⟩:=hr)|(obtain ⟨q,t3,t4⟩:=g1 rfl;refine CN.f rfl (CanonP _ (by (iterate 30 try first|assumption|refine Tb.mono ?_ (by assumption));first|done|assumption) _ _ _ q (by assumption)) (fun v h' hl4 hr=>?_);obtain ⟨c5,d5,rfl,hq5⟩:=hr))|((first|refine oI.z ?_|refine cI.z ?_))|intro (_:Nat)) <;> (conv=>whnf))|(show cnd _ _ _;first|(refine cnd_lt (fun _=>?_) (fun _=>?_) <;> first|(exfalso;omega)|(conv=>whnf))|(refine cnd_not ?_)|(refine cnd_dec (fun _=>?_) (fun _=>?_) <;> first|(exfalso;omega)|(conv=>whnf))|(refine cnd_bool (fun hb=>?_) (fun hb=>?_) <;> (first|cases hb|subst hb) <;> (conv=>whnf)))
  all_goals first
   | (rw [r1 (by assumption)];exact RN.a (ResB.err _ _))
   | (rw [r2 (by assumption) (by assumption)];exact RN.a (ResB.err _ _))
   | (rw [r3 (by assumption) (by assumption) (by assumption)];exact RN.a (ResB.err _ _))
   | (rw [r4 (by assumption) (by assumption) (by assumption) (g2 rfl)];exact RN.a (ResB.err _ _))
   | (rw [r5 (by assumption) (by assumption) (by assumption) q t3];exact RN.a ⟨_,_,rfl,(by assumption)⟩)
 ·obtain ⟨⟨n,x⟩,hu⟩:∃x,bs[j]?=some x:=⟨_,List.getElem?_eq_getElem (by omega)⟩
  have wbx:=wb.mono hle
  have htk:=take_snoc hu
  have hnb:=wb.bytes hu
  have n0:¬NmsB (bs.take j)→false=dec (NmsB (bs.take (j+1))):=fun x=>by rw [htk];exact (dec_false fun y=>x (NmsB_snoc.1 y).1).symm
  have n2:¬IsNm n→false=dec (NmsB (bs.take (j+1))):=fun x=>by rw [htk];exact (dec_false fun y=>x (NmsB_snoc.1 y).2.1).symm
  have s0:¬SmlV (bs.take j)→false=dec (SmlV (bs.take (j+1))):=fun x=>by rw [htk];exact (dec_false fun y=>x (SmlV_snoc.1 y).1).symm
  have s1:∀e:Int,(e=0↔x.isSome=true)→SmlV (bs.take j)→eq e 0=dec (SmlV (bs.take (j+1))):=fun e he y=>by
   rw [htk,eq_dec]
   exact dec_congr (he.trans ⟨fun z=>SmlV_snoc.2 ⟨y,z⟩,fun z=>(SmlV_snoc.1 z).2⟩)
  have c2:=fun h=>c2 h n hnb
  have mst:stripV (bs.take (j+1))=stripV (bs.take j)++[(n,x.getD 0)]:=by rw [htk,stripV_snoc]
  have mnew:=MsR.new (n:=n) (u:=x.getD 0) mr
  have mold:=fun i t' (hi:ms[i]?=some (n,t'))=>MsR.old (u:=x.getD 0) mr hi
  rw [← mst] at mnew
  simp only [← mst] at mold
  have fe:=EntsR.find hnb 0 me
  have mem:n∈ms.map (·.1)↔n∈(bs.take j).map (·.1):=by rw [← stripV_names (bs.take j)];exact mr.1 n
  have nfound:n∈ms.map (·.1)→false=dec (NmsB (bs.take (j+1))):=fun x=>by rw [htk];exact (dec_false fun y=>(NmsB_snoc.1 y).2.2 (mem.1 x)).symm
  have nmiss:n∉ms.map (·.1)→NmsB (bs.take j)→IsNm n→true=dec (NmsB (bs.take (j+1))):=fun x y z=>by rw [htk];exact (dec_true (NmsB_snoc.2 ⟨y,z,fun q=>x (mem.2 q)⟩)).symm
  clear r1 r2 r3 r4 r5 htk mst mem c1 c4
  obtain ⟨S1,hS1⟩:∃V,V=dec (SmlV (bs.take (j+1))):=⟨_,rfl⟩
  obtain ⟨N1,hN1⟩:∃V,V=dec (NmsB (bs.take (j+1))):=⟨_,rfl⟩
  simp only [← hS1] at s0 s1
  rw [← hN1] at n0 n2 nfound nmiss
  obtain ⟨y,hy⟩:∃y,y=x.getD 0:=⟨_,rfl⟩
  rcases fe with ⟨i,x',t',e1,e2,e3,e4,⟨ng5,a5,b5,e5,hq5⟩,-⟩|⟨e1,e2,-⟩
  ·have e1':=e1
   rw [e5] at e1
   have nf:=nfound (List.mem_map.2 ⟨_,List.mem_of_getElem? e3,rfl⟩)
   rw [Nat.zero_add] at e1 e1'
   have e2':es[i]?=some x':=by rw [← Array.getElem?_toList];exact e2
   conv=>whnf
   repeat ((first|refine oI.z ?_|refine cI.z ?_);conv=>whnf)
   repeat' first|((first|(show Idx _ _ _ _ _;refine Idx.valu wbx j n x (by omega) hu (fun bl off ng a2 b2 hnn hE h1 h2=>?_))|(show LdN _ _ _ _ _;first|refine LdN.hasC [.bool ng,a2.val,b2.val] rfl (h1 _ _ (Heap.lr _)) (fun i v hv=>h2 _ _ i v (Heap.lr _) hv) ?_|refine LdN.oA 0 rfl rfl ?_|refine LdN.oA 1 rfl rfl ?_)|(show CN _ _ _ _ _ _;first|(refine CN.f rfl (c2 _) (fun v h' hl2 hr=>?_);subst hr)|(refine CN.f rfl (c3 _ (by (iterate 30 try first|assumption|refine Tb.mono ?_ (by assumption));first|done|assumption) _ _ _ x (by (iterate 30 try first|assumption|refine IsNum.mono ?_ (by assumption));first|done|assumption)) (fun v h' hl2 hr=>?_);obtain ⟨n7,a7,b7,z7,rfl,hq7,he7⟩:=hr))|(show Ext _ _ _ _ _ _ _;first|refine Ext.mapFind (es:=es) (clock:=clock) (d:=.string) (key:=.string (txt n)) (.inl (by simp)) rfl rfl rfl (by decide) trivial (.inl ⟨_,_,e1,?_⟩)|(refine Ext.mapSet (d:=.string) (key:=.string (txt n)) (A:=[_,_,_]) (Fe:=X) (G:=[]) (by first|exact .inl rfl|exact .inr rfl) rfl rfl trivial (.inr ⟨i,x',e1',e2',e4,?_⟩)))|((first|refine oI.z ?_|refine cI.z ?_))|intro (_:Nat)|refine WN.i64 (by omega) (by omega) ?_|(show Ld _ _ _ _;first|refine Ld.o 0 rfl rfl ?_|refine Ld.o 1 rfl rfl ?_|refine Ld.o 2 rfl rfl ?_)|refine Sto.l 0 rfl rfl rfl ?_) <;> (conv=>whnf))|(show cnd _ _ _;first|(refine cnd_lt (fun _=>?_) (fun _=>?_) <;> first|(exfalso;omega)|(conv=>whnf))|(refine cnd_dec (fun _=>?_) (fun _=>?_) <;> first|(exfalso;omega)|(conv=>whnf)))
   all_goals
    refine ⟨rfl,bs.length-(j+1),by omega,j+1,_::_::_::X,_,_,ms.set i (n,x.getD 0),rfl,(by (iterate 30 try first|assumption|refine Heap.lt ?_ (by assumption));first|done|assumption),by omega,vi (by omega),congrArg Value.bool ?_,congrArg Value.bool ?_,rfl,?_,mold i t' e3⟩
    ·rw [← hN1];first|exact nf|exact n0 (by assumption)|exact n2 (by assumption)
    ·rw [← hS1];first|exact s1 _ he7 (by assumption)|exact s0 (by assumption)
    ·rw [modify_set e2']
     exact EntsR.set ⟨rfl,hnb,n7,a7,b7,rfl,(by assumption)⟩ (me.mono (by (iterate 30 try first|assumption|refine Heap.lt ?_ (by assumption));first|done|assumption))
  ·conv=>whnf
   repeat ((first|refine oI.z ?_|refine cI.z ?_);conv=>whnf)
   repeat' first|((first|(show Idx _ _ _ _ _;refine Idx.valu wbx j n x (by omega) hu (fun bl off ng a2 b2 hnn hE h1 h2=>?_))|(show LdN _ _ _ _ _;first|refine LdN.hasC [.bool ng,a2.val,b2.val] rfl (h1 _ _ (Heap.lr _)) (fun i v hv=>h2 _ _ i v (Heap.lr _) hv) ?_|refine LdN.oA 0 rfl rfl ?_|refine LdN.oA 1 rfl rfl ?_)|(show CN _ _ _ _ _ _;first|(refine CN.f rfl (c2 _) (fun v h' hl2 hr=>?_);subst hr)|(refine CN.f rfl (c3 _ (by (iterate 30 try first|assumption|refine Tb.mono ?_ (by assumption));first|done|assumption) _ _ _ x (by (iterate 30 try first|assumption|refine IsNum.mono ?_ (by assumption));first|done|assumption)) (fun v h' hl2 hr=>?_);obtain ⟨n7,a7,b7,z7,rfl,hq7,he7⟩:=hr))|(show Ext _ _ _ _ _ _ _;first|refine Ext.mapFind (es:=es) (clock:=clock) (d:=.string) (key:=.string (txt n)) (.inl (by simp)) rfl rfl rfl (by decide) trivial (.inr ⟨e1,?_⟩)|(refine Ext.mapSet (d:=.string) (key:=.string (txt n)) (A:=[_,_,_]) (Fe:=X) (G:=[]) (by first|exact .inl rfl|exact .inr rfl) rfl rfl trivial (.inl ⟨e1,?_⟩)))|((first|refine oI.z ?_|refine cI.z ?_))|intro (_:Nat)|refine WN.i64 (by omega) (by omega) ?_|(show Ld _ _ _ _;first|refine Ld.o 0 rfl rfl ?_|refine Ld.o 1 rfl rfl ?_|refine Ld.o 2 rfl rfl ?_)|refine Sto.l 0 rfl rfl rfl ?_) <;> (conv=>whnf))|(show cnd _ _ _;first|(refine cnd_lt (fun _=>?_) (fun _=>?_) <;> first|(exfalso;omega)|(conv=>whnf))|(refine cnd_dec (fun _=>?_) (fun _=>?_) <;> first|(exfalso;omega)|(conv=>whnf)))
   all_goals
    refine ⟨rfl,bs.length-(j+1),by omega,j+1,_::_::_::X,_,_,ms++[(n,x.getD 0)],rfl,(by (iterate 30 try first|assumption|refine Heap.lt ?_ (by assumption));first|done|assumption),by omega,vi (by omega),congrArg Value.bool ?_,congrArg Value.bool ?_,rfl,?_,mnew⟩
    ·rw [← hN1];first|exact nmiss e2 (by assumption) (by assumption)|exact n0 (by assumption)|exact n2 (by assumption)
    ·rw [← hS1];first|exact s1 _ he7 (by assumption)|exact s0 (by assumption)
    ·rw [Array.toList_push]
     exact EntsR.push ⟨rfl,hnb,n7,a7,b7,rfl,(by assumption)⟩ (me.mono (by (iterate 30 try first|assumption|refine Heap.lt ?_ (by assumption));first|done|assumption))
end Go.Proofs.YtbgicephinomlaaGreatDoor