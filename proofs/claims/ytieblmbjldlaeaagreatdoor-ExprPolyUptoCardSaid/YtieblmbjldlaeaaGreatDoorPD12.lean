/- The document's constants, atoms, powers. -/
import Derived.Test.YtieblmbjldlaeaaGreatDoorPD9
import Derived.Test.YtieblmbjldlaeaaGreatDoorPF8
import Derived.Test.YtieblmbjldlaeaaGreatDoorE97
set_option linter.all false
set_option maxHeartbeats 8000000
set_option maxRecDepth 20000
namespace Go.Proofs.Y
open Go Go.Vc Go.Dig
attribute [local irreducible] Vc.Fn FnP
theorem mD (h:aA) (a b:Sl) (q:Rat) (hq:IsQ h a b q) (hs:Sr 10600000 q):Fn0 T F.q39 [.agg #[.bool (sg q),a.val,b.val]] h fun v h'=>∃s,v=Sl.val s∧eJ QmS h' s (lH q):=by
 have c1:=fun h w=>aEf h a b q w (hs.mono (by decide))
 obtain ⟨z,hz⟩:∃z,z=fI q:=⟨_,rfl⟩
 rw [← hz] at c1
 by_cases h0:q=0
 ·have hz0:z=0:=hz.trans (gG.2 (dH.2 h0))
  have hc:lH q=[]:=if_pos h0
  rw [hc]
  refine f0C ok D.q39 rfl ?_
  conv=>whnf
  repeat' first|((first|(show LdN _ _ _ _ _;refine LdN.oA 0 rfl rfl ?_)|(show CN _ _ _ _ _ _;(refine CN.quiet rfl (c1 _ (hq.mono (by first|assumption|exact aA.lr _))) ?_))|((first|apply oI.z|apply cI.z))|intro (_:Nat)) <;> (conv=>whnf))|(apply aE<;>intro _<;>first|(exfalso;omega)|conv=>whnf)
  exact RN.a ⟨⟨none,0,0⟩,rfl,[],rfl,Rw.nil _ _,fun x hx=>by cases hx⟩
 ·have hz0:z≠0:=fun e=>h0 (dH.1 (gG.1 (hz.symm.trans e)))
  have hc:lH q=[([],q)]:=if_neg h0
  rw [hc]
  refine f0C ok D.q39 rfl ?_
  conv=>whnf
  repeat' first|((first|(show LdN _ _ _ _ _;refine LdN.oA 0 rfl rfl ?_)|(show CN _ _ _ _ _ _;(refine CN.quiet rfl (c1 _ (hq.mono (by first|assumption|exact aA.lr _))) ?_))|((first|apply oI.z|apply cI.z))|intro (_:Nat)) <;> (conv=>whnf))|(apply aE<;>intro _<;>first|(exfalso;omega)|conv=>whnf)
  refine RN.growE (K:=QmS) (aD.one4 ⟨sg q,a,b,⟨none,0,0⟩,[],q⟩) (fun x hx=>?_) fun h' s hl e w=>⟨s,e,w⟩
  rw [aV2] at hx;subst hx
  exact ⟨⟨hq.mono (by first|assumption|exact aA.lr _),rfl,⟨Rw.nil _ _,aWe _⟩⟩,hs⟩
theorem aB7 (h:aA) (s:List UInt8):Fn0 T F.q40 [.string ⟨s.toArray⟩] h fun v h'=>RFo h' v (bY s):=by
 have hsz:(⟨s.toArray⟩:ByteArray).size=s.length:=by simp [ByteArray.size]
 obtain ⟨r,hr⟩:∃r,r=bY s:=⟨_,rfl⟩
 have r1:4000<s.length→r=.error 4:=fun a=>hr.trans (wV a)
 have r2:s.length≤4000→r=.ok [([(s,1)],1)]:=fun a=>hr.trans (wU a)
 rw [← hr]
 have c1:=fun h=>pJ h 1 (by decide) (by decide)
 have e1:((1:Int):Rat)=1:=rfl
 rw [e1] at c1
 refine f0C ok D.q40 rfl ?_
 conv=>whnf
 repeat' first|((first|(show CN _ _ _ _ _ _;(refine CN.f rfl (c1 _) (fun v h' hl hr=>?_);obtain ⟨s',t',rfl,hq'⟩:=hr))|((first|apply oI.z|apply cI.z))|intro (_:Nat)) <;> (conv=>whnf))|(apply aB<;>intro _<;>first|(exfalso;omega)|conv=>whnf)
 ·exact RN.a (R:=fun v h'=>RFo h' v r) (dW (n:=4) (by decide) (r1 (by omega)))
 ·rename_i b1 b2
  refine RN.keep 1 rfl fun hle=>?_
  have hF:Rw (h'.put b1 (.cells [.string ⟨s.toArray⟩,.int .i64 1].toArray 57 (0,0))) ⟨some ⟨b1,0,none⟩,1,1⟩ 2 (fcs [(s,1)]):=Rw.oneF (e:=1) (if_pos rfl)
  refine RN.growE (K:=QmS) (aD.one4 ⟨sg 1,s',t',⟨some ⟨b1,0,none⟩,1,1⟩,[(s,1)],1⟩) (fun x hx=>?_) fun h' s1 hl e w=>⟨s1,0,by rw [e];rfl,.inl ⟨rfl,_,r2 (by omega),w⟩⟩
  rw [aV2] at hx;subst hx
  exact ⟨⟨hq'.mono hle,rfl,⟨hF,by show 1≤1099511627776;decide⟩⟩,(iT fE).mono (by decide)⟩
theorem uU (h:aA) (S:List (List UInt8)) (hS:S.length≤100000) (hSo:Sok S) (s:Sl) (a:Pol) (w:eJ QmS h s a) (g:PG S a) (n:Nat) (hn:n≤1000):Fn0 T F.q80 [s.val,.int .i64 n] h fun v h'=>RFo h' v (fP a n):=by
 have c1:=fun h=>pJ h 1 (by decide) (by decide)
 have e1:((1:Int):Rat)=1:=rfl
 rw [e1] at c1
 have c2:=fun h a b w=>mD h a b 1 w ((iT fE).mono (by decide))
 have e2:lH 1=[([],1)]:=if_neg (by decide)
 rw [e2] at c2
 have c3:=fun h s1 p w1 w2 g1=>rL h S hS hSo s1 s p a w1 w2 g1 g
 obtain ⟨r,hr⟩:∃r,r=fP a n:=⟨_,rfl⟩
 rw [← hr]
 refine f0C ok D.q80 rfl ?_
 conv=>whnf
 repeat' first|((first|(show CN _ _ _ _ _ _;first|(refine CN.f rfl (c1 _) (fun v h' hl hr=>?_);obtain ⟨s',t',rfl,hq'⟩:=hr)|(refine CN.f rfl (c2 _ _ _ (hq'.mono (by first|assumption|exact aA.lr _))) (fun v h' hl hr=>?_);obtain ⟨s6,rfl,w6⟩:=hr))|((first|apply oI.z|apply cI.z))) <;> (conv=>whnf))
 rename_i hh _
 refine LpN.of (fun r ρ hx L=>∃(i:Nat) (s6:Sl) (p:Pol),r=n-i∧h.le hx∧L=[]∧i≤n∧rd ρ 7=.int .i64 i∧rd ρ 6=s6.val∧Hq (fP a i=.ok p)∧eJ QmS hx s6 p) n
  ⟨0,s6,_,rfl,(by (iterate 30 try first|assumption|refine aA.lt ?_ (by assumption));first|done|assumption),rfl,aWe _,rfl,rfl,⟨rfl⟩,w6⟩ ?_
 conv=>whnf
 repeat intro _
 rename_i q2 h2 L2 hI
 obtain ⟨i,s8,p,rfl,hle,rfl,hi,e7,e6,⟨hp⟩,w8⟩:=hI
 conv at e6=>lhs;whnf
 subst e6
 conv at e7=>lhs;whnf
 subst e7
 have w2:=w.mono hle
 by_cases hin:i=n
 ·conv=>whnf
  repeat' first|((first|((first|apply oI.z|apply cI.z))) <;> (conv=>whnf))|(apply aB<;>intro _<;>first|(exfalso;omega)|conv=>whnf)
  exact RN.a (R:=fun v h'=>RFo h' v r) ⟨s8,0,rfl,.inl ⟨rfl,p,by rw [hr,← hin,hp],w8⟩⟩
 ·have c4:=fun h w1 w2=>c3 h s8 p w1 w2 (zK g hp)
  have hnx:fP a (i+1)=bH (tmL p a):=by rw [fP,hp]
  obtain ⟨R,hR⟩:∃R,R=bH (tmL p a):=⟨_,rfl⟩
  rw [← hR] at c4 hnx
  conv=>whnf
  repeat' first|((first|((first|apply oI.z|apply cI.z))|refine WN.i64 (by omega) (by omega) ?_) <;> (conv=>whnf))|(show CN _ _ _ _ _ _;first|(refine CN.f rfl (c4 _ (w8.mono (by first|assumption|exact aA.lr _)) (w2.mono (by first|assumption|exact aA.lr _))) (fun v h' hl hr=>?_);obtain ⟨s7,e,rfl,⟨he,p7,hp7,w7⟩|⟨he,hp7⟩⟩:=hr <;> (conv=>whnf)))|(show cnd _ _ _;first|(apply aB<;>intro _<;>first|(exfalso;omega)|conv=>whnf)|(apply aE<;>intro _<;>first|(exfalso;omega)|conv=>whnf)|(refine aI ?_))
  ·exact ⟨rfl,n-(i+1),by omega,i+1,s7,p7,rfl,(by (iterate 30 try first|assumption|refine aA.lt ?_ (by assumption));first|done|assumption),rfl,by omega,vi (by omega),rfl,⟨by rw [hnx,hp7]⟩,w7⟩
  ·exact RN.a (R:=fun v h'=>RFo h' v r) (dW he (hr.trans (zR (hnx.trans hp7) (by omega))))
end Go.Proofs.Y
/- The document's inverse. -/
namespace Go.Proofs.Y
open Go Go.Vc Go.Dig
theorem aB8 (X:List Nat) (v:Int):(aN (X,v) 3).length≤X.length+2:=by
 by_cases h:v<3
 ·rw [aB4 h];simp
 ·rw [aB5 h];omega
attribute [local irreducible] Vc.Fn FnP
theorem rU (h:aA) (b:Tr) (d:Nat) (hok:okT d b) (hsz:szT b≤300) (hl9:(aF b).length≤900000) (vs:List Value) (wb:IsE h vs b) (s:Sl) (a:Pol) (wa:eJ QmS h s a) (ga:gW a):Fn0 T F.q45 [.agg vs.toArray,s.val] h fun v h'=>RFo h' v (bP b a):=by
 obtain ⟨l,e1,r1,t1⟩:=wa
 have hl:l.length≤200:=by have:=ga.len;rw [← e1,aWb] at this;exact this
 have hs:s.l=l.length:=by have:=r1.len;rw [aV] at this;omega
 have txs:=wZ b d hok hsz
 have ct:=fun h w=>txs h vs w
 have cp:=fun h w=>dK b txs hl9 3 h vs w
 have wb0:=wb
 obtain ⟨r,hr⟩:∃r,r=bP b a:=⟨_,rfl⟩
 rw [← hr]
 obtain ⟨⟨op,arg,neg,nl,nm,name,ks⟩,ht⟩:∃u,u=b:=⟨_,rfl⟩
 obtain ⟨va,vb,sk,hvs,-⟩:=(ht.symm▸wb:IsE h vs (.mk op arg neg nl nm name ks)).isK
 subst hvs
 clear wb txs
 by_cases hc:∃x,l=[x]∧x.m=[]
 ·obtain ⟨x,rfl,hm⟩:=hc
  have hx:([x]:List El)[0]?=some x:=rfl
  have wx:=(t1 x (aV2.2 rfl)).m
  obtain ⟨xn,xa,xd,xf,xm,xq⟩:=x
  obtain rfl:xn=sg xq:=wx.sg
  dsimp only at hm
  subst hm
  have e2:a=[([],xq)]:=e1.symm
  have h0:xq≠0:=ga.can.2 ([],xq) (by rw [e2];exact aVw)
  have hf:cK xq:=ga.fit ([],xq) (by rw [e2];exact aVw)
  have hfi:=oU h0 hf
  have h0i:=uM h0
  have hr2:r=.ok (lH (1 / xq)):=by rw [hr,wY e2];unfold lH;rw [if_neg h0i]
  have k1:=fun h=>pJ h 1 (by decide) (by decide)
  have e1':((1:Int):Rat)=1:=rfl
  rw [e1'] at k1
  have c2:=fun h c d w1 w2=>aP3 h c d xa xd 1 xq w1 w2 ((iT fE).mono (by decide)) ((iT hf).mono (by decide))
  have c3:=fun h c d w=>mD h c d (1 / xq) w ((iT hfi).mono (by decide))
  have hxf:(⟨sg xq,xa,xd,xf,[],xq⟩:El).f.l=0:=by have:=wx.fac.rw.len;rw [bT] at this;dsimp only [List.length_nil] at this ⊢;omega
  have hs1:s.l=1:=hs
  have wxq:=wx.q
  refine f0C ok D.q45 rfl ?_
  conv=>whnf
  repeat' first|((first|(show Idx _ _ _ _ _;refine Idx.el r1 0 _ rfl hx (fun ab ao aw=>?_))|(show Ld _ _ _ _;(refine Ld.elf aw (by first|assumption|exact aA.lr _) ?_))|(show LdN _ _ _ _ _;(refine LdN.elq aw (by first|assumption|exact aA.lr _) ?_))|(show CN _ _ _ _ _ _;first|(refine CN.f rfl (k1 _) (fun v h' hl hr'=>?_);obtain ⟨i1,i2,rfl,hi'⟩:=hr')|(refine CN.f rfl (c2 _ _ _ (by assumption) (wxq.mono (by assumption))) (fun v h' hl hr'=>?_);obtain ⟨m1,m2,rfl,hm'⟩:=hr')|(refine CN.f rfl (c3 _ _ _ (by assumption)) (fun v h' hl hr'=>?_);obtain ⟨s3,rfl,w3⟩:=hr'))|((first|apply oI.z|apply cI.z))|refine ⟨fun _=>aH.o (by assumption),?_⟩|intro (_:Nat)|refine DrN.run (by decide +kernel) ?_) <;> (conv=>whnf))|(apply aE<;>intro _<;>first|(exfalso;omega)|conv=>whnf)
  all_goals exact RN.a (R:=fun v h'=>RFo h' v r) ⟨s3,0,rfl,.inl ⟨rfl,_,hr2,w3⟩⟩
 ·have hno:∀c,a≠[([],c)]:=fun c e=>hc (by
    rw [← e1] at e
    rcases l with _|⟨x,_|⟨y,l⟩⟩
    ·cases e
    ·exact ⟨x,rfl,by injection e with e;exact (Prod.mk.inj e).1⟩
    ·injection e with _ e;cases e)
  have hr2:=hr.trans (aB3 hno)
  have hl1:l.length=1→∃x,l[0]?=some x∧0<x.f.l:=fun e=>by
   match l,e,hc,t1 with
   | [x],_,hc,t1=>
    refine ⟨x,rfl,?_⟩
    have hm:x.m≠[]:=fun e=>hc ⟨x,rfl,e⟩
    have h1:=(t1 x (aV2.2 rfl)).m.fac.rw.len
    rw [bT] at h1
    have:=List.length_pos_iff.2 hm
    omega
  obtain ⟨X,hX⟩:∃X,X=aF b:=⟨_,rfl⟩
  have hPl:(aN (X,aU b.op) 3).length≤X.length+2:=aB8 _ _
  rw [← hX] at hr2
  simp only [← hX] at ct cp
  have hXs:=bB X
  obtain ⟨P,hP⟩:∃P,P=aN (X,aU b.op) 3:=⟨_,rfl⟩
  rw [← hP] at hr2 hPl
  simp only [← hP] at cp
  have e4:4000<X.length→r=.error 4:=fun z=>hr2.trans (if_pos z)
  have e5:¬4000<X.length→r=bY (dV++b8 P):=fun z=>hr2.trans (if_neg z)
  have c6:∀h,Fn0 T F.q40 [.string (txt ([49,32,47,32]++P))] h fun v h'=>RFo h' v (bY (dV++b8 P)):=fun h=>by rw [zO];exact aB7 h _
  obtain ⟨R6,hR6⟩:∃R6,R6=bY (dV++b8 P):=⟨_,rfl⟩
  simp only [← hR6] at c6 e5
  clear hr2 hr hX hP
  by_cases hL:l.length=1
  ·obtain ⟨x,hx,hxf⟩:=hl1 hL
   refine f0C ok D.q45 rfl ?_
   conv=>whnf
   repeat' first|((first|(show LdN _ _ _ _ _;refine LdN.oA 0 rfl rfl ?_)|(show Idx _ _ _ _ _;refine Idx.el r1 0 _ rfl hx (fun ab ao aw=>?_))|(show Ld _ _ _ _;refine Ld.elf aw (aA.lr _) ?_)|(show CN _ _ _ _ _ _;first|(refine CN.f rfl (ct _ (wb0.mono (by first|assumption|exact aA.lr _))) (fun v h' hl hr=>?_);subst hr)|(refine CN.f rfl (cp _ (wb0.mono (by assumption))) (fun v h' hl hr=>?_);subst hr)|(refine CN.f rfl (c6 _) (fun v h' hl hr=>?_);obtain ⟨s7,e,rfl,hse⟩:=hr))|(show Cat _ _ _;(refine Cat.txt (a:=[49,32,47,32]) (b:=P) rfl rfl (by show 4+_≤_;omega) ?_))|((first|apply oI.z|apply cI.z))|intro (_:Nat)) <;> (conv=>whnf))|(show cnd _ _ _;first|(apply aB<;>intro _<;>first|(exfalso;omega)|conv=>whnf)|(apply aE<;>intro _<;>first|(exfalso;omega)|conv=>whnf))
   all_goals first
    | exact RN.a (R:=fun v h'=>RFo h' v r) (dW (n:=4) (by decide) (e4 (by omega)))
    | exact RN.a (R:=fun v h'=>RFo h' v r) ⟨s7,e,rfl,by rw [e5 (by omega)];exact hse⟩
  ·refine f0C ok D.q45 rfl ?_
   conv=>whnf
   repeat' first|((first|(show LdN _ _ _ _ _;refine LdN.oA 0 rfl rfl ?_)|(show CN _ _ _ _ _ _;first|(refine CN.f rfl (ct _ (wb0.mono (by first|assumption|exact aA.lr _))) (fun v h' hl hr=>?_);subst hr)|(refine CN.f rfl (cp _ (wb0.mono (by assumption))) (fun v h' hl hr=>?_);subst hr)|(refine CN.f rfl (c6 _) (fun v h' hl hr=>?_);obtain ⟨s7,e,rfl,hse⟩:=hr))|(show Cat _ _ _;(refine Cat.txt (a:=[49,32,47,32]) (b:=P) rfl rfl (by show 4+_≤_;omega) ?_))|((first|apply oI.z|apply cI.z))|intro (_:Nat)) <;> (conv=>whnf))|(show cnd _ _ _;first|(apply aB<;>intro _<;>first|(exfalso;omega)|conv=>whnf)|(apply aE<;>intro _<;>first|(exfalso;omega)|conv=>whnf))
   all_goals first
    | exact RN.a (R:=fun v h'=>RFo h' v r) (dW (n:=4) (by decide) (e4 (by omega)))
    | exact RN.a (R:=fun v h'=>RFo h' v r) ⟨s7,e,rfl,by rw [e5 (by omega)];exact hse⟩
end Go.Proofs.Y
/- The document's form. -/
namespace Go.Proofs.Y
open Go Go.Vc Go.Dig
attribute [local irreducible] Vc.Fn FnP
def fpw (k:Tr) (a:Pol) (arg:Int):Except Nat Pol:=if arg<0 then match bP k a with
 | .error n=>.error n
 | .ok c=>fP c arg.natAbs else fP a arg.natAbs
theorem aMa (h:aA):eJ QmS h ⟨none,0,0⟩ []:=⟨[],rfl,Rw.nil _ _,fun x hx=>by cases hx⟩
theorem aRe {k:Tr} {a:Pol} {arg:Int} {n:Nat} (h:arg<0) (e:bP k a=.error n):fpw k a arg=.error n:=by unfold fpw;rw [if_pos h,e]
theorem aRf {k:Tr} {a c:Pol} {arg:Int} (h:arg<0) (e:bP k a=.ok c):fpw k a arg=fP c arg.natAbs:=by unfold fpw;rw [if_pos h,e]
theorem aTk {k:Tr} {a:Pol} {arg:Int} (h:¬arg<0):fpw k a arg=fP a arg.natAbs:=by unfold fpw;rw [if_neg h]
theorem aB9 (h:aA) (arg:Int) (neg:Bool) (l m name:List Nat) (k:Tr) (vs:List Value) (w:IsE h vs (.mk 9 arg neg l m name [k])) (ha:-1000≤arg∧arg≤1000) (d:Nat) (hok:okT d k) (hsz:szT k≤300)
  (S:List (List UInt8)) (hS:S.length≤1000) (hSo:Sok S) (s:Sl) (a:Pol) (wa:eJ QmS h s a) (ga:PG S a):Fn0 T F.q43 [.agg vs.toArray,s.val] h fun v h'=>RFo h' v (fpw k a arg):=by
 obtain ⟨va,vb,sk,rfl,-,harg,hval,-,hk⟩:=w.isK
 have hk0:([k]:List Tr)[0]?=some k:=rfl
 have hl9:=jC k d hok
 obtain ⟨r,hr⟩:∃r,r=fpw k a arg:=⟨_,rfl⟩
 rw [← hr]
 by_cases hn:arg<0
 ·have ci:=fun h vs w wa=>rU h k d hok hsz (by omega) vs w s a wa ga.good
  have hN:0-arg=((arg.natAbs:Nat):Int):=by omega
  have cr:∀h c s2,bP k a=.ok c→eJ QmS h s2 c→Fn0 T F.q80 [Sl.val s2,.int .i64 (0-arg)] h fun v h'=>RFo h' v (fP c arg.natAbs):=fun h c s2 e w2=>by
   obtain ⟨S2,h1,h2,h3⟩:=lJ ga.good e
   rw [hN]
   exact uU h S2 (by omega) h2 s2 c w2 h3 _ (by omega)
  have f1:∀n,bP k a=.error n→r=.error n:=fun n e=>hr.trans (aRe hn e)
  have f2:∀c,bP k a=.ok c→r=fP c arg.natAbs:=fun c e=>hr.trans (aRf hn e)
  refine f0C ok D.q43 rfl ?_
  conv=>whnf
  repeat' first|((first|(show Idx _ _ _ _ _;refine Idx.kid hk 0 k rfl hk0 (fun ad0 op0 arg0 neg0 a0 b0 name0 s0 hE0 hld0=>?_))|(refine hld0 _ _ _ (by first|assumption|exact aA.lr _) ?_)|((first|apply oI.z|apply cI.z))|intro (_:Nat)|refine WN.i64 (by omega) (by omega) ?_|refine Ld.o 0 rfl rfl ?_) <;> (conv=>whnf))|(show CN _ _ _ _ _ _;first|(refine CN.f rfl (ci _ _ (hE0.mono (by first|assumption|exact aA.lr _)) (wa.mono (by first|assumption|exact aA.lr _))) (fun v h' hl hr=>?_);obtain ⟨s7,e7,rfl,⟨he7,p7,hp7,w7⟩|⟨he7,hp7⟩⟩:=hr <;> (conv=>whnf))|(refine CN.f rfl (cr _ p7 s7 hp7 (w7.mono (by first|assumption|exact aA.lr _))) (fun v h' hl hr=>?_);obtain ⟨s8,e8,rfl,⟨he8,p8,hp8,w8⟩|⟨he8,hp8⟩⟩:=hr <;> (conv=>whnf)))|(show cnd _ _ _;first|(apply bI<;>intro _<;>first|(exfalso;omega)|conv=>whnf)|(apply aE<;>intro _<;>first|(exfalso;omega)|conv=>whnf)|(refine aI ?_))
  all_goals first
   | exact RN.a (R:=fun v h'=>RFo h' v r) ⟨s8,e8,rfl,.inl ⟨he8,p8,(f2 _ hp7).trans hp8,w8⟩⟩
   | exact RN.a (R:=fun v h'=>RFo h' v r) ⟨s8,e8,rfl,.inr ⟨he8,(f2 _ hp7).trans hp8⟩⟩
   | exact RN.a (R:=fun v h'=>RFo h' v r) (dW he7 (f1 _ hp7))
 ·have hN:arg=((arg.natAbs:Nat):Int):=by omega
  have cr:∀h,eJ QmS h s a→Fn0 T F.q80 [Sl.val s,.int .i64 arg] h fun v h'=>RFo h' v (fP a arg.natAbs):=fun h w2=>by
   have:=uU h S (by omega) hSo s a w2 ga arg.natAbs (by omega)
   rw [← hN] at this
   exact this
  have f2:r=fP a arg.natAbs:=hr.trans (aTk hn)
  rw [← f2] at cr
  refine f0C ok D.q43 rfl ?_
  conv=>whnf
  repeat' first|((first|((first|apply oI.z|apply cI.z))|intro (_:Nat)|refine Ld.o 0 rfl rfl ?_) <;> (conv=>whnf))|(show CN _ _ _ _ _ _;first|(refine CN.f rfl (cr _ (wa.mono (by first|assumption|exact aA.lr _))) (fun v h' hl hr=>?_);obtain ⟨s8,e8,rfl,⟨he8,p8,hp8,w8⟩|⟨he8,hp8⟩⟩:=hr <;> (conv=>whnf)))|(apply bI<;>intro _<;>first|(exfalso;omega)|conv=>whnf)
  all_goals first
   | exact RN.a (R:=fun v h'=>RFo h' v r) ⟨s8,e8,rfl,.inl ⟨he8,p8,hp8,w8⟩⟩
   | exact RN.a (R:=fun v h'=>RFo h' v r) ⟨s8,e8,rfl,.inr ⟨he8,hp8⟩⟩
theorem aMb:∀(t:Tr) (d:Nat),okT d t→szT t≤300→∀(h:aA) (vs:List Value),IsE h vs t→Fn0 T F.q21 [.agg vs.toArray] h fun v h'=>RFo h' v (aO t):=by
 refine iM fun t ih=>?_
 intro d hok hsz h vs w
 have txs:=wZ t d hok hsz
 have ct:=fun h vs w=>txs h vs w
 have w0:=w
 obtain ⟨op,arg,neg,l,m,name,ks⟩:=t
 obtain ⟨va,vb,sk,rfl,-,harg,hval,-,hk⟩:=w.isK
 have hok':=hok
 rw [okT] at hok
 obtain ⟨hd30,hnb,hoks⟩:=hok
 have hn1:=hnb.1
 have hsz':=hsz
 rw [szT] at hsz
 have hP:aO (.mk op arg neg l m name ks)=eR (.mk op arg neg l m name ks) op arg (aR neg l m) (dM ks):=by rw [aO]
 have ih':∀k,k∈ks→∀(h:aA) (vs:List Value),IsE h vs k→Fn0 T F.q21 [.agg vs.toArray] h fun v h'=>RFo h' v (aO k):=fun k hk=>by
  obtain ⟨j,hj,e⟩:=List.mem_iff_getElem.1 hk
  exact ih k (dB (j:=j) (by rw [aVq hj,e])) (d+1) (cZ hoks hk) (by have:=fS hk;omega)
 obtain ⟨r,hr⟩:∃r,r=aO (.mk op arg neg l m name ks):=⟨_,rfl⟩
 rw [← hr]
 rw [← hr] at hP
 by_cases o1:op=1
 ·subst o1
  have hR:=fun h w=>oG h neg va vb l m w
  have hnum:=hnb.2.2.2.2
  rw [if_pos rfl] at hnum
  have hokR:=hnum.1
  have hf:cK (aR neg l m):=⟨hokR.sz.num,hokR.sz.den⟩
  have hr2:r=.ok (lH (aR neg l m)):=hP.trans aL0
  have c2:=fun h a b w=>mD h a b (aR neg l m) w ((iT hf).mono (by decide))
  refine f0C ok D.q21 rfl ?_
  conv=>whnf
  repeat' first|((first|(apply aX.go)|(show LdN _ _ _ _ _;refine LdN.oA 0 rfl rfl ?_)|(show CN _ _ _ _ _ _;first|(refine CN.f rfl (hR _ (hval.mono (by first|assumption|exact aA.lr _))) (fun v h' hl hr=>?_);obtain ⟨c9,d9,rfl,hq9⟩:=hr)|(refine CN.f rfl (c2 _ _ _ (by assumption)) (fun v h' hl hr=>?_);obtain ⟨s3,rfl,w3⟩:=hr))|((first|apply oI.z|apply cI.z))|intro (_:Nat)|refine Ld.o 0 rfl rfl ?_) <;> (conv=>whnf))|(apply aE<;>intro _<;>first|(exfalso;omega)|conv=>whnf)
  all_goals exact RN.a (R:=fun v h'=>RFo h' v r) ⟨s3,0,rfl,.inl ⟨rfl,_,hr2,w3⟩⟩
 by_cases o2:¬(4≤op∧op≤9)
 ·have hr2:r=bY (b8 (aF (.mk op arg neg l m name ks))):=hP.trans (aFl o1 o2)
  obtain ⟨X,hX⟩:∃X,X=aF (.mk op arg neg l m name ks):=⟨_,rfl⟩
  rw [← hX] at hr2
  simp only [← hX] at ct
  have c2:∀h,Fn0 T F.q40 [.string (txt X)] h fun v h'=>RFo h' v r:=fun h=>by rw [hr2];exact aB7 h _
  refine f0C ok D.q21 rfl ?_
  conv=>whnf
  repeat' first|((first|(apply aX.go)|(show LdN _ _ _ _ _;refine LdN.oA 0 rfl rfl ?_)|(show CN _ _ _ _ _ _;first|(refine CN.f rfl (ct _ _ (w0.mono (by first|assumption|exact aA.lr _))) (fun v h' hl hr=>?_);subst hr)|(refine CN.f rfl (c2 _) (fun v h' hl hr=>?_);obtain ⟨s7,e,rfl,hse⟩:=hr))|((first|apply oI.z|apply cI.z))|intro (_:Nat)|refine Ld.o 0 rfl rfl ?_) <;> (conv=>whnf))|(apply aE<;>intro _<;>first|(exfalso;omega)|conv=>whnf)
  all_goals exact RN.a (R:=fun v h'=>RFo h' v r) ⟨s7,e,rfl,hse⟩
 replace o2:=Decidable.not_not.1 o2
 by_cases o4:op=4
 ·subst o4
  obtain ⟨k,rfl⟩:=aOp hn1 rfl
  have hk0:([k]:List Tr)[0]?=some k:=rfl
  have c1:=ih' k (aV2.2 rfl)
  rw [dM,dM] at hP
  have f1:∀n,aO k=.error n→r=.error n:=fun n e=>by rw [hP,e];exact nO o1 o2
  have f2:∀p,aO k=.ok p→r=bH (plL [] p ((-1:Int):Rat)):=fun p e=>by rw [hP,e];exact aL1
  have gk:∀p,aO k=.ok p→gW p:=fun p e=>(gX k (d+1) (cZ hoks (aV2.2 rfl)) e).elim fun S x=>x.2.2.good
  have c2:∀h s p,aO k=.ok p→eJ QmS h s p→Fn0 T F.q42 [.slice none 0 0,Sl.val s,.int .i64 (-1)] h fun v h'=>RFo h' v r:=fun h s p e w=>by
   rw [f2 p e]
   exact uS h ⟨none,0,0⟩ s [] p (-1) (.inr rfl) (aMa _) w qK (gk p e)
  refine f0C ok D.q21 rfl ?_
  conv=>whnf
  repeat' first|((first|(apply aX.go)|(show Idx _ _ _ _ _;refine Idx.kid hk 0 k rfl hk0 (fun ad0 op0 arg0 neg0 a0 b0 name0 s0 hE0 hld0=>?_))|(refine hld0 _ _ _ (by first|assumption|exact aA.lr _) ?_)|((first|apply oI.z|apply cI.z))|intro (_:Nat)|refine Ld.o 0 rfl rfl ?_) <;> (conv=>whnf))|(show CN _ _ _ _ _ _;first|(refine CN.f rfl (c1 _ _ (hE0.mono (by first|assumption|exact aA.lr _))) (fun v h' hl hr=>?_);obtain ⟨s7,e7,rfl,⟨he7,p7,hp7,w7⟩|⟨he7,hp7⟩⟩:=hr <;> (conv=>whnf))|(refine CN.f rfl (c2 _ s7 p7 hp7 (w7.mono (by first|assumption|exact aA.lr _))) (fun v h' hl hr=>?_);obtain ⟨s8,e8,rfl,⟨he8,p8,hp8,w8⟩|⟨he8,hp8⟩⟩:=hr <;> (conv=>whnf)))|(show cnd _ _ _;first|(apply aE<;>intro _<;>first|(exfalso;omega)|conv=>whnf)|(refine aI ?_))
  all_goals first
   | exact RN.a (R:=fun v h'=>RFo h' v r) ⟨s8,e8,rfl,.inl ⟨he8,p8,hp8,w8⟩⟩
   | exact RN.a (R:=fun v h'=>RFo h' v r) ⟨s8,e8,rfl,.inr ⟨he8,hp8⟩⟩
   | exact RN.a (R:=fun v h'=>RFo h' v r) (dW he7 (f1 _ hp7))
 by_cases o9:op=9
 ·subst o9
  obtain ⟨k,rfl⟩:=aOp hn1 rfl
  have hk0:([k]:List Tr)[0]?=some k:=rfl
  have hkm:k∈[k]:=aV2.2 rfl
  have c1:=ih' k hkm
  have hokk:=cZ hoks hkm
  have hszk:szT k≤300:=by have:=fS hkm;omega
  rw [dM,dM] at hP
  have f1:∀n,aO k=.error n→r=.error n:=fun n e=>by rw [hP,e];exact nO o1 o2
  have f2:∀p,aO k=.ok p→r=fpw k p arg:=fun p e=>by
   rw [hP,e]
   by_cases h:arg<0
   ·rw [zQ h];unfold fpw;rw [if_pos h];cases bP k p <;> rfl
   ·rw [aL5 h];unfold fpw;rw [if_neg h]
  have hab:-32≤arg∧arg≤32:=⟨hnb.2.1,hnb.2.2.1⟩
  have c2:∀h vs s p,aO k=.ok p→IsE h vs (.mk 9 arg neg l m name [k])→eJ QmS h s p→Fn0 T F.q43 [.agg vs.toArray,Sl.val s] h fun v h'=>RFo h' v r:=fun h vs s p e we w=>by
   rw [f2 p e]
   obtain ⟨S,z1,z2,z3⟩:=nA hokk hszk e
   exact aB9 h arg neg l m name k vs we (by omega) (d+1) hokk hszk S (by omega) z2 s p w z3
  refine f0C ok D.q21 rfl ?_
  conv=>whnf
  repeat' first|((first|(apply aX.go)|(show LdN _ _ _ _ _;refine LdN.oA 0 rfl rfl ?_)|(show Idx _ _ _ _ _;refine Idx.kid hk 0 k rfl hk0 (fun ad0 op0 arg0 neg0 a0 b0 name0 s0 hE0 hld0=>?_))|(refine hld0 _ _ _ (by first|assumption|exact aA.lr _) ?_)|((first|apply oI.z|apply cI.z))|intro (_:Nat)|refine Ld.o 0 rfl rfl ?_) <;> (conv=>whnf))|(show CN _ _ _ _ _ _;first|(refine CN.f rfl (c1 _ _ (hE0.mono (by first|assumption|exact aA.lr _))) (fun v h' hl hr=>?_);obtain ⟨s7,e7,rfl,⟨he7,p7,hp7,w7⟩|⟨he7,hp7⟩⟩:=hr <;> (conv=>whnf))|(refine CN.f rfl (c2 _ _ s7 p7 hp7 (w0.mono (by assumption)) (w7.mono (by first|assumption|exact aA.lr _))) (fun v h' hl hr=>?_);obtain ⟨s8,e8,rfl,⟨he8,p8,hp8,w8⟩|⟨he8,hp8⟩⟩:=hr <;> (conv=>whnf)))|(show cnd _ _ _;first|(apply aE<;>intro _<;>first|(exfalso;omega)|conv=>whnf)|(refine aI ?_))
  all_goals first
   | exact RN.a (R:=fun v h'=>RFo h' v r) ⟨s8,e8,rfl,.inl ⟨he8,p8,hp8,w8⟩⟩
   | exact RN.a (R:=fun v h'=>RFo h' v r) ⟨s8,e8,rfl,.inr ⟨he8,hp8⟩⟩
   | exact RN.a (R:=fun v h'=>RFo h' v r) (dW he7 (f1 _ hp7))
 obtain ⟨k,k',rfl⟩:=aS0 hn1 (by unfold cG;rw [if_neg (by omega),if_neg (by omega),if_pos (by omega)])
 have hk0:([k,k']:List Tr)[0]?=some k:=rfl
 have hk1:([k,k']:List Tr)[1]?=some k':=rfl
 have hm0:k∈[k,k']:=by simp
 have hm1:k'∈[k,k']:=by simp
 have c1:=ih' k hm0
 have c2:=ih' k' hm1
 have hok0:=cZ hoks hm0
 have hok1:=cZ hoks hm1
 have hsz0:szT k≤300:=by have:=fS hm0;omega
 have hsz1:szT k'≤300:=by have:=fS hm1;omega
 rw [dM,dM,dM] at hP
 have f1:∀n,aO k=.error n→r=.error n:=fun n e=>by rw [hP,e];exact nO o1 o2
 have f2:∀p n,aO k=.ok p→aO k'=.error n→r=.error n:=fun p n e e2=>by rw [hP,e,e2];exact aFm o1 o2 o4 o9
 have gk:∀p,aO k=.ok p→gW p:=fun p e=>(gX k (d+1) hok0 e).elim fun S x=>x.2.2.good
 have gk':∀p,aO k'=.ok p→gW p:=fun p e=>(gX k' (d+1) hok1 e).elim fun S x=>x.2.2.good
 have cm:∀(h:aA) (s1 s2:Sl) (p p2:Pol),eJ QmS h s1 p→eJ QmS h s2 p2→aO k=.ok p→aO k'=.ok p2→Fn0 T F.q44 [s1.val,s2.val] h fun v h'=>RFo h' v (bH (tmL p p2)):=fun h s1 s2 p p2 w1 w2 e1 e2=>by
  obtain ⟨S1,z1,q1,g1⟩:=nA hok0 hsz0 e1
  obtain ⟨S2,z2,q2,g2⟩:=nA hok1 hsz1 e2
  obtain ⟨z,q,g1,g2⟩:=zS z1 z2 q1 q2 g1 g2
  exact rL h _ z q s1 s2 p p2 w1 w2 g1 g2
 have hl9:=jC k' _ hok1
 have cr:∀(h:aA) (vs:List Value) (s:Sl) (p:Pol),IsE h vs k'→eJ QmS h s p→aO k'=.ok p→Fn0 T F.q45 [.agg vs.toArray,s.val] h fun v h'=>RFo h' v (bP k' p):=fun h vs s p w wp e=>rU h k' (d+1) hok1 hsz1 (by omega) vs w s p wp (gk' p e)
 have cd:∀(h:aA) (s1 s2:Sl) (p p2 c:Pol),eJ QmS h s1 p→eJ QmS h s2 c→aO k=.ok p→aO k'=.ok p2→bP k' p2=.ok c→Fn0 T F.q44 [s1.val,s2.val] h fun v h'=>RFo h' v (bH (tmL p c)):=fun h s1 s2 p p2 c w1 w2 e1 e2 e3=>by
  obtain ⟨S1,z1,q1,g1⟩:=nA hok0 hsz0 e1
  obtain ⟨S2,z2,q2,g2⟩:=lJ (gk' p2 e2) e3
  obtain ⟨z,q,g1,g2⟩:=zS z1 (by omega) q1 q2 g1 g2
  exact rL h _ z q s1 s2 p c w1 w2 g1 g2
 by_cases o5:op=5
 ·subst o5
  have f3:∀p p2,aO k=.ok p→aO k'=.ok p2→r=bH (plL p p2 ((1:Int):Rat)):=fun p p2 e e2=>by rw [hP,e,e2];exact aL2
  have c3:∀h s s2 p p2,aO k=.ok p→aO k'=.ok p2→eJ QmS h s p→eJ QmS h s2 p2→Fn0 T F.q42 [Sl.val s,Sl.val s2,.int .i64 (1)] h fun v h'=>RFo h' v (bH (plL p p2 ((1:Int):Rat))):=fun h s s2 p p2 e e2 w w2=>uS h s s2 p p2 (1) (.inl rfl) w w2 (gk p e) (gk' p2 e2)
  refine f0C ok D.q21 rfl ?_
  conv=>whnf
  repeat' first|((first|(apply aX.go)|(show Idx _ _ _ _ _;first|refine Idx.kid hk 0 k rfl hk0 (fun ad0 op0 arg0 neg0 a0 b0 name0 s0 hE0 hld0=>?_)|refine Idx.kid hk 1 k' rfl hk1 (fun ad1 op1 arg1 neg1 a1 b1 name1 s1 hE1 hld1=>?_))|(refine hld0 _ _ _ (by first|assumption|exact aA.lr _) ?_)|refine hld1 _ _ _ (by assumption) ?_|((first|apply oI.z|apply cI.z))|intro (_:Nat)|refine Ld.o 0 rfl rfl ?_) <;> (conv=>whnf))|(show CN _ _ _ _ _ _;first|(refine CN.f rfl (c1 _ _ (hE0.mono (by first|assumption|exact aA.lr _))) (fun v h' hl hr=>?_);obtain ⟨s7,e7,rfl,⟨he7,p7,hp7,w7⟩|⟨he7,hp7⟩⟩:=hr <;> (conv=>whnf))|(refine CN.f rfl (c2 _ _ (hE1.mono (by assumption))) (fun v h' hl hr=>?_);obtain ⟨s8,e8,rfl,⟨he8,p8,hp8,w8⟩|⟨he8,hp8⟩⟩:=hr <;> (conv=>whnf))|(refine CN.f rfl (c3 _ s7 s8 p7 p8 hp7 hp8 (w7.mono (by assumption)) (w8.mono (by first|assumption|exact aA.lr _))) (fun v h' hl hr=>?_);obtain ⟨s9,e9,rfl,⟨he9,p9,hp9,w9⟩|⟨he9,hp9⟩⟩:=hr <;> (conv=>whnf)))|(show cnd _ _ _;first|(apply aE<;>intro _<;>first|(exfalso;omega)|conv=>whnf)|(refine aI ?_))
  all_goals first
   | exact RN.a (R:=fun v h'=>RFo h' v r) ⟨s9,e9,rfl,.inl ⟨he9,p9,(f3 _ _ hp7 hp8).trans hp9,w9⟩⟩
   | exact RN.a (R:=fun v h'=>RFo h' v r) ⟨s9,e9,rfl,.inr ⟨he9,(f3 _ _ hp7 hp8).trans hp9⟩⟩
   | exact RN.a (R:=fun v h'=>RFo h' v r) (dW he8 (f2 _ _ hp7 hp8))
   | exact RN.a (R:=fun v h'=>RFo h' v r) (dW he7 (f1 _ hp7))
 by_cases o6:op=6
 ·subst o6
  have f3:∀p p2,aO k=.ok p→aO k'=.ok p2→r=bH (plL p p2 ((-1:Int):Rat)):=fun p p2 e e2=>by rw [hP,e,e2];exact aL3
  have c3:∀h s s2 p p2,aO k=.ok p→aO k'=.ok p2→eJ QmS h s p→eJ QmS h s2 p2→Fn0 T F.q42 [Sl.val s,Sl.val s2,.int .i64 (-1)] h fun v h'=>RFo h' v (bH (plL p p2 ((-1:Int):Rat))):=fun h s s2 p p2 e e2 w w2=>uS h s s2 p p2 (-1) (.inr rfl) w w2 (gk p e) (gk' p2 e2)
  refine f0C ok D.q21 rfl ?_
  conv=>whnf
  repeat' first|((first|(apply aX.go)|(show Idx _ _ _ _ _;first|refine Idx.kid hk 0 k rfl hk0 (fun ad0 op0 arg0 neg0 a0 b0 name0 s0 hE0 hld0=>?_)|refine Idx.kid hk 1 k' rfl hk1 (fun ad1 op1 arg1 neg1 a1 b1 name1 s1 hE1 hld1=>?_))|(refine hld0 _ _ _ (by first|assumption|exact aA.lr _) ?_)|refine hld1 _ _ _ (by assumption) ?_|((first|apply oI.z|apply cI.z))|intro (_:Nat)|refine Ld.o 0 rfl rfl ?_) <;> (conv=>whnf))|(show CN _ _ _ _ _ _;first|(refine CN.f rfl (c1 _ _ (hE0.mono (by first|assumption|exact aA.lr _))) (fun v h' hl hr=>?_);obtain ⟨s7,e7,rfl,⟨he7,p7,hp7,w7⟩|⟨he7,hp7⟩⟩:=hr <;> (conv=>whnf))|(refine CN.f rfl (c2 _ _ (hE1.mono (by assumption))) (fun v h' hl hr=>?_);obtain ⟨s8,e8,rfl,⟨he8,p8,hp8,w8⟩|⟨he8,hp8⟩⟩:=hr <;> (conv=>whnf))|(refine CN.f rfl (c3 _ s7 s8 p7 p8 hp7 hp8 (w7.mono (by assumption)) (w8.mono (by first|assumption|exact aA.lr _))) (fun v h' hl hr=>?_);obtain ⟨s9,e9,rfl,⟨he9,p9,hp9,w9⟩|⟨he9,hp9⟩⟩:=hr <;> (conv=>whnf)))|(show cnd _ _ _;first|(apply aE<;>intro _<;>first|(exfalso;omega)|conv=>whnf)|(refine aI ?_))
  all_goals first
   | exact RN.a (R:=fun v h'=>RFo h' v r) ⟨s9,e9,rfl,.inl ⟨he9,p9,(f3 _ _ hp7 hp8).trans hp9,w9⟩⟩
   | exact RN.a (R:=fun v h'=>RFo h' v r) ⟨s9,e9,rfl,.inr ⟨he9,(f3 _ _ hp7 hp8).trans hp9⟩⟩
   | exact RN.a (R:=fun v h'=>RFo h' v r) (dW he8 (f2 _ _ hp7 hp8))
   | exact RN.a (R:=fun v h'=>RFo h' v r) (dW he7 (f1 _ hp7))
 by_cases o7:op=7
 ·subst o7
  have f3:∀p p2,aO k=.ok p→aO k'=.ok p2→r=bH (tmL p p2):=fun p p2 e e2=>by rw [hP,e,e2];exact aL4
  refine f0C ok D.q21 rfl ?_
  conv=>whnf
  repeat' first|((first|(apply aX.go)|(show Idx _ _ _ _ _;first|refine Idx.kid hk 0 k rfl hk0 (fun ad0 op0 arg0 neg0 a0 b0 name0 s0 hE0 hld0=>?_)|refine Idx.kid hk 1 k' rfl hk1 (fun ad1 op1 arg1 neg1 a1 b1 name1 s1 hE1 hld1=>?_))|(refine hld0 _ _ _ (by first|assumption|exact aA.lr _) ?_)|refine hld1 _ _ _ (by assumption) ?_|((first|apply oI.z|apply cI.z))|intro (_:Nat)|refine Ld.o 0 rfl rfl ?_) <;> (conv=>whnf))|(show CN _ _ _ _ _ _;first|(refine CN.f rfl (c1 _ _ (hE0.mono (by first|assumption|exact aA.lr _))) (fun v h' hl hr=>?_);obtain ⟨s7,e7,rfl,⟨he7,p7,hp7,w7⟩|⟨he7,hp7⟩⟩:=hr <;> (conv=>whnf))|(refine CN.f rfl (c2 _ _ (hE1.mono (by assumption))) (fun v h' hl hr=>?_);obtain ⟨s8,e8,rfl,⟨he8,p8,hp8,w8⟩|⟨he8,hp8⟩⟩:=hr <;> (conv=>whnf))|(refine CN.f rfl (cm _ s7 s8 p7 p8 (w7.mono (by assumption)) (w8.mono (by first|assumption|exact aA.lr _)) hp7 hp8) (fun v h' hl hr=>?_);obtain ⟨s9,e9,rfl,⟨he9,p9,hp9,w9⟩|⟨he9,hp9⟩⟩:=hr <;> (conv=>whnf)))|(show cnd _ _ _;first|(apply aE<;>intro _<;>first|(exfalso;omega)|conv=>whnf)|(refine aI ?_))
  all_goals first
   | exact RN.a (R:=fun v h'=>RFo h' v r) ⟨s9,e9,rfl,.inl ⟨he9,p9,(f3 _ _ hp7 hp8).trans hp9,w9⟩⟩
   | exact RN.a (R:=fun v h'=>RFo h' v r) ⟨s9,e9,rfl,.inr ⟨he9,(f3 _ _ hp7 hp8).trans hp9⟩⟩
   | exact RN.a (R:=fun v h'=>RFo h' v r) (dW he8 (f2 _ _ hp7 hp8))
   | exact RN.a (R:=fun v h'=>RFo h' v r) (dW he7 (f1 _ hp7))
 ·obtain rfl:op=8:=by omega
  have f3:∀p p2 n,aO k=.ok p→aO k'=.ok p2→bP k' p2=.error n→r=.error n:=fun p p2 n e e2 e3=>by rw [hP,e,e2,zP,e3]
  have f4:∀p p2 c,aO k=.ok p→aO k'=.ok p2→bP k' p2=.ok c→r=bH (tmL p c):=fun p p2 c e e2 e3=>by rw [hP,e,e2,zP,e3]
  refine f0C ok D.q21 rfl ?_
  conv=>whnf
  repeat' first|((first|(apply aX.go)|(show Idx _ _ _ _ _;first|refine Idx.kid hk 0 k rfl hk0 (fun ad0 op0 arg0 neg0 a0 b0 name0 s0 hE0 hld0=>?_)|refine Idx.kid hk 1 k' rfl hk1 (fun ad1 op1 arg1 neg1 a1 b1 name1 s1 hE1 hld1=>?_))|(refine hld0 _ _ _ (by first|assumption|exact aA.lr _) ?_)|(refine hld1 _ _ _ (by (iterate 30 try first|assumption|refine aA.lt ?_ (by assumption));first|done|assumption) ?_)|((first|apply oI.z|apply cI.z))|intro (_:Nat)|refine Ld.o 0 rfl rfl ?_) <;> (conv=>whnf))|(show CN _ _ _ _ _ _;first|(refine CN.f rfl (c1 _ _ (hE0.mono (by first|assumption|exact aA.lr _))) (fun v h' hl hr=>?_);obtain ⟨s7,e7,rfl,⟨he7,p7,hp7,w7⟩|⟨he7,hp7⟩⟩:=hr <;> (conv=>whnf))|(refine CN.f rfl (c2 _ _ (hE1.mono (by assumption))) (fun v h' hl hr=>?_);obtain ⟨s8,e8,rfl,⟨he8,p8,hp8,w8⟩|⟨he8,hp8⟩⟩:=hr <;> (conv=>whnf))|(refine CN.f rfl (cr _ _ s8 p8 (hE1.mono (by (iterate 30 try first|assumption|refine aA.lt ?_ (by assumption));first|done|assumption)) (w8.mono (by first|assumption|exact aA.lr _)) hp8) (fun v h' hl hr=>?_);obtain ⟨s5,e5,rfl,⟨he5,p5,hp5,w5⟩|⟨he5,hp5⟩⟩:=hr <;> (conv=>whnf))|(refine CN.f rfl (cd _ s7 s5 p7 p8 p5 (w7.mono (by (iterate 30 try first|assumption|refine aA.lt ?_ (by assumption));first|done|assumption)) (w5.mono (by first|assumption|exact aA.lr _)) hp7 hp8 hp5) (fun v h' hl hr=>?_);obtain ⟨s9,e9,rfl,⟨he9,p9,hp9,w9⟩|⟨he9,hp9⟩⟩:=hr <;> (conv=>whnf)))|(show cnd _ _ _;first|(apply aE<;>intro _<;>first|(exfalso;omega)|conv=>whnf)|(refine aI ?_))
  all_goals first
   | exact RN.a (R:=fun v h'=>RFo h' v r) ⟨s9,e9,rfl,.inl ⟨he9,p9,(f4 _ _ _ hp7 hp8 hp5).trans hp9,w9⟩⟩
   | exact RN.a (R:=fun v h'=>RFo h' v r) ⟨s9,e9,rfl,.inr ⟨he9,(f4 _ _ _ hp7 hp8 hp5).trans hp9⟩⟩
   | exact RN.a (R:=fun v h'=>RFo h' v r) (dW he5 (f3 _ _ _ hp7 hp8 hp5))
   | exact RN.a (R:=fun v h'=>RFo h' v r) (dW he8 (f2 _ _ hp7 hp8))
   | exact RN.a (R:=fun v h'=>RFo h' v r) (dW he7 (f1 _ hp7))
end Go.Proofs.Y