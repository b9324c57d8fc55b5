/- Forms of expressions: the program. -/
import Derived.Test.YtieblmbjldlaeaaGreatDoorPD5
set_option linter.all false
set_option maxHeartbeats 8000000
set_option maxRecDepth 20000
namespace Go.Vc
open Go Go.Dig
theorem zO (l:List Nat):txt ([49,32,47,32]++l)=⟨(dV++b8 l).toArray⟩:=by
 unfold txt b8
 rw [aV3];rfl
end Go.Vc
namespace Go.Proofs.Y
open Go Go.Vc Go.Dig
attribute [local irreducible] Vc.Fn FnP
theorem wY {b:Tr} {a:Pol} {c:Rat} (h:a=[([],c)]):bP b a=.ok [([],1 / c)]:=by subst h;rfl
theorem aB3 {b:Tr} {a:Pol} (h:∀c,a≠[([],c)]):bP b a=if 4000<(aF b).length then .error 4 else bY (dV++b8 (aN (aF b,aU b.op) 3)):=by
 unfold bP
 split
 ·exact absurd rfl (h _)
 ·rfl
theorem aB4 {s:List Nat} {v:Int} (h:v<3):aN (s,v) 3=[40]++s++[41]:=if_neg (by show ¬(3:Int)≤v;omega)
theorem aB5 {s:List Nat} {v:Int} (h:¬v<3):aN (s,v) 3=s:=if_pos (by show (3:Int)≤v;omega)
theorem nV (h:aA) (tb:Tb h) (pw:Pw h) (b:Tr) (d:Nat) (hok:okT d b) (hsz:szT b≤300) (vs:List Value) (wb:IsE h vs b) (s:Sl) (a:Pol) (wa:iS h s a) (ga:gW a):FP F.q68 [.agg vs.toArray,s.val] h (bP b a):=by
 obtain ⟨l,e1,r1,t1⟩:=wa
 have hl:l.length≤200:=by have:=ga.len;rw [← e1,aWb] at this;exact this
 have hs:s.l=l.length:=by have:=r1.len;rw [aV] at this;omega
 have ct:=fun h tb pw w=>yQ b d hok hsz h vs tb pw w
 have wb0:=wb
 obtain ⟨r,hr⟩:∃r,r=bP b a:=⟨_,rfl⟩
 rw [← hr]
 obtain ⟨⟨op,arg,neg,nl,nm,name,ks⟩,ht⟩:∃u,u=b:=⟨_,rfl⟩
 have hop:b.op=op:=by rw [← ht];rfl
 obtain ⟨va,vb,sk,hvs,-⟩:=(ht.symm▸wb:IsE h vs (.mk op arg neg nl nm name ks)).isK
 subst hvs
 clear wb
 by_cases hc:∃x,l=[x]∧x.m=[]
 ·obtain ⟨x,rfl,hm⟩:=hc
  have hx:([x]:List El)[0]?=some x:=rfl
  have wx:=t1 x (aV2.2 rfl)
  obtain ⟨xn,xa,xd,xf,xm,xq⟩:=x
  obtain rfl:xn=sg xq:=wx.sg
  dsimp only at hm
  subst hm
  have e2:a=[([],xq)]:=e1.symm
  have h0:xq≠0:=ga.can.2 ([],xq) (by rw [e2];exact aVw)
  have hf:cK xq:=ga.fit ([],xq) (by rw [e2];exact aVw)
  have hn:nu xq≠0:=fun e=>h0 (dH.1 e)
  have hi:1 / xq=xq⁻¹:=by rw [Rat.div_def,Rat.one_mul]
  have hfi:cK xq⁻¹:=by rw [← hi];exact oU h0 hf
  have h0i:xq⁻¹≠0:=by rw [← hi];exact uM h0
  have hr2:r=.ok (lH xq⁻¹):=by rw [hr,wY e2,hi];unfold lH;rw [if_neg h0i]
  have hqi:iP h xd xa xq⁻¹:=⟨by rw [aCq xq hn];exact wx.fr.den,by rw [den_inv xq hn];exact wx.fr.num⟩
  have c2:=aCt h xa xd xq wx.fr hn
  have c3:=kD h tb xd xa xq⁻¹ hqi hfi
  have hxf:(⟨sg xq,xa,xd,xf,[],xq⟩:El).f.l=0:=by have:=wx.fac.rw.len;rw [bT] at this;dsimp only [List.length_nil] at this ⊢;omega
  have hs1:s.l=1:=hs
  unfold FP
  refine fPC ok _ D.q68 rfl ?_
  conv=>whnf
  repeat' first|((first|(show Idx _ _ _ _ _;refine Idx.el r1 0 _ rfl hx (fun ab ao aw=>?_))|(show Ld _ _ _ _;refine Ld.elf aw (aA.lr _) ?_)|(show LdN _ _ _ _ _;refine LdN.elq aw (aA.lr _) ?_)|(show CN _ _ _ _ _ _;first|refine CN.quiet rfl (Fn0.wP c2) ?_|refine CN.poly rfl c3 (fun p s h' hl e w=>?_) (fun n e=>by cases e))|((first|apply oI.z|apply cI.z))|intro (_:Nat)) <;> (conv=>whnf))|(apply aE<;>intro _<;>first|(exfalso;omega)|conv=>whnf)
  all_goals exact RN.a (R:=kJ r) ⟨p,s,hr2.trans e,rfl,w⟩
 ·have hno:∀c,a≠[([],c)]:=fun c e=>hc (by
    rw [← e1] at e
    rcases l with _|⟨x,_|⟨y,l⟩⟩
    ·cases e
    ·exact ⟨x,rfl,by injection e with e;exact (Prod.mk.inj e).1⟩
    ·injection e with _ e;cases e)
  have hr2:=hr.trans (aB3 hno)
  rw [hop] at hr2
  have hl1:l.length=1→∃x,l[0]?=some x∧0<x.f.l:=fun e=>by
   match l,e,hc,t1 with
   | [x],_,hc,t1=>
    refine ⟨x,rfl,?_⟩
    have hm:x.m≠[]:=fun e=>hc ⟨x,rfl,e⟩
    have h1:=(t1 x (aV2.2 rfl)).fac.rw.len
    rw [bT] at h1
    have:=List.length_pos_iff.2 hm
    omega
  obtain ⟨X,hX⟩:∃X,X=aF b:=⟨_,rfl⟩
  rw [← hX] at hr2
  simp only [← hX] at ct
  have hXs:=bB X
  have e4:4000<X.length→r=.error 4:=fun z=>hr2.trans (if_pos z)
  have e5:¬4000<X.length→r=bY (dV++b8 (aN (X,aU op) 3)):=fun z=>hr2.trans (if_neg z)
  have cl:=fun h=>aBa h op
  obtain ⟨V,hV⟩:∃V,V=aU op:=⟨_,rfl⟩
  rw [← hV] at e5
  simp only [← hV] at cl
  have e6:¬4000<X.length→V<3→r=bY (dV++b8 ([40]++X++[41])):=fun z z2=>by rw [e5 z,aB4 z2]
  have e7:¬4000<X.length→¬V<3→r=bY (dV++b8 X):=fun z z2=>by rw [e5 z,aB5 z2]
  have c6:∀h,Tb h→FP F.q70 [.string (txt ([49,32,47,32]++([40]++X++[41])))] h (bY (dV++b8 ([40]++X++[41]))):=fun h tb=>by rw [zO];exact rK h tb _
  have c7:∀h,Tb h→FP F.q70 [.string (txt ([49,32,47,32]++X))] h (bY (dV++b8 X)):=fun h tb=>by rw [zO];exact rK h tb _
  obtain ⟨R6,hR6⟩:∃R6,R6=bY (dV++b8 ([40]++X++[41])):=⟨_,rfl⟩
  obtain ⟨R7,hR7⟩:∃R7,R7=bY (dV++b8 X):=⟨_,rfl⟩
  simp only [← hR6] at c6 e6
  simp only [← hR7] at c7 e7
  clear e5 hr2 hr hX hV
  have hX2:([40]++X++[41]).length=X.length+2:=by simp
  by_cases hL:l.length=1
  ·obtain ⟨x,hx,hxf⟩:=hl1 hL
   unfold FP
   refine fPC ok _ D.q68 rfl ?_
   conv=>whnf
   repeat' first|((first|(apply aX.go)|(show Idx _ _ _ _ _;refine Idx.el r1 0 _ rfl hx (fun ab ao aw=>?_))|(show Ld _ _ _ _;first|refine Ld.elf aw (aA.lr _) ?_|refine Ld.o 0 rfl rfl ?_)|(show CN _ _ _ _ _ _;first|(refine CN.f rfl (Fn0.wP (ct _ tb pw wb0)) (fun v h' hl hr=>?_);subst hr)|refine CN.quiet rfl (Fn0.wP (cl _)) ?_|refine CN.poly rfl (c6 _ (tb.mono (by assumption))) (fun p s h' hl e w=>?_) (fun n e=>(e6 (by omega) (by omega)).trans e)|refine CN.poly rfl (c7 _ (tb.mono (by assumption))) (fun p s h' hl e w=>?_) (fun n e=>(e7 (by omega) (by omega)).trans e))|(show Ext _ _ _ _ _ _ _;refine Ext.iface rfl (fun m x=>by cases x) ?_)|(show Cat _ _ _;first|(refine Cat.txt (a:=[40]) (b:=X) rfl rfl (by show 1+_≤_;omega) ?_)|(refine Cat.txt (a:=[40]++X) (b:=[41]) rfl rfl (by rw [aVo];show 1+_+1≤_;omega) ?_)|(refine Cat.txt (a:=[49,32,47,32]) (b:=[40]++X++[41]) rfl rfl (by rw [hX2];show 4+_≤_;omega) ?_)|(refine Cat.txt (a:=[49,32,47,32]) (b:=X) rfl rfl (by show 4+_≤_;omega) ?_))|((first|apply oI.z|apply cI.z))|intro (_:Nat)|refine LdN.o 0 rfl rfl ?_) <;> (conv=>whnf))|(show cnd _ _ _;first|(apply aB<;>intro _<;>first|(exfalso;omega)|conv=>whnf)|(apply aE<;>intro _<;>first|(exfalso;omega)|conv=>whnf))
   all_goals first
    | exact RN.a (R:=kJ r) ⟨p,s,(e6 (by omega) (by omega)).trans e,rfl,w⟩
    | exact RN.a (R:=kJ r) ⟨p,s,(e7 (by omega) (by omega)).trans e,rfl,w⟩
    | exact Ext.panic ⟨4,e4 (by omega),rfl⟩
  ·unfold FP
   refine fPC ok _ D.q68 rfl ?_
   conv=>whnf
   repeat' first|((first|(apply aX.go)|(show CN _ _ _ _ _ _;first|(refine CN.f rfl (Fn0.wP (ct _ tb pw wb0)) (fun v h' hl hr=>?_);subst hr)|refine CN.quiet rfl (Fn0.wP (cl _)) ?_|refine CN.poly rfl (c6 _ (tb.mono (by assumption))) (fun p s h' hl e w=>?_) (fun n e=>(e6 (by omega) (by omega)).trans e)|refine CN.poly rfl (c7 _ (tb.mono (by assumption))) (fun p s h' hl e w=>?_) (fun n e=>(e7 (by omega) (by omega)).trans e))|(show Ext _ _ _ _ _ _ _;refine Ext.iface rfl (fun m x=>by cases x) ?_)|(show Cat _ _ _;first|(refine Cat.txt (a:=[40]) (b:=X) rfl rfl (by show 1+_≤_;omega) ?_)|(refine Cat.txt (a:=[40]++X) (b:=[41]) rfl rfl (by rw [aVo];show 1+_+1≤_;omega) ?_)|(refine Cat.txt (a:=[49,32,47,32]) (b:=[40]++X++[41]) rfl rfl (by rw [hX2];show 4+_≤_;omega) ?_)|(refine Cat.txt (a:=[49,32,47,32]) (b:=X) rfl rfl (by show 4+_≤_;omega) ?_))|((first|apply oI.z|apply cI.z))|intro (_:Nat)|refine LdN.o 0 rfl rfl ?_|refine Ld.o 0 rfl rfl ?_) <;> (conv=>whnf))|(show cnd _ _ _;first|(apply aB<;>intro _<;>first|(exfalso;omega)|conv=>whnf)|(apply aE<;>intro _<;>first|(exfalso;omega)|conv=>whnf))
   all_goals first
    | exact RN.a (R:=kJ r) ⟨p,s,(e6 (by omega) (by omega)).trans e,rfl,w⟩
    | exact RN.a (R:=kJ r) ⟨p,s,(e7 (by omega) (by omega)).trans e,rfl,w⟩
    | exact Ext.panic ⟨4,e4 (by omega),rfl⟩
end Go.Proofs.Y
/- The form of every expression: the program. -/
namespace Go.Proofs.Y
open Go Go.Vc Go.Dig
attribute [local irreducible] Vc.Fn FnP
section
variable {e k k':Tr} {op arg:Int} {q:Rat} {a b c:Pol} {n:Nat} {rs:List (Tr × Except Nat Pol)}
theorem aL0:eR e 1 arg q rs=.ok (lH q):=if_pos rfl
theorem aFl (h1:op≠1) (h2:¬(4≤op∧op≤9)):eR e op arg q rs=bY (b8 (aF e)):=by unfold eR;rw [if_neg h1,if_neg h2]
theorem nO (h1:op≠1) (h2:4≤op∧op≤9):eR e op arg q ((k,.error n)::rs)=.error n:=by unfold eR;rw [if_neg h1,if_pos h2]
theorem aFm (h1:op≠1) (h2:4≤op∧op≤9) (h4:op≠4) (h9:op≠9):eR e op arg q ((k,.ok a)::(k',.error n)::rs)=.error n:=by unfold eR;rw [if_neg h1,if_pos h2];dsimp only;rw [if_neg h4,if_neg h9]
theorem aL1:eR e 4 arg q ((k,.ok a)::rs)=bH (plL [] a (-1)):=by unfold eR;rw [if_neg (by decide),if_pos (by decide)];dsimp only;rw [if_pos rfl]
theorem aL2:eR e 5 arg q ((k,.ok a)::(k',.ok b)::rs)=bH (plL a b 1):=by unfold eR;rw [if_neg (by decide),if_pos (by decide)];dsimp only;rw [if_neg (by decide),if_neg (by decide),if_pos rfl]
theorem aL3:eR e 6 arg q ((k,.ok a)::(k',.ok b)::rs)=bH (plL a b (-1)):=by unfold eR;rw [if_neg (by decide),if_pos (by decide)];dsimp only;rw [if_neg (by decide),if_neg (by decide),if_neg (by decide),if_pos rfl]
theorem aL4:eR e 7 arg q ((k,.ok a)::(k',.ok b)::rs)=bH (tmL a b):=by unfold eR;rw [if_neg (by decide),if_pos (by decide)];dsimp only;rw [if_neg (by decide),if_neg (by decide),if_neg (by decide),if_neg (by decide),if_pos rfl]
theorem zP:eR e 8 arg q ((k,.ok a)::(k',.ok b)::rs)=match bP k' b with|.error n=>.error n|.ok c=>bH (tmL a c):=by unfold eR;rw [if_neg (by decide),if_pos (by decide)];dsimp only;rw [if_neg (by decide),if_neg (by decide),if_neg (by decide),if_neg (by decide),if_neg (by decide)];rfl
theorem aL5 (h:¬arg<0):eR e 9 arg q ((k,.ok a)::rs)=fP a arg.natAbs:=by unfold eR;rw [if_neg (by decide),if_pos (by decide)];dsimp only;rw [if_neg (by decide),if_pos rfl,if_neg h]
theorem zQ (h:arg<0):eR e 9 arg q ((k,.ok a)::rs)=match bP k a with|.error n=>.error n|.ok c=>fP c arg.natAbs:=by unfold eR;rw [if_neg (by decide),if_pos (by decide)];dsimp only;rw [if_neg (by decide),if_pos rfl,if_pos h];rfl
end
theorem zR {a:Pol} {i n:Nat} (h:fP a i=.error n):∀{N:Nat},i≤N→fP a N=.error n
 | 0,hN=>by obtain rfl:i=0:=(by omega);exact h
 | N+1,hN=>by
  by_cases e:i=N+1
  ·subst e;exact h
  ·have:=zR h (N:=N) (by omega)
   unfold fP
   rw [this]
theorem aB6 {a o:Pol} {i:Nat} (h:fP a i=.ok o):fP a (i+1)=bH (tmL o a):=by
 rw [fP,h]
theorem aL6 (h:aA):iS h ⟨none,0,0⟩ []:=⟨[],rfl,Rw.nil _ _,fun x hx=>by cases hx⟩
theorem nA {k:Tr} {d:Nat} (hok:okT d k) (hsz:szT k≤300) {p:Pol} (e:aO k=.ok p):∃S:List (List UInt8),S.length≤300∧Sok S∧PG S p:=by
 obtain ⟨S,h1,h2,h3⟩:=gX k d hok e
 exact ⟨S,by omega,h2,h3⟩
theorem zS {S1 S2:List (List UInt8)} {a b:Pol} (h1:S1.length≤300) (h2:S2.length≤300) (o1:Sok S1) (o2:Sok S2) (g1:PG S1 a) (g2:PG S2 b):(S1++S2).length≤100000∧Sok (S1++S2)∧PG (S1++S2) a∧PG (S1++S2) b:=
 ⟨by rw [aVo];omega,fun s hs=>(aVx.1 hs).elim (o1 s) (o2 s),g1.mono fun s hs=>List.mem_append_left _ hs,g2.mono fun s hs=>List.mem_append_right _ hs⟩
theorem vI:∀(t:Tr) (d:Nat),okT d t→szT t≤300→∀(h:aA) (vs:List Value),Tb h→Pw h→IsE h vs t→FP F.q35 [.agg vs.toArray] h (aO t):=by
 refine iM fun t ih=>?_
 intro d hok hsz h vs tb pw w
 have ct:=fun h tb pw w=>yQ t d hok hsz h vs tb pw w
 have w0:=w
 obtain ⟨op,arg,neg,l,m,name,ks⟩:=t
 obtain ⟨va,vb,sk,rfl,-,harg,hval,-,hk⟩:=w.isK
 have hok':=hok
 rw [okT] at hok
 obtain ⟨hd30,hnb,hoks⟩:=hok
 have hn1:=hnb.1
 have hsz':=hsz
 rw [szT] at hsz
 have hP:aO (.mk op arg neg l m name ks)=eR (.mk op arg neg l m name ks) op arg (aR neg l m) (dM ks):=by rw [aO]
 have ih':∀k,k∈ks→∀(h:aA) (vs:List Value),Tb h→Pw h→IsE h vs k→FP F.q35 [.agg vs.toArray] h (aO k):=fun k hk=>by
  obtain ⟨j,hj,e⟩:=List.mem_iff_getElem.1 hk
  exact ih k (dB (j:=j) (by rw [aVq hj,e])) (d+1) (cZ hoks hk) (by have:=fS hk;omega)
 obtain ⟨r,hr⟩:∃r,r=aO (.mk op arg neg l m name ks):=⟨_,rfl⟩
 rw [← hr]
 rw [← hr] at hP
 by_cases o1:op=1
 ·subst o1
  have hR:=sI h tb neg va vb l m hval
  have hnum:=hnb.2.2.2.2
  rw [if_pos rfl] at hnum
  have hokR:=hnum.1
  have hz:=hokR.sz
  have hr2:r=.ok (lH (aR neg l m)):=hP.trans aL0
  unfold FP
  refine fPC ok _ D.q35 rfl ?_
  conv=>whnf
  repeat' first|((first|(apply aX.go)|(show LdN _ _ _ _ _;refine LdN.oA 0 rfl rfl ?_)|(show CN _ _ _ _ _ _;first|(refine CN.f rfl (Fn0.wP hR) (fun v h' hl hr'=>?_);obtain ⟨s9,c9,d9,rfl,hq9⟩:=hr';obtain ⟨rfl,hfr⟩:=hq9 hokR)|(refine CN.poly rfl (kD _ (tb.mono (by assumption)) c9 d9 _ (hfr.mono (by first|assumption|exact aA.lr _)) ⟨hz.num,hz.den⟩) (fun p s h' hl e w=>?_) (fun n e=>hr2.trans e)))|((first|apply oI.z|apply cI.z))|intro (_:Nat)|refine Ld.o 0 rfl rfl ?_|refine Sto.l 0 rfl rfl rfl ?_) <;> (conv=>whnf))|(apply aE<;>intro _<;>first|(exfalso;omega)|conv=>whnf)
  all_goals exact RN.a (R:=kJ r) ⟨p,s,hr2.trans e,rfl,w⟩
 by_cases o2:¬(4≤op∧op≤9)
 ·have hr2:r=bY (b8 (aF (.mk op arg neg l m name ks))):=hP.trans (aFl o1 o2)
  obtain ⟨X,hX⟩:∃X,X=aF (.mk op arg neg l m name ks):=⟨_,rfl⟩
  rw [← hX] at hr2
  simp only [← hX] at ct
  have c2:∀h,Tb h→FP F.q70 [.string (txt X)] h r:=fun h tb=>by rw [hr2];exact rK h tb _
  unfold FP
  refine fPC ok _ D.q35 rfl ?_
  conv=>whnf
  repeat' first|((first|(apply aX.go)|(show LdN _ _ _ _ _;refine LdN.oA 0 rfl rfl ?_)|(show CN _ _ _ _ _ _;first|(refine CN.f rfl (Fn0.wP (ct _ tb pw w0)) (fun v h' hl hr'=>?_);subst hr')|refine CN.poly rfl (c2 _ (tb.mono (by assumption))) (fun p s h' hl e w=>?_) (fun n e=>e))|((first|apply oI.z|apply cI.z))|intro (_:Nat)|refine Ld.o 0 rfl rfl ?_) <;> (conv=>whnf))|(apply aE<;>intro _<;>first|(exfalso;omega)|conv=>whnf)
  all_goals exact RN.a (R:=kJ r) ⟨p,s,e,rfl,w⟩
 replace o2:=Decidable.not_not.1 o2
 by_cases o4:op=4
 ·subst o4
  obtain ⟨k,rfl⟩:=aOp hn1 rfl
  have hk0:([k]:List Tr)[0]?=some k:=rfl
  have c1:=ih' k (aV2.2 rfl)
  rw [dM,dM] at hP
  have f1:∀n,aO k=.error n→r=.error n:=fun n e=>by rw [hP,e];exact nO o1 o2
  have f2:∀p,aO k=.ok p→r=bH (plL [] p ((-1:Int):Rat)):=fun p e=>by rw [hP,e];exact aL1
  have gk:∀p,aO k=.ok p→gW p:=fun p e=>(gX k (d+1) (cZ hoks (aV2.2 rfl)) e).elim fun S x=>x.2.2.good
  unfold FP
  refine fPC ok _ D.q35 rfl ?_
  conv=>whnf
  repeat' first|((first|(apply aX.go)|(show Idx _ _ _ _ _;refine Idx.kid hk 0 k rfl hk0 (fun ad op2 arg2 neg2 a2 b2 name2 s2 hE hld=>?_))|(refine hld _ _ _ (by first|assumption|exact aA.lr _) ?_)|((first|apply oI.z|apply cI.z))|intro (_:Nat)|(show CN _ _ _ _ _ _;first|(refine CN.poly rfl (c1 _ _ (tb.mono (by first|assumption|exact aA.lr _)) (pw.mono (by first|assumption|exact aA.lr _)) (hE.mono (by first|assumption|exact aA.lr _))) (fun p s h' hl e w=>?_) f1)|refine CN.poly rfl (zN _ (tb.mono (by assumption)) ⟨none,0,0⟩ s [] p (-1) (.inr rfl) (aL6 _) w qK (gk p e)) (fun p2 s2 h2 hl2 e2 w2=>?_) (fun n e3=>(f2 p e).trans e3))|refine Ld.o 0 rfl rfl ?_) <;> (conv=>whnf))|(apply aE<;>intro _<;>first|(exfalso;omega)|conv=>whnf)
  all_goals exact RN.a (R:=kJ r) ⟨p2,s2,(f2 p e).trans e2,rfl,w2⟩
 by_cases o9:op=9
 ·subst o9
  obtain ⟨k,rfl⟩:=aOp hn1 rfl
  have hk0:([k]:List Tr)[0]?=some k:=rfl
  have hkm:k∈[k]:=aV2.2 rfl
  have c1:=ih' k hkm
  have hokk:=cZ hoks hkm
  have hszk:szT k≤300:=by have:=fS hkm;omega
  rw [dM,dM] at hP
  have f1:∀n,aO k=.error n→r=.error n:=fun n e=>by rw [hP,e];exact nO o1 o2
  have gk:∀p,aO k=.ok p→gW p:=fun p e=>(gX k (d+1) hokk e).elim fun S x=>x.2.2.good
  have kg:∀p,aO k=.ok p→∃S:List (List UInt8),S.length≤300∧Sok S∧PG S p:=fun p e=>nA hokk hszk e
  have cr:∀(h:aA) (vs:List Value) (s:Sl) (p:Pol),Tb h→Pw h→IsE h vs k→iS h s p→aO k=.ok p→FP F.q68 [.agg vs.toArray,s.val] h (bP k p):=fun h vs s p tb pw w wp e=>nV h tb pw k (d+1) hokk hszk vs w s p wp (gk p e)
  have hab:-32≤arg∧arg≤32:=⟨hnb.2.1,hnb.2.2.1⟩
  by_cases ha:arg<0
  ·have f3:∀p n,aO k=.ok p→bP k p=.error n→r=.error n:=fun p n e e2=>by rw [hP,e,zQ ha,e2]
   have f4:∀p c,aO k=.ok p→bP k p=.ok c→r=fP c arg.natAbs:=fun p c e e2=>by rw [hP,e,zQ ha,e2]
   obtain ⟨N,hN⟩:∃N,N=arg.natAbs:=⟨_,rfl⟩
   unfold FP
   refine fPC ok _ D.q35 rfl ?_
   conv=>whnf
   repeat' first|((first|(apply aX.go)|(show DrN _ _ _ _ _ _;refine DrN.run (by decide +kernel) ?_)|(show Idx _ _ _ _ _;refine Idx.kid hk 0 k rfl hk0 (fun ad0 op0 arg0 neg0 a0 b0 name0 s0 hE0 hld0=>?_))|(refine hld0 _ _ _ (by first|assumption|exact aA.lr _) ?_)|((first|apply oI.z|apply cI.z))|refine ⟨fun _=>aH.o (by assumption),?_⟩|intro (_:Nat)|(show CN _ _ _ _ _ _;first|(refine CN.poly rfl (c1 _ _ (tb.mono (by first|assumption|exact aA.lr _)) (pw.mono (by first|assumption|exact aA.lr _)) (hE0.mono (by first|assumption|exact aA.lr _))) (fun p s h7 hl7 e7 w7=>?_) f1)|refine CN.poly rfl (cr _ _ _ p (tb.mono (by assumption)) (pw.mono (by assumption)) (hE0.mono (by assumption)) w7 e7) (fun c s2 h8 hl8 e8 w8=>?_) (fun n e=>f3 p n e7 e)|(refine CN.f rfl (Fn0.wP (sH _ 1 (by decide) (by decide))) (fun v h6 hl6 hr6=>?_);obtain ⟨u1,u2,rfl,hu⟩:=hr6)|(refine CN.poly rfl (kD _ (tb.mono (by (iterate 30 try first|assumption|refine aA.lt ?_ (by assumption));first|done|assumption)) u1 u2 _ hu fE) (fun p0 s0 h9 hl9 e9 w0'=>?_) (fun n e=>by cases e)))|refine WN.i64 (by omega) (by omega) ?_|refine Ld.o 0 rfl rfl ?_) <;> (conv=>whnf))|(show cnd _ _ _;first|(apply aB<;>intro _<;>first|(exfalso;omega)|conv=>whnf)|(apply aE<;>intro _<;>first|(exfalso;omega)|conv=>whnf))
   have hp0:p0=[([],1)]:=by injection e9 with e9;rw [← e9];rfl
   have tb9:Tb h9:=tb.mono (by (iterate 30 try first|assumption|refine aA.lt ?_ (by assumption));first|done|assumption)
   obtain ⟨B,hB⟩:∃B,B=c:=⟨_,rfl⟩
   obtain ⟨S,hS,hSo,gB⟩:=lJ (gk p e7) e8
   rw [← hB] at gB e8 w8
   have hrB:r=fP B N:=by rw [hN];exact f4 p B e7 e8
   have wB:iS h9 s2 B:=w8.mono (by (iterate 30 try first|assumption|refine aA.lt ?_ (by assumption));first|done|assumption)
   refine LpN.of (fun q ρ hx L=>∃(i:Nat) (o:Pol) (so:Sl),q=N-i∧h9.le hx∧i≤N∧rd ρ 115=.int .i64 i∧rd ρ 11=so.val∧iS hx so o∧PG S o∧Hq (fP B i=.ok o)) N
    ⟨0,p0,s0,rfl,aA.lr _,aWe _,rfl,rfl,w0',by rw [hp0];exact zJ S,⟨by rw [hp0];rfl⟩⟩ ?_
   conv=>whnf
   repeat intro _
   rename_i q3 h3 L3 hI
   obtain ⟨i,o,so,rfl,hle3,hi,e115,e11,wo,go,⟨ho⟩⟩:=hI
   conv at e11=>lhs;whnf
   subst e11
   conv at e115=>lhs;whnf
   subst e115
   by_cases hiN:i=N
   ·have hfin:r=.ok o:=hrB.trans (by rw [← hiN];exact ho)
    conv=>whnf
    repeat' first|((first|((first|apply oI.z|apply cI.z))) <;> (conv=>whnf))|(apply aB<;>intro _<;>first|(exfalso;omega)|conv=>whnf)
    exact RN.a (R:=kJ r) ⟨o,so,hfin,rfl,wo⟩
   ·have hnx:=aB6 ho
    have c9:=fun h tb w1 w2=>qP h tb S (by omega) hSo so s2 o B w1 w2 go gB
    conv=>whnf
    repeat' first|((first|(show CN _ _ _ _ _ _;(refine CN.poly rfl (c9 _ (tb9.mono (by assumption)) (wo.mono (by first|assumption|exact aA.lr _)) (wB.mono (by assumption))) (fun p5 s5 h5 hl5 e5 w5=>?_) (fun n e=>hrB.trans (zR (hnx.trans e) (by omega)))))|((first|apply oI.z|apply cI.z))|refine WN.i64 (by omega) (by omega) ?_) <;> (conv=>whnf))|(apply aB<;>intro _<;>first|(exfalso;omega)|conv=>whnf)
    exact ⟨rfl,N-(i+1),by omega,i+1,p5,s5,rfl,(by (iterate 30 try first|assumption|refine aA.lt ?_ (by assumption));first|done|assumption),by omega,vi (by omega),rfl,w5,aBv go.key gB.key e5,⟨hnx.trans e5⟩⟩
  ·have f2:∀p,aO k=.ok p→r=fP p arg.natAbs:=fun p e=>by rw [hP,e];exact aL5 ha
   obtain ⟨N,hN⟩:∃N,N=arg.natAbs:=⟨_,rfl⟩
   unfold FP
   refine fPC ok _ D.q35 rfl ?_
   conv=>whnf
   repeat' first|((first|(apply aX.go)|(show DrN _ _ _ _ _ _;refine DrN.run (by decide +kernel) ?_)|(show Idx _ _ _ _ _;refine Idx.kid hk 0 k rfl hk0 (fun ad0 op0 arg0 neg0 a0 b0 name0 s0 hE0 hld0=>?_))|(refine hld0 _ _ _ (by first|assumption|exact aA.lr _) ?_)|((first|apply oI.z|apply cI.z))|refine ⟨fun _=>aH.o (by assumption),?_⟩|intro (_:Nat)|(show CN _ _ _ _ _ _;first|(refine CN.poly rfl (c1 _ _ (tb.mono (by first|assumption|exact aA.lr _)) (pw.mono (by first|assumption|exact aA.lr _)) (hE0.mono (by first|assumption|exact aA.lr _))) (fun p s h7 hl7 e7 w7=>?_) f1)|(refine CN.f rfl (Fn0.wP (sH _ 1 (by decide) (by decide))) (fun v h6 hl6 hr6=>?_);obtain ⟨u1,u2,rfl,hu⟩:=hr6)|(refine CN.poly rfl (kD _ (tb.mono (by (iterate 30 try first|assumption|refine aA.lt ?_ (by assumption));first|done|assumption)) u1 u2 _ hu fE) (fun p0 s0 h9 hl9 e9 w0'=>?_) (fun n e=>by cases e)))|refine Ld.o 0 rfl rfl ?_) <;> (conv=>whnf))|(show cnd _ _ _;first|(apply aB<;>intro _<;>first|(exfalso;omega)|conv=>whnf)|(apply aE<;>intro _<;>first|(exfalso;omega)|conv=>whnf))
   have hp0:p0=[([],1)]:=by injection e9 with e9;rw [← e9];rfl
   have tb9:Tb h9:=tb.mono (by (iterate 30 try first|assumption|refine aA.lt ?_ (by assumption));first|done|assumption)
   obtain ⟨B,hB⟩:∃B,B=p:=⟨_,rfl⟩
   rw [← hB] at w7 e7
   obtain ⟨S,hS,hSo,gB⟩:=kg B e7
   have hrB:r=fP B N:=by rw [hN];exact f2 B e7
   have wB:iS h9 s B:=w7.mono (by (iterate 30 try first|assumption|refine aA.lt ?_ (by assumption));first|done|assumption)
   refine LpN.of (fun q ρ hx L=>∃(i:Nat) (o:Pol) (so:Sl),q=N-i∧h9.le hx∧i≤N∧rd ρ 115=.int .i64 i∧rd ρ 11=so.val∧iS hx so o∧PG S o∧Hq (fP B i=.ok o)) N
    ⟨0,p0,s0,rfl,aA.lr _,aWe _,rfl,rfl,w0',by rw [hp0];exact zJ S,⟨by rw [hp0];rfl⟩⟩ ?_
   conv=>whnf
   repeat intro _
   rename_i q3 h3 L3 hI
   obtain ⟨i,o,so,rfl,hle3,hi,e115,e11,wo,go,⟨ho⟩⟩:=hI
   conv at e11=>lhs;whnf
   subst e11
   conv at e115=>lhs;whnf
   subst e115
   by_cases hiN:i=N
   ·have hfin:r=.ok o:=hrB.trans (by rw [← hiN];exact ho)
    conv=>whnf
    repeat' first|((first|((first|apply oI.z|apply cI.z))) <;> (conv=>whnf))|(apply aB<;>intro _<;>first|(exfalso;omega)|conv=>whnf)
    exact RN.a (R:=kJ r) ⟨o,so,hfin,rfl,wo⟩
   ·have hnx:=aB6 ho
    have c9:=fun h tb w1 w2=>qP h tb S (by omega) hSo so s o B w1 w2 go gB
    conv=>whnf
    repeat' first|((first|(show CN _ _ _ _ _ _;(refine CN.poly rfl (c9 _ (tb9.mono (by assumption)) (wo.mono (by first|assumption|exact aA.lr _)) (wB.mono (by assumption))) (fun p5 s5 h5 hl5 e5 w5=>?_) (fun n e=>hrB.trans (zR (hnx.trans e) (by omega)))))|((first|apply oI.z|apply cI.z))|refine WN.i64 (by omega) (by omega) ?_) <;> (conv=>whnf))|(apply aB<;>intro _<;>first|(exfalso;omega)|conv=>whnf)
    exact ⟨rfl,N-(i+1),by omega,i+1,p5,s5,rfl,(by (iterate 30 try first|assumption|refine aA.lt ?_ (by assumption));first|done|assumption),by omega,vi (by omega),rfl,w5,aBv go.key gB.key e5,⟨hnx.trans e5⟩⟩
 obtain ⟨k,k',rfl⟩:=aS0 hn1 (by unfold cG;rw [if_neg (by omega),if_neg (by omega),if_pos (by omega)])
 have hk0:([k,k']:List Tr)[0]?=some k:=rfl
 have hk1:([k,k']:List Tr)[1]?=some k':=rfl
 have hm0:k∈[k,k']:=by simp
 have hm1:k'∈[k,k']:=by simp
 have c1:=ih' k hm0
 have c2:=ih' k' hm1
 have hok0:=cZ hoks hm0
 have hok1:=cZ hoks hm1
 have hsz0:szT k≤300:=by have:=fS hm0;omega
 have hsz1:szT k'≤300:=by have:=fS hm1;omega
 rw [dM,dM,dM] at hP
 have f1:∀n,aO k=.error n→r=.error n:=fun n e=>by rw [hP,e];exact nO o1 o2
 have f2:∀p n,aO k=.ok p→aO k'=.error n→r=.error n:=fun p n e e2=>by rw [hP,e,e2];exact aFm o1 o2 o4 o9
 have gk:∀p,aO k=.ok p→gW p:=fun p e=>(gX k (d+1) hok0 e).elim fun S x=>x.2.2.good
 have gk':∀p,aO k'=.ok p→gW p:=fun p e=>(gX k' (d+1) hok1 e).elim fun S x=>x.2.2.good
 have cm:∀(h:aA) (s1 s2:Sl) (p p2:Pol),Tb h→iS h s1 p→iS h s2 p2→aO k=.ok p→aO k'=.ok p2→FP F.q67 [s1.val,s2.val] h (bH (tmL p p2)):=fun h s1 s2 p p2 tb w1 w2 e1 e2=>by
  obtain ⟨S1,z1,q1,g1⟩:=nA hok0 hsz0 e1
  obtain ⟨S2,z2,q2,g2⟩:=nA hok1 hsz1 e2
  obtain ⟨z,q,g1,g2⟩:=zS z1 z2 q1 q2 g1 g2
  exact qP h tb _ z q s1 s2 p p2 w1 w2 g1 g2
 have cr:∀(h:aA) (vs:List Value) (s:Sl) (p:Pol),Tb h→Pw h→IsE h vs k'→iS h s p→aO k'=.ok p→FP F.q68 [.agg vs.toArray,s.val] h (bP k' p):=fun h vs s p tb pw w wp e=>nV h tb pw k' (d+1) hok1 hsz1 vs w s p wp (gk' p e)
 have cd:∀(h:aA) (s1 s2:Sl) (p p2 c:Pol),Tb h→iS h s1 p→iS h s2 c→aO k=.ok p→aO k'=.ok p2→bP k' p2=.ok c→FP F.q67 [s1.val,s2.val] h (bH (tmL p c)):=fun h s1 s2 p p2 c tb w1 w2 e1 e2 e3=>by
  obtain ⟨S1,z1,q1,g1⟩:=nA hok0 hsz0 e1
  obtain ⟨S2,z2,q2,g2⟩:=lJ (gk' p2 e2) e3
  obtain ⟨z,q,g1,g2⟩:=zS z1 (by omega) q1 q2 g1 g2
  exact qP h tb _ z q s1 s2 p c w1 w2 g1 g2
 by_cases o5:op=5
 ·subst o5
  have f3:∀p p2,aO k=.ok p→aO k'=.ok p2→r=bH (plL p p2 ((1:Int):Rat)):=fun p p2 e e2=>by rw [hP,e,e2];exact aL2
  unfold FP
  refine fPC ok _ D.q35 rfl ?_
  conv=>whnf
  repeat' first|((first|(apply aX.go)|(show Idx _ _ _ _ _;first|refine Idx.kid hk 0 k rfl hk0 (fun ad0 op0 arg0 neg0 a0 b0 name0 s0 hE0 hld0=>?_)|refine Idx.kid hk 1 k' rfl hk1 (fun ad1 op1 arg1 neg1 a1 b1 name1 s1 hE1 hld1=>?_))|(refine hld0 _ _ _ (by first|assumption|exact aA.lr _) ?_)|refine hld1 _ _ _ (by assumption) ?_|((first|apply oI.z|apply cI.z))|intro (_:Nat)|(show CN _ _ _ _ _ _;first|(refine CN.poly rfl (c1 _ _ (tb.mono (by first|assumption|exact aA.lr _)) (pw.mono (by first|assumption|exact aA.lr _)) (hE0.mono (by first|assumption|exact aA.lr _))) (fun p s h7 hl7 e7 w7=>?_) f1)|refine CN.poly rfl (c2 _ _ (tb.mono (by assumption)) (pw.mono (by assumption)) (hE1.mono (by assumption))) (fun p2 s2 h8 hl8 e8 w8=>?_) (fun n e=>f2 p n e7 e)|(refine CN.poly rfl (zN _ (tb.mono (by (iterate 30 try first|assumption|refine aA.lt ?_ (by assumption));first|done|assumption)) s s2 p p2 1 (.inl rfl) (w7.mono (by assumption)) (w8.mono (by first|assumption|exact aA.lr _)) (gk p e7) (gk' p2 e8)) (fun p3 s3 h9 hl9 e3 w3=>?_) (fun n e=>(f3 p p2 e7 e8).trans e)))|refine Ld.o 0 rfl rfl ?_) <;> (conv=>whnf))|(apply aE<;>intro _<;>first|(exfalso;omega)|conv=>whnf)
  all_goals exact RN.a (R:=kJ r) ⟨p3,s3,(f3 p p2 e7 e8).trans e3,rfl,w3⟩
 by_cases o6:op=6
 ·subst o6
  have f3:∀p p2,aO k=.ok p→aO k'=.ok p2→r=bH (plL p p2 ((-1:Int):Rat)):=fun p p2 e e2=>by rw [hP,e,e2];exact aL3
  unfold FP
  refine fPC ok _ D.q35 rfl ?_
  conv=>whnf
  repeat' first|((first|(apply aX.go)|(show Idx _ _ _ _ _;first|refine Idx.kid hk 0 k rfl hk0 (fun ad0 op0 arg0 neg0 a0 b0 name0 s0 hE0 hld0=>?_)|refine Idx.kid hk 1 k' rfl hk1 (fun ad1 op1 arg1 neg1 a1 b1 name1 s1 hE1 hld1=>?_))|(refine hld0 _ _ _ (by first|assumption|exact aA.lr _) ?_)|refine hld1 _ _ _ (by assumption) ?_|((first|apply oI.z|apply cI.z))|intro (_:Nat)|(show CN _ _ _ _ _ _;first|(refine CN.poly rfl (c1 _ _ (tb.mono (by first|assumption|exact aA.lr _)) (pw.mono (by first|assumption|exact aA.lr _)) (hE0.mono (by first|assumption|exact aA.lr _))) (fun p s h7 hl7 e7 w7=>?_) f1)|refine CN.poly rfl (c2 _ _ (tb.mono (by assumption)) (pw.mono (by assumption)) (hE1.mono (by assumption))) (fun p2 s2 h8 hl8 e8 w8=>?_) (fun n e=>f2 p n e7 e)|(refine CN.poly rfl (zN _ (tb.mono (by (iterate 30 try first|assumption|refine aA.lt ?_ (by assumption));first|done|assumption)) s s2 p p2 (-1) (.inr rfl) (w7.mono (by assumption)) (w8.mono (by first|assumption|exact aA.lr _)) (gk p e7) (gk' p2 e8)) (fun p3 s3 h9 hl9 e3 w3=>?_) (fun n e=>(f3 p p2 e7 e8).trans e)))|refine Ld.o 0 rfl rfl ?_) <;> (conv=>whnf))|(apply aE<;>intro _<;>first|(exfalso;omega)|conv=>whnf)
  all_goals exact RN.a (R:=kJ r) ⟨p3,s3,(f3 p p2 e7 e8).trans e3,rfl,w3⟩
 by_cases o7:op=7
 ·subst o7
  have f3:∀p p2,aO k=.ok p→aO k'=.ok p2→r=bH (tmL p p2):=fun p p2 e e2=>by rw [hP,e,e2];exact aL4
  unfold FP
  refine fPC ok _ D.q35 rfl ?_
  conv=>whnf
  repeat' first|((first|(apply aX.go)|(show Idx _ _ _ _ _;first|refine Idx.kid hk 0 k rfl hk0 (fun ad0 op0 arg0 neg0 a0 b0 name0 s0 hE0 hld0=>?_)|refine Idx.kid hk 1 k' rfl hk1 (fun ad1 op1 arg1 neg1 a1 b1 name1 s1 hE1 hld1=>?_))|(refine hld0 _ _ _ (by first|assumption|exact aA.lr _) ?_)|refine hld1 _ _ _ (by assumption) ?_|((first|apply oI.z|apply cI.z))|intro (_:Nat)|(show CN _ _ _ _ _ _;first|(refine CN.poly rfl (c1 _ _ (tb.mono (by first|assumption|exact aA.lr _)) (pw.mono (by first|assumption|exact aA.lr _)) (hE0.mono (by first|assumption|exact aA.lr _))) (fun p s h7 hl7 e7 w7=>?_) f1)|refine CN.poly rfl (c2 _ _ (tb.mono (by assumption)) (pw.mono (by assumption)) (hE1.mono (by assumption))) (fun p2 s2 h8 hl8 e8 w8=>?_) (fun n e=>f2 p n e7 e)|(refine CN.poly rfl (cm _ s s2 p p2 (tb.mono (by (iterate 30 try first|assumption|refine aA.lt ?_ (by assumption));first|done|assumption)) (w7.mono (by assumption)) (w8.mono (by first|assumption|exact aA.lr _)) e7 e8) (fun p3 s3 h9 hl9 e3 w3=>?_) (fun n e=>(f3 p p2 e7 e8).trans e)))|refine Ld.o 0 rfl rfl ?_) <;> (conv=>whnf))|(apply aE<;>intro _<;>first|(exfalso;omega)|conv=>whnf)
  all_goals exact RN.a (R:=kJ r) ⟨p3,s3,(f3 p p2 e7 e8).trans e3,rfl,w3⟩
 ·obtain rfl:op=8:=by omega
  have f3:∀p p2 n,aO k=.ok p→aO k'=.ok p2→bP k' p2=.error n→r=.error n:=fun p p2 n e e2 e3=>by rw [hP,e,e2,zP,e3]
  have f4:∀p p2 c,aO k=.ok p→aO k'=.ok p2→bP k' p2=.ok c→r=bH (tmL p c):=fun p p2 c e e2 e3=>by rw [hP,e,e2,zP,e3]
  unfold FP
  refine fPC ok _ D.q35 rfl ?_
  conv=>whnf
  repeat' first|((first|(apply aX.go)|(show DrN _ _ _ _ _ _;refine DrN.run (by decide +kernel) ?_)|(show Idx _ _ _ _ _;first|refine Idx.kid hk 0 k rfl hk0 (fun ad0 op0 arg0 neg0 a0 b0 name0 s0 hE0 hld0=>?_)|refine Idx.kid hk 1 k' rfl hk1 (fun ad1 op1 arg1 neg1 a1 b1 name1 s1 hE1 hld1=>?_))|(refine hld0 _ _ _ (by first|assumption|exact aA.lr _) ?_)|refine hld1 _ _ _ (by assumption) ?_|((first|apply oI.z|apply cI.z))|refine ⟨fun _=>aH.o (by assumption),?_⟩|intro (_:Nat)|(show CN _ _ _ _ _ _;first|(refine CN.poly rfl (c1 _ _ (tb.mono (by first|assumption|exact aA.lr _)) (pw.mono (by first|assumption|exact aA.lr _)) (hE0.mono (by first|assumption|exact aA.lr _))) (fun p s h7 hl7 e7 w7=>?_) f1)|refine CN.poly rfl (c2 _ _ (tb.mono (by assumption)) (pw.mono (by assumption)) (hE1.mono (by assumption))) (fun p2 s2 h8 hl8 e8 w8=>?_) (fun n e=>f2 p n e7 e)|(refine CN.poly rfl (cr _ _ s2 p2 (tb.mono (by (iterate 30 try first|assumption|refine aA.lt ?_ (by assumption));first|done|assumption)) (pw.mono (by (iterate 30 try first|assumption|refine aA.lt ?_ (by assumption));first|done|assumption)) (by (iterate 30 try first|assumption|refine IsE.mono ?_ (by assumption));first|done|assumption) w8 e8) (fun c sc h8c hl8c e8c w8c=>?_) (fun n e=>f3 p p2 n e7 e8 e))|(refine CN.poly rfl (cd _ s sc p p2 c (tb.mono (by (iterate 30 try first|assumption|refine aA.lt ?_ (by assumption));first|done|assumption)) (w7.mono (by (iterate 30 try first|assumption|refine aA.lt ?_ (by assumption));first|done|assumption)) (w8c.mono (by first|assumption|exact aA.lr _)) e7 e8 e8c) (fun p3 s3 h9 hl9 e3 w3=>?_) (fun n e=>(f4 p p2 c e7 e8 e8c).trans e)))|refine Ld.o 0 rfl rfl ?_) <;> (conv=>whnf))|(apply aE<;>intro _<;>first|(exfalso;omega)|conv=>whnf)
  all_goals exact RN.a (R:=kJ r) ⟨p3,s3,(f4 p p2 c e7 e8 e8c).trans e3,rfl,w3⟩
end Go.Proofs.Y