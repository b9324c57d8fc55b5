/- The document's constants, atoms, powers. -/
import Derived.Test.YtblecjeceecaaaaGreatDoorPD9
import Derived.Test.YtblecjeceecaaaaGreatDoorE96
set_option linter.all false
set_option maxHeartbeats 8000000
set_option maxRecDepth 20000
namespace Go.Proofs.Y
open Go Go.Vc Go.Dig
attribute [local irreducible] Vc.Fn FnP
theorem rQ(h:aA)(a b:Sl)(q:Rat)(hq:IsQ h a b q)(hs:Sr 10600000 q):Fn0 T F.q136 [.agg #[.bool (sg q),a.val,b.val]] h fun v h'=>∃s,v=Sl.val s/\gJ QmS h' s (jU q):=by
 have c1:=fun h w=>aBl h a b q w (hs.mono Ae)
 obtain⟨z,hz⟩:=AH (dH q);rw[<-hz] at c1;by_cases h0:q=0
 .have hz0:z=0:=hz.trans (eL.2 (cE.2 h0));have hc:jU q=[]:=if_pos h0;rw[hc];refine f0C ok D.q136 rfl ?_;conv=>whnf
  repeat' ((first|(show LdN _ _ _ _ _;refine LdN.oA 0 rfl rfl ?_)|(show CN _ _ _ _ _ _;(refine CN.quiet rfl (c1 _ (hq.mono Ad)) ?_))|((first|apply oI.z|apply cI.z))|intro (_:Nat)|(apply aD<;>intro _<;>try (exfalso;omega)))<;>conv=>whnf)
  exact RN.a ⟨⟨none,0,0⟩,rfl,[],rfl,Rw.nil _ _,fun x hx=>by cases hx⟩
 .have hz0:z≠0:=fun e=>h0 (cE.1 (eL.1 (hz.symm.trans e)))
  have hc:jU q=[([],q)]:=if_neg h0;rw[hc];refine f0C ok D.q136 rfl ?_;conv=>whnf
  repeat' ((first|(show LdN _ _ _ _ _;refine LdN.oA 0 rfl rfl ?_)|(show CN _ _ _ _ _ _;(refine CN.quiet rfl (c1 _ (hq.mono Ad)) ?_))|((first|apply oI.z|apply cI.z))|intro (_:Nat)|(apply aD<;>intro _<;>try (exfalso;omega)))<;>conv=>whnf)
  refine RN.growE (K:=QmS) (aF.one4 ⟨sg q,a,b,⟨none,0,0⟩,[],q⟩) (fun x hx=>?_) fun h' s hl e w=>⟨s,e,w⟩
  rw[bI2] at hx;subst hx;exact⟨⟨hq.mono Ad,rfl,⟨Rw.nil _ _,bJe _⟩⟩,hs⟩
theorem aK4(h:aA)(s:List UInt8):Fn0 T F.q137 [.string ⟨s.toArray⟩] h fun v h'=>RFo h' v (cH s):=by
 have hsz:(⟨s.toArray⟩:ByteArray).size=s.length:=by simp[ByteArray.size]
 obtain⟨r,hr⟩:=AH (cH s);have r1:4000<s.length->r=.error 4:=fun a=>hr.trans (aE4 a)
 have r2:s.length<=4000->r=.ok [([(s,1)],1)]:=fun a=>hr.trans (aE3 a)
 rw[<-hr];have c1:=fun h=>qZ h 1 Ae Ae
 have e1:((1:Int):Rat)=1:=rfl;rw[e1] at c1;refine f0C ok D.q137 rfl ?_;conv=>whnf
 repeat' ((first|(show CN _ _ _ _ _ _;(refine CN.f rfl (c1 _) (fun v h' hl hr=>?_);obtain⟨s',t',rfl,hq'⟩:=hr))|((first|apply oI.z|apply cI.z))|intro (_:Nat)|(apply aB<;>intro _<;>try (exfalso;omega)))<;>conv=>whnf)
 .exact RN.a (R:=fun v h'=>RFo h' v r) (gS (n:=4) Ae (r1 Aa))
 .rename_i b1 b2;refine RN.keep 1 rfl fun hle=>?_
  have hF:Rw (h'.put b1 (.cells [.string ⟨s.toArray⟩,.int .i64 1].toArray 79 (0,0))) ⟨some ⟨b1,0,none⟩,1,1⟩ 2 (fcs [(s,1)]):=Rw.oneF (e:=1) (if_pos rfl);refine RN.growE (K:=QmS) (aF.one4 ⟨sg 1,s',t',⟨some ⟨b1,0,none⟩,1,1⟩,[(s,1)],1⟩) (fun x hx=>?_) fun h' s1 hl e w=>⟨s1,0,by rw[e];rfl,.inl ⟨rfl,_,r2 Aa,w⟩⟩
  rw[bI2] at hx;subst hx;exact⟨⟨hq'.mono hle,rfl,⟨hF,by show 1<=1099511627776;decide⟩⟩,(mN fU).mono Ae⟩
theorem aC7(h:aA)(S:List (List UInt8))(hS:S.length<=100000)(hSo:Sok S)(s:Sl)(a:Pol)(w:gJ QmS h s a)(g:PG S a)(n:Nat)(hn:n<=1000):Fn0 T F.q222 [s.val,.int .i64 n] h fun v h'=>RFo h' v (gQ a n):=by
 have c1:=fun h=>qZ h 1 Ae Ae
 have e1:((1:Int):Rat)=1:=rfl;rw[e1] at c1;have c2:=fun h a b w=>rQ h a b 1 w ((mN fU).mono Ae)
 have e2:jU 1=[([],1)]:=if_neg Ae;rw[e2] at c2;have c3:=fun h s1 p w1 w2 g1=>yY h S hS hSo s1 s p a w1 w2 g1 g
 obtain⟨r,hr⟩:=AH (gQ a n);rw[<-hr];refine f0C ok D.q222 rfl ?_;conv=>whnf
 repeat' ((first|(show CN _ _ _ _ _ _;first|(refine CN.f rfl (c1 _) (fun v h' hl hr=>?_);obtain⟨s',t',rfl,hq'⟩:=hr)|(refine CN.f rfl (c2 _ _ _ (hq'.mono Ad)) (fun v h' hl hr=>?_);obtain⟨s6,rfl,w6⟩:=hr))|((first|apply oI.z|apply cI.z)))<;>conv=>whnf)
 rename_i hh _;refine LpN.of (fun r ρ hx L=>∃(i:Nat) (s6:Sl) (p:Pol),r=n-i/\h.le hx/\L=[]/\i<=n/\rd ρ 7=.int .i64 i/\rd ρ 6=s6.val/\Hq (gQ a i=.ok p)/\gJ QmS hx s6 p) n
  ⟨0,s6,_,rfl,Ac,rfl,bJe _,rfl,rfl,⟨rfl⟩,w6⟩ ?_
 conv=>whnf
 repeat intro _
 rename_i q2 h2 L2 hI;obtain⟨i,s8,p,rfl,hle,rfl,hi,e7,e6,⟨hp⟩,w8⟩:=hI;conv at e6=>lhs;whnf
 subst e6;conv at e7=>lhs;whnf
 subst e7;have w2:=w.mono hle;by_cases hin:i=n
 .conv=>whnf
  repeat' ((first|((first|apply oI.z|apply cI.z))|(apply aB<;>intro _<;>try (exfalso;omega)))<;>conv=>whnf)
  exact RN.a (R:=fun v h'=>RFo h' v r) ⟨s8,0,rfl,.inl ⟨rfl,p,by rw[hr,<-hin,hp],w8⟩⟩
 .have c4:=fun h w1 w2=>c3 h s8 p w1 w2 (aHk g hp)
  have hnx:gQ a (i+1)=bS (tmL p a):=by rw[gQ,hp]
  obtain⟨R,hR⟩:=AH (bS (tmL p a));rw[<-hR] at c4 hnx;conv=>whnf
  repeat' first|((first|((first|apply oI.z|apply cI.z))|refine WN.i64 Aa Aa ?_)<;>conv=>whnf)|(show CN _ _ _ _ _ _;first|(refine CN.f rfl (c4 _ (w8.mono Ad) (w2.mono Ad)) (fun v h' hl hr=>?_);obtain⟨s7,e,rfl,⟨he,p7,hp7,w7⟩|⟨he,hp7⟩⟩:=hr<;>(conv=>whnf)))|(show cnd _ _ _;first|((first|apply aB|apply aD)<;>intro _<;>first|(exfalso;omega)|conv=>whnf)|(refine aI ?_))
  .exact⟨rfl,n-(i+1),Aa,i+1,s7,p7,rfl,Ac,rfl,Aa,vi Aa,rfl,⟨by rw[hnx,hp7]⟩,w7⟩
  .exact RN.a (R:=fun v h'=>RFo h' v r) (gS he (hr.trans (aHq (hnx.trans hp7) Aa)))
end Go.Proofs.Y
/- The document's inverse. -/
namespace Go.Proofs.Y
open Go Go.Vc Go.Dig
theorem aK5(X:List Nat)(v:Int):(aN (X,v) 3).length<=X.length+2:=by
 by_cases h:v<3
 .rw[aKs h];simp
 .rw[aKt h];omega
attribute [local irreducible] Vc.Fn FnP
theorem zT(h:aA)(b:Tr)(d:Nat)(hok:okT d b)(hsz:szT b<=300)(hl9:(aE b).length<=900000)(vs:List Value)(wb:IsE h vs b)(s:Sl)(a:Pol)(wa:gJ QmS h s a)(ga:lG a):Fn0 T F.q142 [.agg vs.toArray,s.val] h fun v h'=>RFo h' v (cA b a):=by
 obtain⟨l,e1,r1,t1⟩:=wa;have hl:l.length<=200:=by have:=ga.len;rw[<-e1,bJb] at this;exact this
 have hs:s.l=l.length:=by have:=r1.len;rw[bK] at this;omega
 have txs:=aFb b d hok hsz;have ct:=fun h w=>txs h vs w
 have cp:=fun h w=>fW b txs hl9 3 h vs w
 have wb0:=wb;obtain⟨r,hr⟩:=AH (cA b a);rw[<-hr];obtain⟨⟨op,arg,neg,nl,nm,name,ks⟩,ht⟩:=AH b;obtain⟨va,vb,sk,hvs,-⟩:=(ht.symm▸wb:IsE h vs (.mk op arg neg nl nm name ks)).isK;subst hvs;clear wb txs;by_cases hc:∃x,l=[x]/\x.m=[]
 .obtain⟨x,rfl,hm⟩:=hc;have hx:([x]:List El)[0]?=some x:=rfl;have wx:=(t1 x (bI2.2 rfl)).m;obtain⟨xn,xa,xd,xf,xm,xq⟩:=x;obtain rfl:xn=sg xq:=wx.sg;dsimp only at hm;subst hm;have e2:a=[([],xq)]:=e1.symm;have h0:xq≠0:=ga.can.2 ([],xq) (by rw[e2];exact bIw);have hf:fits xq:=ga.fit ([],xq) (by rw[e2];exact bIw);have hfi:=vS h0 hf;have h0i:=aCx h0;have hr2:r=.ok (jU (1 / xq)):=by rw[hr,aE7 e2];unfold jU;rw[if_neg h0i]
  have k1:=fun h=>qZ h 1 Ae Ae
  have e1':((1:Int):Rat)=1:=rfl;rw[e1'] at k1;have c2:=fun h c d w1 w2=>aLx h c d xa xd 1 xq w1 w2 ((mN fU).mono Ae) ((mN hf).mono Ae)
  have c3:=fun h c d w=>rQ h c d (1 / xq) w ((mN hfi).mono Ae)
  have hxf:(⟨sg xq,xa,xd,xf,[],xq⟩:El).f.l=0:=by have:=wx.fac.rw.len;rw[cR] at this;dsimp only[List.length_nil] at this ⊢;omega
  have hs1:s.l=1:=hs;have wxq:=wx.q;refine f0C ok D.q142 rfl ?_;conv=>whnf
  repeat' ((first|(show Idx _ _ _ _ _;refine Idx.el r1 0 _ rfl hx (fun ab ao aw=>?_))|(show Ld _ _ _ _;(refine Ld.elf aw Ad ?_))|(show LdN _ _ _ _ _;(refine LdN.elq aw Ad ?_))|(show CN _ _ _ _ _ _;first|(refine CN.f rfl (k1 _) (fun v h' hl hr'=>?_);obtain⟨i1,i2,rfl,hi'⟩:=hr')|(refine CN.f rfl (c2 _ _ _ Ab (wxq.mono Ab)) (fun v h' hl hr'=>?_);obtain⟨m1,m2,rfl,hm'⟩:=hr')|(refine CN.f rfl (c3 _ _ _ Ab) (fun v h' hl hr'=>?_);obtain⟨s3,rfl,w3⟩:=hr'))|((first|apply oI.z|apply cI.z))|refine⟨fun _=>aJ.o Ab,?_⟩|intro (_:Nat)|refine DrN.run Ak ?_|(apply aD<;>intro _<;>try (exfalso;omega)))<;>conv=>whnf)
  all_goals exact RN.a (R:=fun v h'=>RFo h' v r) ⟨s3,0,rfl,.inl ⟨rfl,_,hr2,w3⟩⟩
 .have hno:∀c,a≠[([],c)]:=fun c e=>hc (by
    rw[<-e1] at e;rcases l with _|⟨x,_|⟨y,l⟩⟩
    .cases e
    .exact⟨x,rfl,by injection e with e;exact (Prod.mk.inj e).1⟩
    .injection e with _ e;cases e)
  have hr2:=hr.trans (aKr hno);have hl1:l.length=1->∃x,l[0]?=some x/\0<x.f.l:=fun e=>by
   match l,e,hc,t1 with
   | [x],_,hc,t1=>
    refine⟨x,rfl,?_⟩;have hm:x.m≠[]:=fun e=>hc ⟨x,rfl,e⟩
    have h1:=(t1 x (bI2.2 rfl)).m.fac.rw.len;rw[cR] at h1;have:=List.length_pos_iff.2 hm;omega
  obtain⟨X,hX⟩:=AH (aE b);have hPl:(aN (X,aT b.op) 3).length<=X.length+2:=aK5 _ _;rw[<-hX] at hr2;simp only[<-hX] at ct cp;have hXs:=bW X;obtain⟨P,hP⟩:=AH (aN (X,aT b.op) 3);rw[<-hP] at hr2 hPl;simp only[<-hP] at cp;have e4:4000<X.length->r=.error 4:=fun z=>hr2.trans (if_pos z)
  have e5:¬4000<X.length->r=cH (eR++b8 P):=fun z=>hr2.trans (if_neg z)
  have c6:∀h,Fn0 T F.q137 [.string (txt ([49,32,47,32]++P))] h fun v h'=>RFo h' v (cH (eR++b8 P)):=fun h=>by rw[aHn];exact aK4 h _
  obtain⟨R6,hR6⟩:=AH (cH (eR++b8 P));simp only[<-hR6] at c6 e5;clear hr2 hr hX hP;by_cases hL:l.length=1
  .obtain⟨x,hx,hxf⟩:=hl1 hL;refine f0C ok D.q142 rfl ?_;conv=>whnf
   repeat' first|((first|(show LdN _ _ _ _ _;refine LdN.oA 0 rfl rfl ?_)|(show Idx _ _ _ _ _;refine Idx.el r1 0 _ rfl hx (fun ab ao aw=>?_))|(show Ld _ _ _ _;refine Ld.elf aw (aA.lr _) ?_)|(show CN _ _ _ _ _ _;first|(refine CN.f rfl (ct _ (wb0.mono Ad)) (fun v h' hl hr=>?_);subst hr)|(refine CN.f rfl (cp _ (wb0.mono Ab)) (fun v h' hl hr=>?_);subst hr)|(refine CN.f rfl (c6 _) (fun v h' hl hr=>?_);obtain⟨s7,e,rfl,hse⟩:=hr))|(show Cat _ _ _;(refine Cat.txt (a:=[49,32,47,32]) (b:=P) rfl rfl (by show 4+_<=_;omega) ?_))|((first|apply oI.z|apply cI.z))|intro (_:Nat))<;>conv=>whnf)|(show cnd _ _ _;first|((first|apply aB|apply aD)<;>intro _<;>first|(exfalso;omega)|conv=>whnf))
   all_goals first
    | exact RN.a (R:=fun v h'=>RFo h' v r) (gS (n:=4) Ae (e4 Aa))
    | exact RN.a (R:=fun v h'=>RFo h' v r) ⟨s7,e,rfl,by rw[e5 Aa];exact hse⟩
  .refine f0C ok D.q142 rfl ?_;conv=>whnf
   repeat' first|((first|(show LdN _ _ _ _ _;refine LdN.oA 0 rfl rfl ?_)|(show CN _ _ _ _ _ _;first|(refine CN.f rfl (ct _ (wb0.mono Ad)) (fun v h' hl hr=>?_);subst hr)|(refine CN.f rfl (cp _ (wb0.mono Ab)) (fun v h' hl hr=>?_);subst hr)|(refine CN.f rfl (c6 _) (fun v h' hl hr=>?_);obtain⟨s7,e,rfl,hse⟩:=hr))|(show Cat _ _ _;(refine Cat.txt (a:=[49,32,47,32]) (b:=P) rfl rfl (by show 4+_<=_;omega) ?_))|((first|apply oI.z|apply cI.z))|intro (_:Nat))<;>conv=>whnf)|(show cnd _ _ _;first|((first|apply aB|apply aD)<;>intro _<;>first|(exfalso;omega)|conv=>whnf))
   all_goals first
    | exact RN.a (R:=fun v h'=>RFo h' v r) (gS (n:=4) Ae (e4 Aa))
    | exact RN.a (R:=fun v h'=>RFo h' v r) ⟨s7,e,rfl,by rw[e5 Aa];exact hse⟩
end Go.Proofs.Y
/- The document's form. -/
namespace Go.Proofs.Y
open Go Go.Vc Go.Dig
attribute [local irreducible] Vc.Fn FnP
def fpw(k:Tr)(a:Pol)(arg:Int):Except Nat Pol:=if arg<0 then match cA k a with
 | .error n=>.error n
 | .ok c=>gQ c arg.natAbs else gQ a arg.natAbs
theorem aYn(h:aA):gJ QmS h ⟨none,0,0⟩ []:=⟨[],rfl,Rw.nil _ _,fun x hx=>by cases hx⟩
theorem bEx{k:Tr}{a:Pol}{arg:Int}{n:Nat}(h:arg<0)(e:cA k a=.error n):fpw k a arg=.error n:=by unfold fpw;rw[if_pos h,e]
theorem bEy{k:Tr}{a c:Pol}{arg:Int}(h:arg<0)(e:cA k a=.ok c):fpw k a arg=gQ c arg.natAbs:=by unfold fpw;rw[if_pos h,e]
theorem bG4{k:Tr}{a:Pol}{arg:Int}(h:¬arg<0):fpw k a arg=gQ a arg.natAbs:=by unfold fpw;rw[if_neg h]
theorem aK6(h:aA)(arg:Int)(neg:Bool)(l m name:List Nat)(k:Tr)(vs:List Value)(w:IsE h vs (.mk 9 arg neg l m name [k]))(ha:-1000<=arg/\arg<=1000)(d:Nat)(hok:okT d k)(hsz:szT k<=300)
  (S:List (List UInt8)) (hS:S.length<=1000) (hSo:Sok S) (s:Sl) (a:Pol) (wa:gJ QmS h s a) (ga:PG S a):Fn0 T F.q140 [.agg vs.toArray,s.val] h fun v h'=>RFo h' v (fpw k a arg):=by
 obtain⟨va,vb,sk,rfl,-,harg,hval,-,hk⟩:=w.isK;have hk0:([k]:List Tr)[0]?=some k:=rfl;have hl9:=mY k d hok;obtain⟨r,hr⟩:=AH (fpw k a arg);rw[<-hr];by_cases hn:arg<0
 .have ci:=fun h vs w wa=>zT h k d hok hsz Aa vs w s a wa ga.good
  have hN:0-arg=((arg.natAbs:Nat):Int):=Aa;have cr:∀h c s2,cA k a=.ok c->gJ QmS h s2 c->Fn0 T F.q222 [Sl.val s2,.int .i64 (0-arg)] h fun v h'=>RFo h' v (gQ c arg.natAbs):=fun h c s2 e w2=>by
   obtain⟨S2,h1,h2,h3⟩:=qJ ga.good e;rw[hN];exact aC7 h S2 Aa h2 s2 c w2 h3 _ Aa
  have f1:∀n,cA k a=.error n->r=.error n:=fun n e=>hr.trans (bEx hn e)
  have f2:∀c,cA k a=.ok c->r=gQ c arg.natAbs:=fun c e=>hr.trans (bEy hn e)
  refine f0C ok D.q140 rfl ?_;conv=>whnf
  repeat' first|((first|(show Idx _ _ _ _ _;refine Idx.kid hk 0 k rfl hk0 (fun ad0 op0 arg0 neg0 a0 b0 name0 s0 hE0 hld0=>?_))|(refine hld0 _ _ _ Ad ?_)|((first|apply oI.z|apply cI.z))|intro (_:Nat)|refine WN.i64 Aa Aa ?_|refine Ld.o 0 rfl rfl ?_)<;>conv=>whnf)|(show CN _ _ _ _ _ _;(first|(refine CN.f rfl (ci _ _ (hE0.mono Ad) (wa.mono Ad)) (fun v h' hl hr=>?_);obtain⟨s7,e7,rfl,⟨he7,p7,hp7,w7⟩|⟨he7,hp7⟩⟩:=hr)|(refine CN.f rfl (cr _ p7 s7 hp7 (w7.mono Ad)) (fun v h' hl hr=>?_);obtain⟨s8,e8,rfl,⟨he8,p8,hp8,w8⟩|⟨he8,hp8⟩⟩:=hr))<;>conv=>whnf)|(show cnd _ _ _;first|((first|apply bX|apply aD)<;>intro _<;>first|(exfalso;omega)|conv=>whnf)|(refine aI ?_))
  all_goals first
   | exact RN.a (R:=fun v h'=>RFo h' v r) ⟨s8,e8,rfl,.inl ⟨he8,p8,(f2 _ hp7).trans hp8,w8⟩⟩
   | exact RN.a (R:=fun v h'=>RFo h' v r) ⟨s8,e8,rfl,.inr ⟨he8,(f2 _ hp7).trans hp8⟩⟩
   | exact RN.a (R:=fun v h'=>RFo h' v r) (gS he7 (f1 _ hp7))
 .have hN:arg=((arg.natAbs:Nat):Int):=Aa;have cr:∀h,gJ QmS h s a->Fn0 T F.q222 [Sl.val s,.int .i64 arg] h fun v h'=>RFo h' v (gQ a arg.natAbs):=fun h w2=>by
   have:=aC7 h S Aa hSo s a w2 ga arg.natAbs Aa;rw[<-hN] at this;exact this
  have f2:r=gQ a arg.natAbs:=hr.trans (bG4 hn);rw[<-f2] at cr;refine f0C ok D.q140 rfl ?_;conv=>whnf
  repeat' first|((first|((first|apply oI.z|apply cI.z))|intro (_:Nat)|refine Ld.o 0 rfl rfl ?_)<;>conv=>whnf)|(show CN _ _ _ _ _ _;first|(refine CN.f rfl (cr _ (wa.mono Ad)) (fun v h' hl hr=>?_);obtain⟨s8,e8,rfl,⟨he8,p8,hp8,w8⟩|⟨he8,hp8⟩⟩:=hr<;>(conv=>whnf)))|(apply bX<;>intro _<;>first|(exfalso;omega)|conv=>whnf)
  all_goals first
   | exact RN.a (R:=fun v h'=>RFo h' v r) ⟨s8,e8,rfl,.inl ⟨he8,p8,hp8,w8⟩⟩
   | exact RN.a (R:=fun v h'=>RFo h' v r) ⟨s8,e8,rfl,.inr ⟨he8,hp8⟩⟩
theorem aYo:∀(t:Tr) (d:Nat),okT d t->szT t<=300->∀(h:aA) (vs:List Value),IsE h vs t->Fn0 T F.q78 [.agg vs.toArray] h fun v h'=>RFo h' v (aO t):=by
 refine eE fun t ih=>?_
 intro d hok hsz h vs w;have txs:=aFb t d hok hsz;have ct:=fun h vs w=>txs h vs w
 have w0:=w;obtain⟨op,arg,neg,l,m,name,ks⟩:=t;obtain⟨va,vb,sk,rfl,-,harg,hval,-,hk⟩:=w.isK;have hok':=hok;rw[okT] at hok;obtain⟨hd30,hnb,hoks⟩:=hok;have hn1:=hnb.1;have hsz':=hsz;rw[szT] at hsz;have hP:aO (.mk op arg neg l m name ks)=gO (.mk op arg neg l m name ks) op arg (aK neg l m) (dC ks):=by rw[aO]
 have ih':∀k,k∈ks->∀(h:aA) (vs:List Value),IsE h vs k->Fn0 T F.q78 [.agg vs.toArray] h fun v h'=>RFo h' v (aO k):=fun k hk=>by
  obtain⟨j,hj,e⟩:=List.mem_iff_getElem.1 hk;exact ih k (bD (j:=j) (by rw[bIq hj,e])) (d+1) (eF hoks hk) (by have:=jP hk;omega)
 obtain⟨r,hr⟩:=AH (aO (.mk op arg neg l m name ks));rw[<-hr];rw[<-hr] at hP;by_cases o1:op=1
 .subst o1;have hR:=fun h w=>sM h neg va vb l m w
  have hnum:=hnb.2.2.2.2;rw[if_pos rfl] at hnum;have hokR:=hnum.1;have hf:fits (aK neg l m):=⟨hokR.sz.num,hokR.sz.den⟩;have hr2:r=.ok (jU (aK neg l m)):=hP.trans aXn;have c2:=fun h a b w=>rQ h a b (aK neg l m) w ((mN hf).mono Ae)
  refine f0C ok D.q78 rfl ?_;conv=>whnf
  repeat' ((first|(apply bJ.go)|(show LdN _ _ _ _ _;refine LdN.oA 0 rfl rfl ?_)|(show CN _ _ _ _ _ _;first|(refine CN.f rfl (hR _ (hval.mono Ad)) (fun v h' hl hr=>?_);obtain⟨c9,d9,rfl,hq9⟩:=hr)|(refine CN.f rfl (c2 _ _ _ Ab) (fun v h' hl hr=>?_);obtain⟨s3,rfl,w3⟩:=hr))|((first|apply oI.z|apply cI.z))|intro (_:Nat)|refine Ld.o 0 rfl rfl ?_|(apply aD<;>intro _<;>try (exfalso;omega)))<;>conv=>whnf)
  all_goals exact RN.a (R:=fun v h'=>RFo h' v r) ⟨s3,0,rfl,.inl ⟨rfl,_,hr2,w3⟩⟩
 by_cases o2:¬(4<=op/\op<=9)
 .have hr2:r=cH (b8 (aE (.mk op arg neg l m name ks))):=hP.trans (aPs o1 o2);obtain⟨X,hX⟩:=AH (aE (.mk op arg neg l m name ks));rw[<-hX] at hr2;simp only[<-hX] at ct;have c2:∀h,Fn0 T F.q137 [.string (txt X)] h fun v h'=>RFo h' v r:=fun h=>by rw[hr2];exact aK4 h _
  refine f0C ok D.q78 rfl ?_;conv=>whnf
  repeat' ((first|(apply bJ.go)|(show LdN _ _ _ _ _;refine LdN.oA 0 rfl rfl ?_)|(show CN _ _ _ _ _ _;first|(refine CN.f rfl (ct _ _ (w0.mono Ad)) (fun v h' hl hr=>?_);subst hr)|(refine CN.f rfl (c2 _) (fun v h' hl hr=>?_);obtain⟨s7,e,rfl,hse⟩:=hr))|((first|apply oI.z|apply cI.z))|intro (_:Nat)|refine Ld.o 0 rfl rfl ?_|(apply aD<;>intro _<;>try (exfalso;omega)))<;>conv=>whnf)
  all_goals exact RN.a (R:=fun v h'=>RFo h' v r) ⟨s7,e,rfl,hse⟩
 replace o2:=Decidable.not_not.1 o2;by_cases o4:op=4
 .subst o4;obtain⟨k,rfl⟩:=aM1 hn1 rfl;have hk0:([k]:List Tr)[0]?=some k:=rfl;have c1:=ih' k (bI2.2 rfl);rw[dC,dC] at hP;have f1:∀n,aO k=.error n->r=.error n:=fun n e=>by rw[hP,e];exact uH o1 o2
  have f2:∀p,aO k=.ok p->r=bS (plL [] p ((-1:Int):Rat)):=fun p e=>by rw[hP,e];exact aXo
  have gk:∀p,aO k=.ok p->lG p:=fun p e=>(kB k (d+1) (eF hoks (bI2.2 rfl)) e).elim fun S x=>x.2.2.good
  have c2:∀h s p,aO k=.ok p->gJ QmS h s p->Fn0 T F.q139 [.slice none 0 0,Sl.val s,.int .i64 (-1)] h fun v h'=>RFo h' v r:=fun h s p e w=>by
   rw[f2 p e];exact aC3 h ⟨none,0,0⟩ s [] p (-1) (.inr rfl) (aYn _) w xP (gk p e)
  refine f0C ok D.q78 rfl ?_;conv=>whnf
  repeat' first|((first|(apply bJ.go)|(show Idx _ _ _ _ _;refine Idx.kid hk 0 k rfl hk0 (fun ad0 op0 arg0 neg0 a0 b0 name0 s0 hE0 hld0=>?_))|(refine hld0 _ _ _ Ad ?_)|((first|apply oI.z|apply cI.z))|intro (_:Nat)|refine Ld.o 0 rfl rfl ?_)<;>conv=>whnf)|(show CN _ _ _ _ _ _;(first|(refine CN.f rfl (c1 _ _ (hE0.mono Ad)) (fun v h' hl hr=>?_);obtain⟨s7,e7,rfl,⟨he7,p7,hp7,w7⟩|⟨he7,hp7⟩⟩:=hr)|(refine CN.f rfl (c2 _ s7 p7 hp7 (w7.mono Ad)) (fun v h' hl hr=>?_);obtain⟨s8,e8,rfl,⟨he8,p8,hp8,w8⟩|⟨he8,hp8⟩⟩:=hr))<;>conv=>whnf)|(show cnd _ _ _;first|(apply aD<;>intro _<;>first|(exfalso;omega)|conv=>whnf)|(refine aI ?_))
  all_goals first
   | exact RN.a (R:=fun v h'=>RFo h' v r) ⟨s8,e8,rfl,.inl ⟨he8,p8,hp8,w8⟩⟩
   | exact RN.a (R:=fun v h'=>RFo h' v r) ⟨s8,e8,rfl,.inr ⟨he8,hp8⟩⟩
   | exact RN.a (R:=fun v h'=>RFo h' v r) (gS he7 (f1 _ hp7))
 by_cases o9:op=9
 .subst o9;obtain⟨k,rfl⟩:=aM1 hn1 rfl;have hk0:([k]:List Tr)[0]?=some k:=rfl;have hkm:k∈[k]:=bI2.2 rfl;have c1:=ih' k hkm;have hokk:=eF hoks hkm;have hszk:szT k<=300:=by have:=jP hkm;omega
  rw[dC,dC] at hP;have f1:∀n,aO k=.error n->r=.error n:=fun n e=>by rw[hP,e];exact uH o1 o2
  have f2:∀p,aO k=.ok p->r=fpw k p arg:=fun p e=>by
   rw[hP,e];by_cases h:arg<0
   .rw[aHp h];unfold fpw;rw[if_pos h];cases cA k p<;>rfl
   .rw[aXs h];unfold fpw;rw[if_neg h]
  have hab:-32<=arg/\arg<=32:=⟨hnb.2.1,hnb.2.2.1⟩;have c2:∀h vs s p,aO k=.ok p->IsE h vs (.mk 9 arg neg l m name [k])->gJ QmS h s p->Fn0 T F.q140 [.agg vs.toArray,Sl.val s] h fun v h'=>RFo h' v r:=fun h vs s p e we w=>by
   rw[f2 p e];obtain⟨S,z1,z2,z3⟩:=tI hokk hszk e;exact aK6 h arg neg l m name k vs we Aa (d+1) hokk hszk S Aa z2 s p w z3
  refine f0C ok D.q78 rfl ?_;conv=>whnf
  repeat' first|((first|(apply bJ.go)|(show LdN _ _ _ _ _;refine LdN.oA 0 rfl rfl ?_)|(show Idx _ _ _ _ _;refine Idx.kid hk 0 k rfl hk0 (fun ad0 op0 arg0 neg0 a0 b0 name0 s0 hE0 hld0=>?_))|(refine hld0 _ _ _ Ad ?_)|((first|apply oI.z|apply cI.z))|intro (_:Nat)|refine Ld.o 0 rfl rfl ?_)<;>conv=>whnf)|(show CN _ _ _ _ _ _;(first|(refine CN.f rfl (c1 _ _ (hE0.mono Ad)) (fun v h' hl hr=>?_);obtain⟨s7,e7,rfl,⟨he7,p7,hp7,w7⟩|⟨he7,hp7⟩⟩:=hr)|(refine CN.f rfl (c2 _ _ s7 p7 hp7 (w0.mono Ab) (w7.mono Ad)) (fun v h' hl hr=>?_);obtain⟨s8,e8,rfl,⟨he8,p8,hp8,w8⟩|⟨he8,hp8⟩⟩:=hr))<;>conv=>whnf)|(show cnd _ _ _;first|(apply aD<;>intro _<;>first|(exfalso;omega)|conv=>whnf)|(refine aI ?_))
  all_goals first
   | exact RN.a (R:=fun v h'=>RFo h' v r) ⟨s8,e8,rfl,.inl ⟨he8,p8,hp8,w8⟩⟩
   | exact RN.a (R:=fun v h'=>RFo h' v r) ⟨s8,e8,rfl,.inr ⟨he8,hp8⟩⟩
   | exact RN.a (R:=fun v h'=>RFo h' v r) (gS he7 (f1 _ hp7))
 obtain⟨k,k',rfl⟩:=aWe hn1 (by unfold bM;rw[if_neg Aa,if_neg Aa,if_pos Aa]);have hk0:([k,k']:List Tr)[0]?=some k:=rfl;have hk1:([k,k']:List Tr)[1]?=some k':=rfl;have hm0:k∈[k,k']:=by simp
 have hm1:k'∈[k,k']:=by simp
 have c1:=ih' k hm0;have c2:=ih' k' hm1;have hok0:=eF hoks hm0;have hok1:=eF hoks hm1;have hsz0:szT k<=300:=by have:=jP hm0;omega
 have hsz1:szT k'<=300:=by have:=jP hm1;omega
 rw[dC,dC,dC] at hP;have f1:∀n,aO k=.error n->r=.error n:=fun n e=>by rw[hP,e];exact uH o1 o2
 have f2:∀p n,aO k=.ok p->aO k'=.error n->r=.error n:=fun p n e e2=>by rw[hP,e,e2];exact aPt o1 o2 o4 o9
 have gk:∀p,aO k=.ok p->lG p:=fun p e=>(kB k (d+1) hok0 e).elim fun S x=>x.2.2.good
 have gk':∀p,aO k'=.ok p->lG p:=fun p e=>(kB k' (d+1) hok1 e).elim fun S x=>x.2.2.good
 have cm:∀(h:aA) (s1 s2:Sl) (p p2:Pol),gJ QmS h s1 p->gJ QmS h s2 p2->aO k=.ok p->aO k'=.ok p2->Fn0 T F.q141 [s1.val,s2.val] h fun v h'=>RFo h' v (bS (tmL p p2)):=fun h s1 s2 p p2 w1 w2 e1 e2=>by
  obtain⟨S1,z1,q1,g1⟩:=tI hok0 hsz0 e1;obtain⟨S2,z2,q2,g2⟩:=tI hok1 hsz1 e2;obtain⟨z,q,g1,g2⟩:=aHr z1 z2 q1 q2 g1 g2;exact yY h _ z q s1 s2 p p2 w1 w2 g1 g2
 have hl9:=mY k' _ hok1;have cr:∀(h:aA) (vs:List Value) (s:Sl) (p:Pol),IsE h vs k'->gJ QmS h s p->aO k'=.ok p->Fn0 T F.q142 [.agg vs.toArray,s.val] h fun v h'=>RFo h' v (cA k' p):=fun h vs s p w wp e=>zT h k' (d+1) hok1 hsz1 Aa vs w s p wp (gk' p e)
 have cd:∀(h:aA) (s1 s2:Sl) (p p2 c:Pol),gJ QmS h s1 p->gJ QmS h s2 c->aO k=.ok p->aO k'=.ok p2->cA k' p2=.ok c->Fn0 T F.q141 [s1.val,s2.val] h fun v h'=>RFo h' v (bS (tmL p c)):=fun h s1 s2 p p2 c w1 w2 e1 e2 e3=>by
  obtain⟨S1,z1,q1,g1⟩:=tI hok0 hsz0 e1;obtain⟨S2,z2,q2,g2⟩:=qJ (gk' p2 e2) e3;obtain⟨z,q,g1,g2⟩:=aHr z1 Aa q1 q2 g1 g2;exact yY h _ z q s1 s2 p c w1 w2 g1 g2
 by_cases o5:op=5
 .subst o5;have f3:∀p p2,aO k=.ok p->aO k'=.ok p2->r=bS (plL p p2 ((1:Int):Rat)):=fun p p2 e e2=>by rw[hP,e,e2];exact aXp
  have c3:∀h s s2 p p2,aO k=.ok p->aO k'=.ok p2->gJ QmS h s p->gJ QmS h s2 p2->Fn0 T F.q139 [Sl.val s,Sl.val s2,.int .i64 (1)] h fun v h'=>RFo h' v (bS (plL p p2 ((1:Int):Rat))):=fun h s s2 p p2 e e2 w w2=>aC3 h s s2 p p2 (1) (.inl rfl) w w2 (gk p e) (gk' p2 e2)
  refine f0C ok D.q78 rfl ?_;conv=>whnf
  repeat' first|((first|(apply bJ.go)|(show Idx _ _ _ _ _;first|refine Idx.kid hk 0 k rfl hk0 (fun ad0 op0 arg0 neg0 a0 b0 name0 s0 hE0 hld0=>?_)|refine Idx.kid hk 1 k' rfl hk1 (fun ad1 op1 arg1 neg1 a1 b1 name1 s1 hE1 hld1=>?_))|(refine hld0 _ _ _ Ad ?_)|refine hld1 _ _ _ Ab ?_|((first|apply oI.z|apply cI.z))|intro (_:Nat)|refine Ld.o 0 rfl rfl ?_)<;>conv=>whnf)|(show CN _ _ _ _ _ _;(first|(refine CN.f rfl (c1 _ _ (hE0.mono Ad)) (fun v h' hl hr=>?_);obtain⟨s7,e7,rfl,⟨he7,p7,hp7,w7⟩|⟨he7,hp7⟩⟩:=hr)|(refine CN.f rfl (c2 _ _ (hE1.mono Ab)) (fun v h' hl hr=>?_);obtain⟨s8,e8,rfl,⟨he8,p8,hp8,w8⟩|⟨he8,hp8⟩⟩:=hr)|(refine CN.f rfl (c3 _ s7 s8 p7 p8 hp7 hp8 (w7.mono Ab) (w8.mono Ad)) (fun v h' hl hr=>?_);obtain⟨s9,e9,rfl,⟨he9,p9,hp9,w9⟩|⟨he9,hp9⟩⟩:=hr))<;>conv=>whnf)|(show cnd _ _ _;first|(apply aD<;>intro _<;>first|(exfalso;omega)|conv=>whnf)|(refine aI ?_))
  all_goals first
   | exact RN.a (R:=fun v h'=>RFo h' v r) ⟨s9,e9,rfl,.inl ⟨he9,p9,(f3 _ _ hp7 hp8).trans hp9,w9⟩⟩
   | exact RN.a (R:=fun v h'=>RFo h' v r) ⟨s9,e9,rfl,.inr ⟨he9,(f3 _ _ hp7 hp8).trans hp9⟩⟩
   | exact RN.a (R:=fun v h'=>RFo h' v r) (gS he8 (f2 _ _ hp7 hp8))
   | exact RN.a (R:=fun v h'=>RFo h' v r) (gS he7 (f1 _ hp7))
 by_cases o6:op=6
 .subst o6;have f3:∀p p2,aO k=.ok p->aO k'=.ok p2->r=bS (plL p p2 ((-1:Int):Rat)):=fun p p2 e e2=>by rw[hP,e,e2];exact aXq
  have c3:∀h s s2 p p2,aO k=.ok p->aO k'=.ok p2->gJ QmS h s p->gJ QmS h s2 p2->Fn0 T F.q139 [Sl.val s,Sl.val s2,.int .i64 (-1)] h fun v h'=>RFo h' v (bS (plL p p2 ((-1:Int):Rat))):=fun h s s2 p p2 e e2 w w2=>aC3 h s s2 p p2 (-1) (.inr rfl) w w2 (gk p e) (gk' p2 e2)
  refine f0C ok D.q78 rfl ?_;conv=>whnf
  repeat' first|((first|(apply bJ.go)|(show Idx _ _ _ _ _;first|refine Idx.kid hk 0 k rfl hk0 (fun ad0 op0 arg0 neg0 a0 b0 name0 s0 hE0 hld0=>?_)|refine Idx.kid hk 1 k' rfl hk1 (fun ad1 op1 arg1 neg1 a1 b1 name1 s1 hE1 hld1=>?_))|(refine hld0 _ _ _ Ad ?_)|refine hld1 _ _ _ Ab ?_|((first|apply oI.z|apply cI.z))|intro (_:Nat)|refine Ld.o 0 rfl rfl ?_)<;>conv=>whnf)|(show CN _ _ _ _ _ _;(first|(refine CN.f rfl (c1 _ _ (hE0.mono Ad)) (fun v h' hl hr=>?_);obtain⟨s7,e7,rfl,⟨he7,p7,hp7,w7⟩|⟨he7,hp7⟩⟩:=hr)|(refine CN.f rfl (c2 _ _ (hE1.mono Ab)) (fun v h' hl hr=>?_);obtain⟨s8,e8,rfl,⟨he8,p8,hp8,w8⟩|⟨he8,hp8⟩⟩:=hr)|(refine CN.f rfl (c3 _ s7 s8 p7 p8 hp7 hp8 (w7.mono Ab) (w8.mono Ad)) (fun v h' hl hr=>?_);obtain⟨s9,e9,rfl,⟨he9,p9,hp9,w9⟩|⟨he9,hp9⟩⟩:=hr))<;>conv=>whnf)|(show cnd _ _ _;first|(apply aD<;>intro _<;>first|(exfalso;omega)|conv=>whnf)|(refine aI ?_))
  all_goals first
   | exact RN.a (R:=fun v h'=>RFo h' v r) ⟨s9,e9,rfl,.inl ⟨he9,p9,(f3 _ _ hp7 hp8).trans hp9,w9⟩⟩
   | exact RN.a (R:=fun v h'=>RFo h' v r) ⟨s9,e9,rfl,.inr ⟨he9,(f3 _ _ hp7 hp8).trans hp9⟩⟩
   | exact RN.a (R:=fun v h'=>RFo h' v r) (gS he8 (f2 _ _ hp7 hp8))
   | exact RN.a (R:=fun v h'=>RFo h' v r) (gS he7 (f1 _ hp7))
 by_cases o7:op=7
 .subst o7;have f3:∀p p2,aO k=.ok p->aO k'=.ok p2->r=bS (tmL p p2):=fun p p2 e e2=>by rw[hP,e,e2];exact aXr
  refine f0C ok D.q78 rfl ?_;conv=>whnf
  repeat' first|((first|(apply bJ.go)|(show Idx _ _ _ _ _;first|refine Idx.kid hk 0 k rfl hk0 (fun ad0 op0 arg0 neg0 a0 b0 name0 s0 hE0 hld0=>?_)|refine Idx.kid hk 1 k' rfl hk1 (fun ad1 op1 arg1 neg1 a1 b1 name1 s1 hE1 hld1=>?_))|(refine hld0 _ _ _ Ad ?_)|refine hld1 _ _ _ Ab ?_|((first|apply oI.z|apply cI.z))|intro (_:Nat)|refine Ld.o 0 rfl rfl ?_)<;>conv=>whnf)|(show CN _ _ _ _ _ _;(first|(refine CN.f rfl (c1 _ _ (hE0.mono Ad)) (fun v h' hl hr=>?_);obtain⟨s7,e7,rfl,⟨he7,p7,hp7,w7⟩|⟨he7,hp7⟩⟩:=hr)|(refine CN.f rfl (c2 _ _ (hE1.mono Ab)) (fun v h' hl hr=>?_);obtain⟨s8,e8,rfl,⟨he8,p8,hp8,w8⟩|⟨he8,hp8⟩⟩:=hr)|(refine CN.f rfl (cm _ s7 s8 p7 p8 (w7.mono Ab) (w8.mono Ad) hp7 hp8) (fun v h' hl hr=>?_);obtain⟨s9,e9,rfl,⟨he9,p9,hp9,w9⟩|⟨he9,hp9⟩⟩:=hr))<;>conv=>whnf)|(show cnd _ _ _;first|(apply aD<;>intro _<;>first|(exfalso;omega)|conv=>whnf)|(refine aI ?_))
  all_goals first
   | exact RN.a (R:=fun v h'=>RFo h' v r) ⟨s9,e9,rfl,.inl ⟨he9,p9,(f3 _ _ hp7 hp8).trans hp9,w9⟩⟩
   | exact RN.a (R:=fun v h'=>RFo h' v r) ⟨s9,e9,rfl,.inr ⟨he9,(f3 _ _ hp7 hp8).trans hp9⟩⟩
   | exact RN.a (R:=fun v h'=>RFo h' v r) (gS he8 (f2 _ _ hp7 hp8))
   | exact RN.a (R:=fun v h'=>RFo h' v r) (gS he7 (f1 _ hp7))
 .obtain rfl:op=8:=Aa;have f3:∀p p2 n,aO k=.ok p->aO k'=.ok p2->cA k' p2=.error n->r=.error n:=fun p p2 n e e2 e3=>by rw[hP,e,e2,aHo,e3]
  have f4:∀p p2 c,aO k=.ok p->aO k'=.ok p2->cA k' p2=.ok c->r=bS (tmL p c):=fun p p2 c e e2 e3=>by rw[hP,e,e2,aHo,e3]
  refine f0C ok D.q78 rfl ?_;conv=>whnf
  repeat' first|((first|(apply bJ.go)|(show Idx _ _ _ _ _;first|refine Idx.kid hk 0 k rfl hk0 (fun ad0 op0 arg0 neg0 a0 b0 name0 s0 hE0 hld0=>?_)|refine Idx.kid hk 1 k' rfl hk1 (fun ad1 op1 arg1 neg1 a1 b1 name1 s1 hE1 hld1=>?_))|(refine hld0 _ _ _ Ad ?_)|(refine hld1 _ _ _ Ac ?_)|((first|apply oI.z|apply cI.z))|intro (_:Nat)|refine Ld.o 0 rfl rfl ?_)<;>conv=>whnf)|(show CN _ _ _ _ _ _;(first|(refine CN.f rfl (c1 _ _ (hE0.mono Ad)) (fun v h' hl hr=>?_);obtain⟨s7,e7,rfl,⟨he7,p7,hp7,w7⟩|⟨he7,hp7⟩⟩:=hr)|(refine CN.f rfl (c2 _ _ (hE1.mono Ab)) (fun v h' hl hr=>?_);obtain⟨s8,e8,rfl,⟨he8,p8,hp8,w8⟩|⟨he8,hp8⟩⟩:=hr)|(refine CN.f rfl (cr _ _ s8 p8 (hE1.mono Ac) (w8.mono Ad) hp8) (fun v h' hl hr=>?_);obtain⟨s5,e5,rfl,⟨he5,p5,hp5,w5⟩|⟨he5,hp5⟩⟩:=hr)|(refine CN.f rfl (cd _ s7 s5 p7 p8 p5 (w7.mono Ac) (w5.mono Ad) hp7 hp8 hp5) (fun v h' hl hr=>?_);obtain⟨s9,e9,rfl,⟨he9,p9,hp9,w9⟩|⟨he9,hp9⟩⟩:=hr))<;>conv=>whnf)|(show cnd _ _ _;first|(apply aD<;>intro _<;>first|(exfalso;omega)|conv=>whnf)|(refine aI ?_))
  all_goals first
   | exact RN.a (R:=fun v h'=>RFo h' v r) ⟨s9,e9,rfl,.inl ⟨he9,p9,(f4 _ _ _ hp7 hp8 hp5).trans hp9,w9⟩⟩
   | exact RN.a (R:=fun v h'=>RFo h' v r) ⟨s9,e9,rfl,.inr ⟨he9,(f4 _ _ _ hp7 hp8 hp5).trans hp9⟩⟩
   | exact RN.a (R:=fun v h'=>RFo h' v r) (gS he5 (f3 _ _ _ hp7 hp8 hp5))
   | exact RN.a (R:=fun v h'=>RFo h' v r) (gS he8 (f2 _ _ hp7 hp8))
   | exact RN.a (R:=fun v h'=>RFo h' v r) (gS he7 (f1 _ hp7))
end Go.Proofs.Y