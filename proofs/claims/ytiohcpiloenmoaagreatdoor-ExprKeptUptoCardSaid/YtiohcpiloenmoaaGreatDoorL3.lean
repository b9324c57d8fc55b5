/- Contracts of the reference's functions on rational numbers, first part. -/
import Derived.Test.YtiohcpiloenmoaaGreatDoorR6
import Derived.Test.YtiohcpiloenmoaaGreatDoorW10
set_option linter.all false
set_option maxHeartbeats 1000000
set_option maxRecDepth 20000
namespace Go.Dig
theorem aM1(neg:Bool)(m:Nat):mkQ neg m 0=0:=by unfold mkQ;simp
theorem aUk(m:Nat):ln 65536 m<=2*ln 4294967296 m:=by have:=mA m;omega
end Go.Dig
namespace Go.Proofs.Y
open Go Go.Vc Go.Dig

structure IsQ (h:aA) (a b:Sl) (q:Rat):Prop where
 num:aX h a (nu q)
 den:aX h b q.den
theorem IsQ.mono{h h':aA}{a b:Sl}{q:Rat}(w:IsQ h a b q)(hl:h.le h'):IsQ h' a b q:=⟨w.num.mono hl,w.den.mono hl⟩
structure Sr (k:Nat) (q:Rat):Prop where
 num:ln 65536 (nu q)<=k
 den:ln 65536 q.den<=k
theorem Sr.mono{k l:Nat}{q:Rat}(s:Sr k q)(h:k<=l):Sr l q:=⟨aZr s.num h,aZr s.den h⟩
theorem aX.nil{h:aA}{s:Sl}(h0:s.l=0):aX h s 0:=by unfold aX;rw[cH];exact Ws.nil h0

theorem aW7(h:aA)(neg:Bool)(a b:Sl)(d:Nat)(hb:aX h b d)(h0:d≠0)(lb:ln 65536 d<=1099511627776):Fn0 T F.q189 [.agg #[.bool neg,a.val,b.val]] h fun v h'=>h'=h/\v=b.val:=by
 have hl:=hb.len;have hn1:1<=ln 65536 d:=bBi fun e=>h0 ((aT tlb).1 e)
 refine f0C ok D.q189 rfl ?_;conv=>whnf
 repeat' ((first|((first|apply oI.z|apply cI.z))|intro (_:Nat)|refine Ld.o 0 rfl rfl ?_|(apply aD<;>intro _<;>try (exfalso;omega)))<;>conv=>whnf)
 exact RN.a ⟨rfl,rfl⟩
theorem aBr(h:aA)(neg:Bool)(a b:Sl)(m n:Nat)(ha:aX h a m)(hb:aX h b n)(la:ln 65536 m<=4294967296)(lb:ln 65536 n<=4294967296):
  Fn0 T F.q79 [.bool neg,a.val,b.val] h fun v h'=>∃a' b':Sl,v=.agg #[.bool (sg (mkQ neg m n)),a'.val,b'.val]/\IsQ h' a' b' (mkQ neg m n):=by
 have hal:=ha.len;have hbl:=hb.len;have hzm:=aT tlb (n:=m);have hzn:=aT tlb (n:=n);have zero:mkQ neg m n=0->∀h' (s:Sl),aX h' s 1->∃a' b':Sl,Value.agg #[.bool false,.slice none 0 0,s.val]=.agg #[.bool (sg (mkQ neg m n)),a'.val,b'.val]/\IsQ h' a' b' (mkQ neg m n):=fun e h' s hs=>by
  rw[e,qE];exact⟨⟨none,0,0⟩,s,rfl,⟨by rw[rW];exact aX.nil rfl,hs⟩⟩
 refine f0C ok D.q79 rfl ?_;conv=>whnf
 repeat ((first|apply oI.z|apply cI.z);conv=>whnf)
 by_cases hm:m=0
 .have h1:=hzm.2 hm;clear hzm hzn
  repeat' ((first|(show CN _ _ _ _ _ _;(refine CN.f rfl (mX _ 1 Aa) (fun v h' hl hr=>?_);obtain⟨s',rfl,hs'⟩:=hr))|((first|apply oI.z|apply cI.z))|intro (_:Nat)|refine LdN.o 0 rfl rfl ?_|refine Sto.l 0 rfl rfl rfl ?_|(apply aD<;>intro _<;>try (exfalso;omega)))<;>conv=>whnf)
  all_goals exact RN.a (zero (by rw[hm,wS]) _ _ ‹_›)
 by_cases hn:n=0
 .have h1:=hzn.2 hn;have h2:ln 65536 m≠0:=fun e=>hm (hzm.1 e)
  clear hzm hzn
  repeat' ((first|(show CN _ _ _ _ _ _;(refine CN.f rfl (mX _ 1 Aa) (fun v h' hl hr=>?_);obtain⟨s',rfl,hs'⟩:=hr))|((first|apply oI.z|apply cI.z))|intro (_:Nat)|refine LdN.o 0 rfl rfl ?_|refine Sto.l 0 rfl rfl rfl ?_|(apply aD<;>intro _<;>try (exfalso;omega)))<;>conv=>whnf)
  all_goals exact RN.a (zero (by rw[hn,aM1]) _ _ ‹_›)
 have h1:ln 65536 m≠0:=fun e=>hm (hzm.1 e)
 have h2:ln 65536 n≠0:=fun e=>hn (hzn.1 e)
 have hone:ln 65536 n=1->(dg 65536 n).getD 0 0=n:=fun e=>(uM e).1
 have e1:=aBk neg (m:=m) hn;have e2:=wR neg (m:=m) hn;have e3:=rV neg (m:=m) hn;rw[show (neg && decide (m≠0))=neg by simp[hm]] at e1
 have hg0:Nat.gcd m n≠0:=by have:=bC5 m (bBi hn);omega
 have hgl:ln 65536 (Nat.gcd m n)<=ln 65536 n:=dG tlb (Nat.gcd_le_right _ Aa);replace e1:=Hq.mk e1;replace e2:=Hq.mk e2;replace e3:=Hq.mk e3;clear hzm hzn zero
 repeat' ((first|(show CN _ _ _ _ _ _;first|(refine CN.f rfl (mX _ 1 Aa) (fun v h' hl hr=>?_);obtain⟨s',rfl,hs'⟩:=hr)|(refine CN.f rfl (aJy _ _ _ _ _ Ab Ab Aa Aa) (fun v h' hl hr=>?_);obtain⟨s',rfl,hs'⟩:=hr)|(refine CN.f rfl (zU _ _ _ _ _ Ai Ai Aa Aa (by first|assumption|omega)) (fun v h' hl hr=>?_);obtain⟨q',r',rfl,hq',hr'⟩:=hr))|(show Idx _ _ _ _ _;(refine Idx.ws hb 0 Aa (by unfold ln at *;omega) (fun ad hv=>?_)))|(show Ld _ _ _ _;(refine Ld.of (by first|exact hv _|(rename_i hv;exact hv _)) ?_))|(show App _ _ _ _ _ _ _ _ _;(refine App.fresh rfl ha (by unfold ln at *;omega) Ag (fun h' s' hl w'=>?_)))|((first|apply oI.z|apply cI.z))|intro (_:Nat)|refine LdN.o 0 rfl rfl ?_|refine Sto.l 0 rfl rfl rfl ?_|(apply aD<;>intro _<;>try (exfalso;omega)))<;>conv=>whnf)
 .have hn1:n=1:=by have:=hone Aa;omega
  rw[hn1,Nat.gcd_one_right,bCv] at e2;rw[hn1,Nat.gcd_one_right,bCv] at e3;rw[hn1] at e1 ⊢;exact RN.a ⟨_,s',by rw[e1.out]<;>rfl,⟨by rw[e2.out];exact Aq,by rw[e3.out];exact Ab⟩⟩
 all_goals exact RN.a ⟨_,_,by rw[e1.out]<;>rfl,⟨by rw[e2.out];exact Aq,by rw[e3.out];exact Ab⟩⟩

theorem aM2(h:aA)(a b:Sl)(q:Rat)(hq:IsQ h a b q)(hs:Sr 1099511627776 q):Fn0 T F.q75 [.agg #[.bool (sg q),a.val,b.val]] h fun v h'=>h'=h/\v=.int .i64 (bY q):=by
 have h1:=hq.num.len;have h3:=hs.num;have hz:=aT tlb (n:=nu q);refine f0C ok D.q75 rfl ?_;conv=>whnf
 repeat ((first|apply oI.z|apply cI.z);conv=>whnf)
 by_cases h0:nu q=0
 .have h4:=hz.2 h0;clear hz
  repeat' ((first|((first|apply oI.z|apply cI.z))|intro (_:Nat)|refine Ld.o 0 rfl rfl ?_|(apply aD<;>intro _<;>try (exfalso;omega)))<;>conv=>whnf)
  exact RN.a ⟨rfl,vi (by unfold bY;rw[if_pos h0])⟩
 .have h4:ln 65536 (nu q)≠0:=fun e=>h0 (hz.1 e)
  clear hz
  repeat' first|((first|((first|apply oI.z|apply cI.z))|intro (_:Nat)|refine Ld.o 0 rfl rfl ?_)<;>conv=>whnf)|(show cnd _ _ _;first|(apply aD<;>intro _<;>first|(exfalso;omega)|conv=>whnf)|(refine bQ (fun _=>?_) (fun _=>?_)<;>(conv=>whnf)))
  .exact RN.a ⟨rfl,vi (by unfold bY;rw[if_neg h0,if_pos Ab])⟩
  .exact RN.a ⟨rfl,vi (by unfold bY;rw[if_neg h0,if_neg (by simp_all)])⟩

theorem aW8(h:aA)(a b:Sl)(q:Rat)(hq:IsQ h a b q)(hs:Sr 1099511627776 q):Fn0 T F.q140 [.agg #[.bool (sg q),a.val,b.val]] h fun v h'=>h'=h/\v=.agg #[.bool (sg (-q)),a.val,b.val]:=by
 have h1:=hq.num.len;have h3:=hs.num;have e:=aMq q;have hz:=aT tlb (n:=nu q);refine f0C ok D.q140 rfl ?_;conv=>whnf
 repeat' first|((first|((first|apply oI.z|apply cI.z))|intro (_:Nat)|refine LdN.o 0 rfl rfl ?_|refine Ld.o 1 rfl rfl ?_|refine Sto.l 0 rfl rfl rfl ?_)<;>conv=>whnf)|(show cnd _ _ _;first|(refine aI ?_)|(refine bQ (fun _=>?_) (fun _=>?_)<;>(conv=>whnf)))
 .refine RN.a ⟨rfl,?_⟩;rw[e];simp_all
 .refine RN.a ⟨rfl,?_⟩;have e1:lt 0 (a.l:Int)=decide (nu q≠0):=by
   by_cases h0:nu q=0
   .have:=hz.2 h0;rw[lt_false' Aa];simp[h0]
   .have:ln 65536 (nu q)≠0:=fun e=>h0 (hz.1 e)
    rw[lt_true' Aa];simp[h0]
  rw[e,show sg q=false by assumption]
  show Value.agg #[.bool (lt 0 (a.l:Int)),a.val,b.val]=_
  rw[e1];simp
theorem IsQ.neg{h:aA}{a b:Sl}{q:Rat}(w:IsQ h a b q):IsQ h a b (-q):=⟨by rw[tS];exact w.num,by rw[bC3];exact w.den⟩
theorem Sr.neg{k:Nat}{q:Rat}(s:Sr k q):Sr k (-q):=⟨by rw[tS];exact s.num,by rw[bC3];exact s.den⟩

theorem aU5(h:aA)(a b c d:Sl)(q r:Rat)(hq:IsQ h a b q)(hr:IsQ h c d r)(hs:Sr 1073741824 q)(hs':Sr 1073741824 r):
  Fn0 T F.q139 [.agg #[.bool (sg q),a.val,b.val],.agg #[.bool (sg r),c.val,d.val]] h fun v h'=>∃s t:Sl,v=.agg #[.bool (sg (q+r)),s.val,t.val]/\IsQ h' s t (q+r):=by
 have i1:=hq.num;have i2:=hq.den;have i3:=hr.num;have i4:=hr.den;have l1:=hs.num;have l2:=hs.den;have l3:=hs'.num;have l4:=hs'.den;have d1:=q.den_nz;have d2:=r.den_nz;have p1:=dE tlb (nu q) r.den;have p2:=dE tlb (nu r) q.den;have p3:=dE tlb q.den r.den;have e1:=Hq.mk (wT (q:=q) (r:=r));have e2:=Hq.mk (aBm (q:=q) (r:=r));have e3:=Hq.mk (aF0 (q:=q) (r:=r));obtain⟨x,hx⟩:=AE (nu q*r.den);obtain⟨y,hy⟩:=AE (nu r*q.den);obtain⟨z,hz⟩:=AE (q.den*r.den);have p4:=wI tlb x y;have p5:=dG tlb (Nat.sub_le x y);have p6:=dG tlb (Nat.sub_le y x);rw[<-hx,<-hy,<-hz] at e1 e2 e3;rw[<-hx] at p1;rw[<-hy] at p2;rw[<-hz] at p3;have hcl:=aF5 (m:=x) (n:=y);have hcn:=aHv (m:=x) (n:=y);refine f0C ok D.q139 rfl ?_;conv=>whnf
 repeat' first|((first|(show CN _ _ _ _ _ _;first|(refine CN.quiet rfl (aW7 _ _ _ _ _ Ai (by first|assumption|omega) Aa) ?_)|(refine CN.f rfl (qK _ _ _ (nu q) r.den Aq Ab Aa Aa) (fun v h' hl hr=>?_);rw[<-hx] at hr;obtain⟨s',rfl,hs'⟩:=hr)|(refine CN.f rfl (qK _ _ _ (nu r) q.den Aq Aq Aa Aa) (fun v h' hl hr=>?_);rw[<-hy] at hr;obtain⟨s',rfl,hs'⟩:=hr)|(refine CN.f rfl (qK _ _ _ q.den r.den Aq Aq Aa Aa) (fun v h' hl hr=>?_);rw[<-hz] at hr;obtain⟨s',rfl,hs'⟩:=hr)|(refine CN.f rfl (aJs _ _ _ _ _ Ai Ai Aa Aa) (fun v h' hl hr=>?_);obtain⟨s',rfl,hs'⟩:=hr)|(refine CN.f rfl (aJt _ _ _ _ _ Ai Ai Aa Aa) (fun v h' hl hr=>?_);obtain⟨s',rfl,hs'⟩:=hr)|(refine CN.quiet rfl (qJ _ _ _ _ _ Ai Ai Aa Aa) ?_)|(refine CN.f rfl (aBr _ _ _ _ _ _ Ab Ai Aa Aa) (fun v h' hl hr=>?_);obtain⟨a',b',rfl,hq'⟩:=hr;have hqn':=hq'.num;have hqd':=hq'.den))|((first|apply oI.z|apply cI.z))|refine⟨fun _=>aF.o (aA.lr _),?_⟩|refine⟨fun _=>aF.o Ab,?_⟩|refine⟨fun hst=>(by cases (show true=false from hst)),?_⟩|intro (_:Nat)|(show LdN _ _ _ _ _;first|refine LdN.o 0 rfl rfl ?_|refine LdN.o 1 rfl rfl ?_|refine LdN.o 2 rfl rfl ?_)|(show Ld _ _ _ _;first|refine Ld.o 1 rfl rfl ?_|refine Ld.o 2 rfl rfl ?_)|refine Sto.l 0 rfl rfl rfl ?_|refine DrN.run Al ?_)<;>conv=>whnf)|(show cnd _ _ _;first|(apply bH<;>intro _<;>first|(exfalso;omega)|conv=>whnf)|(refine aA8 (fun _=>?_) (fun hne=>?_)<;>first|exact absurd rfl hne|(conv=>whnf)))
 .exact RN.a ⟨_,_,by rw[e1.out Ab]<;>rfl,by rw[e1.out Ab];exact Ab⟩
 .exact RN.a ⟨_,_,by rw[e2.out Ab Aa]<;>rfl,by rw[e2.out Ab Aa];exact Ab⟩
 .exact RN.a ⟨_,_,by rw[e3.out Ab Aa]<;>rfl,by rw[e3.out Ab Aa];exact Ab⟩

theorem aDq(neg:Bool)(l m:List Nat):nu (aK neg l m)<=evl 4294967296 l/\(aK neg l m).den<=(if evl 4294967296 m=0 then 1 else evl 4294967296 m):=by
 unfold aK;exact pF neg AA
theorem mB{l:List Nat}(hl:∀x∈l,x<4294967296):ln 65536 (evl 4294967296 l)<=2*l.length:=by
 have h1:=(aQ (b:=4294967296) tlB).2 (iM tlB hl);have:=mA (evl 4294967296 l);omega
theorem aDr{h:aA}{a b:Sl}{neg:Bool}{l m:List Nat}(hv:aY h a b l m):Sr 2147483649 (aK neg l m):=by
 have h1:=mB hv.ln;have h2:=mB hv.lm;have h3:=hv.sn;have h4:=hv.sm;have h5:=aDq neg l m;have h6:=mJ 65536 tlb;refine⟨aZr (dG tlb h5.1) Aa,aZr (dG tlb h5.2) ?_⟩
 split<;>omega

theorem tT(h:aA)(neg:Bool)(a b:Sl)(l m:List Nat)(hv:aY h a b l m):
  Fn0 T F.q40 [.agg #[.bool neg,a.val,b.val]] h fun v h'=>∃c d:Sl,v=.agg #[.bool (sg (aK neg l m)),c.val,d.val]/\IsQ h' c d (aK neg l m):=by
 have i1:=hv.num;have i2:=hv.den;have l1:=hv.ln;have l2:=hv.lm;have l3:=hv.sn;have l4:=hv.sm;have b1:=mB l1;have b2:=mB l2;have b3:=mJ 65536 tlb;obtain⟨x,hx⟩:=AE (evl 4294967296 l);obtain⟨y,hy⟩:=AE (evl 4294967296 m);obtain⟨q,hq⟩:=AE (aK neg l m);have hq1:y=0->mkQ neg x 1=q:=fun h0=>by rw[hq,aK,<-hx,<-hy,if_pos h0]
 have hq2:y≠0->mkQ neg x y=q:=fun h0=>by rw[hq,aK,<-hx,<-hy,if_neg h0]
 rw[<-hx] at b1;rw[<-hy] at b2;have hz:=aT tlb (n:=y);have hz1:ln 65536 y=0->y=0:=hz.1;have hz2:ln 65536 y≠0->y≠0:=fun h1 h0=>h1 (hz.2 h0)
 clear hz;rw[<-hq];replace hq:=Hq.mk hq;refine f0C ok D.q40 rfl ?_;conv=>whnf
 repeat' ((first|(apply aO.go)|(show CN _ _ _ _ _ _;first|(refine CN.f rfl (pH _ _ l Ai l1 Aa) (fun v h' hl hr=>?_);rw[<-hx] at hr;obtain⟨s',rfl,hs'⟩:=hr;have hxl:=hs'.len)|(refine CN.f rfl (pH _ _ m Ab l2 Aa) (fun v h' hl hr=>?_);rw[<-hy] at hr;obtain⟨t',rfl,ht'⟩:=hr;have hyl:=ht'.len)|(refine CN.f rfl (mX _ 1 Aa) (fun v h' hl hr=>?_);obtain⟨s',rfl,hs'⟩:=hr)|(refine CN.f rfl (aBr _ _ _ _ x 1 Ab Aq Aa Aa) (fun v h' hl hr=>?_);rw[hq1 (hz1 Aa)] at hr;obtain⟨a',b',rfl,hq'⟩:=hr)|(refine CN.f rfl (aBr _ _ _ _ x y Ab Aq Aa Aa) (fun v h' hl hr=>?_);rw[hq2 (hz2 Aa)] at hr;obtain⟨a',b',rfl,hq'⟩:=hr))|((first|apply oI.z|apply cI.z))|refine⟨fun _=>aF.o Ab,?_⟩|refine⟨fun hst=>(by cases (show true=false from hst)),?_⟩|intro (_:Nat)|refine LdN.o 0 rfl rfl ?_|refine Ld.o 1 rfl rfl ?_|refine Sto.l 0 rfl rfl rfl ?_|refine DrN.run Al ?_|(apply aD<;>intro _<;>try (exfalso;omega)))<;>conv=>whnf)
 all_goals exact RN.a ⟨_,_,rfl,Ab⟩

theorem aF9(q:Rat):fits q↔ln 65536 (nu q)<=128/\ln 65536 q.den<=128:=by
 have h1:=mA (nu q);have h2:=mA q.den;unfold fits;omega
theorem aU6(h:aA)(a b:Sl)(q:Rat)(hq:IsQ h a b q)(hs:Sr 4294967296 q):Fn0 T F.q144 [.agg #[.bool (sg q),a.val,b.val]] h fun v h'=>h'=h/\v=.bool (!dec (fits q)):=by
 have h1:=hq.num.len;have h2:=hq.den.len;have h3:=hs.num;have h4:=hs.den;have hf:=aF9 q;refine f0C ok D.q144 rfl ?_;conv=>whnf
 repeat ((first|apply oI.z|apply cI.z);conv=>whnf)
 replace hf:=Hq.mk hf
 repeat' ((first|((first|apply oI.z|apply cI.z))|intro (_:Nat)|refine Ld.o 0 rfl rfl ?_|(apply aB<;>intro _<;>try (exfalso;omega)))<;>conv=>whnf)
 all_goals refine RN.a ⟨rfl,?_⟩
 .rw[aG (fun hh=>by have:=(hf.out.1 hh).1;omega)]<;>rfl
 .by_cases hh:ln 65536 q.den<=128
  .rw[aW (hf.out.2 ⟨Aa,hh⟩),lt_false' Aa]<;>rfl
  .rw[aG (fun x=>hh (hf.out.1 x).2),lt_true' Aa]<;>rfl

theorem aW9(neg:Bool)(l m:List Nat):okR neg l m↔ln 65536 (evl 4294967296 l)<=512/\ln 65536 (evl 4294967296 m)<=512/\fits (aK neg l m):=by
 have h1:=mA (evl 4294967296 l);have h2:=mA (evl 4294967296 m);unfold okR;constructor<;>intro ⟨a,b,c⟩<;>exact⟨Aa,Aa,c⟩
theorem aM3(h:aA)(neg:Bool)(a b:Sl)(l m:List Nat)(hv:aY h a b l m):Fn0 T F.q82 [.agg #[.bool neg,a.val,b.val]] h fun v _=>v=.bool (!dec (okR neg l m)):=by
 have i1:=hv.num;have i2:=hv.den;have l1:=hv.ln;have l2:=hv.lm;have l3:=hv.sn;have l4:=hv.sm;have b1:=mB l1;have b2:=mB l2;have hsr:=(aDr (neg:=neg) hv).mono (show 2147483649<=4294967296 by decide)
 obtain⟨x,hx⟩:=AE (evl 4294967296 l);obtain⟨y,hy⟩:=AE (evl 4294967296 m);have hok:=aW9 neg l m;rw[<-hx,<-hy] at hok;rw[<-hx] at b1;rw[<-hy] at b2;replace hok:=Hq.mk hok;refine f0C ok D.q82 rfl ?_;conv=>whnf
 repeat' ((first|(show CN _ _ _ _ _ _;first|(refine CN.f rfl (pH _ _ l Ai l1 Aa) (fun v h' hl hr=>?_);rw[<-hx] at hr;obtain⟨s',rfl,hs'⟩:=hr;have hxl:=hs'.len)|(refine CN.f rfl (pH _ _ m Ai l2 Aa) (fun v h' hl hr=>?_);rw[<-hy] at hr;obtain⟨t',rfl,ht'⟩:=hr;have hyl:=ht'.len)|(refine CN.f rfl (tT _ _ _ _ l m Ao) (fun v h' hl hr=>?_);obtain⟨a',b',rfl,hq'⟩:=hr;have hqn':=hq'.num;have hqd':=hq'.den)|(refine CN.quiet rfl (aU6 _ _ _ _ Ab (by first|assumption|omega)) ?_))|((first|apply oI.z|apply cI.z))|intro (_:Nat)|refine LdN.o 0 rfl rfl ?_|refine Ld.o 0 rfl rfl ?_|(apply aB<;>intro _<;>try (exfalso;omega)))<;>conv=>whnf)
 .exact RN.a (by rw[aG (fun hh=>by have:=(hok.out.1 hh).1;omega)]<;>rfl)
 .exact RN.a (by rw[aG (fun hh=>by have:=(hok.out.1 hh).2.1;omega)]<;>rfl)
 .exact RN.a (by rw[cA (p:=okR neg l m) (q:=fits (aK neg l m)) ⟨fun hh=>(hok.out.1 hh).2.2,fun hh=>hok.out.2 ⟨Aa,Aa,hh⟩⟩]<;>rfl)


theorem Sr.of{k:Nat}{q:Rat}(s:Sz k q):Sr (2*k) q:=by
 have h1:=aUk (nu q);have h2:=aUk q.den;have:=s.num;have:=s.den;exact⟨Aa,Aa⟩
theorem aHx(h:aA)(a b c d:Sl)(q r:Rat)(hq:IsQ h a b q)(hr:IsQ h c d r)(hs:Sr 1073741824 q)(hs':Sr 1073741824 r):
  Fn0 T F.q76 [.agg #[.bool (sg q),a.val,b.val],.agg #[.bool (sg r),c.val,d.val]] h fun v h'=>∃s t:Sl,v=.agg #[.bool (sg (q-r)),s.val,t.val]/\IsQ h' s t (q-r):=by
 have y2:Sr 1073741824 (-r):=Sr.neg hs';have y3:Sr 1099511627776 r:=hs'.mono Ag;have h3:=IsQ.neg hr;have e:q-r=q+-r:=bB2 q r;refine f0C ok D.q76 rfl ?_;conv=>whnf
 repeat' ((first|(show CN _ _ _ _ _ _;first|refine CN.quiet rfl (aW8 _ _ _ _ Ab y3) ?_|(refine CN.f rfl (aU5 _ _ _ _ _ _ _ Ab Ab hs y2) (fun v h' hl hr=>?_);obtain⟨e1,e2,rfl,hq'⟩:=hr))|((first|apply oI.z|apply cI.z))|refine⟨fun _=>aF.o (aA.lr _),?_⟩|refine⟨fun _=>aF.o Ab,?_⟩|refine⟨fun hst=>(by cases (show true=false from hst)),?_⟩|intro (_:Nat)|(show LdN _ _ _ _ _;first|refine LdN.o 0 rfl rfl ?_|refine LdN.o 1 rfl rfl ?_|refine LdN.o 2 rfl rfl ?_)|refine Sto.l 0 rfl rfl rfl ?_|refine DrN.run Al ?_)<;>conv=>whnf)
 exact RN.a ⟨_,_,by rw[e]<;>rfl,by rw[e];exact Ab⟩

theorem aBs{k l:Nat}{q r:Rat}(a:Sr k q)(b:Sr l r):Sr (k+l+1) (q+r):=by
 have h:=aMu q r;have p1:=dE tlb (nu q) r.den;have p2:=dE tlb (nu r) q.den;have p3:=dE tlb q.den r.den;have p4:=wI tlb (nu q*r.den) (nu r*q.den);have a1:=a.num;have a2:=a.den;have b1:=b.num;have b2:=b.den;exact⟨aZr (dG tlb h.1) Aa,aZr (dG tlb h.2) Aa⟩
end Go.Proofs.Y
/- Contracts of the statements' own helpers: when two results are the same. -/
namespace Go.Dig
def dn(q:Rat):Nat:=if q.den=1 then 0 else q.den
end Go.Dig
namespace Go.Proofs.Y
open Go Go.Vc Go.Dig

theorem aUl(q:Rat):dn q<=q.den:=by unfold dn;split<;>omega
theorem qL{h:aA}{a b:Sl}{q:Rat}(w:fI h a b q)(hs:Sz 1073741824 q):aY h a b (dg 4294967296 (nu q)) (dg 4294967296 (dn q)):=
 ⟨w.num,w.den,jZ tlB _,jZ tlB _,by have:=hs.num;unfold ln at this;exact this,by
   have h1:=bN (aUl q);have h2:=hs.den;unfold ln at h1 h2;omega⟩
theorem wY(q:Rat):aK (sg q) (dg 4294967296 (nu q)) (dg 4294967296 (dn q))=q:=by
 unfold aK;rw[bS tlB,bS tlB];have hd:=q.den_nz;have:(if dn q=0 then 1 else dn q)=q.den:=by
  unfold dn;by_cases h1:q.den=1
  .rw[if_pos h1,if_pos rfl,h1]
  .rw[if_neg h1,if_neg hd]
 rw[this,aDj]
theorem aM4{q:Rat}(hf:fits q):okR (sg q) (dg 4294967296 (nu q)) (dg 4294967296 (dn q)):=by
 unfold okR;rw[wY,bS tlB,bS tlB];have h1:=bN (aUl q);have h2:=hf.1;have h3:=hf.2;exact⟨Aa,Aa,hf⟩



theorem aHy(k:Nat):Sz (k+1) 0:=⟨by rw[rW,jU];omega,by rw[show (0:Rat).den=1 from rfl,mJ _ tlB];omega⟩
end Go.Proofs.Y