/- Contracts of the reference's functions on rational numbers, first part. -/
import Derived.Test.YtblecjeceecaaaaGreatDoorR6
import Derived.Test.YtblecjeceecaaaaGreatDoorW10
set_option linter.all false
set_option maxHeartbeats 1000000
set_option maxRecDepth 20000
namespace Go.Dig
theorem aS9(neg:Bool)(m:Nat):mkQ neg m 0=0:=by unfold mkQ;simp
end Go.Dig
namespace Go.Proofs.Y
open Go Go.Vc Go.Dig

structure IsQ (h:aA) (a b:Sl) (q:Rat):Prop where
 num:aP h a (nu q)
 den:aP h b q.den
theorem IsQ.mono{h h':aA}{a b:Sl}{q:Rat}(w:IsQ h a b q)(hl:h.le h'):IsQ h' a b q:=⟨w.num.mono hl,w.den.mono hl⟩
theorem Ao{p:Prop}(h:p:=by (iterate 30 try first|assumption|refine IsQ.mono ?_ (by assumption));first|done|assumption):p:=h
structure Sr (k:Nat) (q:Rat):Prop where
 num:ln 65536 (nu q)<=k
 den:ln 65536 q.den<=k
theorem Sr.mono{k l:Nat}{q:Rat}(s:Sr k q)(h:k<=l):Sr l q:=⟨bJd s.num h,bJd s.den h⟩
theorem aP.nil{h:aA}{s:Sl}(h0:s.l=0):aP h s 0:=by unfold aP;rw[dO];exact Ws.nil h0

theorem aIo(h:aA)(neg:Bool)(a b:Sl)(d:Nat)(hb:aP h b d)(h0:d≠0)(lb:ln 65536 d<=1099511627776):Fn0 T F.q103 [.agg #[.bool neg,a.val,b.val]] h fun v h'=>h'=h/\v=b.val:=by
 have hl:=hb.len;have hn1:1<=ln 65536 d:=bKs fun e=>h0 ((bA tlb).1 e)
 refine f0C ok D.q103 rfl ?_;conv=>whnf
 repeat' ((first|((first|apply oI.z|apply cI.z))|intro (_:Nat)|refine Ld.o 0 rfl rfl ?_|(apply aD<;>intro _<;>try (exfalso;omega)))<;>conv=>whnf)
 exact RN.a ⟨rfl,rfl⟩
theorem oH(h:aA)(neg:Bool)(a b:Sl)(m n:Nat)(ha:aP h a m)(hb:aP h b n)(la:ln 65536 m<=4294967296)(lb:ln 65536 n<=4294967296):
  Fn0 T F.q60 [.bool neg,a.val,b.val] h fun v h'=>∃a' b':Sl,v=.agg #[.bool (sg (mkQ neg m n)),a'.val,b'.val]/\IsQ h' a' b' (mkQ neg m n):=by
 have hal:=ha.len;have hbl:=hb.len;have hzm:=bA tlb (n:=m);have hzn:=bA tlb (n:=n);have zero:mkQ neg m n=0->∀h' (s:Sl),aP h' s 1->∃a' b':Sl,Value.agg #[.bool false,.slice none 0 0,s.val]=.agg #[.bool (sg (mkQ neg m n)),a'.val,b'.val]/\IsQ h' a' b' (mkQ neg m n):=fun e h' s hs=>by
  rw[e,qS];exact⟨⟨none,0,0⟩,s,rfl,⟨by rw[wI];exact aP.nil rfl,hs⟩⟩
 refine f0C ok D.q60 rfl ?_;conv=>whnf
 repeat ((first|apply oI.z|apply cI.z);conv=>whnf)
 by_cases hm:m=0
 .have h1:=hzm.2 hm;clear hzm hzn
  repeat' ((first|(show CN _ _ _ _ _ _;(refine CN.f rfl (gV _ 1 Aa) (fun v h' hl hr=>?_);obtain⟨s',rfl,hs'⟩:=hr))|((first|apply oI.z|apply cI.z))|intro (_:Nat)|refine LdN.o 0 rfl rfl ?_|refine Sto.l 0 rfl rfl rfl ?_|(apply aD<;>intro _<;>try (exfalso;omega)))<;>conv=>whnf)
  all_goals exact RN.a (zero (by rw[hm,aBf]) _ _ ‹_›)
 by_cases hn:n=0
 .have h1:=hzn.2 hn;have h2:ln 65536 m≠0:=fun e=>hm (hzm.1 e)
  clear hzm hzn
  repeat' ((first|(show CN _ _ _ _ _ _;(refine CN.f rfl (gV _ 1 Aa) (fun v h' hl hr=>?_);obtain⟨s',rfl,hs'⟩:=hr))|((first|apply oI.z|apply cI.z))|intro (_:Nat)|refine LdN.o 0 rfl rfl ?_|refine Sto.l 0 rfl rfl rfl ?_|(apply aD<;>intro _<;>try (exfalso;omega)))<;>conv=>whnf)
  all_goals exact RN.a (zero (by rw[hn,aS9]) _ _ ‹_›)
 have h1:ln 65536 m≠0:=fun e=>hm (hzm.1 e)
 have h2:ln 65536 n≠0:=fun e=>hn (hzn.1 e)
 have hone:ln 65536 n=1->(dg 65536 n).getD 0 0=n:=fun e=>(sL e).1
 have e1:=aFx neg (m:=m) hn;have e2:=aBe neg (m:=m) hn;have e3:=wH neg (m:=m) hn;rw[show (neg && decide (m≠0))=neg by simp[hm]] at e1
 have hg0:Nat.gcd m n≠0:=by have:=bNc m (bKs hn);omega
 have hgl:ln 65536 (Nat.gcd m n)<=ln 65536 n:=cQ tlb (Nat.gcd_le_right _ Aa);replace e1:=Hq.mk e1;replace e2:=Hq.mk e2;replace e3:=Hq.mk e3;clear hzm hzn zero
 repeat' ((first|(show CN _ _ _ _ _ _;first|(refine CN.f rfl (gV _ 1 Aa) (fun v h' hl hr=>?_);obtain⟨s',rfl,hs'⟩:=hr)|(refine CN.f rfl (aQi _ _ _ _ _ Ab Ab Aa Aa) (fun v h' hl hr=>?_);obtain⟨s',rfl,hs'⟩:=hr)|(refine CN.f rfl (tU _ _ _ _ _ Ag Ag Aa Aa AA) (fun v h' hl hr=>?_);obtain⟨q',r',rfl,hq',hr'⟩:=hr))|(show Idx _ _ _ _ _;(refine Idx.ws hb 0 Aa (by unfold ln at *;omega) (fun ad hv=>?_)))|(show Ld _ _ _ _;(refine Ld.of (by first|exact hv _|(rename_i hv;exact hv _)) ?_))|(show App _ _ _ _ _ _ _ _ _;(refine App.fresh rfl ha (by unfold ln at *;omega) Ae (fun h' s' hl w'=>?_)))|((first|apply oI.z|apply cI.z))|intro (_:Nat)|refine LdN.o 0 rfl rfl ?_|refine Sto.l 0 rfl rfl rfl ?_|(apply aD<;>intro _<;>try (exfalso;omega)))<;>conv=>whnf)
 .have hn1:n=1:=by have:=hone Aa;omega
  rw[hn1,Nat.gcd_one_right,bMx] at e2;rw[hn1,Nat.gcd_one_right,bMx] at e3;rw[hn1] at e1 ⊢;exact RN.a ⟨_,s',by rw[e1.out]<;>rfl,⟨by rw[e2.out];exact Ai,by rw[e3.out];exact Ab⟩⟩
 all_goals exact RN.a ⟨_,_,by rw[e1.out]<;>rfl,⟨by rw[e2.out];exact Ai,by rw[e3.out];exact Ab⟩⟩

theorem aN8(h:aA)(neg:Bool)(a b:Sl)(d:Nat)(hd:aP h b d)(h0:d≠0)(lb:ln 65536 d<=1099511627776):Fn0 T F.q144 [.agg #[.bool neg,a.val,b.val]] h fun v h'=>h'=h/\v=.bool (dec (d=1)):=by
 have hl:=hd.len;have hn1:1<=ln 65536 d:=bKs fun e=>h0 ((bA tlb).1 e)
 have hone:ln 65536 d=1->(dg 65536 d).getD 0 0=d:=fun e=>(sL e).1
 have hd1:d=1->ln 65536 d=1:=fun e=>by rw[e];exact jA _ tlb
 refine f0C ok D.q144 rfl ?_;conv=>whnf
 repeat' ((first|(show Idx _ _ _ _ _;(refine Idx.ws hd 0 Aa (by unfold ln at *;omega) (fun ad hv=>?_)))|(show Ld _ _ _ _;first|(refine Ld.of (by first|exact hv _|(rename_i hv;exact hv _)) ?_)|refine Ld.o 0 rfl rfl ?_)|((first|apply oI.z|apply cI.z))|intro (_:Nat)|(apply aD<;>intro _<;>try (exfalso;omega)))<;>conv=>whnf)
 all_goals refine RN.a ⟨rfl,?_⟩
 .have e:=hone Aa;rw[e];by_cases h1:d=1
  .rw[aX h1,Vc.eq_true' Aa]
  .rw[aH h1,Vc.eq_false' Aa]
 .rw[aH (fun e=>by have:=hd1 e;omega)]

theorem aBl(h:aA)(a b:Sl)(q:Rat)(hq:IsQ h a b q)(hs:Sr 1099511627776 q):Fn0 T F.q56 [.agg #[.bool (sg q),a.val,b.val]] h fun v h'=>h'=h/\v=.int .i64 (dH q):=by
 have h1:=hq.num.len;have h3:=hs.num;have hz:=bA tlb (n:=nu q);refine f0C ok D.q56 rfl ?_;conv=>whnf
 repeat ((first|apply oI.z|apply cI.z);conv=>whnf)
 by_cases h0:nu q=0
 .have h4:=hz.2 h0;clear hz
  repeat' ((first|((first|apply oI.z|apply cI.z))|intro (_:Nat)|refine Ld.o 0 rfl rfl ?_|(apply aD<;>intro _<;>try (exfalso;omega)))<;>conv=>whnf)
  exact RN.a ⟨rfl,vi (by unfold dH;rw[if_pos h0])⟩
 .have h4:ln 65536 (nu q)≠0:=fun e=>h0 (hz.1 e)
  clear hz
  repeat' first|((first|((first|apply oI.z|apply cI.z))|intro (_:Nat)|refine Ld.o 0 rfl rfl ?_)<;>conv=>whnf)|(show cnd _ _ _;first|(apply aD<;>intro _<;>first|(exfalso;omega)|conv=>whnf)|(refine bO (fun _=>?_) (fun _=>?_)<;>(conv=>whnf)))
  .exact RN.a ⟨rfl,vi (by unfold dH;rw[if_neg h0,if_pos Ab])⟩
  .exact RN.a ⟨rfl,vi (by unfold dH;rw[if_neg h0,if_neg (by simp_all)])⟩

theorem bB6(h:aA)(a b:Sl)(q:Rat)(hq:IsQ h a b q)(hs:Sr 1099511627776 q):Fn0 T F.q109 [.agg #[.bool (sg q),a.val,b.val]] h fun v h'=>h'=h/\v=.agg #[.bool (sg (-q)),a.val,b.val]:=by
 have h1:=hq.num.len;have h3:=hs.num;have e:=aS2 q;have hz:=bA tlb (n:=nu q);refine f0C ok D.q109 rfl ?_;conv=>whnf
 repeat' first|((first|((first|apply oI.z|apply cI.z))|intro (_:Nat)|refine LdN.o 0 rfl rfl ?_|refine Ld.o 1 rfl rfl ?_|refine Sto.l 0 rfl rfl rfl ?_)<;>conv=>whnf)|(show cnd _ _ _;first|(refine aI ?_)|(refine bO (fun _=>?_) (fun _=>?_)<;>(conv=>whnf)))
 .refine RN.a ⟨rfl,?_⟩;rw[e];simp_all
 .refine RN.a ⟨rfl,?_⟩;have e1:lt 0 (a.l:Int)=decide (nu q≠0):=by
   by_cases h0:nu q=0
   .have:=hz.2 h0;rw[lt_false' Aa];simp[h0]
   .have:ln 65536 (nu q)≠0:=fun e=>h0 (hz.1 e)
    rw[lt_true' Aa];simp[h0]
  rw[e,show sg q=false by assumption]
  show Value.agg #[.bool (lt 0 (a.l:Int)),a.val,b.val]=_
  rw[e1];simp
theorem IsQ.neg{h:aA}{a b:Sl}{q:Rat}(w:IsQ h a b q):IsQ h a b (-q):=⟨by rw[yH];exact w.num,by rw[bNs];exact w.den⟩
theorem Sr.neg{k:Nat}{q:Rat}(s:Sr k q):Sr k (-q):=⟨by rw[yH];exact s.num,by rw[bNs];exact s.den⟩

theorem aAf(h:aA)(a b c d:Sl)(q r:Rat)(hq:IsQ h a b q)(hr:IsQ h c d r)(hs:Sr 1073741824 q)(hs':Sr 1073741824 r):
  Fn0 T F.q53 [.agg #[.bool (sg q),a.val,b.val],.agg #[.bool (sg r),c.val,d.val]] h fun v h'=>∃s t:Sl,v=.agg #[.bool (sg (q*r)),s.val,t.val]/\IsQ h' s t (q*r):=by
 have e:=aN2 q r;rw[aLs] at e;have i1:=hq.num;have i2:=hq.den;have i3:=hr.num;have i4:=hr.den;have l1:=hs.num;have l2:=hs.den;have l3:=hs'.num;have l4:=hs'.den;have d1:=q.den_nz;have d2:=r.den_nz;have p1:=cX tlb (nu q) (nu r);have p2:=cX tlb q.den r.den;refine f0C ok D.q53 rfl ?_;conv=>whnf
 repeat' ((first|(show CN _ _ _ _ _ _;first|(refine CN.quiet rfl (aIo _ _ _ _ _ Ag AA Aa) ?_)|(refine CN.f rfl (kH _ _ _ _ _ Ag Ag Aa Aa) (fun v h' hl hr=>?_);obtain⟨s',rfl,hs'⟩:=hr)|(refine CN.f rfl (oH _ _ _ _ _ _ Ag Ab Aa Aa) (fun v h' hl hr=>?_);obtain⟨a',b',rfl,hq'⟩:=hr;have hqn':=hq'.num;have hqd':=hq'.den))|((first|apply oI.z|apply cI.z))|refine⟨fun _=>aJ.o (aA.lr _),?_⟩|refine⟨fun _=>aJ.o Ab,?_⟩|refine⟨fun hst=>(by cases (show true=false from hst)),?_⟩|intro (_:Nat)|(show LdN _ _ _ _ _;first|refine LdN.o 0 rfl rfl ?_|refine LdN.o 1 rfl rfl ?_|refine LdN.o 2 rfl rfl ?_)|(show Ld _ _ _ _;first|refine Ld.o 1 rfl rfl ?_|refine Ld.o 2 rfl rfl ?_)|refine Sto.l 0 rfl rfl rfl ?_|refine DrN.run Ak ?_)<;>conv=>whnf)
 all_goals exact RN.a ⟨_,_,by rw[e]<;>rfl,by rw[e];exact Ab⟩


theorem aTa(neg:Bool)(l m:List Nat):nu (aK neg l m)<=evl 4294967296 l/\(aK neg l m).den<=(if evl 4294967296 m=0 then 1 else evl 4294967296 m):=by
 unfold aK;exact qT neg AC
theorem tV{l:List Nat}(hl:∀x∈l,x<4294967296):ln 65536 (evl 4294967296 l)<=2*l.length:=by
 have h1:=(aR (b:=4294967296) tlB).2 (kD tlB hl);have:=qW (evl 4294967296 l);omega
theorem aIp{h:aA}{a b:Sl}{neg:Bool}{l m:List Nat}(hv:bV h a b l m):Sr 2147483649 (aK neg l m):=by
 have h1:=tV hv.ln;have h2:=tV hv.lm;have h3:=hv.sn;have h4:=hv.sm;have h5:=aTa neg l m;have h6:=jA 65536 tlb;refine⟨bJd (cQ tlb h5.1) Aa,bJd (cQ tlb h5.2) ?_⟩
 split<;>omega

theorem sM(h:aA)(neg:Bool)(a b:Sl)(l m:List Nat)(hv:bV h a b l m):
  Fn0 T F.q21 [.agg #[.bool neg,a.val,b.val]] h fun v h'=>∃c d:Sl,v=.agg #[.bool (sg (aK neg l m)),c.val,d.val]/\IsQ h' c d (aK neg l m):=by
 have i1:=hv.num;have i2:=hv.den;have l1:=hv.ln;have l2:=hv.lm;have l3:=hv.sn;have l4:=hv.sm;have b1:=tV l1;have b2:=tV l2;have b3:=jA 65536 tlb;obtain⟨x,hx⟩:=AH (evl 4294967296 l);obtain⟨y,hy⟩:=AH (evl 4294967296 m);obtain⟨q,hq⟩:=AH (aK neg l m);have hq1:y=0->mkQ neg x 1=q:=fun h0=>by rw[hq,aK,<-hx,<-hy,if_pos h0]
 have hq2:y≠0->mkQ neg x y=q:=fun h0=>by rw[hq,aK,<-hx,<-hy,if_neg h0]
 rw[<-hx] at b1;rw[<-hy] at b2;have hz:=bA tlb (n:=y);have hz1:ln 65536 y=0->y=0:=hz.1;have hz2:ln 65536 y≠0->y≠0:=fun h1 h0=>h1 (hz.2 h0)
 clear hz;rw[<-hq];replace hq:=Hq.mk hq;refine f0C ok D.q21 rfl ?_;conv=>whnf
 repeat' ((first|(apply bJ.go)|(show CN _ _ _ _ _ _;first|(refine CN.f rfl (sJ _ _ l Ag l1 Aa) (fun v h' hl hr=>?_);rw[<-hx] at hr;obtain⟨s',rfl,hs'⟩:=hr;have hxl:=hs'.len)|(refine CN.f rfl (sJ _ _ m Ab l2 Aa) (fun v h' hl hr=>?_);rw[<-hy] at hr;obtain⟨t',rfl,ht'⟩:=hr;have hyl:=ht'.len)|(refine CN.f rfl (gV _ 1 Aa) (fun v h' hl hr=>?_);obtain⟨s',rfl,hs'⟩:=hr)|(refine CN.f rfl (oH _ _ _ _ x 1 Ab Ai Aa Aa) (fun v h' hl hr=>?_);rw[hq1 (hz1 Aa)] at hr;obtain⟨a',b',rfl,hq'⟩:=hr)|(refine CN.f rfl (oH _ _ _ _ x y Ab Ai Aa Aa) (fun v h' hl hr=>?_);rw[hq2 (hz2 Aa)] at hr;obtain⟨a',b',rfl,hq'⟩:=hr))|((first|apply oI.z|apply cI.z))|refine⟨fun _=>aJ.o Ab,?_⟩|refine⟨fun hst=>(by cases (show true=false from hst)),?_⟩|intro (_:Nat)|refine LdN.o 0 rfl rfl ?_|refine Ld.o 1 rfl rfl ?_|refine Sto.l 0 rfl rfl rfl ?_|refine DrN.run Ak ?_|(apply aD<;>intro _<;>try (exfalso;omega)))<;>conv=>whnf)
 all_goals exact RN.a ⟨_,_,rfl,Ab⟩

theorem aBm(q:Rat):fits q↔ln 65536 (nu q)<=128/\ln 65536 q.den<=128:=by
 have h1:=qW (nu q);have h2:=qW q.den;unfold fits;omega
theorem aLy(h:aA)(a b:Sl)(q:Rat)(hq:IsQ h a b q)(hs:Sr 4294967296 q):Fn0 T F.q179 [.agg #[.bool (sg q),a.val,b.val]] h fun v h'=>h'=h/\v=.bool (!dec (fits q)):=by
 have h1:=hq.num.len;have h2:=hq.den.len;have h3:=hs.num;have h4:=hs.den;have hf:=aBm q;refine f0C ok D.q179 rfl ?_;conv=>whnf
 repeat ((first|apply oI.z|apply cI.z);conv=>whnf)
 replace hf:=Hq.mk hf
 repeat' ((first|((first|apply oI.z|apply cI.z))|intro (_:Nat)|refine Ld.o 0 rfl rfl ?_|(apply aB<;>intro _<;>try (exfalso;omega)))<;>conv=>whnf)
 all_goals refine RN.a ⟨rfl,?_⟩
 .rw[aH (fun hh=>by have:=(hf.out.1 hh).1;omega)]<;>rfl
 .by_cases hh:ln 65536 q.den<=128
  .rw[aX (hf.out.2 ⟨Aa,hh⟩),lt_false' Aa]<;>rfl
  .rw[aH (fun x=>hh (hf.out.1 x).2),lt_true' Aa]<;>rfl

theorem aTb(h:aA)(a b:Sl)(q:Rat)(hq:IsQ h a b q)(hs:Sr 4294967296 q):Fn0 T F.q79 [.agg #[.bool (sg q),a.val,b.val]] h fun v h'=>∃c d:Sl,v=.agg #[.bool (sg q),c.val,d.val]/\eA h' c d q:=by
 have i1:=hq.num;have i2:=hq.den;have h1:=hq.num.len;have h2:=hq.den.len;have h3:=hs.num;have h4:=hs.den;have d1:=q.den_nz;have hsg:sg q=true->0<ln 65536 (nu q):=fun hh=>by
  refine bKs fun e=>?_
  have h0:=cE.1 ((bA tlb).1 e);rw[h0,qS] at hh;cases hh
 refine f0C ok D.q79 rfl ?_;conv=>whnf
 repeat' first|((first|(apply bJ.go)|(show CN _ _ _ _ _ _;first|(refine CN.quiet rfl (aN8 _ _ _ _ q.den Ai Ab Aa) ?_)|(refine CN.f rfl (aN7 _ _ (nu q) Ai Aa) (fun v h' hl hr=>?_);obtain⟨s',rfl,hs'⟩:=hr)|(refine CN.f rfl (aN7 _ _ q.den Ai Aa) (fun v h' hl hr=>?_);obtain⟨s',rfl,hs'⟩:=hr))|((first|apply oI.z|apply cI.z))|refine⟨fun _=>aJ.o Ab,?_⟩|refine⟨fun _=>aJ.cons _,?_⟩|refine⟨fun hst=>(by cases (show true=false from hst)),?_⟩|intro (_:Nat)|(show LdN _ _ _ _ _;first|refine LdN.o 0 rfl rfl ?_|refine LdN.o 1 rfl rfl ?_|refine LdN.o 2 rfl rfl ?_)|(show Ld _ _ _ _;first|refine Ld.o 1 rfl rfl ?_|refine Ld.o 2 rfl rfl ?_)|(show Sto _ _ _ _;first|refine Sto.l 0 rfl rfl rfl ?_|refine Sto.l 1 rfl rfl rfl ?_)|refine DrN.run Ak ?_)<;>conv=>whnf)|(show cnd _ _ _;first|(refine aI ?_)|(apply aU<;>intro _<;>first|(exfalso;omega)|conv=>whnf)|(refine bO (fun _=>?_) (fun _=>?_)<;>(conv=>whnf)))|(refine rY.mk ?_ ?_<;>(conv=>whnf))
 all_goals first
  | exact RN.a ⟨_,⟨none,0,0⟩,by rw[show sg q=true by assumption,lt_true' (by have:=hsg Ab;omega)]<;>rfl,⟨Ab,by rw[if_pos Ab];exact aM.nil rfl⟩⟩
  | exact RN.a ⟨_,_,by rw[show sg q=true by assumption,lt_true' (by have:=hsg Ab;omega)]<;>rfl,⟨Ah,by rw[if_neg Ab];exact Ab⟩⟩
  | exact RN.a ⟨_,⟨none,0,0⟩,by rw[show sg q=false by assumption]<;>rfl,⟨Ab,by rw[if_pos Ab];exact aM.nil rfl⟩⟩
  | exact RN.a ⟨_,_,by rw[show sg q=false by assumption]<;>rfl,⟨Ah,by rw[if_neg Ab];exact Ab⟩⟩

theorem bE7(neg:Bool)(l m:List Nat):okR neg l m↔ln 65536 (evl 4294967296 l)<=512/\ln 65536 (evl 4294967296 m)<=512/\fits (aK neg l m):=by
 have h1:=qW (evl 4294967296 l);have h2:=qW (evl 4294967296 m);unfold okR;constructor<;>intro ⟨a,b,c⟩<;>exact⟨Aa,Aa,c⟩
theorem aIq(h:aA)(neg:Bool)(a b:Sl)(l m:List Nat)(hv:bV h a b l m):Fn0 T F.q160 [.agg #[.bool neg,a.val,b.val]] h fun v _=>v=.bool (!dec (okR neg l m)):=by
 have i1:=hv.num;have i2:=hv.den;have l1:=hv.ln;have l2:=hv.lm;have l3:=hv.sn;have l4:=hv.sm;have b1:=tV l1;have b2:=tV l2;have hsr:=(aIp (neg:=neg) hv).mono (show 2147483649<=4294967296 by decide)
 obtain⟨x,hx⟩:=AH (evl 4294967296 l);obtain⟨y,hy⟩:=AH (evl 4294967296 m);have hok:=bE7 neg l m;rw[<-hx,<-hy] at hok;rw[<-hx] at b1;rw[<-hy] at b2;replace hok:=Hq.mk hok;refine f0C ok D.q160 rfl ?_;conv=>whnf
 repeat' ((first|(show CN _ _ _ _ _ _;first|(refine CN.f rfl (sJ _ _ l Ag l1 Aa) (fun v h' hl hr=>?_);rw[<-hx] at hr;obtain⟨s',rfl,hs'⟩:=hr;have hxl:=hs'.len)|(refine CN.f rfl (sJ _ _ m Ag l2 Aa) (fun v h' hl hr=>?_);rw[<-hy] at hr;obtain⟨t',rfl,ht'⟩:=hr;have hyl:=ht'.len)|(refine CN.f rfl (sM _ _ _ _ l m Am) (fun v h' hl hr=>?_);obtain⟨a',b',rfl,hq'⟩:=hr;have hqn':=hq'.num;have hqd':=hq'.den)|(refine CN.quiet rfl (aLy _ _ _ _ Ab AA) ?_))|((first|apply oI.z|apply cI.z))|intro (_:Nat)|refine LdN.o 0 rfl rfl ?_|refine Ld.o 0 rfl rfl ?_|(apply aB<;>intro _<;>try (exfalso;omega)))<;>conv=>whnf)
 .exact RN.a (by rw[aH (fun hh=>by have:=(hok.out.1 hh).1;omega)]<;>rfl)
 .exact RN.a (by rw[aH (fun hh=>by have:=(hok.out.1 hh).2.1;omega)]<;>rfl)
 .exact RN.a (by rw[dJ (p:=okR neg l m) (q:=fits (aK neg l m)) ⟨fun hh=>(hok.out.1 hh).2.2,fun hh=>hok.out.2 ⟨Aa,Aa,hh⟩⟩]<;>rfl)


theorem aGa(h:aA)(n:Int)(h1:0<=n)(h2:n<=9223372036854775807):
  Fn0 T F.q51 [.int .i64 n] h fun v h'=>∃s t:Sl,v=.agg #[.bool (sg (n:Rat)),s.val,t.val]/\IsQ h' s t (n:Rat):=by
 obtain⟨m,hm⟩:=AH n.natAbs;have e:(n:Rat)=mkQ false m 1:=by
  have:=nF (n:Rat);rw[aF0,vD,qV,decide_eq_false Aa,<-hm] at this;exact this.symm
 have hnm:n=m:=Aa;have p1:ln 65536 m<=4:=(aR tlb).2 Aa;have p2:=jA 65536 tlb;rw[e];refine f0C ok D.q51 rfl ?_;conv=>whnf
 repeat' ((first|(show WN _ _ _;refine WN.u64v m Aa ?_)|((first|apply oI.z|apply cI.z))|intro (_:Nat)|(apply aB<;>intro _<;>try (exfalso;omega)))<;>conv=>whnf)
 refine CN.f rfl (gV _ m Aa) (fun v h' hl hr=>?_)
 obtain⟨s',rfl,hs'⟩:=hr;conv=>whnf
 repeat ((first|apply oI.z|apply cI.z);conv=>whnf)
 refine CN.f rfl (gV _ 1 Aa) (fun v h' hl hr=>?_)
 obtain⟨t',rfl,ht'⟩:=hr;conv=>whnf
 repeat' ((first|(show CN _ _ _ _ _ _;(refine CN.f rfl (oH _ _ _ _ m 1 Ai Ab Aa Aa) (fun v h' hl hr=>?_);obtain⟨a',b',rfl,hq'⟩:=hr))|((first|apply oI.z|apply cI.z))|refine LdN.o 0 rfl rfl ?_|refine Sto.l 0 rfl rfl rfl ?_)<;>conv=>whnf)
 exact RN.a ⟨_,_,rfl,Ab⟩

theorem aGb{k l:Nat}{q r:Rat}(a:Sr k q)(b:Sr l r):Sr (k+l+1) (q+r):=by
 have h:=aLq q r;have p1:=cX tlb (nu q) r.den;have p2:=cX tlb (nu r) q.den;have p3:=cX tlb q.den r.den;have p4:=uZ tlb (nu q*r.den) (nu r*q.den);have a1:=a.num;have a2:=a.den;have b1:=b.num;have b2:=b.den;exact⟨bJd (cQ tlb h.1) Aa,bJd (cQ tlb h.2) Aa⟩
end Go.Proofs.Y
/- Contracts of the statements' own helpers: when two results are the same. -/
namespace Go.Dig
def dn(q:Rat):Nat:=if q.den=1 then 0 else q.den
end Go.Dig
namespace Go.Proofs.Y
open Go Go.Vc Go.Dig

theorem bB7(q:Rat):dn q<=q.den:=by unfold dn;split<;>omega
theorem lO{h:aA}{a b:Sl}{q:Rat}(w:eA h a b q)(hs:Sz 1073741824 q):bV h a b (dg 4294967296 (nu q)) (dg 4294967296 (dn q)):=
 ⟨w.num,w.den,lM tlB _,lM tlB _,by have:=hs.num;unfold ln at this;exact this,by
   have h1:=cK (bB7 q);have h2:=hs.den;unfold ln at h1 h2;omega⟩
theorem jO(q:Rat):aK (sg q) (dg 4294967296 (nu q)) (dg 4294967296 (dn q))=q:=by
 unfold aK;rw[cZ tlB,cZ tlB];have hd:=q.den_nz;have:(if dn q=0 then 1 else dn q)=q.den:=by
  unfold dn;by_cases h1:q.den=1
  .rw[if_pos h1,if_pos rfl,h1]
  .rw[if_neg h1,if_neg hd]
 rw[this,nF]
theorem aTc{q:Rat}(hf:fits q):okR (sg q) (dg 4294967296 (nu q)) (dg 4294967296 (dn q)):=by
 unfold okR;rw[jO,cZ tlB,cZ tlB];have h1:=cK (bB7 q);have h2:=hf.1;have h3:=hf.2;exact⟨Aa,Aa,hf⟩



structure Rok (p:Rat × Int):Prop where
 sz:Sz 1073741824 p.1
 err:p.2≠0->p.1=0
theorem aOa(k:Nat):Sz (k+1) 0:=⟨by rw[wI,lW];omega,by rw[show (0:Rat).den=1 from rfl,jA _ tlB];omega⟩
end Go.Proofs.Y