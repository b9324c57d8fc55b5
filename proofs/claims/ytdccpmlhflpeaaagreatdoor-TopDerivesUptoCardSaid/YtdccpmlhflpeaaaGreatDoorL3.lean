/- Contracts of the reference's functions on rational numbers, first part. -/
import Derived.Test.YtdccpmlhflpeaaaGreatDoorR6
import Derived.Test.YtdccpmlhflpeaaaGreatDoorW10
set_option linter.all false
set_option maxHeartbeats 1000000
set_option maxRecDepth 20000
namespace Go.Dig
theorem aP9(neg:Bool)(m:Nat):mkQ neg m 0=0:=by unfold mkQ;simp
end Go.Dig
namespace Go.Proofs.Y
open Go Go.Vc Go.Dig

structure IsQ (h:aA) (a b:Sl) (q:Rat):Prop where
 num:aS h a (nu q)
 den:aS h b q.den
theorem IsQ.mono{h h':aA}{a b:Sl}{q:Rat}(w:IsQ h a b q)(hl:h.le h'):IsQ h' a b q:=⟨w.num.mono hl,w.den.mono hl⟩
structure Sr (k:Nat) (q:Rat):Prop where
 num:ln 65536 (nu q)<=k
 den:ln 65536 q.den<=k
theorem Sr.mono{k l:Nat}{q:Rat}(s:Sr k q)(h:k<=l):Sr l q:=⟨bDv s.num h,bDv s.den h⟩
theorem aS.nil{h:aA}{s:Sl}(h0:s.l=0):aS h s 0:=by unfold aS;rw[cM];exact Ws.nil h0

theorem aQa(h:aA)(neg:Bool)(a b:Sl)(d:Nat)(hb:aS h b d)(h0:d≠0)(lb:ln 65536 d<=1099511627776):Fn0 T F.q46 [.agg #[.bool neg,a.val,b.val]] h fun v h'=>h'=h/\v=b.val:=by
 have hl:=hb.len;have hn1:1<=ln 65536 d:=bE8 fun e=>h0 ((aT tlb).1 e)
 refine f0C ok D.q46 rfl ?_;conv=>whnf
 repeat' ((first|((first|apply oI.z|apply cI.z))|intro (_:Nat)|refine Ld.o 0 rfl rfl ?_|(apply aD<;>intro _<;>try (exfalso;omega)))<;>conv=>whnf)
 exact RN.a ⟨rfl,rfl⟩
theorem rX(h:aA)(neg:Bool)(a b:Sl)(m n:Nat)(ha:aS h a m)(hb:aS h b n)(la:ln 65536 m<=4294967296)(lb:ln 65536 n<=4294967296):
  Fn0 T F.q25 [.bool neg,a.val,b.val] h fun v h'=>∃a' b':Sl,v=.agg #[.bool (sg (mkQ neg m n)),a'.val,b'.val]/\IsQ h' a' b' (mkQ neg m n):=by
 have hal:=ha.len;have hbl:=hb.len;have hzm:=aT tlb (n:=m);have hzn:=aT tlb (n:=n);have zero:mkQ neg m n=0->∀h' (s:Sl),aS h' s 1->∃a' b':Sl,Value.agg #[.bool false,.slice none 0 0,s.val]=.agg #[.bool (sg (mkQ neg m n)),a'.val,b'.val]/\IsQ h' a' b' (mkQ neg m n):=fun e h' s hs=>by
  rw[e,tX];exact⟨⟨none,0,0⟩,s,rfl,⟨by rw[xP];exact aS.nil rfl,hs⟩⟩
 refine f0C ok D.q25 rfl ?_;conv=>whnf
 repeat ((first|apply oI.z|apply cI.z);conv=>whnf)
 by_cases hm:m=0
 .have h1:=hzm.2 hm;clear hzm hzn
  repeat' ((first|(show CN _ _ _ _ _ _;(refine CN.f rfl (kU _ 1 Aa) (fun v h' hl hr=>?_);obtain⟨s',rfl,hs'⟩:=hr))|((first|apply oI.z|apply cI.z))|intro (_:Nat)|refine LdN.o 0 rfl rfl ?_|refine Sto.l 0 rfl rfl rfl ?_|(apply aD<;>intro _<;>try (exfalso;omega)))<;>conv=>whnf)
  all_goals exact RN.a (zero (by rw[hm,yW]) _ _ ‹_›)
 by_cases hn:n=0
 .have h1:=hzn.2 hn;have h2:ln 65536 m≠0:=fun e=>hm (hzm.1 e)
  clear hzm hzn
  repeat' ((first|(show CN _ _ _ _ _ _;(refine CN.f rfl (kU _ 1 Aa) (fun v h' hl hr=>?_);obtain⟨s',rfl,hs'⟩:=hr))|((first|apply oI.z|apply cI.z))|intro (_:Nat)|refine LdN.o 0 rfl rfl ?_|refine Sto.l 0 rfl rfl rfl ?_|(apply aD<;>intro _<;>try (exfalso;omega)))<;>conv=>whnf)
  all_goals exact RN.a (zero (by rw[hn,aP9]) _ _ ‹_›)
 have h1:ln 65536 m≠0:=fun e=>hm (hzm.1 e)
 have h2:ln 65536 n≠0:=fun e=>hn (hzn.1 e)
 have hone:ln 65536 n=1->(dg 65536 n).getD 0 0=n:=fun e=>(qV e).1
 have e1:=aIi neg (m:=m) hn;have e2:=aDq neg (m:=m) hn;have e3:=xO neg (m:=m) hn;rw[show (neg && decide (m≠0))=neg by simp[hm]] at e1
 have hg0:Nat.gcd m n≠0:=by have:=bHk m (bE8 hn);omega
 have hgl:ln 65536 (Nat.gcd m n)<=ln 65536 n:=dH tlb (Nat.gcd_le_right _ Aa);replace e1:=Hq.mk e1;replace e2:=Hq.mk e2;replace e3:=Hq.mk e3;clear hzm hzn zero
 repeat' ((first|(show CN _ _ _ _ _ _;first|(refine CN.f rfl (kU _ 1 Aa) (fun v h' hl hr=>?_);obtain⟨s',rfl,hs'⟩:=hr)|(refine CN.f rfl (aM9 _ _ _ _ _ Ab Ab Aa Aa) (fun v h' hl hr=>?_);obtain⟨s',rfl,hs'⟩:=hr)|(refine CN.f rfl (aBx _ _ _ _ _ Ag Ag Aa Aa Az) (fun v h' hl hr=>?_);obtain⟨q',r',rfl,hq',hr'⟩:=hr))|(show Idx _ _ _ _ _;(refine Idx.ws hb 0 Aa (by unfold ln at *;omega) (fun ad hv=>?_)))|(show Ld _ _ _ _;(refine Ld.of (by first|exact hv _|(rename_i hv;exact hv _)) ?_))|(show App _ _ _ _ _ _ _ _ _;(refine App.fresh rfl ha (by unfold ln at *;omega) Ad (fun h' s' hl w'=>?_)))|((first|apply oI.z|apply cI.z))|intro (_:Nat)|refine LdN.o 0 rfl rfl ?_|refine Sto.l 0 rfl rfl rfl ?_|(apply aD<;>intro _<;>try (exfalso;omega)))<;>conv=>whnf)
 .have hn1:n=1:=by have:=hone Aa;omega
  rw[hn1,Nat.gcd_one_right,bHv] at e2;rw[hn1,Nat.gcd_one_right,bHv] at e3;rw[hn1] at e1 ⊢;exact RN.a ⟨_,s',by rw[e1.out]<;>rfl,⟨by rw[e2.out];exact Ak,by rw[e3.out];exact Ab⟩⟩
 all_goals exact RN.a ⟨_,_,by rw[e1.out]<;>rfl,⟨by rw[e2.out];exact Ak,by rw[e3.out];exact Ab⟩⟩

theorem aU4(h:aA)(neg:Bool)(a b:Sl)(d:Nat)(hd:aS h b d)(h0:d≠0)(lb:ln 65536 d<=1099511627776):Fn0 T F.q58 [.agg #[.bool neg,a.val,b.val]] h fun v h'=>h'=h/\v=.bool (dec (d=1)):=by
 have hl:=hd.len;have hn1:1<=ln 65536 d:=bE8 fun e=>h0 ((aT tlb).1 e)
 have hone:ln 65536 d=1->(dg 65536 d).getD 0 0=d:=fun e=>(qV e).1
 have hd1:d=1->ln 65536 d=1:=fun e=>by rw[e];exact jW _ tlb
 refine f0C ok D.q58 rfl ?_;conv=>whnf
 repeat' ((first|(show Idx _ _ _ _ _;(refine Idx.ws hd 0 Aa (by unfold ln at *;omega) (fun ad hv=>?_)))|(show Ld _ _ _ _;first|(refine Ld.of (by first|exact hv _|(rename_i hv;exact hv _)) ?_)|refine Ld.o 0 rfl rfl ?_)|((first|apply oI.z|apply cI.z))|intro (_:Nat)|(apply aD<;>intro _<;>try (exfalso;omega)))<;>conv=>whnf)
 all_goals refine RN.a ⟨rfl,?_⟩
 .have e:=hone Aa;rw[e];by_cases h1:d=1
  .rw[bA h1,Vc.eq_true' Aa]
  .rw[aG h1,Vc.eq_false' Aa]
 .rw[aG (fun e=>by have:=hd1 e;omega)]

theorem aXz(h:aA)(a b:Sl)(q:Rat)(hq:IsQ h a b q)(hs:Sr 1099511627776 q):Fn0 T F.q43 [.agg #[.bool (sg q),a.val,b.val]] h fun v h'=>h'=h/\v=.int .i64 (dS q):=by
 have h1:=hq.num.len;have h3:=hs.num;have hz:=aT tlb (n:=nu q);refine f0C ok D.q43 rfl ?_;conv=>whnf
 repeat ((first|apply oI.z|apply cI.z);conv=>whnf)
 by_cases h0:nu q=0
 .have h4:=hz.2 h0;clear hz
  repeat' ((first|((first|apply oI.z|apply cI.z))|intro (_:Nat)|refine Ld.o 0 rfl rfl ?_|(apply aD<;>intro _<;>try (exfalso;omega)))<;>conv=>whnf)
  exact RN.a ⟨rfl,vi (by unfold dS;rw[if_pos h0])⟩
 .have h4:ln 65536 (nu q)≠0:=fun e=>h0 (hz.1 e)
  clear hz
  repeat' first|((first|((first|apply oI.z|apply cI.z))|intro (_:Nat)|refine Ld.o 0 rfl rfl ?_)<;>conv=>whnf)|(show cnd _ _ _;first|(apply aD<;>intro _<;>first|(exfalso;omega)|conv=>whnf)|(refine dE (fun _=>?_) (fun _=>?_)<;>(conv=>whnf)))
  .exact RN.a ⟨rfl,vi (by unfold dS;rw[if_neg h0,if_pos Ab])⟩
  .exact RN.a ⟨rfl,vi (by unfold dS;rw[if_neg h0,if_neg (by simp_all)])⟩

theorem bBg(h:aA)(a b:Sl)(q:Rat)(hq:IsQ h a b q)(hs:Sr 1099511627776 q):Fn0 T F.q87 [.agg #[.bool (sg q),a.val,b.val]] h fun v h'=>h'=h/\v=.agg #[.bool (sg (-q)),a.val,b.val]:=by
 have h1:=hq.num.len;have h3:=hs.num;have e:=aPz q;have hz:=aT tlb (n:=nu q);refine f0C ok D.q87 rfl ?_;conv=>whnf
 repeat' first|((first|((first|apply oI.z|apply cI.z))|intro (_:Nat)|refine LdN.o 0 rfl rfl ?_|refine Ld.o 1 rfl rfl ?_|refine Sto.l 0 rfl rfl rfl ?_)<;>conv=>whnf)|(show cnd _ _ _;first|(refine aJ ?_)|(refine dE (fun _=>?_) (fun _=>?_)<;>(conv=>whnf)))
 .refine RN.a ⟨rfl,?_⟩;rw[e];simp_all
 .refine RN.a ⟨rfl,?_⟩;have e1:lt 0 (a.l:Int)=decide (nu q≠0):=by
   by_cases h0:nu q=0
   .have:=hz.2 h0;rw[lY Aa];simp[h0]
   .have:ln 65536 (nu q)≠0:=fun e=>h0 (hz.1 e)
    rw[oD Aa];simp[h0]
  rw[e,show sg q=false by assumption]
  show Value.agg #[.bool (lt 0 (a.l:Int)),a.val,b.val]=_
  rw[e1];simp
theorem IsQ.neg{h:aA}{a b:Sl}{q:Rat}(w:IsQ h a b q):IsQ h a b (-q):=⟨by rw[vV];exact w.num,by rw[bHj];exact w.den⟩
theorem Sr.neg{k:Nat}{q:Rat}(s:Sr k q):Sr k (-q):=⟨by rw[vV];exact s.num,by rw[bHj];exact s.den⟩

theorem aKw(h:aA)(a b c d:Sl)(q r:Rat)(hq:IsQ h a b q)(hr:IsQ h c d r)(hs:Sr 1073741824 q)(hs':Sr 1073741824 r):
  Fn0 T F.q17 [.agg #[.bool (sg q),a.val,b.val],.agg #[.bool (sg r),c.val,d.val]] h fun v h'=>∃s t:Sl,v=.agg #[.bool (sg (q*r)),s.val,t.val]/\IsQ h' s t (q*r):=by
 have e:=aKt q r;rw[aIn] at e;have i1:=hq.num;have i2:=hq.den;have i3:=hr.num;have i4:=hr.den;have l1:=hs.num;have l2:=hs.den;have l3:=hs'.num;have l4:=hs'.den;have d1:=q.den_nz;have d2:=r.den_nz;have p1:=cP tlb (nu q) (nu r);have p2:=cP tlb q.den r.den;refine f0C ok D.q17 rfl ?_;conv=>whnf
 repeat' ((first|(show CN _ _ _ _ _ _;first|(refine CN.quiet rfl (aQa _ _ _ _ _ Ag Az Aa) ?_)|(refine CN.f rfl (mC _ _ _ _ _ Ag Ag Aa Aa) (fun v h' hl hr=>?_);obtain⟨s',rfl,hs'⟩:=hr)|(refine CN.f rfl (rX _ _ _ _ _ _ Ag Ab Aa Aa) (fun v h' hl hr=>?_);obtain⟨a',b',rfl,hq'⟩:=hr;have hqn':=hq'.num;have hqd':=hq'.den))|((first|apply oI.z|apply cI.z))|refine⟨fun _=>aH.o (aA.lr _),?_⟩|refine⟨fun _=>aH.o Ab,?_⟩|refine⟨fun hst=>(by cases (show true=false from hst)),?_⟩|intro (_:Nat)|(show LdN _ _ _ _ _;first|refine LdN.o 0 rfl rfl ?_|refine LdN.o 1 rfl rfl ?_|refine LdN.o 2 rfl rfl ?_)|(show Ld _ _ _ _;first|refine Ld.o 1 rfl rfl ?_|refine Ld.o 2 rfl rfl ?_)|refine Sto.l 0 rfl rfl rfl ?_|refine DrN.run Al ?_)<;>conv=>whnf)
 all_goals exact RN.a ⟨_,_,by rw[e]<;>rfl,by rw[e];exact Ab⟩

theorem aYo(h:aA)(a b c d:Sl)(q r:Rat)(hq:IsQ h a b q)(hr:IsQ h c d r)(hs:Sr 1073741824 q)(hs':Sr 1073741824 r):
  Fn0 T F.q18 [.agg #[.bool (sg q),a.val,b.val],.agg #[.bool (sg r),c.val,d.val]] h fun v h'=>∃s t:Sl,v=.agg #[.bool (sg (q / r)),s.val,t.val]/\IsQ h' s t (q / r):=by
 have e:=aYl q r;rw[aIn] at e;have i1:=hq.num;have i2:=hq.den;have i3:=hr.num;have i4:=hr.den;have l1:=hs.num;have l2:=hs.den;have l3:=hs'.num;have l4:=hs'.den;have d1:=q.den_nz;have d2:=r.den_nz;have p1:=cP tlb (nu q) r.den;have p2:=cP tlb q.den (nu r);refine f0C ok D.q18 rfl ?_;conv=>whnf
 repeat' ((first|(show CN _ _ _ _ _ _;first|(refine CN.quiet rfl (aQa _ _ _ _ _ Ag Az Aa) ?_)|(refine CN.f rfl (mC _ _ _ _ _ Ag Ag Aa Aa) (fun v h' hl hr=>?_);obtain⟨s',rfl,hs'⟩:=hr)|(refine CN.f rfl (rX _ _ _ _ _ _ Ag Ab Aa Aa) (fun v h' hl hr=>?_);obtain⟨a',b',rfl,hq'⟩:=hr;have hqn':=hq'.num;have hqd':=hq'.den))|((first|apply oI.z|apply cI.z))|refine⟨fun _=>aH.o (aA.lr _),?_⟩|refine⟨fun _=>aH.o Ab,?_⟩|refine⟨fun hst=>(by cases (show true=false from hst)),?_⟩|intro (_:Nat)|(show LdN _ _ _ _ _;first|refine LdN.o 0 rfl rfl ?_|refine LdN.o 1 rfl rfl ?_|refine LdN.o 2 rfl rfl ?_)|(show Ld _ _ _ _;first|refine Ld.o 1 rfl rfl ?_|refine Ld.o 2 rfl rfl ?_)|refine Sto.l 0 rfl rfl rfl ?_|refine DrN.run Al ?_)<;>conv=>whnf)
 all_goals exact RN.a ⟨_,_,by rw[e]<;>rfl,by rw[e];exact Ab⟩

theorem aIs(h:aA)(a b c d:Sl)(q r:Rat)(hq:IsQ h a b q)(hr:IsQ h c d r)(hs:Sr 1073741824 q)(hs':Sr 1073741824 r):
  Fn0 T F.q16 [.agg #[.bool (sg q),a.val,b.val],.agg #[.bool (sg r),c.val,d.val]] h fun v h'=>∃s t:Sl,v=.agg #[.bool (sg (q+r)),s.val,t.val]/\IsQ h' s t (q+r):=by
 have i1:=hq.num;have i2:=hq.den;have i3:=hr.num;have i4:=hr.den;have l1:=hs.num;have l2:=hs.den;have l3:=hs'.num;have l4:=hs'.den;have d1:=q.den_nz;have d2:=r.den_nz;have p1:=cP tlb (nu q) r.den;have p2:=cP tlb (nu r) q.den;have p3:=cP tlb q.den r.den;have e1:=Hq.mk (yX (q:=q) (r:=r));have e2:=Hq.mk (aDs (q:=q) (r:=r));have e3:=Hq.mk (aIj (q:=q) (r:=r));obtain⟨x,hx⟩:=AB (nu q*r.den);obtain⟨y,hy⟩:=AB (nu r*q.den);obtain⟨z,hz⟩:=AB (q.den*r.den);have p4:=aDh tlb x y;have p5:=dH tlb (Nat.sub_le x y);have p6:=dH tlb (Nat.sub_le y x);rw[<-hx,<-hy,<-hz] at e1 e2 e3;rw[<-hx] at p1;rw[<-hy] at p2;rw[<-hz] at p3;have hcl:=aP6 (m:=x) (n:=y);have hcn:=aKu (m:=x) (n:=y);refine f0C ok D.q16 rfl ?_;conv=>whnf
 repeat' first|((first|(show CN _ _ _ _ _ _;first|(refine CN.quiet rfl (aQa _ _ _ _ _ Ag Az Aa) ?_)|(refine CN.f rfl (mC _ _ _ (nu q) r.den Ak Ab Aa Aa) (fun v h' hl hr=>?_);rw[<-hx] at hr;obtain⟨s',rfl,hs'⟩:=hr)|(refine CN.f rfl (mC _ _ _ (nu r) q.den Ak Ak Aa Aa) (fun v h' hl hr=>?_);rw[<-hy] at hr;obtain⟨s',rfl,hs'⟩:=hr)|(refine CN.f rfl (mC _ _ _ q.den r.den Ak Ak Aa Aa) (fun v h' hl hr=>?_);rw[<-hz] at hr;obtain⟨s',rfl,hs'⟩:=hr)|(refine CN.f rfl (aM3 _ _ _ _ _ Ag Ag Aa Aa) (fun v h' hl hr=>?_);obtain⟨s',rfl,hs'⟩:=hr)|(refine CN.f rfl (aM4 _ _ _ _ _ Ag Ag Aa Aa) (fun v h' hl hr=>?_);obtain⟨s',rfl,hs'⟩:=hr)|(refine CN.quiet rfl (rW _ _ _ _ _ Ag Ag Aa Aa) ?_)|(refine CN.f rfl (rX _ _ _ _ _ _ Ab Ag Aa Aa) (fun v h' hl hr=>?_);obtain⟨a',b',rfl,hq'⟩:=hr;have hqn':=hq'.num;have hqd':=hq'.den))|((first|apply oI.z|apply cI.z))|refine⟨fun _=>aH.o (aA.lr _),?_⟩|refine⟨fun _=>aH.o Ab,?_⟩|refine⟨fun hst=>(by cases (show true=false from hst)),?_⟩|intro (_:Nat)|(show LdN _ _ _ _ _;first|refine LdN.o 0 rfl rfl ?_|refine LdN.o 1 rfl rfl ?_|refine LdN.o 2 rfl rfl ?_)|(show Ld _ _ _ _;first|refine Ld.o 1 rfl rfl ?_|refine Ld.o 2 rfl rfl ?_)|refine Sto.l 0 rfl rfl rfl ?_|refine DrN.run Al ?_)<;>conv=>whnf)|(show cnd _ _ _;first|(apply bI<;>intro _<;>first|(exfalso;omega)|conv=>whnf)|(refine aKi (fun _=>?_) (fun hne=>?_)<;>first|exact absurd rfl hne|(conv=>whnf)))
 .exact RN.a ⟨_,_,by rw[e1.out Ab]<;>rfl,by rw[e1.out Ab];exact Ab⟩
 .exact RN.a ⟨_,_,by rw[e2.out Ab Aa]<;>rfl,by rw[e2.out Ab Aa];exact Ab⟩
 .exact RN.a ⟨_,_,by rw[e3.out Ab Aa]<;>rfl,by rw[e3.out Ab Aa];exact Ab⟩

theorem aF1(neg:Bool)(l m:List Nat):nu (aN neg l m)<=evl 4294967296 l/\(aN neg l m).den<=(if evl 4294967296 m=0 then 1 else evl 4294967296 m):=by
 unfold aN;exact qS neg Ay
theorem nH{l:List Nat}(hl:∀x∈l,x<4294967296):ln 65536 (evl 4294967296 l)<=2*l.length:=by
 have h1:=(aL (b:=4294967296) tlB).2 (iS tlB hl);have:=nG (evl 4294967296 l);omega
theorem aF2{h:aA}{a b:Sl}{neg:Bool}{l m:List Nat}(hv:bJ h a b l m):Sr 2147483649 (aN neg l m):=by
 have h1:=nH hv.ln;have h2:=nH hv.lm;have h3:=hv.sn;have h4:=hv.sm;have h5:=aF1 neg l m;have h6:=jW 65536 tlb;refine⟨bDv (dH tlb h5.1) Aa,bDv (dH tlb h5.2) ?_⟩
 split<;>omega

theorem zD(h:aA)(neg:Bool)(a b:Sl)(l m:List Nat)(hv:bJ h a b l m):
  Fn0 T F.q8 [.agg #[.bool neg,a.val,b.val]] h fun v h'=>∃c d:Sl,v=.agg #[.bool (sg (aN neg l m)),c.val,d.val]/\IsQ h' c d (aN neg l m):=by
 have i1:=hv.num;have i2:=hv.den;have l1:=hv.ln;have l2:=hv.lm;have l3:=hv.sn;have l4:=hv.sm;have b1:=nH l1;have b2:=nH l2;have b3:=jW 65536 tlb;obtain⟨x,hx⟩:=AB (evl 4294967296 l);obtain⟨y,hy⟩:=AB (evl 4294967296 m);obtain⟨q,hq⟩:=AB (aN neg l m);have hq1:y=0->mkQ neg x 1=q:=fun h0=>by rw[hq,aN,<-hx,<-hy,if_pos h0]
 have hq2:y≠0->mkQ neg x y=q:=fun h0=>by rw[hq,aN,<-hx,<-hy,if_neg h0]
 rw[<-hx] at b1;rw[<-hy] at b2;have hz:=aT tlb (n:=y);have hz1:ln 65536 y=0->y=0:=hz.1;have hz2:ln 65536 y≠0->y≠0:=fun h1 h0=>h1 (hz.2 h0)
 clear hz;rw[<-hq];replace hq:=Hq.mk hq;refine f0C ok D.q8 rfl ?_;conv=>whnf
 repeat' ((first|(apply aQ.go)|(show CN _ _ _ _ _ _;first|(refine CN.f rfl (qT _ _ l Ag l1 Aa) (fun v h' hl hr=>?_);rw[<-hx] at hr;obtain⟨s',rfl,hs'⟩:=hr;have hxl:=hs'.len)|(refine CN.f rfl (qT _ _ m Ab l2 Aa) (fun v h' hl hr=>?_);rw[<-hy] at hr;obtain⟨t',rfl,ht'⟩:=hr;have hyl:=ht'.len)|(refine CN.f rfl (kU _ 1 Aa) (fun v h' hl hr=>?_);obtain⟨s',rfl,hs'⟩:=hr)|(refine CN.f rfl (rX _ _ _ _ x 1 Ab Ak Aa Aa) (fun v h' hl hr=>?_);rw[hq1 (hz1 Aa)] at hr;obtain⟨a',b',rfl,hq'⟩:=hr)|(refine CN.f rfl (rX _ _ _ _ x y Ab Ak Aa Aa) (fun v h' hl hr=>?_);rw[hq2 (hz2 Aa)] at hr;obtain⟨a',b',rfl,hq'⟩:=hr))|((first|apply oI.z|apply cI.z))|refine⟨fun _=>aH.o Ab,?_⟩|refine⟨fun hst=>(by cases (show true=false from hst)),?_⟩|intro (_:Nat)|refine LdN.o 0 rfl rfl ?_|refine Ld.o 1 rfl rfl ?_|refine Sto.l 0 rfl rfl rfl ?_|refine DrN.run Al ?_|(apply aD<;>intro _<;>try (exfalso;omega)))<;>conv=>whnf)
 all_goals exact RN.a ⟨_,_,rfl,Ab⟩

theorem zE(q:Rat):fits q↔ln 65536 (nu q)<=128/\ln 65536 q.den<=128:=by
 have h1:=nG (nu q);have h2:=nG q.den;unfold fits;omega
theorem aYp(h:aA)(a b:Sl)(q:Rat)(hq:IsQ h a b q)(hs:Sr 4294967296 q):Fn0 T F.q165 [.agg #[.bool (sg q),a.val,b.val]] h fun v h'=>h'=h/\v=.bool (!dec (fits q)):=by
 have h1:=hq.num.len;have h2:=hq.den.len;have h3:=hs.num;have h4:=hs.den;have hf:=zE q;refine f0C ok D.q165 rfl ?_;conv=>whnf
 repeat ((first|apply oI.z|apply cI.z);conv=>whnf)
 replace hf:=Hq.mk hf
 repeat' ((first|((first|apply oI.z|apply cI.z))|intro (_:Nat)|refine Ld.o 0 rfl rfl ?_|(apply aB<;>intro _<;>try (exfalso;omega)))<;>conv=>whnf)
 all_goals refine RN.a ⟨rfl,?_⟩
 .rw[aG (fun hh=>by have:=(hf.out.1 hh).1;omega)]<;>rfl
 .by_cases hh:ln 65536 q.den<=128
  .rw[bA (hf.out.2 ⟨Aa,hh⟩),lY Aa]<;>rfl
  .rw[aG (fun x=>hh (hf.out.1 x).2),oD Aa]<;>rfl

theorem aYq(h:aA)(a b:Sl)(q:Rat)(hq:IsQ h a b q)(hs:Sr 4294967296 q):Fn0 T F.q26 [.agg #[.bool (sg q),a.val,b.val]] h fun v h'=>∃c d:Sl,v=.agg #[.bool (sg q),c.val,d.val]/\fP h' c d q:=by
 have i1:=hq.num;have i2:=hq.den;have h1:=hq.num.len;have h2:=hq.den.len;have h3:=hs.num;have h4:=hs.den;have d1:=q.den_nz;have hsg:sg q=true->0<ln 65536 (nu q):=fun hh=>by
  refine bE8 fun e=>?_
  have h0:=gU.1 ((aT tlb).1 e);rw[h0,tX] at hh;cases hh
 refine f0C ok D.q26 rfl ?_;conv=>whnf
 repeat' first|((first|(apply aQ.go)|(show CN _ _ _ _ _ _;first|(refine CN.quiet rfl (aU4 _ _ _ _ q.den Ak Ab Aa) ?_)|(refine CN.f rfl (aKv _ _ (nu q) Ak Aa) (fun v h' hl hr=>?_);obtain⟨s',rfl,hs'⟩:=hr)|(refine CN.f rfl (aKv _ _ q.den Ak Aa) (fun v h' hl hr=>?_);obtain⟨s',rfl,hs'⟩:=hr))|((first|apply oI.z|apply cI.z))|refine⟨fun _=>aH.o Ab,?_⟩|refine⟨fun _=>aH.cons _,?_⟩|refine⟨fun hst=>(by cases (show true=false from hst)),?_⟩|intro (_:Nat)|(show LdN _ _ _ _ _;first|refine LdN.o 0 rfl rfl ?_|refine LdN.o 1 rfl rfl ?_|refine LdN.o 2 rfl rfl ?_)|(show Ld _ _ _ _;first|refine Ld.o 1 rfl rfl ?_|refine Ld.o 2 rfl rfl ?_)|(show Sto _ _ _ _;first|refine Sto.l 0 rfl rfl rfl ?_|refine Sto.l 1 rfl rfl rfl ?_)|refine DrN.run Al ?_)<;>conv=>whnf)|(show cnd _ _ _;first|(refine aJ ?_)|(apply aW<;>intro _<;>first|(exfalso;omega)|conv=>whnf)|(refine dE (fun _=>?_) (fun _=>?_)<;>(conv=>whnf)))|(refine sS.mk ?_ ?_<;>(conv=>whnf))
 all_goals first
  | exact RN.a ⟨_,⟨none,0,0⟩,by rw[show sg q=true by assumption,oD (by have:=hsg Ab;omega)]<;>rfl,⟨Ab,by rw[if_pos Ab];exact aI.nil rfl⟩⟩
  | exact RN.a ⟨_,_,by rw[show sg q=true by assumption,oD (by have:=hsg Ab;omega)]<;>rfl,⟨Ah,by rw[if_neg Ab];exact Ab⟩⟩
  | exact RN.a ⟨_,⟨none,0,0⟩,by rw[show sg q=false by assumption]<;>rfl,⟨Ab,by rw[if_pos Ab];exact aI.nil rfl⟩⟩
  | exact RN.a ⟨_,_,by rw[show sg q=false by assumption]<;>rfl,⟨Ah,by rw[if_neg Ab];exact Ab⟩⟩

theorem bBh(neg:Bool)(l m:List Nat):okR neg l m↔ln 65536 (evl 4294967296 l)<=512/\ln 65536 (evl 4294967296 m)<=512/\fits (aN neg l m):=by
 have h1:=nG (evl 4294967296 l);have h2:=nG (evl 4294967296 m);unfold okR;constructor<;>intro ⟨a,b,c⟩<;>exact⟨Aa,Aa,c⟩
theorem aQb(h:aA)(neg:Bool)(a b:Sl)(l m:List Nat)(hv:bJ h a b l m):Fn0 T F.q99 [.agg #[.bool neg,a.val,b.val]] h fun v _=>v=.bool (!dec (okR neg l m)):=by
 have i1:=hv.num;have i2:=hv.den;have l1:=hv.ln;have l2:=hv.lm;have l3:=hv.sn;have l4:=hv.sm;have b1:=nH l1;have b2:=nH l2;have hsr:=(aF2 (neg:=neg) hv).mono (show 2147483649<=4294967296 by decide)
 obtain⟨x,hx⟩:=AB (evl 4294967296 l);obtain⟨y,hy⟩:=AB (evl 4294967296 m);have hok:=bBh neg l m;rw[<-hx,<-hy] at hok;rw[<-hx] at b1;rw[<-hy] at b2;replace hok:=Hq.mk hok;refine f0C ok D.q99 rfl ?_;conv=>whnf
 repeat' ((first|(show CN _ _ _ _ _ _;first|(refine CN.f rfl (qT _ _ l Ag l1 Aa) (fun v h' hl hr=>?_);rw[<-hx] at hr;obtain⟨s',rfl,hs'⟩:=hr;have hxl:=hs'.len)|(refine CN.f rfl (qT _ _ m Ag l2 Aa) (fun v h' hl hr=>?_);rw[<-hy] at hr;obtain⟨t',rfl,ht'⟩:=hr;have hyl:=ht'.len)|(refine CN.f rfl (zD _ _ _ _ l m Ap) (fun v h' hl hr=>?_);obtain⟨a',b',rfl,hq'⟩:=hr;have hqn':=hq'.num;have hqd':=hq'.den)|(refine CN.quiet rfl (aYp _ _ _ _ Ab Az) ?_))|((first|apply oI.z|apply cI.z))|intro (_:Nat)|refine LdN.o 0 rfl rfl ?_|refine Ld.o 0 rfl rfl ?_|(apply aB<;>intro _<;>try (exfalso;omega)))<;>conv=>whnf)
 .exact RN.a (by rw[aG (fun hh=>by have:=(hok.out.1 hh).1;omega)]<;>rfl)
 .exact RN.a (by rw[aG (fun hh=>by have:=(hok.out.1 hh).2.1;omega)]<;>rfl)
 .exact RN.a (by rw[cY (p:=okR neg l m) (q:=fits (aN neg l m)) ⟨fun hh=>(hok.out.1 hh).2.2,fun hh=>hok.out.2 ⟨Aa,Aa,hh⟩⟩]<;>rfl)


theorem aIt(h:aA)(n:Int)(h1:0<=n)(h2:n<=9223372036854775807):
  Fn0 T F.q13 [.int .i64 n] h fun v h'=>∃s t:Sl,v=.agg #[.bool (sg (n:Rat)),s.val,t.val]/\IsQ h' s t (n:Rat):=by
 obtain⟨m,hm⟩:=AB n.natAbs;have e:(n:Rat)=mkQ false m 1:=by
  have:=tW (n:Rat);rw[aP2,zA,uA,decide_eq_false Aa,<-hm] at this;exact this.symm
 have hnm:n=m:=Aa;have p1:ln 65536 m<=4:=(aL tlb).2 Aa;have p2:=jW 65536 tlb;rw[e];refine f0C ok D.q13 rfl ?_;conv=>whnf
 repeat' ((first|(show WN _ _ _;refine WN.u64v m Aa ?_)|((first|apply oI.z|apply cI.z))|intro (_:Nat)|(apply aB<;>intro _<;>try (exfalso;omega)))<;>conv=>whnf)
 refine CN.f rfl (kU _ m Aa) (fun v h' hl hr=>?_)
 obtain⟨s',rfl,hs'⟩:=hr;conv=>whnf
 repeat ((first|apply oI.z|apply cI.z);conv=>whnf)
 refine CN.f rfl (kU _ 1 Aa) (fun v h' hl hr=>?_)
 obtain⟨t',rfl,ht'⟩:=hr;conv=>whnf
 repeat' ((first|(show CN _ _ _ _ _ _;(refine CN.f rfl (rX _ _ _ _ m 1 Ak Ab Aa Aa) (fun v h' hl hr=>?_);obtain⟨a',b',rfl,hq'⟩:=hr))|((first|apply oI.z|apply cI.z))|refine LdN.o 0 rfl rfl ?_|refine Sto.l 0 rfl rfl rfl ?_)<;>conv=>whnf)
 exact RN.a ⟨_,_,rfl,Ab⟩

theorem aU5(h:aA)(a b c d:Sl)(q r:Rat)(hq:IsQ h a b q)(hr:IsQ h c d r)(hs:Sr 1073741824 q)(hs':Sr 1073741824 r):
  Fn0 T F.q44 [.agg #[.bool (sg q),a.val,b.val],.agg #[.bool (sg r),c.val,d.val]] h fun v h'=>∃s t:Sl,v=.agg #[.bool (sg (q-r)),s.val,t.val]/\IsQ h' s t (q-r):=by
 have y2:Sr 1073741824 (-r):=Sr.neg hs';have y3:Sr 1099511627776 r:=hs'.mono Ad;have h3:=IsQ.neg hr;have e:q-r=q+-r:=bFq q r;refine f0C ok D.q44 rfl ?_;conv=>whnf
 repeat' ((first|(show CN _ _ _ _ _ _;first|refine CN.quiet rfl (bBg _ _ _ _ Ab y3) ?_|(refine CN.f rfl (aIs _ _ _ _ _ _ _ Ab Ab hs y2) (fun v h' hl hr=>?_);obtain⟨e1,e2,rfl,hq'⟩:=hr))|((first|apply oI.z|apply cI.z))|refine⟨fun _=>aH.o (aA.lr _),?_⟩|refine⟨fun _=>aH.o Ab,?_⟩|refine⟨fun hst=>(by cases (show true=false from hst)),?_⟩|intro (_:Nat)|(show LdN _ _ _ _ _;first|refine LdN.o 0 rfl rfl ?_|refine LdN.o 1 rfl rfl ?_|refine LdN.o 2 rfl rfl ?_)|refine Sto.l 0 rfl rfl rfl ?_|refine DrN.run Al ?_)<;>conv=>whnf)
 exact RN.a ⟨_,_,by rw[e]<;>rfl,by rw[e];exact Ab⟩

theorem tB{k l:Nat}{q r:Rat}(a:Sr k q)(b:Sr l r):Sr (k+l+1) (q+r):=by
 have h:=aP3 q r;have p1:=cP tlb (nu q) r.den;have p2:=cP tlb (nu r) q.den;have p3:=cP tlb q.den r.den;have p4:=aDh tlb (nu q*r.den) (nu r*q.den);have a1:=a.num;have a2:=a.den;have b1:=b.num;have b2:=b.den;exact⟨bDv (dH tlb h.1) Aa,bDv (dH tlb h.2) Aa⟩
end Go.Proofs.Y
/- Contracts of the statements' own helpers: when two results are the same. -/
namespace Go.Dig
def dn(q:Rat):Nat:=if q.den=1 then 0 else q.den
end Go.Dig
namespace Go.Proofs.Y
open Go Go.Vc Go.Dig

theorem aX0(q:Rat):dn q<=q.den:=by unfold dn;split<;>omega
theorem mD{h:aA}{a b:Sl}{q:Rat}(w:fP h a b q)(hs:Sz 1073741824 q):bJ h a b (dg 4294967296 (nu q)) (dg 4294967296 (dn q)):=
 ⟨w.num,w.den,kN tlB _,kN tlB _,by have:=hs.num;unfold ln at this;exact this,by
   have h1:=dA (aX0 q);have h2:=hs.den;unfold ln at h1 h2;omega⟩
theorem jF(q:Rat):aN (sg q) (dg 4294967296 (nu q)) (dg 4294967296 (dn q))=q:=by
 unfold aN;rw[bV tlB,bV tlB];have hd:=q.den_nz;have:(if dn q=0 then 1 else dn q)=q.den:=by
  unfold dn;by_cases h1:q.den=1
  .rw[if_pos h1,if_pos rfl,h1]
  .rw[if_neg h1,if_neg hd]
 rw[this,tW]
theorem aIu{q:Rat}(hf:fits q):okR (sg q) (dg 4294967296 (nu q)) (dg 4294967296 (dn q)):=by
 unfold okR;rw[jF,bV tlB,bV tlB];have h1:=dA (aX0 q);have h2:=hf.1;have h3:=hf.2;exact⟨Aa,Aa,hf⟩



theorem aU6(k:Nat):Sz (k+1) 0:=⟨by rw[xP,nD];omega,by rw[show (0:Rat).den=1 from rfl,jW _ tlB];omega⟩
end Go.Proofs.Y