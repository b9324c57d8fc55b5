/- Contracts of package word's functions on rational numbers, first part. -/
import Derived.Test.YtdccpmlhflpeaaaGreatDoorRep3
set_option linter.all false
set_option maxHeartbeats 2000000
set_option maxRecDepth 20000
namespace Go.Proofs.Y
open Go Go.Vc Go.Dig

theorem jY(h:aA)(tb:Tb h)(neg:Bool)(a b:Sl)(m n:Nat)(ha:aI h a m)(hb:aI h b n)(la:ln 4294967296 m<=8589934592)(lb:ln 4294967296 n<=8589934592)(h0:n≠0):
  Fn0 T F.q141 [.bool neg,a.val,b.val] h fun v h'=>∃a' b':Sl,v=.agg #[.bool (sg (mkQ neg m n)),a'.val,b'.val]/\cS h' a' b' (mkQ neg m n):=by
 have e1:=aIi neg (m:=m) h0;have e2:=aDq neg (m:=m) h0;have e3:=xO neg (m:=m) h0;refine f0C ok D.q141 rfl ?_;conv=>whnf
 repeat' ((first|intro (bo:Nat)|((first|apply oI.z|apply cI.z))|(show CN _ _ _ _ _ _;first|refine CN.quiet rfl (jE _ _ _ Ab Aa) ?_|(refine CN.f rfl (gG _ 1 Aa) (fun v h' hl hr=>?_);obtain⟨s',rfl,hs'⟩:=hr))|refine LdN.o 0 rfl rfl ?_|refine Sto.l 0 rfl rfl rfl ?_|(apply aW<;>intro _<;>try (exfalso;omega)))<;>conv=>whnf)
 .subst_vars
  rw[yW,tX];exact RN.a ⟨⟨none,0,0⟩,_,rfl,by rw[xP];exact aI.nil rfl,‹_›⟩
 have hm:m≠0:=Ab;have t1:=yY m;have t2:=yY n;refine aQ.cut (fun ρ h2 L=>∃k:Nat,k=min (tw m) (tw n)/\h.le h2/\L=[(bo,.cells #[.bool false,.slice none 0 0,.slice none 0 0] Ty.word_Frac (0,0))]/\∃a' b':Sl,rd ρ 1=a'.val/\rd ρ 2=b'.val/\aI h2 a' (m / 2^k)/\aI h2 b' (n / 2^k)) ?_ ?_
 .obtain⟨k,hk⟩:=AB (min (tw m) (tw n));have hmm:mm false (tw m:Int) (tw n)=(k:Int):=by rw[aIm,hk]
  have hk1:k<=tw m:=Aa;replace hk:=Hq.mk hk;conv=>whnf
  repeat' ((first|(show CN _ _ _ _ _ _;refine CN.quiet rfl (aKo _ Ab _ _ Ab Aa) ?_)|((first|apply oI.z|apply cI.z))|(apply aB<;>intro _<;>try (exfalso;omega)))<;>conv=>whnf)
  all_goals rw[hmm] at *
  all_goals (repeat' ((first|(show CN _ _ _ _ _ _;(refine CN.f rfl (aPt _ _ _ _ Ag Aa Aa) (fun v h' hl hr=>?_);obtain⟨s',rfl,hs'⟩:=hr))|((first|apply oI.z|apply cI.z)))<;>conv=>whnf))
  .exact⟨rfl,k,hk.out,Ac,rfl,_,_,rfl,rfl,Ah,Ab⟩
  .refine⟨rfl,k,hk.out,Af,rfl,a,b,rfl,rfl,?_,?_⟩<;>rw[show k=0 by omega,bH1,bHv]<;>assumption
 conv=>whnf
 repeat intro _
 rename_i h2 L2 hJ;obtain⟨k,hk,hle,rfl,a',b',s1,s2,hs1,hs2⟩:=hJ;conv at s1=>lhs;whnf
 subst s1;conv at s2=>lhs;whnf
 subst s2;have lm1:=aIk m (2^k);have ln1:=aIk n (2^k);obtain⟨p1,p2,p3,p4,p5,p6⟩:=tY (k:=k) hm h0 Aa Aa;have hg:=aUw hm h0 hk;rw[p5] at e2;rw[p6] at e3;clear p1 p2 p5 p6 hk t1 t2 ha hb
 generalize m / 2^k=m1 at hs1 hs2 lm1 ln1 p3 p4 hg e2 e3
 generalize n / 2^k=n1 at hs1 hs2 lm1 ln1 p3 p4 hg e2 e3
 have b1:=aFw n1;have t1:=yY n1;have lg:=aYn m1 n1 p4;have g0:Nat.gcd m1 n1≠0:=by have:=bHk m1 (bE8 p4);omega
 replace tb:=tb.mono hle;rw[show (neg && decide (m≠0))=neg by simp[hm]] at e1
 replace hg:=Hq.mk hg;replace e1:=Hq.mk e1;replace e2:=Hq.mk e2;replace e3:=Hq.mk e3;conv=>whnf
 repeat' first|((first|(apply aQ.go)|(show CN _ _ _ _ _ _;first|refine CN.quiet rfl (aKo _ Ab _ _ Ab Aa) ?_|refine CN.quiet rfl (aUq _ _ _ Ab Aa) ?_|refine CN.quiet rfl (aIf _ _ _ Ab Aa) ?_|(refine CN.f rfl (aYk _ _ _ _ _ Ab Ab Aa Aa) (fun v h' hl hr=>?_);obtain⟨s',rfl,hs'⟩:=hr)|(refine CN.f rfl (aPy _ _ _ _ _ Ag Ah Aa Aa g0) (fun v h' hl hr=>?_);obtain⟨q',r',rfl,hq',hr'⟩:=hr))|((first|apply oI.z|apply cI.z))|refine WN.i64 Aa Aa ?_|refine LdN.o 0 rfl rfl ?_|refine Sto.l 0 rfl rfl rfl ?_)<;>conv=>whnf)|(show cnd _ _ _;first|(apply aD<;>intro _<;>first|(exfalso;omega)|conv=>whnf)|(refine aJ ?_)|(apply aW<;>intro _<;>first|(exfalso;omega)|conv=>whnf))
 .have hg1:=hg.out Aa;rw[hg1,bHv] at e2 e3;exact RN.a ⟨a',b',by rw[e1.out]<;>rfl,⟨by rw[e2.out];exact hs1,by rw[e3.out];exact hs2⟩⟩
 .have hg1:Nat.gcd m1 n1=1:=Ab;rw[hg1,bHv] at e2 e3;exact RN.a ⟨a',b',by rw[e1.out]<;>rfl,⟨by rw[e2.out];exact Ah,by rw[e3.out];exact Ah⟩⟩
 .exact RN.a ⟨_,_,by rw[e1.out]<;>rfl,⟨by rw[e2.out];exact Ah,by rw[e3.out];exact Ab⟩⟩

def fits(q:Rat):Prop:=ln 4294967296 (nu q)<=64/\ln 4294967296 q.den<=64
instance (q:Rat):Decidable (fits q):=by unfold fits;exact inferInstance

theorem aDt(h:aA)(a b:Sl)(q:Rat)(hq:cS h a b q)(hs:Sz 1099511627776 q):Fn0 T F.q84 [.agg #[.bool (sg q),a.val,b.val]] h fun v h'=>h'=h/\v=.bool (dec (fits q)):=by
 have h1:=hq.num.len;have h2:=hq.den.len;have h3:=hs.num;have h4:=hs.den;refine f0C ok D.q84 rfl ?_;conv=>whnf
 repeat' ((first|((first|apply oI.z|apply cI.z))|intro (_:Nat)|refine Ld.o 0 rfl rfl ?_|(apply bI<;>intro _<;>try (exfalso;omega)))<;>conv=>whnf)
 .refine RN.a ⟨rfl,?_⟩;by_cases hh:ln 4294967296 q.den<=64
  .rw[bA ⟨Aa,hh⟩,aPk Aa]
  .rw[aG (fun x=>hh x.2),aMu Aa]
 .exact RN.a ⟨rfl,by rw[aG (fun x=>by have:=x.1;omega)]⟩

theorem kS(h:aA)(a b:Sl)(q:Rat)(hq:cS h a b q)(hs:Sz 1099511627776 q):Fn0 T F.q156 [.agg #[.bool (sg q),a.val,b.val]] h fun v h'=>h'=h/\v=.agg #[.bool (sg (-q)),a.val,b.val]:=by
 have h1:=hq.num;have h3:=hs.num;have e:=aPz q;refine f0C ok D.q156 rfl ?_;conv=>whnf
 repeat' first|((first|(show CN _ _ _ _ _ _;refine CN.quiet rfl (jE _ _ _ Ab Aa) ?_)|((first|apply oI.z|apply cI.z))|intro (_:Nat)|(show LdN _ _ _ _ _;first|refine LdN.o 0 rfl rfl ?_|refine LdN.o 1 rfl rfl ?_)|refine Ld.o 1 rfl rfl ?_|(show Sto _ _ _ _;first|refine Sto.l 0 rfl rfl rfl ?_|refine Sto.l 1 rfl rfl rfl ?_))<;>conv=>whnf)|(show cnd _ _ _;first|(refine aJ ?_)|(refine dE (fun _=>?_) (fun _=>?_)<;>(conv=>whnf)))
 .refine RN.a ⟨rfl,?_⟩;rw[e];simp_all [jX]
 .refine RN.a ⟨rfl,?_⟩;rw[e];by_cases hz:nu q=0<;>simp_all [jX]
theorem cS.neg{h:aA}{a b:Sl}{q:Rat}(w:cS h a b q):cS h a b (-q):=⟨by rw[vV];exact w.num,by rw[bHj];exact w.den⟩

theorem zB(h:aA)(a b:Sl)(q:Rat)(hq:cS h a b q)(h0:nu q≠0):Fn0 T F.q157 [.agg #[.bool (sg q),a.val,b.val]] h fun v h'=>h'=h/\v=.agg #[.bool (sg q⁻¹),b.val,a.val]:=by
 have e:=aP0 q;refine f0C ok D.q157 rfl ?_;conv=>whnf
 repeat' ((first|((first|apply oI.z|apply cI.z))|intro (_:Nat)|refine LdN.o 0 rfl rfl ?_|refine Ld.o 1 rfl rfl ?_|refine Sto.l 0 rfl rfl rfl ?_)<;>conv=>whnf)
 exact RN.a ⟨rfl,by rw[e]<;>rfl⟩
theorem cS.inv{h:aA}{a b:Sl}{q:Rat}(w:cS h a b q)(h0:nu q≠0):cS h b a q⁻¹:=⟨by rw[vW q h0];exact w.den,by rw[den_inv q h0];exact w.num⟩

theorem uB(h:aA)(a b:Sl)(q:Rat)(hq:cS h a b q)(hs:Sz 1099511627776 q):Fn0 T F.q107 [.agg #[.bool (sg q),a.val,b.val]] h fun v h'=>h'=h/\v=.int .i64 (dS q):=by
 have h1:=hq.num;have h3:=hs.num;refine f0C ok D.q107 rfl ?_;conv=>whnf
 repeat' first|((first|(show CN _ _ _ _ _ _;refine CN.quiet rfl (jE _ _ _ Ab Aa) ?_)|((first|apply oI.z|apply cI.z))|intro (_:Nat)|refine Ld.o 0 rfl rfl ?_)<;>conv=>whnf)|(show cnd _ _ _;first|(apply aW<;>intro _<;>first|(exfalso;omega)|conv=>whnf)|(refine dE (fun _=>?_) (fun _=>?_)<;>(conv=>whnf)))
 all_goals refine RN.a ⟨rfl,vi ?_⟩
 .unfold dS;rw[if_pos Ab]
 .unfold dS;rw[if_neg Ab,if_pos Ab]
 .unfold dS;rw[if_neg Ab,if_neg (by simp_all)]

theorem aIn(a b:Bool):(a != b)=!beq a b:=by unfold beq;rfl
theorem xQ(h:aA)(tb:Tb h)(a b c d:Sl)(q r:Rat)(hq:cS h a b q)(hr:cS h c d r)(hs:Sz 1073741824 q)(hs':Sz 1073741824 r):
  Fn0 T F.q176 [.agg #[.bool (sg q),a.val,b.val],.agg #[.bool (sg r),c.val,d.val]] h fun v h'=>∃s t:Sl,v=.agg #[.bool (sg (q*r)),s.val,t.val]/\cS h' s t (q*r):=by
 have e:=aKt q r;rw[aIn] at e;have i1:=hq.num;have i2:=hq.den;have i3:=hr.num;have i4:=hr.den;have l1:=hs.num;have l2:=hs.den;have l3:=hs'.num;have l4:=hs'.den;have p1:=cP tlB (nu q) (nu r);have p2:=cP tlB q.den r.den;have hd:q.den*r.den≠0:=bHn q.den_nz r.den_nz;refine f0C ok D.q176 rfl ?_;conv=>whnf
 repeat' ((first|(show CN _ _ _ _ _ _;first|(refine CN.f rfl (sZ _ _ _ _ _ Ag Ag Aa Aa) (fun v h' hl hr=>?_);obtain⟨s',rfl,hs'⟩:=hr)|(refine CN.f rfl (jY _ Ae _ _ _ _ _ Ag Ab Aa Aa Az) (fun v h' hl hr=>?_);obtain⟨a',b',rfl,hq'⟩:=hr;have hqn':=hq'.num;have hqd':=hq'.den))|((first|apply oI.z|apply cI.z))|refine⟨fun _=>aH.o Ab,?_⟩|refine⟨fun hst=>(by cases (show true=false from hst)),?_⟩|intro (_:Nat)|refine LdN.o 0 rfl rfl ?_|(show Ld _ _ _ _;first|refine Ld.o 1 rfl rfl ?_|refine Ld.o 2 rfl rfl ?_)|refine Sto.l 0 rfl rfl rfl ?_|refine DrN.run Al ?_)<;>conv=>whnf)
 all_goals exact RN.a ⟨_,_,by rw[e]<;>rfl,by rw[e];exact Ab⟩

theorem aP6{m n:Nat}(h:0<=iT m n):n<=m:=by
 rcases bEp m n with h'|h'
 .rw[xM h'] at h;omega
 .exact h'
theorem aKu{m n:Nat}(h:iT m n<0):m<=n:=by
 rcases bEp m n with h'|h'
 .omega
 .have:=(xN h').1;omega
theorem uC(h:aA)(tb:Tb h)(a b c d:Sl)(q r:Rat)(hq:cS h a b q)(hr:cS h c d r)(hs:Sz 1073741824 q)(hs':Sz 1073741824 r):
  Fn0 T F.q174 [.agg #[.bool (sg q),a.val,b.val],.agg #[.bool (sg r),c.val,d.val]] h fun v h'=>∃s t:Sl,v=.agg #[.bool (sg (q+r)),s.val,t.val]/\cS h' s t (q+r):=by
 have i1:=hq.num;have i2:=hq.den;have i3:=hr.num;have i4:=hr.den;have l1:=hs.num;have l2:=hs.den;have l3:=hs'.num;have l4:=hs'.den;have p1:=cP tlB (nu q) r.den;have p2:=cP tlB (nu r) q.den;have p3:=cP tlB q.den r.den;have hd:q.den*r.den≠0:=bHn q.den_nz r.den_nz;have e1:=Hq.mk (yX (q:=q) (r:=r));have e2:=Hq.mk (aDs (q:=q) (r:=r));have e3:=Hq.mk (aIj (q:=q) (r:=r));obtain⟨x,hx⟩:=AB (nu q*r.den);obtain⟨y,hy⟩:=AB (nu r*q.den);obtain⟨z,hz⟩:=AB (q.den*r.den);have p4:=aDh tlB x y;have p5:=dA (Nat.sub_le x y);have p6:=dA (Nat.sub_le y x);rw[<-hx,<-hy,<-hz] at e1 e2 e3;rw[<-hx] at p1;rw[<-hy] at p2;rw[<-hz] at p3 hd;have hcl:=aP6 (m:=x) (n:=y);have hcn:=aKu (m:=x) (n:=y);refine f0C ok D.q174 rfl ?_;conv=>whnf
 repeat' first|((first|(show CN _ _ _ _ _ _;first|(refine CN.f rfl (sZ _ _ _ (nu q) r.den Ah Ab Aa Aa) (fun v h' hl hr=>?_);rw[<-hx] at hr;obtain⟨s',rfl,hs'⟩:=hr)|(refine CN.f rfl (sZ _ _ _ (nu r) q.den Ah Ah Aa Aa) (fun v h' hl hr=>?_);rw[<-hy] at hr;obtain⟨s',rfl,hs'⟩:=hr)|(refine CN.f rfl (sZ _ _ _ q.den r.den Ah Ah Aa Aa) (fun v h' hl hr=>?_);rw[<-hz] at hr;obtain⟨s',rfl,hs'⟩:=hr)|(refine CN.f rfl (aPq _ _ _ _ _ Ag Ag Aa Aa) (fun v h' hl hr=>?_);obtain⟨s',rfl,hs'⟩:=hr)|(refine CN.f rfl (aYf _ _ _ _ _ Ag Ag Aa Aa) (fun v h' hl hr=>?_);obtain⟨s',rfl,hs'⟩:=hr)|(refine CN.quiet rfl (aDl _ _ _ _ _ Ag Ag Aa Aa) ?_)|(refine CN.f rfl (jY _ Ae _ _ _ _ _ Ab Ag Aa Aa Az) (fun v h' hl hr=>?_);obtain⟨a',b',rfl,hq'⟩:=hr;have hqn':=hq'.num;have hqd':=hq'.den))|((first|apply oI.z|apply cI.z))|refine⟨fun _=>aH.o Ab,?_⟩|refine⟨fun hst=>(by cases (show true=false from hst)),?_⟩|intro (_:Nat)|refine LdN.o 0 rfl rfl ?_|(show Ld _ _ _ _;first|refine Ld.o 1 rfl rfl ?_|refine Ld.o 2 rfl rfl ?_)|refine Sto.l 0 rfl rfl rfl ?_|refine DrN.run Al ?_)<;>conv=>whnf)|(show cnd _ _ _;first|(apply bI<;>intro _<;>first|(exfalso;omega)|conv=>whnf)|(refine aKi (fun _=>?_) (fun hne=>?_)<;>first|exact absurd rfl hne|(conv=>whnf)))
 .exact RN.a ⟨_,_,by rw[e1.out Ab]<;>rfl,by rw[e1.out Ab];exact Ab⟩
 .exact RN.a ⟨_,_,by rw[e2.out Ab Aa]<;>rfl,by rw[e2.out Ab Aa];exact Ab⟩
 .exact RN.a ⟨_,_,by rw[e3.out Ab Aa]<;>rfl,by rw[e3.out Ab Aa];exact Ab⟩

theorem aUy(h:aA)(a b c d:Sl)(q r:Rat)(hq:cS h a b q)(hr:cS h c d r)(hs:Sz 1073741824 q)(hs':Sz 1073741824 r):
  Fn0 T F.q177 [.agg #[.bool (sg q),a.val,b.val],.agg #[.bool (sg r),c.val,d.val]] h fun v _=>v=.int .i64 (aBc q r):=by
 have i1:=hq.num;have i2:=hq.den;have i3:=hr.num;have i4:=hr.den;have l1:=hs.num;have l2:=hs.den;have l3:=hs'.num;have l4:=hs'.den;have z1:Sz 1099511627776 q:=hs.mono Aa;have z2:Sz 1099511627776 r:=hs'.mono Aa;have p1:=cP tlB (nu q) r.den;have p2:=cP tlB (nu r) q.den;have e1:=Hq.mk (aIl (q:=q) (r:=r));have e2:=Hq.mk (aM1 (q:=q) (r:=r));have bc:-1<=iT (nu q*r.den) (nu r*q.den)/\iT (nu q*r.den) (nu r*q.den)<=1:=by unfold iT;split<;>(try split)<;>omega
 refine f0C ok D.q177 rfl ?_;conv=>whnf
 repeat' first|((first|(show CN _ _ _ _ _ _;first|refine CN.quiet rfl (uB _ _ _ _ Ab Ab) ?_|(refine CN.f rfl (sZ _ _ _ _ _ Ag Ag Aa Aa) (fun v h' hl hr=>?_);obtain⟨s',rfl,hs'⟩:=hr)|(refine CN.quiet rfl (aDl _ _ _ _ _ Ag Ab Aa Aa) ?_))|((first|apply oI.z|apply cI.z))|refine⟨fun _=>aH.o (aA.lr _),?_⟩|refine⟨fun _=>aH.o Ab,?_⟩|intro (_:Nat)|refine WN.i64 Aa Aa ?_|(show LdN _ _ _ _ _;first|refine LdN.o 0 rfl rfl ?_|refine LdN.o 1 rfl rfl ?_)|(show Ld _ _ _ _;first|refine Ld.o 0 rfl rfl ?_|refine Ld.o 1 rfl rfl ?_)|refine DrN.run Al ?_)<;>conv=>whnf)|(show cnd _ _ _;first|((first|apply aB|apply aD)<;>intro _<;>first|(exfalso;omega)|conv=>whnf)|(refine aJ ?_)|(refine dE (fun _=>?_) (fun _=>?_)<;>(conv=>whnf)))
 all_goals refine RN.a (vi ?_)
 .rw[e2.out Ab,if_pos Ab];omega
 .rw[e2.out Ab,if_neg (by simp_all)]
 .rw[e1.out Ab,if_pos Ab]
 .rw[e1.out Ab,if_neg Aa]

theorem WN.u64v{n:Int}{k:Int->Prop}(x:Nat)(h:n%18446744073709551616=x)(hk:k x):WN .u64 n k:=WN.u64m (by rw[h];exact hk)
theorem WN.u64n{n:Int}{k:Int->Prop}(m:Nat)(h0:0<m)(hm:m<=9223372036854775808)(h:n=-(m:Int))(hk:∀x:Nat,Hq (x=18446744073709551616-m)->k x):WN .u64 n k:=
 WN.u64v (18446744073709551616-m) Aa (hk _ ⟨rfl⟩)
theorem uD(h:aA)(n:Int)(h1:-9223372036854775808<=n)(h2:n<=9223372036854775807):
  Fn0 T F.q150 [.int .i64 n] h fun v h'=>∃s t:Sl,v=.agg #[.bool (sg (n:Rat)),s.val,t.val]/\cS h' s t (n:Rat):=by
 have e1:=zA n;have e2:=aP2 n;have e3:=uA n;obtain⟨m,hm⟩:=AB n.natAbs;rw[<-hm] at e1;replace h1:m<=9223372036854775808:=Aa;replace e1:=Hq.mk e1;refine f0C ok D.q150 rfl ?_;by_cases hn:n<0
 .conv=>whnf
  repeat' ((first|(apply aQ.go)|(show WN _ _ _;first|(refine WN.u64v m (by have:=hx.out;omega) ?_)|refine WN.u64n m Aa h1 Aa (fun x hx=>?_))|((first|apply oI.z|apply cI.z))|intro (_:Nat)|(apply aB<;>intro _<;>try (exfalso;omega)))<;>conv=>whnf)
  refine CN.f rfl (gG _ m Aa) (fun v h' hl hr=>?_)
  obtain⟨s,rfl,hs⟩:=hr;conv=>whnf
  repeat ((first|apply oI.z|apply cI.z);conv=>whnf)
  refine CN.f rfl (gG _ 1 Aa) (fun v h'' hl' hr=>?_)
  obtain⟨t,rfl,ht⟩:=hr;conv=>whnf
  repeat' ((first|((first|apply oI.z|apply cI.z))|refine LdN.o 0 rfl rfl ?_|refine Sto.l 0 rfl rfl rfl ?_)<;>conv=>whnf)
  exact RN.a ⟨s,t,by rw[e2,decide_eq_true hn,oD hn]<;>rfl,⟨by rw[e1.out];exact Ah,by rw[e3];exact Ab⟩⟩
 .have hnm:n=m:=Aa;conv=>whnf
  repeat' ((first|(apply aQ.go)|(show WN _ _ _;refine WN.u64v m Aa ?_)|((first|apply oI.z|apply cI.z))|intro (_:Nat)|(apply aB<;>intro _<;>try (exfalso;omega)))<;>conv=>whnf)
  refine CN.f rfl (gG _ m Aa) (fun v h' hl hr=>?_)
  obtain⟨s,rfl,hs⟩:=hr;conv=>whnf
  repeat ((first|apply oI.z|apply cI.z);conv=>whnf)
  refine CN.f rfl (gG _ 1 Aa) (fun v h'' hl' hr=>?_)
  obtain⟨t,rfl,ht⟩:=hr;conv=>whnf
  repeat' ((first|((first|apply oI.z|apply cI.z))|refine LdN.o 0 rfl rfl ?_|refine Sto.l 0 rfl rfl rfl ?_)<;>conv=>whnf)
  exact RN.a ⟨s,t,by rw[e2,decide_eq_false hn,lY Aa]<;>rfl,⟨by rw[e1.out];exact Ah,by rw[e3];exact Ab⟩⟩
theorem aFx(h:aA)(s:Sl)(l:List Nat)(hw:Ws .u32 h s l)(hm:l.length<=4398046511104):Fn0 T F.q85 [s.val] h fun v h'=>∃s':Sl,v=s'.val/\Ws .u32 h' s' l:=by
 refine f0C ok D.q85 rfl ?_;obtain⟨a,n,c⟩:=s;have hnil:a=none->l=[]:=fun ha=>by
  rcases bGk l with e|⟨_,_,e⟩
  .exact e
  .obtain⟨b,off,_,_,_,hx,-⟩:=hw.mem (by rw[e];simp);rw[ha] at hx;cases hx
 match a with
 | none=>
  conv=>whnf
  repeat ((first|apply oI.z|apply cI.z);conv=>whnf)
  obtain rfl:=hnil rfl;exact RN.a ⟨⟨none,0,0⟩,rfl,Ws.nil rfl⟩
 | some a=>
  conv=>whnf
  repeat' ((first|((first|apply oI.z|apply cI.z))|intro (_:Nat))<;>conv=>whnf)
  refine App.all (s:=.slice _ _ _) (t:=⟨some a,n,c⟩) rfl (aE.new (z:=.int .u32 0) (kd:=.u32) 0 rfl) hw Ao Aa Ad (fun v' L' g=>?_)
  conv=>whnf
  repeat ((first|apply oI.z|apply cI.z);conv=>whnf)
  refine RN.grow g fun h' s hle hv w=>⟨s,hv,?_⟩
  simpa using w

structure fP (h:aA) (a b:Sl) (q:Rat):Prop where
 num:aI h a (nu q)
 den:aI h b (if q.den=1 then 0 else q.den)
def fH(q:Rat):Rat × Int:=if fits q then (q,0) else (0,1)
def Res(h:aA)(v:Value)(x:Rat × Int):Prop:=∃a b:Sl,v=.tuple #[.agg #[.bool (sg x.1),a.val,b.val],.int .i64 x.2]/\fP h a b x.1
theorem fP.zero(h:aA):fP h ⟨none,0,0⟩ ⟨none,0,0⟩ 0:=⟨by rw[xP];exact aI.nil rfl,by rw[if_pos (by rfl)];exact aI.nil rfl⟩
theorem fP.mono{h h':aA}{a b:Sl}{q:Rat}(w:fP h a b q)(hl:h.le h'):fP h' a b q:=⟨w.num.mono hl,w.den.mono hl⟩

theorem Res.err(h:aA)(e:Int):Res h (.tuple #[.agg #[.bool false,.slice none 0 0,.slice none 0 0],.int .i64 e]) (0,e):=
 ⟨⟨none,0,0⟩,⟨none,0,0⟩,by rw[show sg (0,e).1=false from tX]<;>rfl,fP.zero _⟩
theorem lN(h:aA)(a b:Sl)(q:Rat)(hq:cS h a b q)(hs:Sz 1073741824 q):
  Fn0 T F.q41 [.agg #[.bool (sg q),a.val,b.val]] h fun v h'=>Res h' v (fH q):=by
 have i1:=hq.num;have i2:=hq.den;have l1:=hs.num;have l2:=hs.den;have z1:Sz 1099511627776 q:=hs.mono Aa;have f1:fits q->fH q=(q,0):=fun hh=>if_pos hh
 have f2:¬fits q->fH q=(0,1):=fun hh=>if_neg hh
 refine f0C ok D.q41 rfl ?_;conv=>whnf
 repeat' first|((first|(apply aQ.go)|(show CN _ _ _ _ _ _;first|refine CN.quiet rfl (aDt _ _ _ _ Ab Ab) ?_|(refine CN.quiet rfl (aIf _ _ _ Ag Aa) ?_)|(refine CN.f rfl (aFx _ _ (dg 4294967296 (nu q)) Ah (by unfold ln at *;omega)) (fun v h' hl hr=>?_);obtain⟨s',rfl,hs'⟩:=hr)|(refine CN.f rfl (aFx _ _ (dg 4294967296 q.den) Ah (by unfold ln at *;omega)) (fun v h' hl hr=>?_);obtain⟨s',rfl,hs'⟩:=hr))|((first|apply oI.z|apply cI.z))|refine⟨fun _=>aH.o Ab,?_⟩|refine⟨fun _=>aH.cons _,?_⟩|refine⟨fun hst=>(by cases (show true=false from hst)),?_⟩|intro (_:Nat)|(show LdN _ _ _ _ _;first|refine LdN.o 0 rfl rfl ?_|refine LdN.o 1 rfl rfl ?_)|(show Ld _ _ _ _;first|refine Ld.o 1 rfl rfl ?_|refine Ld.o 2 rfl rfl ?_)|(show Sto _ _ _ _;first|refine Sto.l 0 rfl rfl rfl ?_|refine Sto.l 1 rfl rfl rfl ?_)|refine DrN.run Al ?_)<;>conv=>whnf)|(show cnd _ _ _;first|(refine aJ ?_)|(apply aW<;>intro _<;>first|(exfalso;omega)|conv=>whnf))|(refine sS.mk ?_ ?_<;>(conv=>whnf))
 all_goals first
  | (rw[f2 Ab]
     exact RN.a (Res.err _ _))
  | (rw[f1 Ab]
     first
       | exact RN.a ⟨_,⟨none,0,0⟩,rfl,(show fP _ _ _ q from ⟨Ab,by rw[if_pos Ab];exact aI.nil rfl⟩)⟩
       | exact RN.a ⟨_,_,rfl,(show fP _ _ _ q from ⟨Ah,by rw[if_neg Ab];exact Ab⟩)⟩)

def aN(neg:Bool)(l m:List Nat):Rat:=mkQ neg (evl 4294967296 l) (if evl 4294967296 m=0 then 1 else evl 4294967296 m)
def okR(neg:Bool)(l m:List Nat):Prop:=ln 4294967296 (evl 4294967296 l)<=256/\ln 4294967296 (evl 4294967296 m)<=256/\fits (aN neg l m)
instance (neg:Bool) (l m:List Nat):Decidable (okR neg l m):=by unfold okR;exact inferInstance
theorem okR.sz{neg:Bool}{l m:List Nat}(h:okR neg l m):Sz 64 (aN neg l m):=⟨h.2.2.1,h.2.2.2⟩
structure bJ (h:aA) (a b:Sl) (l m:List Nat):Prop where
 num:Ws .u32 h a l
 den:Ws .u32 h b m
 ln:∀x∈l,x<4294967296
 lm:∀x∈m,x<4294967296
 sn:l.length<=1073741824
 sm:m.length<=1073741824
theorem bJ.mono{h h':aA}{a b:Sl}{l m:List Nat}(w:bJ h a b l m)(hl:h.le h'):bJ h' a b l m:=⟨w.num.mono hl,w.den.mono hl,w.ln,w.lm,w.sn,w.sm⟩


theorem Ap{p:Prop}(h:p:=by (iterate 30 try first|assumption|refine bJ.mono ?_ (by assumption));first|done|assumption):p:=h
theorem cY{p q:Prop}[Decidable p][Decidable q](h:p↔q):dec p=dec q:=by rw[jX,jX];exact decide_eq_decide.2 h
theorem lO(h:aA)(tb:Tb h)(neg:Bool)(a b:Sl)(l m:List Nat)(hv:bJ h a b l m):
  Fn0 T F.q105 [.agg #[.bool neg,a.val,b.val]] h fun v h'=>∃(s:Bool) (c d:Sl),v=.tuple #[.agg #[.bool s,c.val,d.val],.bool (dec (okR neg l m))]/\(okR neg l m->s=sg (aN neg l m)/\cS h' c d (aN neg l m)):=by
 have i1:=hv.num;have i2:=hv.den;have l1:=hv.ln;have l2:=hv.lm;have l3:=hv.sn;have l4:=hv.sm;obtain⟨x,hx⟩:=AB (evl 4294967296 l);obtain⟨y,hy⟩:=AB (evl 4294967296 m);obtain⟨q,hq⟩:=AB (aN neg l m);have hok:okR neg l m↔ln 4294967296 x<=256/\ln 4294967296 y<=256/\fits q:=by unfold okR;rw[<-hx,<-hy,<-hq]
 have hle:=qS neg (m:=x) (n:=if y=0 then 1 else y) Ay
 have hqq:q=mkQ neg x (if y=0 then 1 else y):=by rw[hq,aN,<-hx,<-hy]
 rw[<-hqq] at hle;have p6:=jW 4294967296 tlB;have hz1:=dA hle.1;have hz2:=dA hle.2;have hq1:y=0->mkQ neg x 1=q:=fun h0=>by rw[hqq,if_pos h0]
 have hq2:y≠0->mkQ neg x y=q:=fun h0=>by rw[hqq,if_neg h0]
 have hsz:ln 4294967296 x<=256->ln 4294967296 y<=256->Sz 1099511627776 q:=fun a1 a2=>⟨Aa,by
   split at hz2<;>omega⟩
 replace hok:=Hq.mk hok;replace hle:=Hq.mk hle;replace hz2:=Hq.mk hz2;replace hqq:=Hq.mk hqq;rw[<-hq];refine f0C ok D.q105 rfl ?_;conv=>whnf
 repeat' first|((first|(apply aQ.go)|(show CN _ _ _ _ _ _;first|(refine CN.f rfl (oF _ _ l Ag l1 Aa) (fun v h' hl hr=>?_);rw[<-hx] at hr;obtain⟨s',rfl,hs'⟩:=hr;have hxl:=hs'.len)|(refine CN.f rfl (oF _ _ m Ag l2 Aa) (fun v h' hl hr=>?_);rw[<-hy] at hr;obtain⟨t',rfl,ht'⟩:=hr;have hyl:=ht'.len)|refine CN.quiet rfl (jE _ _ _ Ab Aa) ?_|(refine CN.f rfl (gG _ 1 Aa) (fun v h' hl hr=>?_);obtain⟨s',rfl,hs'⟩:=hr)|(refine CN.f rfl (jY _ Ae _ _ _ x 1 Ah Ah Aa Aa Ad) (fun v h' hl hr=>?_);rw[hq1 Ab] at hr;obtain⟨a',b',rfl,hq'⟩:=hr)|(refine CN.f rfl (jY _ Ae _ _ _ x y Ah Ab Aa Aa Ab) (fun v h' hl hr=>?_);rw[hq2 Ab] at hr;obtain⟨a',b',rfl,hq'⟩:=hr)|refine CN.quiet rfl (aDt _ _ _ q Ab (hsz Aa Aa)) ?_)|((first|apply oI.z|apply cI.z))|refine⟨fun _=>aH.o (aA.lr _),?_⟩|refine⟨fun _=>aH.o Ab,?_⟩|refine⟨fun hst=>(by cases (show true=false from hst)),?_⟩|intro (_:Nat)|(show LdN _ _ _ _ _;first|refine LdN.o 0 rfl rfl ?_|refine LdN.o 1 rfl rfl ?_)|refine Ld.o 1 rfl rfl ?_|(show Sto _ _ _ _;first|refine Sto.l 0 rfl rfl rfl ?_|refine Sto.l 1 rfl rfl rfl ?_)|refine DrN.run Al ?_)<;>conv=>whnf)|(show cnd _ _ _;first|((first|apply aB|apply aW)<;>intro _<;>first|(exfalso;omega)|conv=>whnf))
 .exact RN.a ⟨false,⟨none,0,0⟩,⟨none,0,0⟩,by rw[aG (fun hh=>by have:=(hok.out.1 hh).1;omega)]<;>rfl,fun hh=>by have:=(hok.out.1 hh).1;omega⟩
 .exact RN.a ⟨false,⟨none,0,0⟩,⟨none,0,0⟩,by rw[aG (fun hh=>by have:=(hok.out.1 hh).2.1;omega)]<;>rfl,fun hh=>by have:=(hok.out.1 hh).2.1;omega⟩
 all_goals exact RN.a ⟨_,_,_,by rw[cY (p:=okR neg l m) (q:=fits q) ⟨fun hh=>(hok.out.1 hh).2.2,fun hh=>hok.out.2 ⟨Aa,Aa,hh⟩⟩]<;>rfl,fun _=>⟨rfl,Ab⟩⟩

theorem aP7(a k:Nat):a^k=(if k%2=1 then a else 1)*(a*a)^(k / 2):=by
 have e:k=2*(k / 2)+k%2:=(bFw k 2).symm;conv=>lhs;rw[e,bEs,bFz,Nat.pow_two]
 rcases Nat.mod_two_eq_zero_or_one k with h|h<;>rw[h]<;>simp[bDj]
theorem aIo(h:aA)(a:Sl)(A N:Nat)(ha:aI h a A)(hb:N*ln 4294967296 A<=8589934590)(la:ln 4294967296 A<=8589934592)(hN:N<=65536):
  Fn0 T F.q144 [a.val,.int .i64 N] h fun v h'=>∃s:Sl,v=s.val/\aI h' s (A^N):=by
 refine f0C ok D.q144 rfl ?_;have p6:=jW 4294967296 tlB;conv=>whnf
 repeat' ((first|(show CN _ _ _ _ _ _;(refine CN.f rfl (gG _ 1 Aa) (fun v h' hl hr=>?_);obtain⟨s',rfl,hs'⟩:=hr))|((first|apply oI.z|apply cI.z)))<;>conv=>whnf)
 refine LpN.of (fun r ρ h' L=>∃(a o:Sl) (x y:Nat),L=[]/\h.le h'/\rd ρ 0=a.val/\rd ρ 1=.int .i64 r/\rd ρ 5=o.val/\aI h' a x/\aI h' o y/\ln 4294967296 x<=8589934592/\r<=65536/\Hq (ln 4294967296 y+r*ln 4294967296 x<=1+N*ln 4294967296 A)/\Hq (y*x^r=A^N)) N
  ⟨a,s',A,1,rfl,hl,rfl,rfl,rfl,Ah,Ab,la,hN,⟨by rw[p6];exact bDx _⟩,⟨by rw[bGe]⟩⟩ ?_
 conv=>whnf
 repeat intro _
 rename_i r h2 L2 hI;obtain⟨a,o,x,y,rfl,hle,e0,e1,e2,hx,hy,lx,hr,hsz,heq⟩:=hI;conv at e0=>lhs;whnf
 subst e0;conv at e1=>lhs;whnf
 subst e1;conv at e2=>lhs;whnf
 subst e2;by_cases h0:r=0
 .subst h0;conv=>whnf
  repeat' ((first|((first|apply oI.z|apply cI.z))|(apply aB<;>intro _<;>try (exfalso;omega)))<;>conv=>whnf)
  have e:=heq.out;rw[bH1,bFm] at e;exact RN.a ⟨o,rfl,by rw[<-e];exact hy⟩
 .have l1:ln 4294967296 y<=1+N*ln 4294967296 A:=by have:=hsz.out;omega
  have l2:=cP tlB y x;have l3:=cP tlB x x;have l4:1*ln 4294967296 x<=r*ln 4294967296 x:=bDq _ Aa;have hp:=Hq.mk (aP7 x r);have hq:Hq (ln 4294967296 y+(r%2)*ln 4294967296 x+(r / 2)*(2*ln 4294967296 x)<=1+N*ln 4294967296 A):=⟨by
    have e:=hsz.out;have e2:r*ln 4294967296 x=(2*(r / 2)+r%2)*ln 4294967296 x:=by rw[bFw]
    rw[bEc] at e2;have e3:2*(r / 2)*ln 4294967296 x=r / 2*(2*ln 4294967296 x):=by rw[bDj 2,bEa]
    omega⟩
  have l5:ln 4294967296 x<=1+N*ln 4294967296 A:=by have:=hsz.out;omega
  replace l4:=Hq.mk l4;conv=>whnf
  repeat' first|((first|(apply aQ.go)|(show kL _ _ _ _ _;refine kL.low1 r rfl Aa ?_)|(show cG _ _ _ _;refine cG.of 1 Ad Aa ?_)|(show CN _ _ _ _ _ _;(refine CN.f rfl (sZ _ _ _ _ _ Ag Ag Aa Aa) (fun v h' hl hr=>?_);obtain⟨s',rfl,hs'⟩:=hr))|((first|apply oI.z|apply cI.z)))<;>conv=>whnf)|(show cnd _ _ _;first|((first|apply aB|apply aD)<;>intro _<;>first|(exfalso;omega)|conv=>whnf))
  .exact⟨rfl,r / 2,Aa,_,_,x*x,y*x,rfl,Ac,rfl,vi Aa,rfl,Ab,Ah,by
     have:=hq.out;have h1:1*(2*ln 4294967296 x)<=r / 2*(2*ln 4294967296 x):=bDq _ Aa;omega,Aa,⟨by
     have:=hq.out;have h1:r / 2*ln 4294967296 (x*x)<=r / 2*(2*ln 4294967296 x):=bD2 _ Aa;rw[show r%2=1 by omega,bGe] at this
     omega⟩,⟨by rw[<-heq.out,hp.out,if_pos Aa,bEa]⟩⟩
  .exact⟨rfl,r / 2,Aa,a,_,x,y*x,rfl,Ac,rfl,vi Aa,rfl,Ah,Ab,lx,Aa,⟨by
     have:=hq.out;rw[show r%2=1 by omega,bGe] at this
     rw[show r / 2=0 by omega,bEv] at this ⊢
     omega⟩,⟨by rw[<-heq.out,show r / 2=0 by omega,show r=1 by omega,bH1,bFm,Nat.pow_one]⟩⟩
  .exact⟨rfl,r / 2,Aa,_,o,x*x,y,rfl,Ac,rfl,vi Aa,rfl,Ab,Ah,by
     have:=hq.out;have h1:1*(2*ln 4294967296 x)<=r / 2*(2*ln 4294967296 x):=bDq _ Aa;omega,Aa,⟨by
     have:=hq.out;have h1:r / 2*ln 4294967296 (x*x)<=r / 2*(2*ln 4294967296 x):=bD2 _ Aa;omega⟩,⟨by rw[<-heq.out,hp.out,if_neg Aa,bGe]⟩⟩

theorem aUz(h:aA)(a b:Sl)(q:Rat)(n:Nat)(hq:cS h a b q)(hs:Sz 65536 q)(hn:n<=65536):
  Fn0 T F.q158 [.agg #[.bool (sg q),a.val,b.val],.int .i64 n] h fun v h'=>∃s t:Sl,v=.agg #[.bool (sg (q^n)),s.val,t.val]/\cS h' s t (q^n):=by
 have i1:=hq.num;have i2:=hq.den;have l1:=hs.num;have l2:=hs.den;have e1:=aYm q n;have e2:=aP1 q n;have e3:=Rat.den_pow q n;have b1:n*ln 4294967296 (nu q)<=8589934590:=bDv (bFf hn l1) Ad;have b2:n*ln 4294967296 q.den<=8589934590:=bDv (bFf hn l2) Ad;refine f0C ok D.q158 rfl ?_;conv=>whnf
 repeat' first|((first|(show iQ _ _ _;refine iQ.nn Aa Aa ?_)|(show CN _ _ _ _ _ _;first|(refine CN.f rfl (aIo _ _ (nu q) n Ah b1 Aa hn) (fun v h' hl hr=>?_);rw[<-e2] at hr;obtain⟨s',rfl,hs'⟩:=hr)|(refine CN.f rfl (aIo _ _ q.den n Ah b2 Aa hn) (fun v h' hl hr=>?_);rw[<-e3] at hr;obtain⟨t',rfl,ht'⟩:=hr))|((first|apply oI.z|apply cI.z))|refine⟨fun _=>aH.o Ab,?_⟩|refine⟨fun hst=>(by cases (show true=false from hst)),?_⟩|intro (_:Nat)|refine LdN.o 0 rfl rfl ?_|refine Ld.o 1 rfl rfl ?_|refine Sto.l 0 rfl rfl rfl ?_|refine DrN.run Al ?_)<;>conv=>whnf)|(refine dE (fun _=>?_) (fun _=>?_)<;>(conv=>whnf))
 .have he:eq ((n:Int)%2) 1=decide (n%2=1):=by unfold eq;rw[Bool.eq_iff_iff,decide_eq_true_iff,decide_eq_true_iff];omega
  exact RN.a ⟨s',t',by rw[e1,he];simp_all,⟨Ah,Ab⟩⟩
 .exact RN.a ⟨s',t',by rw[e1];simp_all,⟨Ah,Ab⟩⟩

theorem Sz.add{k l:Nat}{q r:Rat}(a:Sz k q)(b:Sz l r):Sz (k+l+1) (q+r):=by
 have h:=aP3 q r;have p1:=cP tlB (nu q) r.den;have p2:=cP tlB (nu r) q.den;have p3:=cP tlB q.den r.den;have p4:=aDh tlB (nu q*r.den) (nu r*q.den);have a1:=a.num;have a2:=a.den;have b1:=b.num;have b2:=b.den;exact⟨bDv (dA h.1) Aa,bDv (dA h.2) Aa⟩
theorem Sz.mul{k l:Nat}{q r:Rat}(a:Sz k q)(b:Sz l r):Sz (k+l) (q*r):=by
 have h:=aP4 q r;have p1:=cP tlB (nu q) (nu r);have p3:=cP tlB q.den r.den;have a1:=a.num;have a2:=a.den;have b1:=b.num;have b2:=b.den;exact⟨bDv (dA h.1) Aa,bDv (dA h.2) Aa⟩
theorem Sz.neg{k:Nat}{q:Rat}(s:Sz k q):Sz k (-q):=⟨by rw[vV];exact s.num,by rw[bHj];exact s.den⟩

def uE(op:Rat->Rat->Rat)(n1:Bool)(l1 m1:List Nat)(n2:Bool)(l2 m2:List Nat):Rat × Int:=
 if okR n1 l1 m1/\okR n2 l2 m2 then fH (op (aN n1 l1 m1) (aN n2 l2 m2)) else (0,1)

def Op2(f:FuncId)(op:Rat->Rat->Rat):Prop:=∀(h:aA) (a b c d:Sl) (q r:Rat),Tb h->cS h a b q->cS h c d r->Sz 64 q->Sz 64 r->
 Fn0 T f [.agg #[.bool (sg q),a.val,b.val],.agg #[.bool (sg r),c.val,d.val]] h fun v h'=>∃s t:Sl,v=.agg #[.bool (sg (op q r)),s.val,t.val]/\cS h' s t (op q r)

theorem aIp(h:aA)(tb:Tb h)(n1:Bool)(a1 b1:Sl)(l1 m1:List Nat)(n2:Bool)(a2 b2:Sl)(l2 m2:List Nat)(hv1:bJ h a1 b1 l1 m1)(hv2:bJ h a2 b2 l2 m2)
  (f:FuncId) (op:Rat->Rat->Rat) (hf:T.fn f=true) (hop:Op2 f op) (hsz:∀q r,Sz 64 q->Sz 64 r->Sz 1073741824 (op q r)):
  Fn0 T F.q173 [.agg #[.bool n1,a1.val,b1.val],.agg #[.bool n2,a2.val,b2.val],.func (.func f) #[] #[]] h fun v h'=>Res h' v (uE op n1 l1 m1 n2 l2 m2):=by
 have f1:okR n1 l1 m1->okR n2 l2 m2->uE op n1 l1 m1 n2 l2 m2=fH (op (aN n1 l1 m1) (aN n2 l2 m2)):=fun x y=>if_pos ⟨x,y⟩
 have f2:¬okR n1 l1 m1->uE op n1 l1 m1 n2 l2 m2=(0,1):=fun x=>if_neg fun y=>x y.1
 have f3:¬okR n2 l2 m2->uE op n1 l1 m1 n2 l2 m2=(0,1):=fun x=>if_neg fun y=>x y.2
 refine f0C ok D.q173 rfl ?_;conv=>whnf
 repeat' first|((first|(show CN _ _ _ _ _ _;first|(refine CN.f rfl (lO _ Ae _ _ _ l1 m1 Ap) (fun v h' hle1 hr=>?_);obtain⟨s1,c1,d1,rfl,hok1⟩:=hr)|(refine CN.f rfl (lO _ Ae _ _ _ l2 m2 Ap) (fun v h' hle2 hr=>?_);obtain⟨s2,c2,d2,rfl,hok2⟩:=hr))|((first|apply oI.z|apply cI.z))|intro (_:Nat)|(show LdN _ _ _ _ _;first|refine LdN.o 0 rfl rfl ?_|refine LdN.o 1 rfl rfl ?_|refine LdN.o 2 rfl rfl ?_)|(show Sto _ _ _ _;first|refine Sto.l 0 rfl rfl rfl ?_|refine Sto.l 2 rfl rfl rfl ?_))<;>conv=>whnf)|(show cnd _ _ _;first|(refine aJ ?_)|(apply aW<;>intro _<;>first|(exfalso;omega)|conv=>whnf))
 .obtain⟨rfl,g1⟩:=hok1 Ab;obtain⟨rfl,g2⟩:=hok2 Ab;have z1:=okR.sz (show okR n1 l1 m1 by assumption)
  have z2:=okR.sz (show okR n2 l2 m2 by assumption)
  have z3:=hsz _ _ z1 z2;rw[f1 Ab Ab];refine CN.f hf (hop _ _ _ _ _ _ _ Ae (by (iterate 30 try first|assumption|refine cS.mono ?_ Ab);first|done|assumption) Ab z1 z2) (fun v h3 hle3 hr=>?_)
  obtain⟨s,t,rfl,hq⟩:=hr;conv=>whnf
  repeat' ((first|(show CN _ _ _ _ _ _;(refine CN.f rfl (lN _ _ _ _ Ab z3) (fun v h' hl hr=>?_);obtain⟨e1,e2,rfl,hq'⟩:=hr))|((first|apply oI.z|apply cI.z))|refine LdN.o 2 rfl rfl ?_|refine Sto.l 2 rfl rfl rfl ?_)<;>conv=>whnf)
  exact RN.a ⟨_,_,rfl,Ab⟩
 .rw[f3 Ab];exact RN.a (Res.err _ _)
 .rw[f2 Ab];exact RN.a (Res.err _ _)

theorem Op2.add:Op2 F.q174 (·+·):=fun h a b c d q r tb h1 h2 z1 z2=>uC h tb a b c d q r h1 h2 (z1.mono Ad) (z2.mono Ad)
theorem Op2.mul:Op2 F.q176 (·*·):=fun h a b c d q r tb h1 h2 z1 z2=>xQ h tb a b c d q r h1 h2 (z1.mono Ad) (z2.mono Ad)
theorem Op2.sub:Op2 F.q175 (· - ·):=fun h a b c d q r tb h1 h2 z1 z2=>by
 have y1:Sz 1073741824 q:=z1.mono Ad;have y2:Sz 1073741824 (-r):=(Sz.neg z2).mono Ad;have y3:Sz 1099511627776 r:=z2.mono Ad;have h3:=cS.neg h2;have e:q-r=q+-r:=bFq q r;refine f0C ok D.q175 rfl ?_;conv=>whnf
 repeat' ((first|(show CN _ _ _ _ _ _;first|refine CN.quiet rfl (kS _ _ _ _ Ab y3) ?_|(refine CN.f rfl (uC _ Ab _ _ _ _ _ _ Ab Ab y1 y2) (fun v h' hl hr=>?_);obtain⟨e1,e2,rfl,hq'⟩:=hr))|((first|apply oI.z|apply cI.z))|refine⟨fun _=>aH.o (aA.lr _),?_⟩|refine⟨fun _=>aH.o Ab,?_⟩|refine⟨fun hst=>(by cases (show true=false from hst)),?_⟩|intro (_:Nat)|(show LdN _ _ _ _ _;first|refine LdN.o 0 rfl rfl ?_|refine LdN.o 1 rfl rfl ?_|refine LdN.o 2 rfl rfl ?_)|refine Sto.l 0 rfl rfl rfl ?_|refine DrN.run Al ?_)<;>conv=>whnf)
 refine RN.a ⟨e1,e2,?_,?_⟩
 .show _=Value.agg #[.bool (sg (q-r)),_,_]
  rw[e]<;>rfl
 .show cS _ _ _ (q-r)
  rw[e];exact Ab

theorem aU0(h:aA)(n1:Bool)(a1 b1:Sl)(l1 m1:List Nat)(n2:Bool)(a2 b2:Sl)(l2 m2:List Nat)(tb:Tb h)(hv1:bJ h a1 b1 l1 m1)(hv2:bJ h a2 b2 l2 m2):
  Fn0 T F.q114 [.agg #[.bool n1,a1.val,b1.val],.agg #[.bool n2,a2.val,b2.val]] h fun v h'=>Res h' v (uE (·+·) n1 l1 m1 n2 l2 m2):=by
 refine f0C ok D.q114 rfl ?_;conv=>whnf
 repeat' ((first|(show CN _ _ _ _ _ _;(refine CN.f rfl (aIp _ Ab _ _ _ _ _ _ _ _ _ _ Ab Ab _ _ rfl Op2.add (fun q r a b=>(Sz.add a b).mono Ad)) (fun v h' hl hr=>?_);obtain⟨e1,e2,rfl,hq'⟩:=hr))|((first|apply oI.z|apply cI.z))|intro (_:Nat)|(show LdN _ _ _ _ _;first|refine LdN.o 0 rfl rfl ?_|refine LdN.o 1 rfl rfl ?_|refine LdN.o 2 rfl rfl ?_)|refine Sto.l 0 rfl rfl rfl ?_)<;>conv=>whnf)
 exact RN.a ⟨_,_,rfl,Ab⟩
theorem aU1(h:aA)(n1:Bool)(a1 b1:Sl)(l1 m1:List Nat)(n2:Bool)(a2 b2:Sl)(l2 m2:List Nat)(tb:Tb h)(hv1:bJ h a1 b1 l1 m1)(hv2:bJ h a2 b2 l2 m2):
  Fn0 T F.q115 [.agg #[.bool n1,a1.val,b1.val],.agg #[.bool n2,a2.val,b2.val]] h fun v h'=>Res h' v (uE (· - ·) n1 l1 m1 n2 l2 m2):=by
 refine f0C ok D.q115 rfl ?_;conv=>whnf
 repeat' ((first|(show CN _ _ _ _ _ _;(refine CN.f rfl (aIp _ Ab _ _ _ _ _ _ _ _ _ _ Ab Ab _ _ rfl Op2.sub (fun q r a b=>by rw[bFq];exact (Sz.add a (Sz.neg b)).mono Ad)) (fun v h' hl hr=>?_);obtain⟨e1,e2,rfl,hq'⟩:=hr))|((first|apply oI.z|apply cI.z))|intro (_:Nat)|(show LdN _ _ _ _ _;first|refine LdN.o 0 rfl rfl ?_|refine LdN.o 1 rfl rfl ?_|refine LdN.o 2 rfl rfl ?_)|refine Sto.l 0 rfl rfl rfl ?_)<;>conv=>whnf)
 exact RN.a ⟨_,_,rfl,Ab⟩
end Go.Proofs.Y