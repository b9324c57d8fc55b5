/- Values of trees, the document's side: operations on values. -/
import Derived.Test.YtblecjeceecaaaaGreatDoorE62
set_option linter.all false
set_option maxHeartbeats 1000000
set_option maxRecDepth 20000
namespace Go.Proofs.Y
open Go Go.Vc Go.Dig
theorem jF{q:Rat}(h:fits q):Sr 128 q:=⟨((aBm q).1 h).1,((aBm q).1 h).2⟩
theorem Sr.abs{k:Nat}{q:Rat}(w:Sr k q):Sr k (gP q):=⟨by rw[vG];exact w.num,by rw[rA];exact w.den⟩
def RQ(h:aA)(v:Value)(x:Option Rat):Prop:=∃n,∃s t:Sl,∃bb,v=.tuple #[.agg #[.bool n,s.val,t.val],.bool bb]/\(bb=true->∃q,x=some q/\n=sg q/\IsQ h s t q/\Sr 4294967296 q)/\(bb=false->x=none)
theorem RQ.some{h:aA}{s t:Sl}{q:Rat}(w:IsQ h s t q)(z:Sr 4294967296 q):RQ h (.tuple #[.agg #[.bool (sg q),s.val,t.val],.bool true]) (some q):=⟨_,s,t,true,rfl,fun _=>⟨q,rfl,rfl,w,z⟩,fun x=>by cases x⟩
theorem RQ.none(h:aA)(n:Bool)(s t:Sl):RQ h (.tuple #[.agg #[.bool n,s.val,t.val],.bool false]) none:=⟨n,s,t,false,rfl,fun x=>(by cases x),fun _=>rfl⟩
theorem aX9(h:aA)(a b c d:Sl)(q r:Rat)(hq:IsQ h a b q)(hr:IsQ h c d r)(fq:fits q)(fr:fits r):
  Fn0 T F.q307 [.agg #[.bool (sg q),a.val,b.val],.agg #[.bool (sg r),c.val,d.val]] h fun v h'=>∃s t:Sl,v=.agg #[.bool (sg (if r<q then r else q)),s.val,t.val]/\IsQ h' s t (if r<q then r else q):=by
 have tri:=aF1 r q;have m1:eX r q<0->(if r<q then r else q)=r:=fun x=>if_pos (by rcases tri with t|t|t;exact t.2;omega;omega)
 have m2:¬eX r q<0->(if r<q then r else q)=q:=fun x=>if_neg fun y=>by
  rcases tri with t|t|t
  .omega
  .rw[t.2] at y;exact Rat.lt_irrefl y
  .exact uC y t.2
 obtain⟨M,hM⟩:=AH (if r<q then r else q)
 rw[<-hM] at m1 m2 ⊢;have s1:=(jF fq).mono (l:=65536) Ae;have s2:=(jF fr).mono (l:=65536) Ae;obtain⟨C,hC⟩:=AH (eX r q);have c1:=fun h hr hq=>qY h c d a b r q hr hq s2 s1
 simp only[<-hC] at c1 m1 m2;clear hM hC tri;refine f0C ok D.q307 rfl ?_;conv=>whnf
 repeat' ((first|(show CN _ _ _ _ _ _;(refine CN.f rfl (c1 _ Ab Ab) (fun v h' hl hr=>?_);subst hr))|((first|apply oI.z|apply cI.z))|intro (_:Nat)|(show LdN _ _ _ _ _;first|refine LdN.o 0 rfl rfl ?_|refine LdN.o 1 rfl rfl ?_|refine LdN.o 2 rfl rfl ?_)|refine Sto.l 0 rfl rfl rfl ?_|(apply aB<;>intro _<;>try (exfalso;omega)))<;>conv=>whnf)
 all_goals first
  | (rw[m1 Aa];exact RN.a ⟨c,d,rfl,IsQ.mono Ab Ab⟩)
  | (rw[m2 Aa];exact RN.a ⟨a,b,rfl,IsQ.mono Ab Ab⟩)
theorem bBw(h:aA)(a b c d:Sl)(q r:Rat)(hq:IsQ h a b q)(hr:IsQ h c d r)(fq:fits q)(fr:fits r):
  Fn0 T F.q308 [.agg #[.bool (sg q),a.val,b.val],.agg #[.bool (sg r),c.val,d.val]] h fun v h'=>∃s t:Sl,v=.agg #[.bool (sg (if q<r then r else q)),s.val,t.val]/\IsQ h' s t (if q<r then r else q):=by
 have tri:=aF1 r q;have m1:0<eX r q->(if q<r then r else q)=r:=fun x=>if_pos (by rcases tri with t|t|t;omega;omega;exact t.2)
 have m2:¬0<eX r q->(if q<r then r else q)=q:=fun x=>if_neg fun y=>by
  rcases tri with t|t|t
  .exact uC y t.2
  .rw[t.2] at y;exact Rat.lt_irrefl y
  .omega
 obtain⟨M,hM⟩:=AH (if q<r then r else q)
 rw[<-hM] at m1 m2 ⊢;have s1:=(jF fq).mono (l:=65536) Ae;have s2:=(jF fr).mono (l:=65536) Ae;obtain⟨C,hC⟩:=AH (eX r q);have c1:=fun h hr hq=>qY h c d a b r q hr hq s2 s1
 simp only[<-hC] at c1 m1 m2;clear hM hC tri;refine f0C ok D.q308 rfl ?_;conv=>whnf
 repeat' ((first|(show CN _ _ _ _ _ _;(refine CN.f rfl (c1 _ Ab Ab) (fun v h' hl hr=>?_);subst hr))|((first|apply oI.z|apply cI.z))|intro (_:Nat)|(show LdN _ _ _ _ _;first|refine LdN.o 0 rfl rfl ?_|refine LdN.o 1 rfl rfl ?_|refine LdN.o 2 rfl rfl ?_)|refine Sto.l 0 rfl rfl rfl ?_|(apply aB<;>intro _<;>try (exfalso;omega)))<;>conv=>whnf)
 all_goals first
  | (rw[m1 Aa];exact RN.a ⟨c,d,rfl,IsQ.mono Ab Ab⟩)
  | (rw[m2 Aa];exact RN.a ⟨a,b,rfl,IsQ.mono Ab Ab⟩)
theorem bEt:Sr 4294967296 1:=(jF fU).mono Ae
theorem aYa:Sr 4294967296 0:=(jF gC).mono Ae
theorem aSc(h:aA)(fn:Int)(a b:Sl)(q:Rat)(h1:1<=fn)(h2:fn<=8)(hf:fits q)(w:IsQ h a b q):Fn0 T F.q306 [.int .i64 fn,.agg #[.bool (sg q),a.val,b.val]] h fun v h'=>RQ h' v (iL fn q):=by
 have r1:fn=1\/fn=4->eX q 0=0->iL fn q=some 1:=fun x y=>(if_pos x).trans (if_pos (jY.1 y))
 have r2:fn=1\/fn=4->eX q 0≠0->iL fn q=none:=fun x y=>(if_pos x).trans (if_neg fun z=>y (jY.2 z))
 have r3:fn=2\/fn=7->eX q 1=0->iL fn q=some 0:=fun x y=>(if_neg Aa).trans ((if_pos x).trans (if_pos (jY.1 y)))
 have r4:fn=2\/fn=7->eX q 1≠0->iL fn q=none:=fun x y=>(if_neg Aa).trans ((if_pos x).trans (if_neg fun z=>y (jY.2 z)))
 have r5:¬(fn=1\/fn=4)->¬(fn=2\/fn=7)->eX q 0=0->iL fn q=some 0:=fun x y z=>(if_neg x).trans ((if_neg y).trans (if_pos (jY.1 z)))
 have r6:¬(fn=1\/fn=4)->¬(fn=2\/fn=7)->eX q 0≠0->iL fn q=none:=fun x y z=>(if_neg x).trans ((if_neg y).trans (if_neg fun u=>z (jY.2 u)))
 obtain⟨R,hR⟩:=AH (iL fn q);rw[<-hR] at r1 r2 r3 r4 r5 r6 ⊢;clear hR;have s1:=(jF hf).mono (l:=65536) Ae;have k0:=fun h=>qZ h 0 Ae Ae
 have k1:=fun h=>qZ h 1 Ae Ae
 simp only[bGq] at k0;simp only[bCk] at k1;obtain⟨C0,hC0⟩:=AH (eX q 0);obtain⟨C1,hC1⟩:=AH (eX q 1);have c0:=fun h s t hq hr=>qY h a b s t q 0 hq hr s1 ((jF gC).mono Ae)
 have c1:=fun h s t hq hr=>qY h a b s t q 1 hq hr s1 ((jF fU).mono Ae)
 simp only[<-hC0] at c0 r1 r2 r5 r6;simp only[<-hC1] at c1 r3 r4;clear hC0 hC1;have z0:=aYa;have z1:=bEt;obtain⟨Z,hZ⟩:∃Z:Rat,Z=0:=⟨_,rfl⟩
 obtain⟨O,hO⟩:∃O:Rat,O=1:=⟨_,rfl⟩
 simp only[<-hZ] at k0 c0 r3 r5 z0;simp only[<-hO] at k1 c1 r1 z1;clear hZ hO;refine f0C ok D.q306 rfl ?_;conv=>whnf
 repeat' first|((first|(apply bJ.go)|(show CN _ _ _ _ _ _;first|((first|refine CN.f rfl (k0 _) (fun v h' hl hr=>?_)|refine CN.f rfl (k1 _) (fun v h' hl hr=>?_));obtain⟨s1',t1',rfl,hi⟩:=hr)|((first|refine CN.f rfl (c0 _ _ _ Ao Ab) (fun v h' hl hr=>?_)|refine CN.f rfl (c1 _ _ _ Ao Ab) (fun v h' hl hr=>?_));subst hr))|((first|apply oI.z|apply cI.z))|refine⟨fun _=>aJ.o Ab,?_⟩|intro (_:Nat)|(show LdN _ _ _ _ _;first|refine LdN.o 0 rfl rfl ?_|refine LdN.o 1 rfl rfl ?_)|refine Sto.l 0 rfl rfl rfl ?_|refine DrN.run Ak ?_)<;>conv=>whnf)|(show cnd _ _ _;first|(apply aD<;>intro _<;>first|(exfalso;omega)|conv=>whnf)|(refine aI ?_))
 all_goals first
  | (rw[r1 Aa Aa];exact RN.a (RQ.some Ab z1))
  | (rw[r2 Aa Aa];exact RN.a (RQ.none _ false ⟨none,0,0⟩ ⟨none,0,0⟩))
  | (rw[r3 Aa Aa];exact RN.a (RQ.some Ab z0))
  | (rw[r4 Aa Aa];exact RN.a (RQ.none _ false ⟨none,0,0⟩ ⟨none,0,0⟩))
  | (rw[r5 Aa Aa Aa];exact RN.a (RQ.some Ab z0))
  | (rw[r6 Aa Aa Aa];exact RN.a (RQ.none _ false ⟨none,0,0⟩ ⟨none,0,0⟩))
theorem zF{x:Option Rat}(h:∀q,x=some q->fits q):x.bind dZ=x:=by
 cases x with
 | none=>rfl
 | some q=>exact if_pos (h q rfl)
theorem aYb(q:Rat)(hf:fits q)(h:aA)(op arg:Int)(neg:Bool)(a b s:Sl)(name:List Nat)(c d:Sl)(hop:op=4\/op=9/\-32<=arg/\arg<=32\/op=10/\2<=arg/\arg<=8\/op=11/\1<=arg/\arg<=8\/op=12)(w:IsQ h c d q):
  Fn0 T F.q254 [.agg #[.int .i64 op,.int .i64 arg,.bool neg,a.val,b.val,.string (txt name),s.val],.agg #[.bool (sg q),c.val,d.val]] h fun v h'=>∃x,RQ h' v x/\x.bind dZ=unQ op arg q:=by
 have sq:=jF hf;have r1:op=4->dZ (-q)=unQ op arg q:=fun e=>(if_pos e:unQ op arg q=dZ (-q)).symm
 have r2:op=9->arg<0->dH q=0->none=unQ op arg q:=fun e e2 e3=>(((if_neg Aa).trans (if_pos e)).trans (if_pos ⟨e2,by rw[<-cE];exact eL.1 e3⟩):unQ op arg q=none).symm
 have r2':op=9->¬(arg<0/\dH q=0)->dZ (oX q arg)=unQ op arg q:=fun e e2=>(((if_neg Aa).trans (if_pos e)).trans (if_neg fun x=>e2 ⟨x.1,eL.2 (cE.2 x.2)⟩):unQ op arg q=dZ (oX q arg)).symm
 have r3:op=12->dZ (gP q)=unQ op arg q:=fun e=>((if_neg Aa).trans ((if_neg Aa).trans (if_pos e)):unQ op arg q=dZ (gP q)).symm
 have r4:op=10->(if (cJ q arg.toNat).2 then dZ (cJ q arg.toNat).1 else none)=unQ op arg q:=fun e=>((if_neg Aa).trans ((if_neg Aa).trans ((if_neg Aa).trans (if_pos e))):unQ op arg q=if (cJ q arg.toNat).2 then dZ (cJ q arg.toNat).1 else none).symm
 have r5:op=11->iL arg q=unQ op arg q:=fun e=>((if_neg Aa).trans ((if_neg Aa).trans ((if_neg Aa).trans (if_neg Aa))):unQ op arg q=iL arg q).symm
 have p0:arg<0->dH q≠0->nu q≠0:=fun _ x y=>x (eL.2 y)
 have g5:∀x,iL arg q=x->x.bind dZ=iL arg q:=fun x e=>by rw[<-e];exact zF fun q hq=>aCb hq
 have x4:∀N:Nat,1<=N->Sr 4294967296 (cJ q N).1:=fun N hN=>(jF (zQ hf hN)).mono Ae
 obtain⟨R,hR⟩:=AH (unQ op arg q);rw[<-hR] at r1 r2 r2' r3 r4 r5 ⊢;obtain⟨K,hK⟩:=AH (iL arg q);have c5:=fun h (x:op=11) w=>aSc h arg c d q Aa Aa hf w
 simp only[<-hK] at c5 r5 g5;have hx4:op=10->1<=arg.toNat:=fun _=>by omega
 have c1:=fun h w=>bB6 h c d q w (sq.mono Ae)
 have c2:=fun h=>bFc h c d q
 have c3:=fun h w h1 h2 h0=>aTf h c d q arg h1 h2 h0 w sq
 have c4:=fun h w (x:op=10)=>aV0 h c d q arg arg.toNat Aa Aa Aa w ⟨hf.1,hf.2⟩
 have c6:=fun h w=>aBl h c d q w (sq.mono Ae)
 have z3:=fun h1 h2 h0=>aZc sq (n:=arg) h1 h2 h0
 have w1:=fun h (w:IsQ h c d q)=>IsQ.neg w
 have w2:=fun h (w:IsQ h c d q)=>IsQ.abs w
 have z1:=Sr.neg (sq.mono (l:=4294967296) Ae);have z2:=Sr.abs (sq.mono (l:=4294967296) Ae);replace x4:=x4 arg.toNat;obtain⟨S,hS⟩:=AH (dH q);obtain⟨Y1,h1⟩:=AH (-q);obtain⟨Y2,h2⟩:=AH (gP q);obtain⟨Y3,h3⟩:=AH (oX q arg);obtain⟨X1,h4⟩:=AH ((cJ q arg.toNat).1);obtain⟨X2,h5⟩:=AH ((cJ q arg.toNat).2);simp only[<-hS] at c6 r2 r2' p0;simp only[<-h1] at c1 r1 w1 z1;simp only[<-h2] at c2 r3 w2 z2;simp only[<-h3] at c3 r2' z3;simp only[<-h4,<-h5] at c4 r4 x4;replace r1:=Hq.mk r1;replace r2:=Hq.mk r2;replace r2':=Hq.mk r2';replace r3:=Hq.mk r3;replace r4:=Hq.mk r4;replace r5:=Hq.mk r5;replace p0:=Hq.mk p0;replace hx4:=Hq.mk hx4;clear hR hK hS h1 h2 h3 h4 h5;refine f0C ok D.q254 rfl ?_;conv=>whnf
 repeat' first|((first|(show CN _ _ _ _ _ _;first|refine CN.quiet rfl (c1 _ Ab) ?_|refine CN.quiet rfl (c2 _) ?_|refine CN.quiet rfl (c6 _ Ab) ?_|(refine CN.f rfl (c3 _ Ab Aa Aa (fun x=>p0.out x Aa)) (fun v h' hl hr=>?_);obtain⟨s1,t1,rfl,hq1⟩:=hr)|(refine CN.f rfl (c4 _ Ab Aa) (fun v h' hl hr=>?_);obtain⟨s1,t1,rfl,hq1⟩:=hr)|(refine CN.f rfl (c5 _ Aa Ab) (fun v h' hl hr=>?_);obtain⟨n1,s1,t1,b1,rfl,g1,g2⟩:=hr))|((first|apply oI.z|apply cI.z))|intro (_:Nat)|(show LdN _ _ _ _ _;first|refine LdN.o 0 rfl rfl ?_|refine LdN.o 1 rfl rfl ?_)|refine Ld.o 2 rfl rfl ?_|refine Sto.l 0 rfl rfl rfl ?_)<;>conv=>whnf)|(show cnd _ _ _;first|((first|apply aB|apply aD)<;>intro _<;>first|(exfalso;omega)|conv=>whnf))
 all_goals first
  | (refine RN.a ⟨some Y1,RQ.some (w1 _ Ab) z1,r1.out Aa⟩)
  | (refine RN.a ⟨some Y2,RQ.some (w2 _ Ab) z2,r3.out Aa⟩)
  | (refine RN.a ⟨none,RQ.none _ false ⟨none,0,0⟩ ⟨none,0,0⟩,r2.out Aa Aa Aa⟩)
  | (refine RN.a ⟨some Y3,RQ.some Ab (z3 Aa Aa fun x=>p0.out x Aa),r2'.out Aa Aa⟩)
  | (refine RN.a ⟨K,⟨_,_,_,_,rfl,g1,g2⟩,(g5 K rfl).trans (r5.out Aa)⟩)
  | (refine RN.a ?_
     rw[<-r4.out Aa];refine⟨if X2 then some X1 else none,⟨_,_,_,_,rfl,fun x=>⟨_,if_pos x,rfl,Ab,x4 (hx4.out Aa)⟩,fun x=>if_neg (by rw[x];decide)⟩,?_⟩
     by_cases y:X2=true
     .rw[if_pos y,if_pos y];rfl
     .rw[if_neg y,if_neg y];rfl)
theorem bEu{q r:Rat}(hq:Sr 128 q)(hr:Sr 128 r)(h0:nu r≠0):Sr 256 (q / r):=by
 rw[bMb];exact aL1 hq (aL2 hr h0)
theorem bBx(q r:Rat)(hf:fits q)(hf':fits r)(h:aA)(op:Int)(a b c d:Sl)(hop:op=5\/op=6\/op=7\/op=8\/op=13\/op=14)(w:IsQ h a b q)(w':IsQ h c d r):
  Fn0 T F.q255 [.int .i64 op,.agg #[.bool (sg q),a.val,b.val],.agg #[.bool (sg r),c.val,d.val]] h fun v h'=>∃x,RQ h' v x/\x.bind dZ=biQ op q r:=by
 have sq:=jF hf;have sr:=jF hf';have fm:fits (if r<q then r else q):=by split<;>assumption
 have fM:fits (if q<r then r else q):=by split<;>assumption
 have r1:op=5->dZ (q+r)=biQ op q r:=fun e=>(if_pos e:biQ op q r=_).symm
 have r2:op=6->dZ (q-r)=biQ op q r:=fun e=>((if_neg Aa).trans (if_pos e):biQ op q r=_).symm
 have r3:op=7->dZ (q*r)=biQ op q r:=fun e=>((if_neg Aa).trans ((if_neg Aa).trans (if_pos e)):biQ op q r=_).symm
 have r4:op=8->dH r=0->none=biQ op q r:=fun e e2=>(((if_neg Aa).trans ((if_neg Aa).trans ((if_neg Aa).trans (if_pos e)))).trans (if_pos (cE.1 (eL.1 e2))):biQ op q r=_).symm
 have r4':op=8->dH r≠0->dZ (q / r)=biQ op q r:=fun e e2=>(((if_neg Aa).trans ((if_neg Aa).trans ((if_neg Aa).trans (if_pos e)))).trans (if_neg fun x=>e2 (eL.2 (cE.2 x))):biQ op q r=_).symm
 have r5:op=13->dZ (if r<q then r else q)=biQ op q r:=fun e=>(if_pos fm).trans ((if_neg Aa).trans ((if_neg Aa).trans ((if_neg Aa).trans ((if_neg Aa).trans (if_pos e)))):biQ op q r=_).symm
 have r6:op=14->dZ (if q<r then r else q)=biQ op q r:=fun e=>(if_pos fM).trans ((if_neg Aa).trans ((if_neg Aa).trans ((if_neg Aa).trans ((if_neg Aa).trans (if_neg Aa)))):biQ op q r=_).symm
 have d0:dH r≠0->Sr 4294967296 (q / r):=fun x=>(bEu sq sr fun y=>x (eL.2 y)).mono Ae
 obtain⟨R,hR⟩:=AH (biQ op q r);rw[<-hR] at r1 r2 r3 r4 r4' r5 r6 ⊢;have u1:=sq.mono (l:=1073741824) Ae;have u2:=sr.mono (l:=1073741824) Ae;have c1:=fun h w w'=>aF9 h a b c d q r w w' u1 u2
 have c2:=fun h w w'=>aN9 h a b c d q r w w' u1 u2
 have c3:=fun h w w'=>aAf h a b c d q r w w' u1 u2
 have c4:=fun h w w'=>aLx h a b c d q r w w' u1 u2
 have c5:=fun h w w'=>aX9 h a b c d q r w w' hf hf'
 have c6:=fun h w w'=>bBw h a b c d q r w w' hf hf'
 have c7:=fun h w'=>aBl h c d r w' (sr.mono Ae)
 have z1:Sr 4294967296 (q+r):=(aGb sq sr).mono Ae;have z2:Sr 4294967296 (q-r):=by rw[bMd];exact (aGb sq (Sr.neg sr)).mono Ae
 have z3:Sr 4294967296 (q*r):=(aL1 sq sr).mono Ae;have z5:=(jF fm).mono (l:=4294967296) Ae;have z6:=(jF fM).mono (l:=4294967296) Ae;obtain⟨S,hS⟩:=AH (dH r);obtain⟨X1,h1⟩:=AH (q+r);obtain⟨X2,h2⟩:=AH (q-r);obtain⟨X3,h3⟩:=AH (q*r);obtain⟨X4,h4⟩:=AH (q / r);obtain⟨X5,h5⟩:=AH (if r<q then r else q)
 obtain⟨X6,h6⟩:=AH (if q<r then r else q)
 simp only[<-hS] at c7 r4 r4' d0;simp only[<-h1] at c1 r1 z1;simp only[<-h2] at c2 r2 z2;simp only[<-h3] at c3 r3 z3;simp only[<-h4] at c4 r4' d0;simp only[<-h5] at c5 r5 z5;simp only[<-h6] at c6 r6 z6;clear hR hS h1 h2 h3 h4 h5 h6 fm fM;refine f0C ok D.q255 rfl ?_;conv=>whnf
 repeat' ((first|(show CN _ _ _ _ _ _;first|refine CN.quiet rfl (c7 _ Ab) ?_|((first|refine CN.f rfl (c1 _ Ab Ab) (fun v h' hl hr=>?_)|refine CN.f rfl (c2 _ Ab Ab) (fun v h' hl hr=>?_)|refine CN.f rfl (c3 _ Ab Ab) (fun v h' hl hr=>?_)|refine CN.f rfl (c4 _ Ab Ab) (fun v h' hl hr=>?_)|refine CN.f rfl (c5 _ Ab Ab) (fun v h' hl hr=>?_)|refine CN.f rfl (c6 _ Ab Ab) (fun v h' hl hr=>?_));obtain⟨s1,t1,rfl,hq1⟩:=hr))|((first|apply oI.z|apply cI.z))|intro (_:Nat)|(show LdN _ _ _ _ _;first|refine LdN.o 0 rfl rfl ?_|refine LdN.o 1 rfl rfl ?_|refine LdN.o 2 rfl rfl ?_)|refine Sto.l 0 rfl rfl rfl ?_|(apply aD<;>intro _<;>try (exfalso;omega)))<;>conv=>whnf)
 all_goals first
  | (refine RN.a ⟨some X1,RQ.some Ab z1,r1 Aa⟩)
  | (refine RN.a ⟨some X2,RQ.some Ab z2,r2 Aa⟩)
  | (refine RN.a ⟨some X3,RQ.some Ab z3,r3 Aa⟩)
  | (refine RN.a ⟨some X4,RQ.some Ab (d0 Aa),r4' Aa Aa⟩)
  | (refine RN.a ⟨some X5,RQ.some Ab z5,r5 Aa⟩)
  | (refine RN.a ⟨some X6,RQ.some Ab z6,r6 Aa⟩)
  | (refine RN.a ⟨none,RQ.none _ false ⟨none,0,0⟩ ⟨none,0,0⟩,r4 Aa Aa⟩)
end Go.Proofs.Y
/- One kid turned, on both sides; nodes made. -/
namespace Go.Vc
open Go Go.Dig
end Go.Vc
namespace Go.Proofs.Y
open Go Go.Vc Go.Dig
def aYd:Option Rat->Tr × Nat
 | some q=>(mkL q,0)
 | none=>(bI,1)
def bG0(h:aA)(v:Value)(q:Rat):Prop:=∃a tt b,v=.tuple #[a,.bool b]/\VE h a tt/\(b=true->fits q/\tt=mkL q)/\(b=false->¬fits q)
theorem bEw(h:aA)(n:Bool)(a b:Sl)(x:Option Rat)(w:bP h n a b x):Fn0 T F.q160 [.agg #[.bool n,a.val,b.val]] h fun v _=>v=.bool (!dec (x.isSome=true)):=by
 obtain⟨l,m,v,rfl⟩:=w.ex;refine (aIq h n a b l m v).mono fun v h' _ r=>?_
 rw[r,dJ (q:=(iV n l m).isSome=true)];unfold iV;by_cases k:okR n l m<;>simp[k]
theorem bCl(h:aA)(n:Bool)(a b:Sl)(q:Rat)(w:bP h n a b (some q)):Fn0 T F.q21 [.agg #[.bool n,a.val,b.val]] h fun v h'=>∃s t:Sl,v=.agg #[.bool (sg q),s.val,t.val]/\IsQ h' s t q:=by
 obtain⟨l,m,v,-,rfl⟩:=w.of;exact sM h n a b l m v
end Go.Proofs.Y