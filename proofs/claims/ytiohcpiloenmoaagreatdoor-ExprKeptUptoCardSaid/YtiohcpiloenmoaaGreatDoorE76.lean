/- Simplify: the program's rules. -/
import Derived.Test.YtiohcpiloenmoaaGreatDoorE68
set_option linter.all false
set_option maxHeartbeats 4000000
set_option maxRecDepth 20000
namespace Go.Vc
open Go Go.Dig
open Go.Proofs.Y in
theorem CN.rowX{T:Tab}{f:FuncId}{args:List Value}{k:Value->aA->Vc.Own->Prop}{e:TypeId}{v:Value}{n:Nat}{xs:List Value}{acc:List Tr}{h:aA}{X tl:Vc.Own}(g:aE e 7 v n xs X)(kc:KC h xs acc)(hn:n=acc.length)(hf:T.fn f=true)
  (hk:∀h' X' (s:Sl),h.le h'->v=s.val->IsK h' s acc->CN T f args h' (X'++tl) k):CN T f args h (X++tl) k:=by
 obtain⟨g1,⟨rfl,rfl⟩|⟨i,b,cap,zs,rfl,h2,h3,h4⟩⟩:=g
 .obtain rfl:acc=[]:=aZ3.1 hn.symm;exact hk h X ⟨none,0,0⟩ (aA.lr _) rfl (IsK.nil h)
 .have hlt:=(aY5.1 h2).1;refine CN.keep i (by rw[aZe hlt];exact h2) hf fun hle=>?_
  rw[bCb hlt];exact hk _ _ ⟨some ⟨b,0,none⟩,n,cap⟩ hle rfl (IsK.put hle kc hn h3)
end Go.Vc
namespace Go.Proofs.Y
open Go Go.Vc Go.Dig
theorem qR{q:Rat}(h:fits q):Sz 64 q:=⟨h.1,h.2⟩
theorem gW(h:aA)(n:Int)(h1:-9223372036854775808<=n)(h2:n<=9223372036854775807):Fn0 T F.q56 [.int .i64 n] h fun v h'=>VE h' v (mkL (n:Rat)):=by
 have hf:=pJ n h1 h2;have c1:=fun h=>nX h n h1 h2
 have c2:=fun h a b w=>yL h a b (n:Rat) w (gZ hf)
 obtain⟨q,hq⟩:=AE (n:Rat);rw[<-hq] at hf ⊢;simp only[<-hq] at c1 c2;clear hq;refine f0C ok D.q56 rfl ?_;conv=>whnf
 repeat' ((first|(show LdN _ _ _ _ _;first|refine LdN.oA 0 rfl rfl ?_|refine LdN.oA 1 rfl rfl ?_)|(show CN _ _ _ _ _ _;first|(refine CN.f rfl (c1 _) (fun v h' hl2 hr=>?_);obtain⟨s1,t1,rfl,hq1⟩:=hr)|(refine CN.f rfl (c2 _ _ _ Ab) (fun v h' hl2 hr=>?_);obtain⟨_,tt,bb,rfl,⟨op9,ar9,ng9,nn9,dd9,nm9,ss9,rfl,hE9⟩,t1,t2⟩:=hr))|((first|apply oI.z|apply cI.z))|intro (_:Nat)|(show Sto _ _ _ _;first|refine Sto.l 0 rfl rfl rfl ?_|refine Sto.l 1 rfl rfl rfl ?_))<;>conv=>whnf)
 all_goals
  have e:tt=mkL q:=by
   cases bb with
   | true=>exact (t1 rfl).2
   | false=>exact absurd hf (t2 rfl)
  subst e;exact RN.a ⟨op9,ar9,ng9,nn9,dd9,nm9,ss9,rfl,hE9⟩
def OpX(h:aA)(t:Tr)(n:Bool)(c d:Sl)(bb:Bool):Prop:=(bb=true->∃q,bU t=some q/\n=sg q/\bV h c d q)/\(bb=false->bU t=none)
theorem OpX.mono{h h':aA}{t:Tr}{n:Bool}{c d:Sl}{bb:Bool}(w:OpX h t n c d bb)(hl:h.le h'):OpX h' t n c d bb:=⟨fun e=>by
  obtain⟨q,h1,h2,h3⟩:=w.1 e;exact⟨q,h1,h2,h3.mono hl⟩,w.2⟩
theorem tG(t:Tr)(hok:okG t)(h:aA)(tb:Tb h)(op1 ar1:Int)(ng1:Bool)(nn1 dd1:Sl)(nm1:List Nat)(ss1:Sl)(w:IsE h [.int .i64 op1,.int .i64 ar1,.bool ng1,nn1.val,dd1.val,.string (txt nm1),ss1.val] t):Fn0 T F.q104 [.agg [.int .i64 op1,.int .i64 ar1,.bool ng1,nn1.val,dd1.val,.string (txt nm1),ss1.val].toArray] h fun v h'=>∃n,∃c d:Sl,∃bb,v=.agg #[.int .i64 op1,.int .i64 ar1,.bool ng1,nn1.val,dd1.val,.string (txt nm1),ss1.val,.bool n,c.val,d.val,.bool bb]/\OpX h' t n c d bb:=by
 have c1:=fun h tb w=>uC t hok h [.int .i64 op1,.int .i64 ar1,.bool ng1,nn1.val,dd1.val,.string (txt nm1),ss1.val] tb w
 refine f0C ok D.q104 rfl ?_;conv=>whnf
 repeat' ((first|(show LdN _ _ _ _ _;first|refine LdN.oA 0 rfl rfl ?_|refine LdN.oA 1 rfl rfl ?_|refine LdN.oA 2 rfl rfl ?_)|(show CN _ _ _ _ _ _;(refine CN.f rfl (c1 _ Ab Ab) (fun v h' hl2 hr=>?_);obtain⟨n5,c5,d5,bb5,rfl,t1,t2⟩:=hr))|((first|apply oI.z|apply cI.z))|intro (_:Nat)|(show Sto _ _ _ _;first|refine Sto.l 0 rfl rfl rfl ?_|refine Sto.l 1 rfl rfl rfl ?_))<;>conv=>whnf)
 all_goals exact RN.a ⟨n5,c5,d5,bb5,rfl,fun x=>by obtain⟨q,y1,-,y2,y3⟩:=t1 x;exact⟨q,y1,y2,y3⟩,t2⟩
theorem cK(t:Tr)(hok:okG t)(h:aA)(op1 ar1:Int)(ng1:Bool)(nn1 dd1:Sl)(nm1:List Nat)(ss1:Sl)(n1:Bool)(c1 d1:Sl)(bb1:Bool)(x:OpX h t n1 c1 d1 bb1)(n:Int)(hn1:-1<=n)(hn2:n<=1):
  Fn0 T F.q109 [.agg #[.int .i64 op1,.int .i64 ar1,.bool ng1,nn1.val,dd1.val,.string (txt nm1),ss1.val,.bool n1,c1.val,d1.val,.bool bb1],.int .i64 n] h fun v h'=>v=.bool (dec (bU t=some (n:Rat))):=by
 obtain⟨x1,x2⟩:=x;have k1:=fun h=>nX h n Aa Aa
 have hfn:=pJ n Aa Aa;obtain⟨N,hN⟩:=AE (n:Rat);rw[<-hN] at hfn ⊢;simp only[<-hN] at k1;clear hN;cases bb1 with
 | false=>
  have e:=x2 rfl;rw[aG (by rw[e];simp)];refine f0C ok D.q109 rfl ?_;conv=>whnf
  repeat' ((first|((first|apply oI.z|apply cI.z))|intro (_:Nat)|refine Ld.o 0 rfl rfl ?_|refine DrN.run Al ?_)<;>conv=>whnf)
  all_goals exact RN.a rfl
 | true=>
  obtain⟨q,e,rfl,hq⟩:=x1 rfl;have hfq:=jR hok e;have k2:=fun h s t w' w=>aHw h c1 d1 s t q N w w' (gZ hfq) (gZ hfn)
  have fin:eq (gK q N) 0=dec (bU t=some N):=by
   rw[jE];exact cA (aBn.trans ⟨fun z=>by rw[e,z],fun z=>Option.some.inj (e.symm.trans z)⟩)
  obtain⟨C,hC⟩:=AE (gK q N);simp only[<-hC] at k2 fin;rw[<-fin];clear fin hC x1 x2;refine f0C ok D.q109 rfl ?_;conv=>whnf
  repeat' ((first|(show LdN _ _ _ _ _;refine LdN.oA 0 rfl rfl ?_)|(show CN _ _ _ _ _ _;first|(refine CN.f rfl (k1 _) (fun v h' hl2 hr=>?_);obtain⟨s5,t5,rfl,hq5⟩:=hr)|(refine CN.f rfl (k2 _ _ _ Ab Aw) (fun v h' hl2 hr=>?_);subst hr))|((first|apply oI.z|apply cI.z))|refine⟨fun _=>aF.o Ab,?_⟩|intro (_:Nat)|refine Ld.o 0 rfl rfl ?_|refine DrN.run Al ?_)<;>conv=>whnf)
  all_goals exact RN.a rfl
theorem aK5.yes{h:aA}{v:Value}{q:Rat}(w:aK5 h v (some q)):∃c d:Sl,v=.tuple #[.agg #[.bool (sg q),c.val,d.val],.bool true]/\bV h c d q:=by
 obtain⟨n,c,d,bb,rfl,t1,t2⟩:=w;cases bb with
 | true=>obtain⟨q',y1,-,rfl,y3⟩:=t1 rfl;cases y1;exact⟨c,d,rfl,y3⟩
 | false=>cases t2 rfl
theorem aK5.no{h:aA}{v:Value}(w:aK5 h v none):∃n,∃c d:Sl,v=.tuple #[.agg #[.bool n,c.val,d.val],.bool false]:=by
 obtain⟨n,c,d,bb,rfl,t1,t2⟩:=w;cases bb with
 | true=>obtain⟨q',y1,-⟩:=t1 rfl;cases y1
 | false=>exact⟨n,c,d,rfl⟩
theorem aL3.yes{h:aA}{v:Value}{q:Rat}(w:aL3 h v q)(hf:fits q):∃a,v=.tuple #[a,.bool true]/\VE h a (mkL q):=by
 obtain⟨a,tt,b,rfl,ve,t1,t2⟩:=w;cases b with
 | true=>obtain⟨-,rfl⟩:=t1 rfl;exact⟨a,rfl,ve⟩
 | false=>exact absurd hf (t2 rfl)
theorem aL3.no{h:aA}{v:Value}{q:Rat}(w:aL3 h v q)(hf:¬fits q):∃a tt,v=.tuple #[a,.bool false]/\VE h a tt:=by
 obtain⟨a,tt,b,rfl,ve,t1,t2⟩:=w;cases b with
 | true=>exact absurd (t1 rfl).1 hf
 | false=>exact⟨a,tt,rfl,ve⟩
theorem oN(t:Tr)(hok:okG t)(arg:Int)(neg:Bool)(l m name:List Nat)(h:aA)(vs:List Value)(tb:Tb h)(w:IsE h vs (.mk 4 arg neg l m name [t])):Fn0 T F.q50 [.agg vs.toArray] h fun v h'=>VE h' v (oH (.mk 4 arg neg l m name [t]) t):=by
 obtain⟨a,b,s,rfl,ho,ha,hv,hb,hk⟩:=w.isK;have hkl:s.l=1:=hk.len;have c1:=fun h vs tb w=>uC t hok h vs tb w
 cases hX:bU t with
 | some q=>
  have r1:oH (.mk 4 arg neg l m name [t]) t=mkL (-q):=by rw[oH,hX]
  have hfq:=jR hok hX;simp only[hX] at c1;rw[r1];have c1:=fun h vs tb w=>(c1 h vs tb w).mono fun v h' _ r=>r.yes
  have c2:=fun h c d w=>kC h c d q w ((gZ hfq).mono Ag)
  have c3:=fun h c d (w:bV h c d q)=>(yL h c d (-q) (yB w) (aCm (gZ hfq))).mono fun v h' _ r=>r.yes (nK hfq)
  obtain⟨P,hP⟩:=AE (-q);simp only[<-hP] at c2 c3 ⊢;clear hP r1;obtain⟨bl3,off3,op3,ar3,ng3,nn3,dd3,nm3,ss3,hE3,hld3,hln3,hix3⟩:=hk.kidP 0 _ rfl;refine f0C ok D.q50 rfl ?_;conv=>whnf
  repeat' ((first|(apply aO.go)|(show LdN _ _ _ _ _;first|refine LdN.oA 0 rfl rfl ?_|refine LdN.oA 2 rfl rfl ?_|(refine LdN.hasN [.int .i64 op3,.int .i64 ar3,.bool ng3,nn3.val,dd3.val,.string (txt nm3),ss3.val] rfl (fun i v hv=>hld3 _ _ i v Ad hv) ?_))|refine hix3 _ _ rfl ?_|((first|apply oI.z|apply cI.z))|intro (_:Nat)|(show CN _ _ _ _ _ _;first|(refine CN.f rfl (c1 _ _ Ab Ab) (fun v h' hl2 hr=>?_);obtain⟨c5,d5,rfl,hq5⟩:=hr)|refine CN.quiet rfl (c2 _ _ _ Ab) ?_|(refine CN.f rfl (c3 _ _ _ Ab) (fun v h' hl2 hr=>?_);obtain⟨_,rfl,op9,ar9,ng9,nn9,dd9,nm9,ss9,rfl,hE9⟩:=hr))|refine Ld.o 1 rfl rfl ?_|(show Sto _ _ _ _;first|refine Sto.l 0 rfl rfl rfl ?_|refine Sto.l 2 rfl rfl rfl ?_))<;>conv=>whnf)
  all_goals exact RN.a ⟨op9,ar9,ng9,nn9,dd9,nm9,ss9,rfl,hE9⟩
 | none=>
  have r2:jL t->oH (.mk 4 arg neg l m name [t]) t=zA t:=fun x=>by rw[oH,hX];exact if_pos x
  have r3:¬jL t->oH (.mk 4 arg neg l m name [t]) t=.mk 4 arg neg l m name [t]:=fun x=>by rw[oH,hX];exact if_neg x
  simp only[hX] at c1;have c1:=fun h vs tb w=>(c1 h vs tb w).mono fun v h' _ r=>r.no
  by_cases hn:jL t
  .obtain⟨k,ng',l',m',nm',ar',rfl,e2,hkk⟩:=lL hok hn;rw[r2 hn,e2];clear r2 r3 hn e2;obtain⟨bl3,off3,op3,ar3,ng3,nn3,dd3,nm3,ss3,hE3,hld3,hln3,hix3⟩:=hk.kidP 0 _ rfl;obtain⟨e31,-,-,hv3,-,-,hk3⟩:=hE3.inv;have hkl3:ss3.l=1:=hk3.len;obtain⟨bl5,off5,op5,ar5,ng5,nn5,dd5,nm5,ss5,hE5,hld5,hln5,hix5⟩:=hk3.kidP 0 _ rfl;refine f0C ok D.q50 rfl ?_;conv=>whnf
   repeat' ((first|(apply aO.go)|(show LdN _ _ _ _ _;first|refine LdN.oA 1 rfl rfl ?_|(refine LdN.hasN [.int .i64 op3,.int .i64 ar3,.bool ng3,nn3.val,dd3.val,.string (txt nm3),ss3.val] rfl (fun i v hv=>hld3 _ _ i v Ad hv) ?_)|refine LdN.hasN [.int .i64 op5,.int .i64 ar5,.bool ng5,nn5.val,dd5.val,.string (txt nm5),ss5.val] rfl (fun i v hv=>hld5 _ _ i v Ab hv) ?_)|refine hix3 _ _ rfl ?_|refine hix5 _ _ rfl ?_|((first|apply oI.z|apply cI.z))|intro (_:Nat)|(show Ld _ _ _ _;first|(refine Ld.of (hld3 _ _ 0 _ Ad rfl) ?_)|(refine Ld.of (hld3 _ _ 6 _ Ad rfl) ?_)|refine Ld.o 1 rfl rfl ?_|refine Ld.o 2 rfl rfl ?_)|(show CN _ _ _ _ _ _;(refine CN.f rfl (c1 _ _ Ab Ab) (fun v h' hl2 hr=>?_);obtain⟨n5,c5,d5,rfl⟩:=hr))|(show Sto _ _ _ _;first|refine Sto.l 0 rfl rfl rfl ?_|refine Sto.l 1 rfl rfl rfl ?_)|(apply aD<;>intro _<;>try (exfalso;omega)))<;>conv=>whnf)
   all_goals exact RN.a ⟨op5,ar5,ng5,nn5,dd5,nm5,ss5,rfl,Af⟩
  .rw[r3 hn];obtain⟨bl3,off3,op3,ar3,ng3,nn3,dd3,nm3,ss3,hE3,hld3,hln3,hix3⟩:=hk.kidP 0 _ rfl;have hne:op3≠4:=by
    obtain⟨o,ar',ng',l',m',nm',ks'⟩:=t;obtain⟨rfl,-⟩:=hE3.inv;exact hn
   clear r2 r3 hn;refine f0C ok D.q50 rfl ?_;conv=>whnf
   repeat' ((first|(apply aO.go)|(show LdN _ _ _ _ _;first|refine LdN.oA 1 rfl rfl ?_|refine LdN.oA 2 rfl rfl ?_|(refine LdN.hasN [.int .i64 op3,.int .i64 ar3,.bool ng3,nn3.val,dd3.val,.string (txt nm3),ss3.val] rfl (fun i v hv=>hld3 _ _ i v Ad hv) ?_))|refine hix3 _ _ rfl ?_|((first|apply oI.z|apply cI.z))|intro (_:Nat)|(show Ld _ _ _ _;first|(refine Ld.of (hld3 _ _ 0 _ Ad rfl) ?_)|refine Ld.o 1 rfl rfl ?_|refine Ld.o 2 rfl rfl ?_)|(show CN _ _ _ _ _ _;(refine CN.f rfl (c1 _ _ Ab Ab) (fun v h' hl2 hr=>?_);obtain⟨n5,c5,d5,rfl⟩:=hr))|(show Sto _ _ _ _;first|refine Sto.l 0 rfl rfl rfl ?_|refine Sto.l 1 rfl rfl rfl ?_)|(apply aD<;>intro _<;>try (exfalso;omega)))<;>conv=>whnf)
   all_goals exact RN.a ⟨4,arg,neg,a,b,name,s,rfl,Af⟩
theorem aUa{q:Rat}(h:fits q){n:Int}(h1:-32<=n)(h2:n<=32)(h0:n<0->nu q≠0):Sz 1073741824 (lN q n):=by
 unfold lN
 split
 .exact (Sz.pow (Sz.inv (qR h) (h0 Ab)) Aa).mono Ag
 .exact (Sz.pow (qR h) Aa).mono Ag
theorem aL5(t:Tr)(hok:okG t)(arg:Int)(ha1:-32<=arg)(ha2:arg<=32)(neg:Bool)(l m name:List Nat)(h:aA)(vs:List Value)(tb:Tb h)(w:IsE h vs (.mk 9 arg neg l m name [t])):Fn0 T F.q51 [.agg vs.toArray] h fun v h'=>VE h' v (pU (.mk 9 arg neg l m name [t]) arg t):=by
 obtain⟨a,b,s,rfl,ho,ha,hv,hb,hk⟩:=w.isK;have hkl:s.l=1:=hk.len;have c1:=fun h vs tb w=>uC t hok h vs tb w
 have r1:∀q,uD arg t=some q->pU (.mk 9 arg neg l m name [t]) arg t=mkL q:=fun q e=>by rw[pU,e]
 have r2:uD arg t=none->arg=0->pU (.mk 9 arg neg l m name [t]) arg t=mkL 1:=fun e x=>by rw[pU,e];exact if_pos x
 have r3:uD arg t=none->arg=1->pU (.mk 9 arg neg l m name [t]) arg t=t:=fun e x=>by rw[pU,e];exact (if_neg Aa).trans (if_pos x)
 have r4:uD arg t=none->arg≠0->arg≠1->pU (.mk 9 arg neg l m name [t]) arg t=.mk 9 arg neg l m name [t]:=fun e x y=>by rw[pU,e];exact (if_neg x).trans (if_neg y)
 have w1:=fun h=>gW h 1 Ag Ag
 simp only[uT] at w1;obtain⟨bl3,off3,op3,ar3,ng3,nn3,dd3,nm3,ss3,hE3,hld3,hln3,hix3⟩:=hk.kidP 0 _ rfl;cases hX:bU t with
 | none=>
  have p3:uD arg t=none:=by unfold uD;rw[hX];rfl
  replace r2:=r2 p3;replace r3:=r3 p3;replace r4:=r4 p3;simp only[hX] at c1;have c1:=fun h vs tb w=>(c1 h vs tb w).mono fun v h' _ r=>r.no
  obtain⟨R,hR⟩:=AE (pU (.mk 9 arg neg l m name [t]) arg t);rw[<-hR] at r2 r3 r4 ⊢;replace r2:=Hq.mk r2;replace r3:=Hq.mk r3;replace r4:=Hq.mk r4;clear hR r1;refine f0C ok D.q51 rfl ?_;conv=>whnf
  repeat' ((first|(apply aO.go)|(show LdN _ _ _ _ _;first|refine LdN.oA 1 rfl rfl ?_|refine LdN.oA 2 rfl rfl ?_|(refine LdN.hasN [.int .i64 op3,.int .i64 ar3,.bool ng3,nn3.val,dd3.val,.string (txt nm3),ss3.val] rfl (fun i v hv=>hld3 _ _ i v Ad hv) ?_))|refine hix3 _ _ rfl ?_|((first|apply oI.z|apply cI.z))|intro (_:Nat)|(show CN _ _ _ _ _ _;first|(refine CN.f rfl (c1 _ _ Ab Ab) (fun v h' hl2 hr=>?_);obtain⟨n5,c5,d5,rfl⟩:=hr)|(refine CN.f rfl (w1 _) (fun v h' hl2 hr=>?_);obtain⟨op7,ar7,ng7,nn7,dd7,nm7,ss7,rfl,hE7⟩:=hr))|(show Ld _ _ _ _;first|refine Ld.o 1 rfl rfl ?_|refine Ld.o 2 rfl rfl ?_)|(show Sto _ _ _ _;first|refine Sto.l 0 rfl rfl rfl ?_|refine Sto.l 1 rfl rfl rfl ?_)|(apply aD<;>intro _<;>try (exfalso;omega)))<;>conv=>whnf)
  all_goals first
   | (rw[r2.out Aa];exact RN.a ⟨op7,ar7,ng7,nn7,dd7,nm7,ss7,rfl,hE7⟩)
   | (rw[r3.out Aa];exact RN.a ⟨op3,ar3,ng3,nn3,dd3,nm3,ss3,rfl,Af⟩)
   | (rw[r4.out Aa Aa];exact RN.a ⟨9,arg,neg,a,b,name,s,rfl,Af⟩)
 | some q=>
  have hfq:=jR hok hX;have p1:¬(arg<0/\bY q=0)->uD arg t=gU (lN q arg):=fun x=>by
   unfold uD;rw[hX];exact if_neg fun z=>x ⟨z.1,fC.2 (dS.2 z.2)⟩
  have p2:arg<0->bY q=0->uD arg t=none:=fun x y=>by
   unfold uD;rw[hX];exact if_pos ⟨x,dS.1 (fC.1 y)⟩
  simp only[hX] at c1;have c1:=fun h vs tb w=>(c1 h vs tb w).mono fun v h' _ r=>r.yes
  have zz:¬(arg<0/\bY q=0)->Sz 1073741824 (lN q arg):=fun x=>aUa hfq ha1 ha2 fun y z=>x ⟨y,fC.2 z⟩
  have pr:∀h' c d,¬arg<0->bV h' c d q->Fn0 T F.q103 [.agg #[.bool (sg q),Sl.val c,Sl.val d],.int .i64 arg] h' fun v h'=>∃s t:Sl,v=.agg #[.bool (sg (lN q arg)),s.val,t.val]/\bV h' s t (lN q arg):=fun h' c d x w=>by
   have:=aBt h' c d q arg arg.toNat Aa w ((qR hfq).mono Ag) Aa;rw[show q^arg.toNat=lN q arg from (if_neg x:lN q arg=_).symm] at this;exact this
  have pi:∀h' c d,arg<0->bY q≠0->bV h' d c q->Fn0 T F.q103 [.agg #[.bool (sg q⁻¹),Sl.val c,Sl.val d],.int .i64 (0-arg)] h' fun v h'=>∃s t:Sl,v=.agg #[.bool (sg (lN q arg)),s.val,t.val]/\bV h' s t (lN q arg):=fun h' c d x y w=>by
   have h0:nu q≠0:=fun z=>y (fC.2 z)
   have:=aBt h' c d q⁻¹ (0-arg) (-arg).toNat Aa ⟨by rw[rG q h0];exact w.den,by rw[den_inv q h0];exact w.num⟩ ((Sz.inv (qR hfq) h0).mono Ag) Aa
   rw[show q⁻¹^(-arg).toNat=lN q arg from (if_pos x:lN q arg=_).symm] at this;exact this
  have sn:=fun h' c d w=>qG h' c d q w ((qR hfq).mono Ag)
  have iv:=fun h' c d w (x:bY q≠0)=>kZ h' c d q w fun y=>x (fC.2 y)
  have li:=fun h' c d w x=>yL h' c d (lN q arg) w (zz x)
  obtain⟨Sg,hSg⟩:=AE (bY q);obtain⟨P,hP⟩:=AE (lN q arg);obtain⟨I,hI⟩:=AE (q⁻¹);obtain⟨V,hV⟩:=AE (uD arg t);obtain⟨R,hR⟩:=AE (pU (.mk 9 arg neg l m name [t]) arg t);simp only[<-hSg] at p1 p2 pi sn iv li;simp only[<-hP] at p1 pr pi li;simp only[<-hI] at pi iv;simp only[<-hV,<-hR] at r1 r2 r3 r4;simp only[<-hV] at p1 p2;rw[<-hR];have y1:¬(arg<0/\Sg=0)->fits P->R=mkL P:=fun x z=>r1 P ((p1 x).trans (if_pos z))
  have y2:¬(arg<0/\Sg=0)->¬fits P->V=none:=fun x z=>(p1 x).trans (if_neg z)
  replace r2:=Hq.mk r2;replace r3:=Hq.mk r3;replace r4:=Hq.mk r4;replace p2:=Hq.mk p2;replace y1:=Hq.mk y1;replace y2:=Hq.mk y2;clear hSg hP hI hV hR r1 p1 zz;by_cases hfp:fits P
  .have li:=fun h' c d w x=>(li h' c d w x).mono fun v h' _ r=>r.yes hfp
   refine f0C ok D.q51 rfl ?_;conv=>whnf
   repeat' first|((first|(apply aO.go)|(show LdN _ _ _ _ _;first|refine LdN.oA 0 rfl rfl ?_|refine LdN.oA 1 rfl rfl ?_|refine LdN.oA 2 rfl rfl ?_|(refine LdN.hasN [.int .i64 op3,.int .i64 ar3,.bool ng3,nn3.val,dd3.val,.string (txt nm3),ss3.val] rfl (fun i v hv=>hld3 _ _ i v Ad hv) ?_))|refine hix3 _ _ rfl ?_|((first|apply oI.z|apply cI.z))|intro (_:Nat)|(show CN _ _ _ _ _ _;first|(refine CN.f rfl (c1 _ _ Ab Ab) (fun v h' hl2 hr=>?_);obtain⟨c5,d5,rfl,hq5⟩:=hr)|refine CN.quiet rfl (sn _ _ _ Ab) ?_|refine CN.quiet rfl (iv _ _ _ Ab Aa) ?_|(refine CN.f rfl (pr _ _ _ Aa Ab) (fun v h' hl2 hr=>?_);obtain⟨s7,t7,rfl,hq7⟩:=hr)|(refine CN.f rfl (pi _ _ _ Aa Aa Ab) (fun v h' hl2 hr=>?_);obtain⟨s7,t7,rfl,hq7⟩:=hr)|(refine CN.f rfl (li _ _ _ Ab Aa) (fun v h' hl2 hr=>?_);obtain⟨_,rfl,op9,ar9,ng9,nn9,dd9,nm9,ss9,rfl,hE9⟩:=hr))|refine WN.i64 Aa Aa ?_|(show Ld _ _ _ _;first|refine Ld.o 1 rfl rfl ?_|refine Ld.o 2 rfl rfl ?_)|(show Sto _ _ _ _;first|refine Sto.l 0 rfl rfl rfl ?_|refine Sto.l 1 rfl rfl rfl ?_|refine Sto.l 2 rfl rfl rfl ?_))<;>conv=>whnf)|(show cnd _ _ _;first|((first|apply aB|apply bH|apply aD)<;>intro _<;>first|(exfalso;omega)|conv=>whnf)|(refine aI ?_))
   all_goals first
    | (rw[y1.out Aa hfp];exact RN.a ⟨op9,ar9,ng9,nn9,dd9,nm9,ss9,rfl,hE9⟩)
    | (rw[r2.out (p2.out Aa Aa) Aa];exact RN.a ⟨op7,ar7,ng7,nn7,dd7,nm7,ss7,rfl,hE7⟩)
    | (rw[r3.out (p2.out Aa Aa) Aa];exact RN.a ⟨op3,ar3,ng3,nn3,dd3,nm3,ss3,rfl,Ab⟩)
    | (rw[r4.out (p2.out Aa Aa) Aa Aa];exact RN.a ⟨9,arg,neg,a,b,name,s,rfl,Af⟩)
  .have li:=fun h' c d w x=>(li h' c d w x).mono fun v h' _ r=>r.no hfp
   have y3:Hq (V=none):=⟨by
     by_cases z:arg<0/\Sg=0
     .exact p2.out z.1 z.2
     .exact y2.out z hfp⟩
   refine f0C ok D.q51 rfl ?_;conv=>whnf
   repeat' first|((first|(apply aO.go)|(show LdN _ _ _ _ _;first|refine LdN.oA 0 rfl rfl ?_|refine LdN.oA 1 rfl rfl ?_|refine LdN.oA 2 rfl rfl ?_|refine LdN.oA 3 rfl rfl ?_|(refine LdN.hasN [.int .i64 op3,.int .i64 ar3,.bool ng3,nn3.val,dd3.val,.string (txt nm3),ss3.val] rfl (fun i v hv=>hld3 _ _ i v Ap hv) ?_))|refine hix3 _ _ rfl ?_|((first|apply oI.z|apply cI.z))|intro (_:Nat)|(show CN _ _ _ _ _ _;first|(refine CN.f rfl (c1 _ _ Ab Ab) (fun v h' hl2 hr=>?_);obtain⟨c5,d5,rfl,hq5⟩:=hr)|refine CN.quiet rfl (sn _ _ _ Ab) ?_|refine CN.quiet rfl (iv _ _ _ Ab Aa) ?_|(refine CN.f rfl (pr _ _ _ Aa Ab) (fun v h' hl2 hr=>?_);obtain⟨s7,t7,rfl,hq7⟩:=hr)|(refine CN.f rfl (pi _ _ _ Aa Aa Ab) (fun v h' hl2 hr=>?_);obtain⟨s7,t7,rfl,hq7⟩:=hr)|(refine CN.f rfl (li _ _ _ Ab Aa) (fun v h' hl2 hr=>?_);obtain⟨_,tt,rfl,op9,ar9,ng9,nn9,dd9,nm9,ss9,rfl,hE9⟩:=hr)|(refine CN.f rfl (w1 _) (fun v h' hl2 hr=>?_);obtain⟨op7,ar7,ng7,nn7,dd7,nm7,ss7,rfl,hE7⟩:=hr))|refine WN.i64 Aa Aa ?_|(show Ld _ _ _ _;first|refine Ld.o 1 rfl rfl ?_|refine Ld.o 2 rfl rfl ?_|refine Ld.o 3 rfl rfl ?_)|(show Sto _ _ _ _;first|refine Sto.l 0 rfl rfl rfl ?_|refine Sto.l 1 rfl rfl rfl ?_|refine Sto.l 2 rfl rfl rfl ?_))<;>conv=>whnf)|(show cnd _ _ _;first|((first|apply aB|apply bH|apply aD)<;>intro _<;>first|(exfalso;omega)|conv=>whnf)|(refine aI ?_))
   all_goals first
    | (rw[r2.out y3.out Aa];exact RN.a ⟨op7,ar7,ng7,nn7,dd7,nm7,ss7,rfl,hE7⟩)
    | (rw[r3.out y3.out Aa];exact RN.a ⟨op3,ar3,ng3,nn3,dd3,nm3,ss3,rfl,Af⟩)
    | (rw[r4.out y3.out Aa Aa];exact RN.a ⟨9,arg,neg,a,b,name,s,rfl,Af⟩)
theorem aQx:((-1:Int):Rat)=-1:=rfl
def nN(op:Int)(q r:Rat):Rat:=if op=5 then q+r else if op=6 then q-r else if op=7 then q*r else q / r

theorem nO(E t u:Tr)(hok1:okG t)(hok2:okG u)(h:aA)(tb:Tb h)(op0 ar0:Int)(ng0:Bool)(nn0 dd0:Sl)(nm0:List Nat)(ss0:Sl)(op1 ar1:Int)(ng1:Bool)(nn1 dd1:Sl)(nm1:List Nat)(ss1:Sl)(n1:Bool)(c1 d1:Sl)(bb1:Bool)(op2 ar2:Int)(ng2:Bool)(nn2 dd2:Sl)(nm2:List Nat)(ss2:Sl)(n2:Bool)(c2 d2:Sl)(bb2:Bool)(hE0:IsE h [.int .i64 op0,.int .i64 ar0,.bool ng0,nn0.val,dd0.val,.string (txt nm0),ss0.val] E)(hE1:IsE h [.int .i64 op1,.int .i64 ar1,.bool ng1,nn1.val,dd1.val,.string (txt nm1),ss1.val] t)(hE2:IsE h [.int .i64 op2,.int .i64 ar2,.bool ng2,nn2.val,dd2.val,.string (txt nm2),ss2.val] u)(x1:OpX h t n1 c1 d1 bb1)(x2:OpX h u n2 c2 d2 bb2):
  Fn0 T F.q106 [.agg #[.int .i64 op0,.int .i64 ar0,.bool ng0,nn0.val,dd0.val,.string (txt nm0),ss0.val],.agg #[.int .i64 op1,.int .i64 ar1,.bool ng1,nn1.val,dd1.val,.string (txt nm1),ss1.val,.bool n1,c1.val,d1.val,.bool bb1],.agg #[.int .i64 op2,.int .i64 ar2,.bool ng2,nn2.val,dd2.val,.string (txt nm2),ss2.val,.bool n2,c2.val,d2.val,.bool bb2]] h fun v h'=>VE h' v (zB E t u):=by
 have q1z:=fun h x=>cK t hok1 h op1 ar1 ng1 nn1 dd1 nm1 ss1 n1 c1 d1 bb1 x 0 Ag Ag
 have q1o:=fun h x=>cK t hok1 h op1 ar1 ng1 nn1 dd1 nm1 ss1 n1 c1 d1 bb1 x 1 Ag Ag
 have q1m:=fun h x=>cK t hok1 h op1 ar1 ng1 nn1 dd1 nm1 ss1 n1 c1 d1 bb1 x (-1) Ag Ag
 have q2z:=fun h x=>cK u hok2 h op2 ar2 ng2 nn2 dd2 nm2 ss2 n2 c2 d2 bb2 x 0 Ag Ag
 have q2o:=fun h x=>cK u hok2 h op2 ar2 ng2 nn2 dd2 nm2 ss2 n2 c2 d2 bb2 x 1 Ag Ag
 simp only[tD] at q1z q2z;simp only[uT] at q1o q2o;simp only[aQx] at q1m;have w0:=fun h=>gW h 0 Ag Ag
 simp only[tD] at w0;have cn:=fun h vs tb w=>oN u hok2 0 false [] [] [] h vs tb w
 have r1:bU t=some 0->zB E t u=u:=fun x=>if_pos x
 have r2:¬bU t=some 0->bU u=some 0->zB E t u=t:=fun x y=>(if_neg x).trans (if_pos y)
 have r3:¬bU t=some 0->¬bU u=some 0->jL u->zB E t u=aH 6 0 [t,zA u]:=fun x y z=>(if_neg x).trans ((if_neg y).trans (if_pos z))
 have r4:¬bU t=some 0->¬bU u=some 0->¬jL u->zB E t u=E:=fun x y z=>(if_neg x).trans ((if_neg y).trans (if_neg z))
 obtain⟨R,hR⟩:=AE (zB E t u);rw[<-hR];simp only[<-hR] at r1 r2 r3 r4;clear hR;by_cases hn:jL u
 .obtain⟨k,ng',l',m',nm',ar',rfl,e2,hkk⟩:=lL hok2 hn;rw[e2] at r3;replace r3:=fun x y=>r3 x y hn
  clear r4 hn e2;obtain⟨e31,-,-,hv3,-,-,hk3⟩:=hE2.inv;have hkl3:ss2.l=1:=hk3.len;obtain⟨bl5,off5,op5,ar5,ng5,nn5,dd5,nm5,ss5,hE5,hld5,hln5,hix5⟩:=hk3.kidP 0 _ rfl;obtain⟨u,hu⟩:=AE (Tr.mk 4 ar' ng' l' m' nm' [k]);simp only[<-hu] at *;refine f0C ok D.q106 rfl ?_;conv=>whnf
  repeat' first|((first|(show DrN _ _ _ _ _ _;refine DrN.own [_,_] Ay Al ?_)|(refine⟨fun _=>⟨aF.o Am,by first|exact List.Sublist.cons _ (List.Sublist.cons_cons _ (List.Sublist.cons_cons _ (bAd _)))|exact List.Sublist.cons _ (List.Sublist.cons _ (List.Sublist.cons_cons _ (List.Sublist.cons_cons _ (bAd _))))⟩,?_⟩)|refine hix5 _ _ rfl ?_|((first|apply oI.z|apply cI.z))|intro (_:Nat)|(show LdN _ _ _ _ _;first|refine LdN.oA 0 rfl rfl ?_|refine LdN.oA 1 rfl rfl ?_|refine LdN.oA 2 rfl rfl ?_|(refine LdN.hasN [.int .i64 op5,.int .i64 ar5,.bool ng5,nn5.val,dd5.val,.string (txt nm5),ss5.val] rfl (fun i v hv=>hld5 _ _ i v Ac hv) ?_))|(show CN _ _ _ _ _ _;first|(refine CN.f rfl (q1z _ (x1.mono Ad)) (fun v h' hl2 hr=>?_);subst hr)|(refine CN.f rfl (q2z _ (x2.mono Ab)) (fun v h' hl2 hr=>?_);subst hr)|(refine CN.keep 0 rfl rfl (fun hl2=>?_);refine CN.f rfl (gV 6 0 Ag Ag [t,k] ⟨some ⟨_,0,none⟩,2,2⟩ _ (IsK.two (hE1.mono Ac) (hE5.mono Ac) rfl rfl hl2)) (fun v h3 hl3 hr=>?_);obtain⟨op8,ar8,ng8,nn8,dd8,nm8,ss8,rfl,hE8⟩:=hr))|(show Ld _ _ _ _;first|refine Ld.o 0 rfl rfl ?_|refine Ld.o 1 rfl rfl ?_)|refine Sto.l 0 rfl rfl rfl ?_)<;>conv=>whnf)|(show cnd _ _ _;first|((first|apply aD|apply aN)<;>intro _<;>first|(exfalso;omega)|conv=>whnf))
  all_goals first
   | (rw[r1 Ab];exact RN.a ⟨op2,ar2,ng2,nn2,dd2,nm2,ss2,rfl,Af⟩)
   | (rw[r2 Ab Ab];exact RN.a ⟨op1,ar1,ng1,nn1,dd1,nm1,ss1,rfl,Af⟩)
   | (rw[r3 Ab Ab];exact RN.a ⟨op8,ar8,ng8,nn8,dd8,nm8,ss8,rfl,hE8⟩)
   | (rw[r4 Ab Ab];exact RN.a ⟨op0,ar0,ng0,nn0,dd0,nm0,ss0,rfl,Ab⟩)
 .replace r4:=fun x y=>r4 x y hn
  have hne:op2≠4:=by
   obtain⟨o,ar',ng',l',m',nm',ks'⟩:=u;obtain⟨rfl,-⟩:=hE2.inv;exact hn
  clear r3 hn;refine f0C ok D.q106 rfl ?_;conv=>whnf
  repeat' first|((first|(show LdN _ _ _ _ _;first|refine LdN.oA 0 rfl rfl ?_|refine LdN.oA 1 rfl rfl ?_|refine LdN.oA 2 rfl rfl ?_|refine LdN.oA 3 rfl rfl ?_)|(show CN _ _ _ _ _ _;first|(refine CN.f rfl (q1z _ (x1.mono Ad)) (fun v h' hl2 hr=>?_);subst hr)|(refine CN.f rfl (q2z _ (x2.mono Ab)) (fun v h' hl2 hr=>?_);subst hr))|((first|apply oI.z|apply cI.z))|intro (_:Nat)|refine Ld.o 1 rfl rfl ?_|refine Sto.l 0 rfl rfl rfl ?_)<;>conv=>whnf)|(show cnd _ _ _;first|((first|apply aD|apply aN)<;>intro _<;>first|(exfalso;omega)|conv=>whnf))
  all_goals first
   | (rw[r1 Ab];exact RN.a ⟨op2,ar2,ng2,nn2,dd2,nm2,ss2,rfl,Af⟩)
   | (rw[r2 Ab Ab];exact RN.a ⟨op1,ar1,ng1,nn1,dd1,nm1,ss1,rfl,Af⟩)
   | (rw[r3 Ab Ab];exact RN.a ⟨op8,ar8,ng8,nn8,dd8,nm8,ss8,rfl,hE8⟩)
   | (rw[r4 Ab Ab];exact RN.a ⟨op0,ar0,ng0,nn0,dd0,nm0,ss0,rfl,Af⟩)
theorem gH(E t u:Tr)(hok1:okG t)(hok2:okG u)(h:aA)(tb:Tb h)(op0 ar0:Int)(ng0:Bool)(nn0 dd0:Sl)(nm0:List Nat)(ss0:Sl)(op1 ar1:Int)(ng1:Bool)(nn1 dd1:Sl)(nm1:List Nat)(ss1:Sl)(n1:Bool)(c1 d1:Sl)(bb1:Bool)(op2 ar2:Int)(ng2:Bool)(nn2 dd2:Sl)(nm2:List Nat)(ss2:Sl)(n2:Bool)(c2 d2:Sl)(bb2:Bool)(hE0:IsE h [.int .i64 op0,.int .i64 ar0,.bool ng0,nn0.val,dd0.val,.string (txt nm0),ss0.val] E)(hE1:IsE h [.int .i64 op1,.int .i64 ar1,.bool ng1,nn1.val,dd1.val,.string (txt nm1),ss1.val] t)(hE2:IsE h [.int .i64 op2,.int .i64 ar2,.bool ng2,nn2.val,dd2.val,.string (txt nm2),ss2.val] u)(x1:OpX h t n1 c1 d1 bb1)(x2:OpX h u n2 c2 d2 bb2):
  Fn0 T F.q107 [.agg #[.int .i64 op0,.int .i64 ar0,.bool ng0,nn0.val,dd0.val,.string (txt nm0),ss0.val],.agg #[.int .i64 op1,.int .i64 ar1,.bool ng1,nn1.val,dd1.val,.string (txt nm1),ss1.val,.bool n1,c1.val,d1.val,.bool bb1],.agg #[.int .i64 op2,.int .i64 ar2,.bool ng2,nn2.val,dd2.val,.string (txt nm2),ss2.val,.bool n2,c2.val,d2.val,.bool bb2]] h fun v h'=>VE h' v (zC E t u):=by
 have q1z:=fun h x=>cK t hok1 h op1 ar1 ng1 nn1 dd1 nm1 ss1 n1 c1 d1 bb1 x 0 Ag Ag
 have q1o:=fun h x=>cK t hok1 h op1 ar1 ng1 nn1 dd1 nm1 ss1 n1 c1 d1 bb1 x 1 Ag Ag
 have q1m:=fun h x=>cK t hok1 h op1 ar1 ng1 nn1 dd1 nm1 ss1 n1 c1 d1 bb1 x (-1) Ag Ag
 have q2z:=fun h x=>cK u hok2 h op2 ar2 ng2 nn2 dd2 nm2 ss2 n2 c2 d2 bb2 x 0 Ag Ag
 have q2o:=fun h x=>cK u hok2 h op2 ar2 ng2 nn2 dd2 nm2 ss2 n2 c2 d2 bb2 x 1 Ag Ag
 simp only[tD] at q1z q2z;simp only[uT] at q1o q2o;simp only[aQx] at q1m;have w0:=fun h=>gW h 0 Ag Ag
 simp only[tD] at w0;have cn:=fun h vs tb w=>oN u hok2 0 false [] [] [] h vs tb w
 have r1:bU u=some 0->zC E t u=t:=fun x=>if_pos x
 have r2:¬bU u=some 0->bU t=some 0->zC E t u=oH (aH 4 0 [u]) u:=fun x y=>(if_neg x).trans (if_pos y)
 have r3:¬bU u=some 0->¬bU t=some 0->jL u->zC E t u=aH 5 0 [t,zA u]:=fun x y z=>(if_neg x).trans ((if_neg y).trans (if_pos z))
 have r4:¬bU u=some 0->¬bU t=some 0->¬jL u->zC E t u=E:=fun x y z=>(if_neg x).trans ((if_neg y).trans (if_neg z))
 have r5:True:=trivial;have r6:True:=trivial;obtain⟨R,hR⟩:=AE (zC E t u);rw[<-hR];simp only[<-hR] at r1 r2 r3 r4;clear hR;by_cases hn:jL u
 .obtain⟨k,ng',l',m',nm',ar',rfl,e2,hkk⟩:=lL hok2 hn;rw[e2] at r3;replace r3:=fun x y=>r3 x y hn
  clear r4 hn e2;obtain⟨e31,-,-,hv3,-,-,hk3⟩:=hE2.inv;have hkl3:ss2.l=1:=hk3.len;obtain⟨bl5,off5,op5,ar5,ng5,nn5,dd5,nm5,ss5,hE5,hld5,hln5,hix5⟩:=hk3.kidP 0 _ rfl;obtain⟨u,hu⟩:=AE (Tr.mk 4 ar' ng' l' m' nm' [k]);simp only[<-hu] at *;refine f0C ok D.q107 rfl ?_;conv=>whnf
  repeat' first|((first|(show DrN _ _ _ _ _ _;refine DrN.own [_,_] Ay Al ?_)|(refine⟨fun _=>⟨aF.o Am,by first|exact List.Sublist.cons _ (List.Sublist.cons_cons _ (List.Sublist.cons_cons _ (bAd _)))|exact List.Sublist.cons _ (List.Sublist.cons _ (List.Sublist.cons_cons _ (List.Sublist.cons_cons _ (bAd _))))⟩,?_⟩)|refine hix5 _ _ rfl ?_|((first|apply oI.z|apply cI.z))|intro (_:Nat)|(show LdN _ _ _ _ _;first|refine LdN.oA 0 rfl rfl ?_|refine LdN.oA 1 rfl rfl ?_|refine LdN.oA 2 rfl rfl ?_|(refine LdN.hasN [.int .i64 op5,.int .i64 ar5,.bool ng5,nn5.val,dd5.val,.string (txt nm5),ss5.val] rfl (fun i v hv=>hld5 _ _ i v Ac hv) ?_))|(show CN _ _ _ _ _ _;first|(refine CN.f rfl (q1z _ (x1.mono Ab)) (fun v h' hl2 hr=>?_);subst hr)|(refine CN.f rfl (q2z _ (x2.mono Ad)) (fun v h' hl2 hr=>?_);subst hr)|(refine CN.keep 0 rfl rfl (fun hl2=>?_);refine CN.f rfl (gV 4 0 Ag Ag [u] ⟨some ⟨_,0,none⟩,1,1⟩ _ (IsK.one (hE2.mono Ac) rfl hl2)) (fun v h3 hl3 hr=>?_);obtain⟨op8,ar8,ng8,nn8,dd8,nm8,ss8,rfl,hE8⟩:=hr)|(refine CN.f rfl (cn _ _ Ae hE8) (fun v h' hl2 hr=>?_);obtain⟨op6,ar6,ng6,nn6,dd6,nm6,ss6,rfl,hE6⟩:=hr)|(refine CN.keep 0 rfl rfl (fun hl2=>?_);refine CN.f rfl (gV 5 0 Ag Ag [t,k] ⟨some ⟨_,0,none⟩,2,2⟩ _ (IsK.two (hE1.mono Ac) (hE5.mono Ac) rfl rfl hl2)) (fun v h3 hl3 hr=>?_);obtain⟨op8,ar8,ng8,nn8,dd8,nm8,ss8,rfl,hE8⟩:=hr))|(show Ld _ _ _ _;first|refine Ld.o 0 rfl rfl ?_|refine Ld.o 1 rfl rfl ?_)|refine Sto.l 0 rfl rfl rfl ?_)<;>conv=>whnf)|(show cnd _ _ _;first|((first|apply aD|apply aN)<;>intro _<;>first|(exfalso;omega)|conv=>whnf))
  all_goals first
   | (rw[r1 Ab];exact RN.a ⟨op1,ar1,ng1,nn1,dd1,nm1,ss1,rfl,Af⟩)
   | (rw[r2 Ab Ab];exact RN.a ⟨op6,ar6,ng6,nn6,dd6,nm6,ss6,rfl,hE6⟩)
   | (rw[r3 Ab Ab];exact RN.a ⟨op8,ar8,ng8,nn8,dd8,nm8,ss8,rfl,hE8⟩)
   | (rw[r4 Ab Ab];exact RN.a ⟨op0,ar0,ng0,nn0,dd0,nm0,ss0,rfl,Ab⟩)
 .replace r4:=fun x y=>r4 x y hn
  have hne:op2≠4:=by
   obtain⟨o,ar',ng',l',m',nm',ks'⟩:=u;obtain⟨rfl,-⟩:=hE2.inv;exact hn
  clear r3 hn;refine f0C ok D.q107 rfl ?_;conv=>whnf
  repeat' first|((first|(show LdN _ _ _ _ _;first|refine LdN.oA 0 rfl rfl ?_|refine LdN.oA 1 rfl rfl ?_|refine LdN.oA 2 rfl rfl ?_|refine LdN.oA 3 rfl rfl ?_)|(show CN _ _ _ _ _ _;first|(refine CN.f rfl (q1z _ (x1.mono Ab)) (fun v h' hl2 hr=>?_);subst hr)|(refine CN.f rfl (q2z _ (x2.mono Ad)) (fun v h' hl2 hr=>?_);subst hr)|(refine CN.keep 0 rfl rfl (fun hl2=>?_);refine CN.f rfl (gV 4 0 Ag Ag [u] ⟨some ⟨_,0,none⟩,1,1⟩ _ (IsK.one (hE2.mono Ac) rfl hl2)) (fun v h3 hl3 hr=>?_);obtain⟨op8,ar8,ng8,nn8,dd8,nm8,ss8,rfl,hE8⟩:=hr)|(refine CN.f rfl (cn _ _ Ae hE8) (fun v h' hl2 hr=>?_);obtain⟨op6,ar6,ng6,nn6,dd6,nm6,ss6,rfl,hE6⟩:=hr))|((first|apply oI.z|apply cI.z))|intro (_:Nat)|refine Ld.o 1 rfl rfl ?_|refine Sto.l 0 rfl rfl rfl ?_)<;>conv=>whnf)|(show cnd _ _ _;first|((first|apply aD|apply aN)<;>intro _<;>first|(exfalso;omega)|conv=>whnf))
  all_goals first
   | (rw[r1 Ab];exact RN.a ⟨op1,ar1,ng1,nn1,dd1,nm1,ss1,rfl,Af⟩)
   | (rw[r2 Ab Ab];exact RN.a ⟨op6,ar6,ng6,nn6,dd6,nm6,ss6,rfl,hE6⟩)
   | (rw[r3 Ab Ab];exact RN.a ⟨op8,ar8,ng8,nn8,dd8,nm8,ss8,rfl,hE8⟩)
   | (rw[r4 Ab Ab];exact RN.a ⟨op0,ar0,ng0,nn0,dd0,nm0,ss0,rfl,Af⟩)
theorem gI(E t u:Tr)(hok1:okG t)(hok2:okG u)(h:aA)(tb:Tb h)(op0 ar0:Int)(ng0:Bool)(nn0 dd0:Sl)(nm0:List Nat)(ss0:Sl)(op1 ar1:Int)(ng1:Bool)(nn1 dd1:Sl)(nm1:List Nat)(ss1:Sl)(n1:Bool)(c1 d1:Sl)(bb1:Bool)(op2 ar2:Int)(ng2:Bool)(nn2 dd2:Sl)(nm2:List Nat)(ss2:Sl)(n2:Bool)(c2 d2:Sl)(bb2:Bool)(hE0:IsE h [.int .i64 op0,.int .i64 ar0,.bool ng0,nn0.val,dd0.val,.string (txt nm0),ss0.val] E)(hE1:IsE h [.int .i64 op1,.int .i64 ar1,.bool ng1,nn1.val,dd1.val,.string (txt nm1),ss1.val] t)(hE2:IsE h [.int .i64 op2,.int .i64 ar2,.bool ng2,nn2.val,dd2.val,.string (txt nm2),ss2.val] u)(x1:OpX h t n1 c1 d1 bb1)(x2:OpX h u n2 c2 d2 bb2):
  Fn0 T F.q108 [.agg #[.int .i64 op0,.int .i64 ar0,.bool ng0,nn0.val,dd0.val,.string (txt nm0),ss0.val],.agg #[.int .i64 op1,.int .i64 ar1,.bool ng1,nn1.val,dd1.val,.string (txt nm1),ss1.val,.bool n1,c1.val,d1.val,.bool bb1],.agg #[.int .i64 op2,.int .i64 ar2,.bool ng2,nn2.val,dd2.val,.string (txt nm2),ss2.val,.bool n2,c2.val,d2.val,.bool bb2]] h fun v h'=>VE h' v (uZ E t u):=by
 have q1z:=fun h x=>cK t hok1 h op1 ar1 ng1 nn1 dd1 nm1 ss1 n1 c1 d1 bb1 x 0 Ag Ag
 have q1o:=fun h x=>cK t hok1 h op1 ar1 ng1 nn1 dd1 nm1 ss1 n1 c1 d1 bb1 x 1 Ag Ag
 have q1m:=fun h x=>cK t hok1 h op1 ar1 ng1 nn1 dd1 nm1 ss1 n1 c1 d1 bb1 x (-1) Ag Ag
 have q2z:=fun h x=>cK u hok2 h op2 ar2 ng2 nn2 dd2 nm2 ss2 n2 c2 d2 bb2 x 0 Ag Ag
 have q2o:=fun h x=>cK u hok2 h op2 ar2 ng2 nn2 dd2 nm2 ss2 n2 c2 d2 bb2 x 1 Ag Ag
 simp only[tD] at q1z q2z;simp only[uT] at q1o q2o;simp only[aQx] at q1m;have w0:=fun h=>gW h 0 Ag Ag
 simp only[tD] at w0;have cn:=fun h vs tb w=>oN u hok2 0 false [] [] [] h vs tb w
 have r1:bU t=some 0->uZ E t u=mkL 0:=fun x=>if_pos (.inl x)
 have r2:bU u=some 0->uZ E t u=mkL 0:=fun x=>if_pos (.inr x)
 have r3:¬bU t=some 0->¬bU u=some 0->bU t=some 1->uZ E t u=u:=fun x y z=>(if_neg fun w=>w.elim x y).trans (if_pos z)
 have r4:¬bU t=some 0->¬bU u=some 0->¬bU t=some 1->bU u=some 1->uZ E t u=t:=fun x y z w=>(if_neg fun w=>w.elim x y).trans ((if_neg z).trans (if_pos w))
 have r5:¬bU t=some 0->¬bU u=some 0->¬bU t=some 1->¬bU u=some 1->bU t=some (-1)->uZ E t u=oH (aH 4 0 [u]) u:=fun x y z w v=>(if_neg fun w=>w.elim x y).trans ((if_neg z).trans ((if_neg w).trans (if_pos v)))
 have r6:¬bU t=some 0->¬bU u=some 0->¬bU t=some 1->¬bU u=some 1->¬bU t=some (-1)->uZ E t u=E:=fun x y z w v=>(if_neg fun w=>w.elim x y).trans ((if_neg z).trans ((if_neg w).trans (if_neg v)))
 obtain⟨R,hR⟩:=AE (uZ E t u);rw[<-hR];simp only[<-hR] at r1 r2 r3 r4 r5 r6;clear hR;refine f0C ok D.q108 rfl ?_;conv=>whnf
 repeat' ((first|(show LdN _ _ _ _ _;first|refine LdN.oA 0 rfl rfl ?_|refine LdN.oA 1 rfl rfl ?_|refine LdN.oA 2 rfl rfl ?_|refine LdN.oA 3 rfl rfl ?_)|(show CN _ _ _ _ _ _;first|(refine CN.f rfl (q1z _ (x1.mono Ad)) (fun v h' hl2 hr=>?_);subst hr)|(refine CN.f rfl (q1o _ (x1.mono Ac)) (fun v h' hl2 hr=>?_);subst hr)|(refine CN.f rfl (q1m _ (x1.mono Ac)) (fun v h' hl2 hr=>?_);subst hr)|(refine CN.f rfl (q2z _ (x2.mono Ab)) (fun v h' hl2 hr=>?_);subst hr)|(refine CN.f rfl (q2o _ (x2.mono Ac)) (fun v h' hl2 hr=>?_);subst hr)|(refine CN.keep 0 rfl rfl (fun hl2=>?_);refine CN.f rfl (gV 4 0 Ag Ag [u] ⟨some ⟨_,0,none⟩,1,1⟩ _ (IsK.one (hE2.mono Ac) rfl hl2)) (fun v h3 hl3 hr=>?_);obtain⟨op8,ar8,ng8,nn8,dd8,nm8,ss8,rfl,hE8⟩:=hr)|(refine CN.f rfl (cn _ _ Ae hE8) (fun v h' hl2 hr=>?_);obtain⟨op6,ar6,ng6,nn6,dd6,nm6,ss6,rfl,hE6⟩:=hr)|(refine CN.f rfl (w0 _) (fun v h' hl2 hr=>?_);obtain⟨op7,ar7,ng7,nn7,dd7,nm7,ss7,rfl,hE7⟩:=hr))|((first|apply oI.z|apply cI.z))|intro (_:Nat)|refine Sto.l 0 rfl rfl rfl ?_|(apply aN<;>intro _<;>try (exfalso;omega)))<;>conv=>whnf)
 all_goals first
  | (rw[r1 Ab];exact RN.a ⟨op7,ar7,ng7,nn7,dd7,nm7,ss7,rfl,hE7⟩)
  | (rw[r2 Ab];exact RN.a ⟨op7,ar7,ng7,nn7,dd7,nm7,ss7,rfl,hE7⟩)
  | (rw[r3 Ab Ab Ab];exact RN.a ⟨op2,ar2,ng2,nn2,dd2,nm2,ss2,rfl,Af⟩)
  | (rw[r4 Ab Ab Ab Ab];exact RN.a ⟨op1,ar1,ng1,nn1,dd1,nm1,ss1,rfl,Af⟩)
  | (rw[r5 Ab Ab Ab Ab Ab];exact RN.a ⟨op6,ar6,ng6,nn6,dd6,nm6,ss6,rfl,hE6⟩)
  | (rw[r6 Ab Ab Ab Ab Ab];exact RN.a ⟨op0,ar0,ng0,nn0,dd0,nm0,ss0,rfl,Af⟩)
theorem tH{k:Nat}{q:Rat}(s:Sr k q):Sz k q:=⟨by rw[mA];have:=s.num;omega,by rw[mA];have:=s.den;omega⟩
theorem aQy{op:Int}{q r:Rat}(h:fits q)(h':fits r)(h0:op=8->nu r≠0)(hop:op=5\/op=6\/op=7\/op=8):Sz 1073741824 (nN op q r):=by
 have a:=aUq h;have b:=aUq h';unfold nN
 repeat' split
 .exact (tH (aBs a b)).mono Ag
 .rw[bB2];exact (tH (aBs a (Sr.neg b))).mono Ag
 .exact (tH (aM5 a b)).mono Ag
 .exact (tH (aWu a b (h0 Aa))).mono Ag
theorem aUb(q r:Rat)(fq:fits q)(fr:fits r)(h:aA)(tb:Tb h)(op:Int)(hop:op=5\/op=6\/op=7\/op=8)(h0:op=8->nu r≠0)(a b c d:Sl)(hq:bV h a b q)(hr:bV h c d r):
  Fn0 T F.q105 [.int .i64 op,.agg #[.bool (sg q),a.val,b.val],.agg #[.bool (sg r),c.val,d.val]] h fun v h'=>∃s t:Sl,v=.agg #[.bool (sg (nN op q r)),s.val,t.val]/\bV h' s t (nN op q r):=by
 have r1:op=5->nN op q r=q+r:=fun x=>if_pos x
 have r2:op=6->nN op q r=q+-r:=fun x=>((if_neg Aa).trans (if_pos x)).trans (bB2 q r)
 have r3:op=7->nN op q r=q*r:=fun x=>(if_neg Aa).trans ((if_neg Aa).trans (if_pos x))
 have r4:op=8->nN op q r=q*r⁻¹:=fun x=>((if_neg Aa).trans ((if_neg Aa).trans (if_neg Aa))).trans (bDj q r)
 have s1:=gZ fq;have s2:=gZ fr;have k1:=fun h tb hq hr=>rY h tb a b c d q r hq hr s1 s2
 have k2:=fun h tb hq (hr:bV h c d r)=>rY h tb a b c d q (-r) hq (yB hr) s1 (aCm s2)
 have k3:=fun h tb hq hr=>qH h tb a b c d q r hq hr s1 s2
 have k4:=fun h tb hq (hr:bV h c d r) (x:op=8)=>qH h tb a b d c q r⁻¹ hq ⟨by rw[rG r (h0 x)];exact hr.den,by rw[den_inv r (h0 x)];exact hr.num⟩ s1 ((Sz.inv (qR fr) (h0 x)).mono Ag)
 have k5:=fun h hr=>kC h c d r hr (s2.mono Ag)
 have k6:=fun h hr (x:op=8)=>kZ h c d r hr (h0 x)
 obtain⟨R,hR⟩:=AE (nN op q r);obtain⟨P1,h1⟩:=AE (q+r);obtain⟨P2,h2⟩:=AE (q+-r);obtain⟨P3,h3⟩:=AE (q*r);obtain⟨P4,h4⟩:=AE (q*r⁻¹);obtain⟨M,h5⟩:=AE (-r);obtain⟨I,h6⟩:=AE (r⁻¹);rw[<-hR] at r1 r2 r3 r4 ⊢;simp only[<-h1] at r1 k1;simp only[<-h2] at r2 k2;simp only[<-h3] at r3 k3;simp only[<-h4] at r4 k4;simp only[<-h5] at k2 k5;simp only[<-h6] at k4 k6;replace r1:=Hq.mk r1;replace r2:=Hq.mk r2;replace r3:=Hq.mk r3;replace r4:=Hq.mk r4;clear hR h1 h2 h3 h4 h5 h6 h0;refine f0C ok D.q105 rfl ?_;conv=>whnf
 repeat' ((first|(show DrN _ _ _ _ _ _;refine DrN.own [_,_] Ay Al ?_)|(refine⟨fun _=>⟨aF.o Ax,by repeat first|exact bAd _|apply List.Sublist.cons_cons|apply List.Sublist.cons⟩,?_⟩)|((first|apply oI.z|apply cI.z))|intro (_:Nat)|(show LdN _ _ _ _ _;first|refine LdN.oA 0 rfl rfl ?_|refine LdN.oA 1 rfl rfl ?_|refine LdN.oA 2 rfl rfl ?_)|(show CN _ _ _ _ _ _;first|(refine CN.f rfl (k1 _ Ab Ab Ab) (fun v h' hl2 hr=>?_);obtain⟨s7,t7,rfl,hq7⟩:=hr)|(refine CN.f rfl (k2 _ Ab Ab Ab) (fun v h' hl2 hr=>?_);obtain⟨s7,t7,rfl,hq7⟩:=hr)|(refine CN.f rfl (k3 _ Ab Ab Ab) (fun v h' hl2 hr=>?_);obtain⟨s7,t7,rfl,hq7⟩:=hr)|(refine CN.f rfl (k4 _ Ab Ab Ab Aa) (fun v h' hl2 hr=>?_);obtain⟨s7,t7,rfl,hq7⟩:=hr)|refine CN.quiet rfl (k5 _ Ab) ?_|refine CN.quiet rfl (k6 _ Ab Aa) ?_)|refine Sto.l 0 rfl rfl rfl ?_|(apply aD<;>intro _<;>try (exfalso;omega)))<;>conv=>whnf)
 all_goals first
  | (rw[r1.out Aa];exact RN.a ⟨s7,t7,rfl,hq7⟩)
  | (rw[r2.out Aa];exact RN.a ⟨s7,t7,rfl,hq7⟩)
  | (rw[r3.out Aa];exact RN.a ⟨s7,t7,rfl,hq7⟩)
  | (rw[r4.out Aa];exact RN.a ⟨s7,t7,rfl,hq7⟩)
theorem aFi(t u:Tr)(op arg:Int)(hop:op=5\/op=6\/op=7\/op=8)(neg:Bool)(l m name:List Nat)(hok1:okG t)(hok2:okG u)(h:aA)(vs:List Value)(tb:Tb h)(w:IsE h vs (.mk op arg neg l m name [t,u])):
  Fn0 T F.q52 [.agg vs.toArray] h fun v h'=>VE h' v (lR (.mk op arg neg l m name [t,u]) op t u):=by
 obtain⟨a,b,s,rfl,ho,ha,hv,hb,hk⟩:=w.isK;have hkl:s.l=2:=hk.len;obtain⟨bl1,off1,op1,ar1,ng1,nn1,dd1,nm1,ss1,hE1,hld1,hln1,hix1⟩:=hk.kidP 0 _ rfl;obtain⟨bl2,off2,op2,ar2,ng2,nn2,dd2,nm2,ss2,hE2,hld2,hln2,hix2⟩:=hk.kidP 1 _ rfl;have q1z:=fun h op1 ar1 ng1 nn1 dd1 nm1 ss1 n1 c1 d1 bb1 x=>cK t hok1 h op1 ar1 ng1 nn1 dd1 nm1 ss1 n1 c1 d1 bb1 x 0 Ag Ag
 have q2o:=fun h op2 ar2 ng2 nn2 dd2 nm2 ss2 n2 c2 d2 bb2 x=>cK u hok2 h op2 ar2 ng2 nn2 dd2 nm2 ss2 n2 c2 d2 bb2 x 1 Ag Ag
 have w0:=fun h=>gW h 0 Ag Ag
 simp only[tD] at q1z w0;simp only[uT] at q2o;have oA:=fun h tb w=>tG t hok1 h tb op1 ar1 ng1 nn1 dd1 nm1 ss1 w
 have oB:=fun h tb w=>tG u hok2 h tb op2 ar2 ng2 nn2 dd2 nm2 ss2 w
 have b5:kI op t u=none->op=5->lR (.mk op arg neg l m name [t,u]) op t u=zB (.mk op arg neg l m name [t,u]) t u:=fun e x=>by rw[lR,e];exact if_pos x
 have b6:kI op t u=none->op=6->lR (.mk op arg neg l m name [t,u]) op t u=zC (.mk op arg neg l m name [t,u]) t u:=fun e x=>by rw[lR,e];exact (if_neg Aa).trans (if_pos x)
 have b7:kI op t u=none->op=7->lR (.mk op arg neg l m name [t,u]) op t u=uZ (.mk op arg neg l m name [t,u]) t u:=fun e x=>by rw[lR,e];exact (if_neg Aa).trans ((if_neg Aa).trans (if_pos x))
 have b8:kI op t u=none->op=8->lR (.mk op arg neg l m name [t,u]) op t u=aTm (.mk op arg neg l m name [t,u]) t u:=fun e x=>by rw[lR,e];exact (if_neg Aa).trans ((if_neg Aa).trans (if_neg Aa))
 have b81:kI op t u=none->op=8->bU t=some 0->lR (.mk op arg neg l m name [t,u]) op t u=mkL 0:=fun e x y=>(b8 e x).trans (if_pos y)
 have b82:kI op t u=none->op=8->¬bU t=some 0->bU u=some 1->lR (.mk op arg neg l m name [t,u]) op t u=t:=fun e x y z=>(b8 e x).trans ((if_neg y).trans (if_pos z))
 have b83:kI op t u=none->op=8->¬bU t=some 0->¬bU u=some 1->lR (.mk op arg neg l m name [t,u]) op t u=.mk op arg neg l m name [t,u]:=fun e x y z=>(b8 e x).trans ((if_neg y).trans (if_neg z))
 have bf:∀q,kI op t u=some q->lR (.mk op arg neg l m name [t,u]) op t u=mkL q:=fun q e=>by rw[lR,e]
 obtain⟨R,hR⟩:=AE (lR (.mk op arg neg l m name [t,u]) op t u);rw[<-hR];simp only[<-hR] at b5 b6 b7 b81 b82 b83 bf;clear hR b8;refine f0C ok D.q52 rfl ?_
 repeat' first|(refine cI.seqN (a:=.region 1 _ _) ?_)|((first|apply oI.z|apply cI.z);conv=>whnf)|(intro (_:Nat);conv=>whnf)
 rename_i bx by_;refine aO.cut (fun ρ h' L'=>∃(b3 b4:Nat) (n1:Bool) (c1 d1:Sl) (bb1:Bool) (n2:Bool) (c2 d2:Sl) (bb2:Bool),rd ρ 3=.pointer (some { block:=b3,off:=0 })/\rd ρ 4=.pointer (some { block:=b4,off:=0 })/\h.le h'/\OpX h' t n1 c1 d1 bb1/\OpX h' u n2 c2 d2 bb2/\(L'=(b4,.cells [.int .i64 op2,.int .i64 ar2,.bool ng2,nn2.val,dd2.val,.string (txt nm2),ss2.val,.bool n2,c2.val,d2.val,.bool bb2].toArray Ty.expr_operand (0,0))::(b3,.cells [.int .i64 op1,.int .i64 ar1,.bool ng1,nn1.val,dd1.val,.string (txt nm1),ss1.val,.bool n1,c1.val,d1.val,.bool bb1].toArray Ty.expr_operand (0,0))::[(by_,.cells [.int .i64 0,.int .i64 0,.bool false,.slice none 0 0,.slice none 0 0,.string (txt []),.slice none 0 0].toArray Ty.api_Expr (0,0)),(bx,.cells [.int .i64 op,.int .i64 arg,.bool neg,a.val,b.val,.string (txt name),s.val].toArray Ty.api_Expr (0,0))]\/L'=(b3,.cells [.int .i64 op1,.int .i64 ar1,.bool ng1,nn1.val,dd1.val,.string (txt nm1),ss1.val,.bool n1,c1.val,d1.val,.bool bb1].toArray Ty.expr_operand (0,0))::(b4,.cells [.int .i64 op2,.int .i64 ar2,.bool ng2,nn2.val,dd2.val,.string (txt nm2),ss2.val,.bool n2,c2.val,d2.val,.bool bb2].toArray Ty.expr_operand (0,0))::[(by_,.cells [.int .i64 0,.int .i64 0,.bool false,.slice none 0 0,.slice none 0 0,.string (txt []),.slice none 0 0].toArray Ty.api_Expr (0,0)),(bx,.cells [.int .i64 op,.int .i64 arg,.bool neg,a.val,b.val,.string (txt name),s.val].toArray Ty.api_Expr (0,0))])) ?_ ?_
 .conv=>whnf
  repeat ((first|apply oI.z|apply cI.z);conv=>whnf)
  repeat' first|((first|(show DrN _ _ _ _ _ _;refine DrN.own [_] (by exact List.Sublist.cons _ (List.Sublist.cons_cons _ (bAd _))) Al ?_)|(refine⟨fun _=>⟨aF.o Ax,by repeat first|exact bAd _|apply List.Sublist.cons_cons|apply List.Sublist.cons⟩,?_⟩)|refine hix1 _ _ rfl ?_|refine hix2 _ _ rfl ?_|intro (_:Nat)|(show LdN _ _ _ _ _;first|(refine LdN.hasN [.int .i64 op1,.int .i64 ar1,.bool ng1,nn1.val,dd1.val,.string (txt nm1),ss1.val] rfl (fun i v hv=>hld1 _ _ i v Ad hv) ?_)|(refine LdN.hasN [.int .i64 op2,.int .i64 ar2,.bool ng2,nn2.val,dd2.val,.string (txt nm2),ss2.val] rfl (fun i v hv=>hld2 _ _ i v Ad hv) ?_))|(show CN _ _ _ _ _ _;first|(refine CN.f rfl (oA _ Ab (hE1.mono Ad)) (fun v h' hl2 hr=>?_);obtain⟨n1,c1,d1,bb1,rfl,x1⟩:=hr)|(refine CN.f rfl (oB _ Ae (hE2.mono Ab)) (fun v h' hl2 hr=>?_);obtain⟨n2,c2,d2,bb2,rfl,x2⟩:=hr))|refine Ld.o 0 rfl rfl ?_|(show Sto _ _ _ _;first|refine Sto.l 0 rfl rfl rfl ?_|refine Sto.l 1 rfl rfl rfl ?_))<;>conv=>whnf)|(refine kM.mk ?_ ?_<;>(conv=>whnf))
  all_goals first
   | exact⟨rfl,_,_,_,_,_,_,_,_,_,_,rfl,rfl,Ac,x1.mono Ab,x2.mono Ad,Or.inl rfl⟩
   | exact⟨rfl,_,_,_,_,_,_,_,_,_,_,rfl,rfl,Ac,x1.mono Ab,x2.mono Ad,Or.inr rfl⟩
 conv=>whnf
 repeat intro _
 rename_i h7 L7 hj;obtain⟨b3,b4,n1,c1,d1,bb1,n2,c2,d2,bb2,e3,e4,hle,x1,x2,eL⟩:=hj;conv at e3=>lhs;whnf
 subst e3;conv at e4=>lhs;whnf
 subst e4;replace tb:=tb.mono hle;replace w:=w.mono hle;replace hE1:=hE1.mono hle;replace hE2:=hE2.mono hle;replace hld1:=fun h' L i v (x:h7.le h')=>hld1 h' L i v (aA.lt hle x)
 replace hld2:=fun h' L i v (x:h7.le h')=>hld2 h' L i v (aA.lt hle x)
 clear hix1 hix2 hln1 hln2 oA oB;clear hle;by_cases hb2:bb1=true/\bb2=true
 .obtain⟨rfl,rfl⟩:=hb2;obtain⟨q,e1,rfl,f1⟩:=x1.1 rfl;obtain⟨r,e2,rfl,f2⟩:=x2.1 rfl;have fq:=jR hok1 e1;have fr:=jR hok2 e2;have sn:=fun h' w=>qG h' c2 d2 r w ((gZ fr).mono Ag)
  have ff:(op=8->bY r≠0)->kI op t u=gU (nN op q r):=fun x=>by
   unfold kI;rw[e1,e2];show yC op q r=_;unfold yC nN;rcases hop with rfl|rfl|rfl|rfl
   .rfl
   .rfl
   .rfl
   .exact if_neg fun y=>x rfl (fC.2 (dS.2 y))
  have fz:op=8->bY r=0->kI op t u=none:=fun x y=>by
   unfold kI;rw[e1,e2];show yC op q r=none;unfold yC;rw[if_neg Aa,if_neg Aa,if_neg Aa];exact if_pos (dS.1 (fC.1 y))
  have fc:=fun h tb hq hr (x:op=8->bY r≠0)=>aUb q r fq fr h tb op hop (fun y z=>x y (fC.2 z)) c1 d1 c2 d2 hq hr
  have li:=fun h' c d w (x:op=8->bY r≠0)=>yL h' c d (nN op q r) w (aQy fq fr (fun y z=>x y (fC.2 z)) hop)
  obtain⟨Sg,hSg⟩:=AE (bY r);obtain⟨P,hP⟩:=AE (nN op q r);obtain⟨V,hV⟩:=AE (kI op t u);simp only[<-hSg] at sn ff fz fc li;simp only[<-hP] at ff fc li;simp only[<-hV] at b5 b6 b7 b81 b82 b83 bf ff fz;clear hSg hP hV;by_cases hz:op=8/\Sg=0
  .have v0:=fz hz.1 hz.2;replace b5:=Hq.mk (b5 v0);replace b6:=Hq.mk (b6 v0);replace b7:=Hq.mk (b7 v0);replace b81:=Hq.mk (b81 v0);replace b82:=Hq.mk (b82 v0);replace b83:=Hq.mk (b83 v0);obtain⟨rfl,rfl⟩:=hz;clear bf ff fz fc li hop;rcases eL with rfl|rfl
   .conv=>whnf
    repeat' first|((first|(apply aO.go)|(show LdN _ _ _ _ _;first|refine LdN.oA 0 rfl rfl ?_|refine LdN.oA 1 rfl rfl ?_|refine LdN.oA 2 rfl rfl ?_|refine LdN.oA 3 rfl rfl ?_)|(show CN _ _ _ _ _ _;first|refine CN.quiet rfl (sn _ Ab) ?_|(refine CN.f rfl (q1z _ _ _ _ _ _ _ _ _ _ _ _ (x1.mono Ad)) (fun v h' hl2 hr=>?_);subst hr)|(refine CN.f rfl (q2o _ _ _ _ _ _ _ _ _ _ _ _ (x2.mono Ab)) (fun v h' hl2 hr=>?_);subst hr)|(refine CN.f rfl (w0 _) (fun v h' hl2 hr=>?_);obtain⟨op7,ar7,ng7,nn7,dd7,nm7,ss7,rfl,hE7⟩:=hr))|((first|apply oI.z|apply cI.z))|(show Ld _ _ _ _;first|refine Ld.o 0 rfl rfl ?_|refine Ld.o 1 rfl rfl ?_|refine Ld.o 3 rfl rfl ?_)|refine Sto.l 2 rfl rfl rfl ?_)<;>conv=>whnf)|(show cnd _ _ _;first|(apply aD<;>intro _<;>first|(exfalso;omega)|conv=>whnf)|(refine aI ?_)|(apply aN<;>intro _<;>first|(exfalso;omega)|conv=>whnf))
    all_goals first
     | (rw[b5.out Aa];exact RN.a ⟨op6,ar6,ng6,nn6,dd6,nm6,ss6,rfl,hE6⟩)
     | (rw[b6.out Aa];exact RN.a ⟨op6,ar6,ng6,nn6,dd6,nm6,ss6,rfl,hE6⟩)
     | (rw[b7.out Aa];exact RN.a ⟨op6,ar6,ng6,nn6,dd6,nm6,ss6,rfl,hE6⟩)
     | (rw[b81.out Aa Ab];exact RN.a ⟨op7,ar7,ng7,nn7,dd7,nm7,ss7,rfl,hE7⟩)
     | (rw[b82.out Aa Ab Ab];exact RN.a ⟨op1,ar1,ng1,nn1,dd1,nm1,ss1,rfl,Af⟩)
     | (rw[b83.out Aa Ab Ab];exact RN.a ⟨_,arg,neg,a,b,name,s,rfl,Af⟩)
   .conv=>whnf
    repeat' first|((first|(apply aO.go)|(show LdN _ _ _ _ _;first|refine LdN.oA 0 rfl rfl ?_|refine LdN.oA 1 rfl rfl ?_|refine LdN.oA 2 rfl rfl ?_|refine LdN.oA 3 rfl rfl ?_)|(show CN _ _ _ _ _ _;first|refine CN.quiet rfl (sn _ Ab) ?_|(refine CN.f rfl (q1z _ _ _ _ _ _ _ _ _ _ _ _ (x1.mono Ad)) (fun v h' hl2 hr=>?_);subst hr)|(refine CN.f rfl (q2o _ _ _ _ _ _ _ _ _ _ _ _ (x2.mono Ab)) (fun v h' hl2 hr=>?_);subst hr)|(refine CN.f rfl (w0 _) (fun v h' hl2 hr=>?_);obtain⟨op7,ar7,ng7,nn7,dd7,nm7,ss7,rfl,hE7⟩:=hr))|((first|apply oI.z|apply cI.z))|(show Ld _ _ _ _;first|refine Ld.o 0 rfl rfl ?_|refine Ld.o 1 rfl rfl ?_|refine Ld.o 3 rfl rfl ?_)|refine Sto.l 2 rfl rfl rfl ?_)<;>conv=>whnf)|(show cnd _ _ _;first|(apply aD<;>intro _<;>first|(exfalso;omega)|conv=>whnf)|(refine aI ?_)|(apply aN<;>intro _<;>first|(exfalso;omega)|conv=>whnf))
    all_goals first
     | (rw[b5.out Aa];exact RN.a ⟨op6,ar6,ng6,nn6,dd6,nm6,ss6,rfl,hE6⟩)
     | (rw[b6.out Aa];exact RN.a ⟨op6,ar6,ng6,nn6,dd6,nm6,ss6,rfl,hE6⟩)
     | (rw[b7.out Aa];exact RN.a ⟨op6,ar6,ng6,nn6,dd6,nm6,ss6,rfl,hE6⟩)
     | (rw[b81.out Aa Ab];exact RN.a ⟨op7,ar7,ng7,nn7,dd7,nm7,ss7,rfl,hE7⟩)
     | (rw[b82.out Aa Ab Ab];exact RN.a ⟨op1,ar1,ng1,nn1,dd1,nm1,ss1,rfl,Af⟩)
     | (rw[b83.out Aa Ab Ab];exact RN.a ⟨_,arg,neg,a,b,name,s,rfl,Af⟩)
  .have hz':op=8->Sg≠0:=fun x y=>hz ⟨x,y⟩
   have v1:=ff hz';have fc:=fun h tb hq hr=>fc h tb hq hr hz'
   have li:=fun h' c d w=>li h' c d w hz'
   replace hz':=Hq.mk hz';by_cases hfp:fits P
   .have r1:=bf P (v1.trans (if_pos hfp));have li:=fun h' c d w=>(li h' c d w).mono fun v h' _ r=>r.yes hfp
    rw[r1];clear b5 b6 b7 b81 b82 b83 bf ff fz v1 hz;rcases eL with rfl|rfl
    .conv=>whnf
     repeat' first|((first|(apply aO.go)|(show LdN _ _ _ _ _;first|refine LdN.oA 0 rfl rfl ?_|refine LdN.oA 1 rfl rfl ?_|refine LdN.oA 3 rfl rfl ?_)|(show CN _ _ _ _ _ _;first|refine CN.quiet rfl (sn _ Ab) ?_|(refine CN.f rfl (fc _ Ab Ab Ab) (fun v h' hl2 hr=>?_);obtain⟨s7,t7,rfl,hq7⟩:=hr)|(refine CN.f rfl (li _ _ _ Ab) (fun v h' hl2 hr=>?_);obtain⟨_,rfl,op9,ar9,ng9,nn9,dd9,nm9,ss9,rfl,hE9⟩:=hr))|((first|apply oI.z|apply cI.z))|intro (_:Nat)|(show Ld _ _ _ _;first|refine Ld.o 0 rfl rfl ?_|refine Ld.o 1 rfl rfl ?_|refine Ld.o 3 rfl rfl ?_)|(show Sto _ _ _ _;first|refine Sto.l 0 rfl rfl rfl ?_|refine Sto.l 3 rfl rfl rfl ?_))<;>conv=>whnf)|(show cnd _ _ _;first|(apply aD<;>intro _<;>first|(exfalso;omega)|conv=>whnf)|(refine aI ?_))
     all_goals first
      | exact RN.a ⟨op9,ar9,ng9,nn9,dd9,nm9,ss9,rfl,hE9⟩
      | exact absurd Ab (hz'.out Aa)
    .conv=>whnf
     repeat' first|((first|(apply aO.go)|(show LdN _ _ _ _ _;first|refine LdN.oA 0 rfl rfl ?_|refine LdN.oA 1 rfl rfl ?_|refine LdN.oA 3 rfl rfl ?_)|(show CN _ _ _ _ _ _;first|refine CN.quiet rfl (sn _ Ab) ?_|(refine CN.f rfl (fc _ Ab Ab Ab) (fun v h' hl2 hr=>?_);obtain⟨s7,t7,rfl,hq7⟩:=hr)|(refine CN.f rfl (li _ _ _ Ab) (fun v h' hl2 hr=>?_);obtain⟨_,rfl,op9,ar9,ng9,nn9,dd9,nm9,ss9,rfl,hE9⟩:=hr))|((first|apply oI.z|apply cI.z))|intro (_:Nat)|(show Ld _ _ _ _;first|refine Ld.o 0 rfl rfl ?_|refine Ld.o 1 rfl rfl ?_|refine Ld.o 3 rfl rfl ?_)|(show Sto _ _ _ _;first|refine Sto.l 0 rfl rfl rfl ?_|refine Sto.l 3 rfl rfl rfl ?_))<;>conv=>whnf)|(show cnd _ _ _;first|(apply aD<;>intro _<;>first|(exfalso;omega)|conv=>whnf)|(refine aI ?_))
     all_goals first
      | exact RN.a ⟨op9,ar9,ng9,nn9,dd9,nm9,ss9,rfl,hE9⟩
      | exact absurd Ab (hz'.out Aa)
   .have v0:=v1.trans (if_neg hfp);have li:=fun h' c d w=>(li h' c d w).mono fun v h' _ r=>r.no hfp
    replace b5:=Hq.mk (b5 v0);replace b6:=Hq.mk (b6 v0);replace b7:=Hq.mk (b7 v0);replace b81:=Hq.mk (b81 v0);replace b82:=Hq.mk (b82 v0);replace b83:=Hq.mk (b83 v0);clear bf ff fz v1 hz;rcases eL with rfl|rfl
    .conv=>whnf
     repeat' first|((first|(apply aO.go)|(show LdN _ _ _ _ _;first|refine LdN.oA 0 rfl rfl ?_|refine LdN.oA 1 rfl rfl ?_|refine LdN.oA 2 rfl rfl ?_|refine LdN.oA 3 rfl rfl ?_|refine LdN.oA 4 rfl rfl ?_)|(show CN _ _ _ _ _ _;first|refine CN.quiet rfl (sn _ Ab) ?_|(refine CN.f rfl (fc _ Ab Ab Ab) (fun v h' hl2 hr=>?_);obtain⟨s7,t7,rfl,hq7⟩:=hr)|(refine CN.f rfl (li _ _ _ Ab) (fun v h' hl2 hr=>?_);obtain⟨_,tt,rfl,op9,ar9,ng9,nn9,dd9,nm9,ss9,rfl,hE9⟩:=hr)|(refine CN.f rfl (nO _ t u hok1 hok2 _ Ae _ _ _ _ _ _ _ _ _ _ _ _ _ _ _ _ _ _ _ _ _ _ _ _ _ _ _ _ _ (w.mono Ac) (hE1.mono Ac) (hE2.mono Ac) (x1.mono Ac) (x2.mono Ac)) (fun v h' hl2 hr=>?_);obtain⟨op6,ar6,ng6,nn6,dd6,nm6,ss6,rfl,hE6⟩:=hr)|(refine CN.f rfl (gH _ t u hok1 hok2 _ Ae _ _ _ _ _ _ _ _ _ _ _ _ _ _ _ _ _ _ _ _ _ _ _ _ _ _ _ _ _ (w.mono Ac) (hE1.mono Ac) (hE2.mono Ac) (x1.mono Ac) (x2.mono Ac)) (fun v h' hl2 hr=>?_);obtain⟨op6,ar6,ng6,nn6,dd6,nm6,ss6,rfl,hE6⟩:=hr)|(refine CN.f rfl (gI _ t u hok1 hok2 _ Ae _ _ _ _ _ _ _ _ _ _ _ _ _ _ _ _ _ _ _ _ _ _ _ _ _ _ _ _ _ (w.mono Ac) (hE1.mono Ac) (hE2.mono Ac) (x1.mono Ac) (x2.mono Ac)) (fun v h' hl2 hr=>?_);obtain⟨op6,ar6,ng6,nn6,dd6,nm6,ss6,rfl,hE6⟩:=hr)|(refine CN.f rfl (q1z _ _ _ _ _ _ _ _ _ _ _ _ (x1.mono Ap)) (fun v h' hl2 hr=>?_);subst hr)|(refine CN.f rfl (q2o _ _ _ _ _ _ _ _ _ _ _ _ (x2.mono Ac)) (fun v h' hl2 hr=>?_);subst hr)|(refine CN.f rfl (w0 _) (fun v h' hl2 hr=>?_);obtain⟨op7,ar7,ng7,nn7,dd7,nm7,ss7,rfl,hE7⟩:=hr))|((first|apply oI.z|apply cI.z))|intro (_:Nat)|(show Ld _ _ _ _;first|refine Ld.o 0 rfl rfl ?_|refine Ld.o 1 rfl rfl ?_|refine Ld.o 3 rfl rfl ?_|refine Ld.o 4 rfl rfl ?_)|(show Sto _ _ _ _;first|refine Sto.l 0 rfl rfl rfl ?_|refine Sto.l 2 rfl rfl rfl ?_|refine Sto.l 3 rfl rfl rfl ?_))<;>conv=>whnf)|(show cnd _ _ _;first|(apply aD<;>intro _<;>first|(exfalso;omega)|conv=>whnf)|(refine aI ?_)|(apply aN<;>intro _<;>first|(exfalso;omega)|conv=>whnf))
     all_goals first
      | (rw[b5.out Aa];exact RN.a ⟨op6,ar6,ng6,nn6,dd6,nm6,ss6,rfl,hE6⟩)
      | (rw[b6.out Aa];exact RN.a ⟨op6,ar6,ng6,nn6,dd6,nm6,ss6,rfl,hE6⟩)
      | (rw[b7.out Aa];exact RN.a ⟨op6,ar6,ng6,nn6,dd6,nm6,ss6,rfl,hE6⟩)
      | (rw[b81.out Aa Ab];exact RN.a ⟨op7,ar7,ng7,nn7,dd7,nm7,ss7,rfl,hE7⟩)
      | (rw[b82.out Aa Ab Ab];exact RN.a ⟨op1,ar1,ng1,nn1,dd1,nm1,ss1,rfl,Af⟩)
      | (rw[b83.out Aa Ab Ab];exact RN.a ⟨_,arg,neg,a,b,name,s,rfl,Af⟩)
      | exact absurd Ab (hz'.out Aa)
    .conv=>whnf
     repeat' first|((first|(apply aO.go)|(show LdN _ _ _ _ _;first|refine LdN.oA 0 rfl rfl ?_|refine LdN.oA 1 rfl rfl ?_|refine LdN.oA 2 rfl rfl ?_|refine LdN.oA 3 rfl rfl ?_|refine LdN.oA 4 rfl rfl ?_)|(show CN _ _ _ _ _ _;first|refine CN.quiet rfl (sn _ Ab) ?_|(refine CN.f rfl (fc _ Ab Ab Ab) (fun v h' hl2 hr=>?_);obtain⟨s7,t7,rfl,hq7⟩:=hr)|(refine CN.f rfl (li _ _ _ Ab) (fun v h' hl2 hr=>?_);obtain⟨_,tt,rfl,op9,ar9,ng9,nn9,dd9,nm9,ss9,rfl,hE9⟩:=hr)|(refine CN.f rfl (nO _ t u hok1 hok2 _ Ae _ _ _ _ _ _ _ _ _ _ _ _ _ _ _ _ _ _ _ _ _ _ _ _ _ _ _ _ _ (w.mono Ac) (hE1.mono Ac) (hE2.mono Ac) (x1.mono Ac) (x2.mono Ac)) (fun v h' hl2 hr=>?_);obtain⟨op6,ar6,ng6,nn6,dd6,nm6,ss6,rfl,hE6⟩:=hr)|(refine CN.f rfl (gH _ t u hok1 hok2 _ Ae _ _ _ _ _ _ _ _ _ _ _ _ _ _ _ _ _ _ _ _ _ _ _ _ _ _ _ _ _ (w.mono Ac) (hE1.mono Ac) (hE2.mono Ac) (x1.mono Ac) (x2.mono Ac)) (fun v h' hl2 hr=>?_);obtain⟨op6,ar6,ng6,nn6,dd6,nm6,ss6,rfl,hE6⟩:=hr)|(refine CN.f rfl (gI _ t u hok1 hok2 _ Ae _ _ _ _ _ _ _ _ _ _ _ _ _ _ _ _ _ _ _ _ _ _ _ _ _ _ _ _ _ (w.mono Ac) (hE1.mono Ac) (hE2.mono Ac) (x1.mono Ac) (x2.mono Ac)) (fun v h' hl2 hr=>?_);obtain⟨op6,ar6,ng6,nn6,dd6,nm6,ss6,rfl,hE6⟩:=hr)|(refine CN.f rfl (q1z _ _ _ _ _ _ _ _ _ _ _ _ (x1.mono Ap)) (fun v h' hl2 hr=>?_);subst hr)|(refine CN.f rfl (q2o _ _ _ _ _ _ _ _ _ _ _ _ (x2.mono Ac)) (fun v h' hl2 hr=>?_);subst hr)|(refine CN.f rfl (w0 _) (fun v h' hl2 hr=>?_);obtain⟨op7,ar7,ng7,nn7,dd7,nm7,ss7,rfl,hE7⟩:=hr))|((first|apply oI.z|apply cI.z))|intro (_:Nat)|(show Ld _ _ _ _;first|refine Ld.o 0 rfl rfl ?_|refine Ld.o 1 rfl rfl ?_|refine Ld.o 3 rfl rfl ?_|refine Ld.o 4 rfl rfl ?_)|(show Sto _ _ _ _;first|refine Sto.l 0 rfl rfl rfl ?_|refine Sto.l 2 rfl rfl rfl ?_|refine Sto.l 3 rfl rfl rfl ?_))<;>conv=>whnf)|(show cnd _ _ _;first|(apply aD<;>intro _<;>first|(exfalso;omega)|conv=>whnf)|(refine aI ?_)|(apply aN<;>intro _<;>first|(exfalso;omega)|conv=>whnf))
     all_goals first
      | (rw[b5.out Aa];exact RN.a ⟨op6,ar6,ng6,nn6,dd6,nm6,ss6,rfl,hE6⟩)
      | (rw[b6.out Aa];exact RN.a ⟨op6,ar6,ng6,nn6,dd6,nm6,ss6,rfl,hE6⟩)
      | (rw[b7.out Aa];exact RN.a ⟨op6,ar6,ng6,nn6,dd6,nm6,ss6,rfl,hE6⟩)
      | (rw[b81.out Aa Ab];exact RN.a ⟨op7,ar7,ng7,nn7,dd7,nm7,ss7,rfl,hE7⟩)
      | (rw[b82.out Aa Ab Ab];exact RN.a ⟨op1,ar1,ng1,nn1,dd1,nm1,ss1,rfl,Af⟩)
      | (rw[b83.out Aa Ab Ab];exact RN.a ⟨_,arg,neg,a,b,name,s,rfl,Af⟩)
      | exact absurd Ab (hz'.out Aa)
 .have v0:kI op t u=none:=by
   unfold kI;cases bb1 with
   | false=>rw[x1.2 rfl];rfl
   | true=>
    cases bb2 with
    | false=>obtain⟨q,e1,-⟩:=x1.1 rfl;rw[x2.2 rfl,e1];rfl
    | true=>exact absurd ⟨rfl,rfl⟩ hb2
  replace b5:=Hq.mk (b5 v0);replace b6:=Hq.mk (b6 v0);replace b7:=Hq.mk (b7 v0);replace b81:=Hq.mk (b81 v0);replace b82:=Hq.mk (b82 v0);replace b83:=Hq.mk (b83 v0);clear bf v0;cases bb1 with
  | false=>
   rcases eL with rfl|rfl
   .conv=>whnf
    repeat' first|((first|(apply aO.go)|(show LdN _ _ _ _ _;first|refine LdN.oA 0 rfl rfl ?_|refine LdN.oA 1 rfl rfl ?_|refine LdN.oA 2 rfl rfl ?_|refine LdN.oA 3 rfl rfl ?_)|(show CN _ _ _ _ _ _;first|(refine CN.f rfl (nO _ t u hok1 hok2 _ Ab _ _ _ _ _ _ _ _ _ _ _ _ _ _ _ _ _ _ _ _ _ _ _ _ _ _ _ _ _ (w.mono Ad) (hE1.mono Ad) (hE2.mono Ad) (x1.mono Ad) (x2.mono Ad)) (fun v h' hl2 hr=>?_);obtain⟨op6,ar6,ng6,nn6,dd6,nm6,ss6,rfl,hE6⟩:=hr)|(refine CN.f rfl (gH _ t u hok1 hok2 _ Ab _ _ _ _ _ _ _ _ _ _ _ _ _ _ _ _ _ _ _ _ _ _ _ _ _ _ _ _ _ (w.mono Ad) (hE1.mono Ad) (hE2.mono Ad) (x1.mono Ad) (x2.mono Ad)) (fun v h' hl2 hr=>?_);obtain⟨op6,ar6,ng6,nn6,dd6,nm6,ss6,rfl,hE6⟩:=hr)|(refine CN.f rfl (gI _ t u hok1 hok2 _ Ab _ _ _ _ _ _ _ _ _ _ _ _ _ _ _ _ _ _ _ _ _ _ _ _ _ _ _ _ _ (w.mono Ad) (hE1.mono Ad) (hE2.mono Ad) (x1.mono Ad) (x2.mono Ad)) (fun v h' hl2 hr=>?_);obtain⟨op6,ar6,ng6,nn6,dd6,nm6,ss6,rfl,hE6⟩:=hr)|(refine CN.f rfl (q1z _ _ _ _ _ _ _ _ _ _ _ _ (x1.mono Ad)) (fun v h' hl2 hr=>?_);subst hr)|(refine CN.f rfl (q2o _ _ _ _ _ _ _ _ _ _ _ _ (x2.mono Ab)) (fun v h' hl2 hr=>?_);subst hr)|(refine CN.f rfl (w0 _) (fun v h' hl2 hr=>?_);obtain⟨op7,ar7,ng7,nn7,dd7,nm7,ss7,rfl,hE7⟩:=hr))|((first|apply oI.z|apply cI.z))|(show Ld _ _ _ _;first|refine Ld.o 1 rfl rfl ?_|refine Ld.o 3 rfl rfl ?_)|refine Sto.l 2 rfl rfl rfl ?_)<;>conv=>whnf)|(show cnd _ _ _;first|((first|apply aD|apply aN)<;>intro _<;>first|(exfalso;omega)|conv=>whnf))
    all_goals first
     | (rw[b5.out Aa];exact RN.a ⟨op6,ar6,ng6,nn6,dd6,nm6,ss6,rfl,hE6⟩)
     | (rw[b6.out Aa];exact RN.a ⟨op6,ar6,ng6,nn6,dd6,nm6,ss6,rfl,hE6⟩)
     | (rw[b7.out Aa];exact RN.a ⟨op6,ar6,ng6,nn6,dd6,nm6,ss6,rfl,hE6⟩)
     | (rw[b81.out Aa Ab];exact RN.a ⟨op7,ar7,ng7,nn7,dd7,nm7,ss7,rfl,hE7⟩)
     | (rw[b82.out Aa Ab Ab];exact RN.a ⟨op1,ar1,ng1,nn1,dd1,nm1,ss1,rfl,Af⟩)
     | (rw[b83.out Aa Ab Ab];exact RN.a ⟨_,arg,neg,a,b,name,s,rfl,Af⟩)
   .conv=>whnf
    repeat' first|((first|(apply aO.go)|(show LdN _ _ _ _ _;first|refine LdN.oA 0 rfl rfl ?_|refine LdN.oA 1 rfl rfl ?_|refine LdN.oA 2 rfl rfl ?_|refine LdN.oA 3 rfl rfl ?_)|(show CN _ _ _ _ _ _;first|(refine CN.f rfl (nO _ t u hok1 hok2 _ Ab _ _ _ _ _ _ _ _ _ _ _ _ _ _ _ _ _ _ _ _ _ _ _ _ _ _ _ _ _ (w.mono Ad) (hE1.mono Ad) (hE2.mono Ad) (x1.mono Ad) (x2.mono Ad)) (fun v h' hl2 hr=>?_);obtain⟨op6,ar6,ng6,nn6,dd6,nm6,ss6,rfl,hE6⟩:=hr)|(refine CN.f rfl (gH _ t u hok1 hok2 _ Ab _ _ _ _ _ _ _ _ _ _ _ _ _ _ _ _ _ _ _ _ _ _ _ _ _ _ _ _ _ (w.mono Ad) (hE1.mono Ad) (hE2.mono Ad) (x1.mono Ad) (x2.mono Ad)) (fun v h' hl2 hr=>?_);obtain⟨op6,ar6,ng6,nn6,dd6,nm6,ss6,rfl,hE6⟩:=hr)|(refine CN.f rfl (gI _ t u hok1 hok2 _ Ab _ _ _ _ _ _ _ _ _ _ _ _ _ _ _ _ _ _ _ _ _ _ _ _ _ _ _ _ _ (w.mono Ad) (hE1.mono Ad) (hE2.mono Ad) (x1.mono Ad) (x2.mono Ad)) (fun v h' hl2 hr=>?_);obtain⟨op6,ar6,ng6,nn6,dd6,nm6,ss6,rfl,hE6⟩:=hr)|(refine CN.f rfl (q1z _ _ _ _ _ _ _ _ _ _ _ _ (x1.mono Ad)) (fun v h' hl2 hr=>?_);subst hr)|(refine CN.f rfl (q2o _ _ _ _ _ _ _ _ _ _ _ _ (x2.mono Ab)) (fun v h' hl2 hr=>?_);subst hr)|(refine CN.f rfl (w0 _) (fun v h' hl2 hr=>?_);obtain⟨op7,ar7,ng7,nn7,dd7,nm7,ss7,rfl,hE7⟩:=hr))|((first|apply oI.z|apply cI.z))|(show Ld _ _ _ _;first|refine Ld.o 0 rfl rfl ?_|refine Ld.o 3 rfl rfl ?_)|refine Sto.l 2 rfl rfl rfl ?_)<;>conv=>whnf)|(show cnd _ _ _;first|((first|apply aD|apply aN)<;>intro _<;>first|(exfalso;omega)|conv=>whnf))
    all_goals first
     | (rw[b5.out Aa];exact RN.a ⟨op6,ar6,ng6,nn6,dd6,nm6,ss6,rfl,hE6⟩)
     | (rw[b6.out Aa];exact RN.a ⟨op6,ar6,ng6,nn6,dd6,nm6,ss6,rfl,hE6⟩)
     | (rw[b7.out Aa];exact RN.a ⟨op6,ar6,ng6,nn6,dd6,nm6,ss6,rfl,hE6⟩)
     | (rw[b81.out Aa Ab];exact RN.a ⟨op7,ar7,ng7,nn7,dd7,nm7,ss7,rfl,hE7⟩)
     | (rw[b82.out Aa Ab Ab];exact RN.a ⟨op1,ar1,ng1,nn1,dd1,nm1,ss1,rfl,Af⟩)
     | (rw[b83.out Aa Ab Ab];exact RN.a ⟨_,arg,neg,a,b,name,s,rfl,Af⟩)
  | true=>
   cases bb2 with
   | true=>exact absurd ⟨rfl,rfl⟩ hb2
   | false=>
    clear hb2;rcases eL with rfl|rfl
    .conv=>whnf
     repeat' first|((first|(apply aO.go)|(show LdN _ _ _ _ _;first|refine LdN.oA 0 rfl rfl ?_|refine LdN.oA 1 rfl rfl ?_|refine LdN.oA 2 rfl rfl ?_|refine LdN.oA 3 rfl rfl ?_)|(show CN _ _ _ _ _ _;first|(refine CN.f rfl (nO _ t u hok1 hok2 _ Ab _ _ _ _ _ _ _ _ _ _ _ _ _ _ _ _ _ _ _ _ _ _ _ _ _ _ _ _ _ (w.mono Ad) (hE1.mono Ad) (hE2.mono Ad) (x1.mono Ad) (x2.mono Ad)) (fun v h' hl2 hr=>?_);obtain⟨op6,ar6,ng6,nn6,dd6,nm6,ss6,rfl,hE6⟩:=hr)|(refine CN.f rfl (gH _ t u hok1 hok2 _ Ab _ _ _ _ _ _ _ _ _ _ _ _ _ _ _ _ _ _ _ _ _ _ _ _ _ _ _ _ _ (w.mono Ad) (hE1.mono Ad) (hE2.mono Ad) (x1.mono Ad) (x2.mono Ad)) (fun v h' hl2 hr=>?_);obtain⟨op6,ar6,ng6,nn6,dd6,nm6,ss6,rfl,hE6⟩:=hr)|(refine CN.f rfl (gI _ t u hok1 hok2 _ Ab _ _ _ _ _ _ _ _ _ _ _ _ _ _ _ _ _ _ _ _ _ _ _ _ _ _ _ _ _ (w.mono Ad) (hE1.mono Ad) (hE2.mono Ad) (x1.mono Ad) (x2.mono Ad)) (fun v h' hl2 hr=>?_);obtain⟨op6,ar6,ng6,nn6,dd6,nm6,ss6,rfl,hE6⟩:=hr)|(refine CN.f rfl (q1z _ _ _ _ _ _ _ _ _ _ _ _ (x1.mono Ad)) (fun v h' hl2 hr=>?_);subst hr)|(refine CN.f rfl (q2o _ _ _ _ _ _ _ _ _ _ _ _ (x2.mono Ab)) (fun v h' hl2 hr=>?_);subst hr)|(refine CN.f rfl (w0 _) (fun v h' hl2 hr=>?_);obtain⟨op7,ar7,ng7,nn7,dd7,nm7,ss7,rfl,hE7⟩:=hr))|((first|apply oI.z|apply cI.z))|(show Ld _ _ _ _;first|refine Ld.o 0 rfl rfl ?_|refine Ld.o 1 rfl rfl ?_|refine Ld.o 3 rfl rfl ?_)|refine Sto.l 2 rfl rfl rfl ?_)<;>conv=>whnf)|(show cnd _ _ _;first|((first|apply aD|apply aN)<;>intro _<;>first|(exfalso;omega)|conv=>whnf))
     all_goals first
      | (rw[b5.out Aa];exact RN.a ⟨op6,ar6,ng6,nn6,dd6,nm6,ss6,rfl,hE6⟩)
      | (rw[b6.out Aa];exact RN.a ⟨op6,ar6,ng6,nn6,dd6,nm6,ss6,rfl,hE6⟩)
      | (rw[b7.out Aa];exact RN.a ⟨op6,ar6,ng6,nn6,dd6,nm6,ss6,rfl,hE6⟩)
      | (rw[b81.out Aa Ab];exact RN.a ⟨op7,ar7,ng7,nn7,dd7,nm7,ss7,rfl,hE7⟩)
      | (rw[b82.out Aa Ab Ab];exact RN.a ⟨op1,ar1,ng1,nn1,dd1,nm1,ss1,rfl,Af⟩)
      | (rw[b83.out Aa Ab Ab];exact RN.a ⟨_,arg,neg,a,b,name,s,rfl,Af⟩)
    .conv=>whnf
     repeat' first|((first|(apply aO.go)|(show LdN _ _ _ _ _;first|refine LdN.oA 0 rfl rfl ?_|refine LdN.oA 1 rfl rfl ?_|refine LdN.oA 2 rfl rfl ?_|refine LdN.oA 3 rfl rfl ?_)|(show CN _ _ _ _ _ _;first|(refine CN.f rfl (nO _ t u hok1 hok2 _ Ab _ _ _ _ _ _ _ _ _ _ _ _ _ _ _ _ _ _ _ _ _ _ _ _ _ _ _ _ _ (w.mono Ad) (hE1.mono Ad) (hE2.mono Ad) (x1.mono Ad) (x2.mono Ad)) (fun v h' hl2 hr=>?_);obtain⟨op6,ar6,ng6,nn6,dd6,nm6,ss6,rfl,hE6⟩:=hr)|(refine CN.f rfl (gH _ t u hok1 hok2 _ Ab _ _ _ _ _ _ _ _ _ _ _ _ _ _ _ _ _ _ _ _ _ _ _ _ _ _ _ _ _ (w.mono Ad) (hE1.mono Ad) (hE2.mono Ad) (x1.mono Ad) (x2.mono Ad)) (fun v h' hl2 hr=>?_);obtain⟨op6,ar6,ng6,nn6,dd6,nm6,ss6,rfl,hE6⟩:=hr)|(refine CN.f rfl (gI _ t u hok1 hok2 _ Ab _ _ _ _ _ _ _ _ _ _ _ _ _ _ _ _ _ _ _ _ _ _ _ _ _ _ _ _ _ (w.mono Ad) (hE1.mono Ad) (hE2.mono Ad) (x1.mono Ad) (x2.mono Ad)) (fun v h' hl2 hr=>?_);obtain⟨op6,ar6,ng6,nn6,dd6,nm6,ss6,rfl,hE6⟩:=hr)|(refine CN.f rfl (q1z _ _ _ _ _ _ _ _ _ _ _ _ (x1.mono Ad)) (fun v h' hl2 hr=>?_);subst hr)|(refine CN.f rfl (q2o _ _ _ _ _ _ _ _ _ _ _ _ (x2.mono Ab)) (fun v h' hl2 hr=>?_);subst hr)|(refine CN.f rfl (w0 _) (fun v h' hl2 hr=>?_);obtain⟨op7,ar7,ng7,nn7,dd7,nm7,ss7,rfl,hE7⟩:=hr))|((first|apply oI.z|apply cI.z))|(show Ld _ _ _ _;first|refine Ld.o 0 rfl rfl ?_|refine Ld.o 1 rfl rfl ?_|refine Ld.o 3 rfl rfl ?_)|refine Sto.l 2 rfl rfl rfl ?_)<;>conv=>whnf)|(show cnd _ _ _;first|((first|apply aD|apply aN)<;>intro _<;>first|(exfalso;omega)|conv=>whnf))
     all_goals first
      | (rw[b5.out Aa];exact RN.a ⟨op6,ar6,ng6,nn6,dd6,nm6,ss6,rfl,hE6⟩)
      | (rw[b6.out Aa];exact RN.a ⟨op6,ar6,ng6,nn6,dd6,nm6,ss6,rfl,hE6⟩)
      | (rw[b7.out Aa];exact RN.a ⟨op6,ar6,ng6,nn6,dd6,nm6,ss6,rfl,hE6⟩)
      | (rw[b81.out Aa Ab];exact RN.a ⟨op7,ar7,ng7,nn7,dd7,nm7,ss7,rfl,hE7⟩)
      | (rw[b82.out Aa Ab Ab];exact RN.a ⟨op1,ar1,ng1,nn1,dd1,nm1,ss1,rfl,Af⟩)
      | (rw[b83.out Aa Ab Ab];exact RN.a ⟨_,arg,neg,a,b,name,s,rfl,Af⟩)
theorem aHc{op arg:Int}{e:Tr}{ks:List Tr}(h4:op≠4)(h9:op≠9)(h5:¬(op=5\/op=6\/op=7\/op=8)):sW op arg e ks=e:=by
 unfold sW
 split
 .rw[if_neg h4,if_neg h9]
 .rw[if_neg h5]
 .rfl
theorem qZ:∀t:Tr,∀(h:aA) (vs:List Value),Tb h->IsE h vs t->okG t->Fn0 T F.q23 [.agg vs.toArray] h fun v h'=>VE h' v (fN t):=by
 refine dX fun t ih=>?_
 intro h vs tb w hok;obtain⟨op,arg,neg,l,m,name,ks⟩:=t;obtain⟨a,b,s,rfl,ho,ha,hv,hb,hk⟩:=w.isK;rw[okG] at hok;obtain⟨hnb,hoks⟩:=hok;have hks:ks.length<=3:=by
  have h1:=hnb.1;have h2:=cR op;omega
 have hkl:=hk.len;refine f0C ok D.q23 rfl ?_;conv=>whnf
 repeat' ((first|((first|apply oI.z|apply cI.z))|intro (_:Nat)|refine Ld.o 1 rfl rfl ?_)<;>conv=>whnf)
 rename_i be bz;refine LpN.of (fun r ρ hx L=>∃(j:Nat) (V:Value) (F1:Vc.Own) (xs:List Value),r=ks.length-j/\h.le hx/\j<=ks.length/\rd ρ 9=.int .i64 j/\rd ρ 3=V/\
   L=F1++((bz,.cells [.int .i64 0,.int .i64 0,.bool false,.slice none 0 0,.slice none 0 0,.string (txt []),.slice none 0 0].toArray Ty.api_Expr (0,0))::(be,.cells [.int .i64 op,.int .i64 arg,.bool neg,a.val,b.val,.string (txt name),s.val].toArray Ty.api_Expr (0,0))::[])/\
   aE Ty.api_Expr 7 V j xs F1/\KC hx xs (dB (ks.take j))) ks.length
  ⟨0,_,[],[],rfl,aA.lr _,aZs _,rfl,rfl,rfl,aE.nil _ _ _,by rw[bAt,dB];rfl⟩ ?_
 conv=>whnf
 repeat intro _
 rename_i r hx L2 hI;obtain⟨j,V,F1,xs,rfl,hle,hj,e9,e3,rfl,gF,hK⟩:=hI;conv at e9=>lhs;whnf
 subst e9;conv at e3=>lhs;whnf
 subst e3;by_cases hjl:j=ks.length
 .subst hjl;rw[aZi] at hK;obtain⟨sv,rfl⟩:=gF.sl;by_cases h4:op=4
  .subst h4;obtain⟨k,rfl⟩:∃k,ks=[k]:=by
    have e:ks.length=1:=by have x:=hnb.1;rw[show aV 4=1 from by decide] at x;omega
    match ks,e with
    | [k],_=>exact⟨k,rfl⟩
   have hkk:okG k:=by rw[dN] at hoks;exact hoks.1
   have fk:=yF hkk;have hR:fN (.mk 4 arg neg l m name [k])=oH (.mk 4 arg neg l m name [fN k]) (fN k):=by rw[fN,dB,dB];rfl
   rw[hR];rw[dB,dB] at hK;have hsl:1=[fN k].length:=rfl;have cc:=fun h vs tb w=>oN (fN k) fk arg neg l m name h vs tb w
   conv=>whnf
   repeat' first|((first|(apply aO.go)|(show Sto _ _ _ _;first|refine Sto.tl (A:=F1) (X:=[_]) rfl rfl ?_|refine Sto.tl (A:=[]) (X:=X2) rfl rfl ?_)|(show LdN _ _ _ _ _;first|refine LdN.tl (A:=F1) (F:=[_]) rfl ?_|refine LdN.tl (A:=[]) (F:=X2) rfl ?_)|(show Ld _ _ _ _;refine Ld.tl (A:=F1) (F:=[_]) rfl ?_)|(show CN _ _ _ _ _ _;(refine CN.rowX (X:=F1) gF hK hsl rfl (fun h2 X2 s2 hl2 hs hk2=>?_);obtain rfl:=Sl.val_inj hs;have tb2:=tb.mono (aA.lt hle hl2);refine CN.f rfl (cc _ _ tb2 (IsE.mkK ho ha (hv.mono (aA.lt hle hl2)) hb hk2)) (fun v h3 hl3 hr=>?_);obtain⟨op6,ar6,ng6,nn6,dd6,nm6,ss6,rfl,hE6⟩:=hr))|((first|apply oI.z|apply cI.z)))<;>conv=>whnf)|(show cnd _ _ _;first|((first|apply aB|apply aD)<;>intro _<;>first|(exfalso;omega)|conv=>whnf))
   all_goals exact RN.a ⟨op6,ar6,ng6,nn6,dd6,nm6,ss6,rfl,hE6⟩
  .by_cases h9:op=9
   .subst h9;obtain⟨k,rfl⟩:∃k,ks=[k]:=by
     have e:ks.length=1:=by have x:=hnb.1;rw[show aV 9=1 from by decide] at x;omega
     match ks,e with
     | [k],_=>exact⟨k,rfl⟩
    have hkk:okG k:=by rw[dN] at hoks;exact hoks.1
    have fk:=yF hkk;have hR:fN (.mk 9 arg neg l m name [k])=pU (.mk 9 arg neg l m name [fN k]) arg (fN k):=by rw[fN,dB,dB];rfl
    rw[hR];rw[dB,dB] at hK;have hsl:1=[fN k].length:=rfl;have cc:=fun h vs tb w=>aL5 (fN k) fk arg hnb.2.1 hnb.2.2.1 neg l m name h vs tb w
    conv=>whnf
    repeat' first|((first|(apply aO.go)|(show Sto _ _ _ _;first|refine Sto.tl (A:=F1) (X:=[_]) rfl rfl ?_|refine Sto.tl (A:=[]) (X:=X2) rfl rfl ?_)|(show LdN _ _ _ _ _;first|refine LdN.tl (A:=F1) (F:=[_]) rfl ?_|refine LdN.tl (A:=[]) (F:=X2) rfl ?_)|(show Ld _ _ _ _;refine Ld.tl (A:=F1) (F:=[_]) rfl ?_)|(show CN _ _ _ _ _ _;(refine CN.rowX (X:=F1) gF hK hsl rfl (fun h2 X2 s2 hl2 hs hk2=>?_);obtain rfl:=Sl.val_inj hs;have tb2:=tb.mono (aA.lt hle hl2);refine CN.f rfl (cc _ _ tb2 (IsE.mkK ho ha (hv.mono (aA.lt hle hl2)) hb hk2)) (fun v h3 hl3 hr=>?_);obtain⟨op6,ar6,ng6,nn6,dd6,nm6,ss6,rfl,hE6⟩:=hr))|((first|apply oI.z|apply cI.z)))<;>conv=>whnf)|(show cnd _ _ _;first|((first|apply aB|apply aD)<;>intro _<;>first|(exfalso;omega)|conv=>whnf))
    all_goals exact RN.a ⟨op6,ar6,ng6,nn6,dd6,nm6,ss6,rfl,hE6⟩
   .by_cases h5:op=5\/op=6\/op=7\/op=8
    .obtain⟨k,k',rfl⟩:∃k k',ks=[k,k']:=by
      have e:ks.length=2:=by
       rcases h5 with rfl|rfl|rfl|rfl
       .have x:=hnb.1;rw[show aV 5=2 from by decide] at x;omega
       .have x:=hnb.1;rw[show aV 6=2 from by decide] at x;omega
       .have x:=hnb.1;rw[show aV 7=2 from by decide] at x;omega
       .have x:=hnb.1;rw[show aV 8=2 from by decide] at x;omega
      match ks,e with
      | [k,k'],_=>exact⟨k,k',rfl⟩
     have hkk:okG k/\okG k':=by rw[dN,dN] at hoks;exact⟨hoks.1,hoks.2.1⟩
     have fk:=yF hkk.1;have fk':=yF hkk.2;have hR:fN (.mk op arg neg l m name [k,k'])=lR (.mk op arg neg l m name [fN k,fN k']) op (fN k) (fN k'):=by rw[fN,dB,dB,dB];exact if_pos h5
     rw[hR];rw[dB,dB,dB] at hK;have hsl:2=[fN k,fN k'].length:=rfl;have cc:=fun h vs tb w=>aFi (fN k) (fN k') op arg h5 neg l m name fk fk' h vs tb w
     obtain⟨R,hRR⟩:=AE (lR (.mk op arg neg l m name [fN k,fN k']) op (fN k) (fN k'));rw[<-hRR];simp only[<-hRR] at cc;clear hR hRR;conv=>whnf
     repeat' first|((first|(apply aO.go)|(show Sto _ _ _ _;first|refine Sto.tl (A:=F1) (X:=[_]) rfl rfl ?_|refine Sto.tl (A:=[]) (X:=X2) rfl rfl ?_)|(show LdN _ _ _ _ _;first|refine LdN.tl (A:=F1) (F:=[_]) rfl ?_|refine LdN.tl (A:=[]) (F:=X2) rfl ?_)|(show Ld _ _ _ _;refine Ld.tl (A:=F1) (F:=[_]) rfl ?_)|(show CN _ _ _ _ _ _;(refine CN.rowX (X:=F1) gF hK hsl rfl (fun h2 X2 s2 hl2 hs hk2=>?_);obtain rfl:=Sl.val_inj hs;have tb2:=tb.mono (aA.lt hle hl2);refine CN.f rfl (cc _ _ tb2 (IsE.mkK ho ha (hv.mono (aA.lt hle hl2)) hb hk2)) (fun v h3 hl3 hr=>?_);obtain⟨op6,ar6,ng6,nn6,dd6,nm6,ss6,rfl,hE6⟩:=hr))|((first|apply oI.z|apply cI.z)))<;>conv=>whnf)|(show cnd _ _ _;first|((first|apply aB|apply aD)<;>intro _<;>first|(exfalso;omega)|conv=>whnf))
     all_goals exact RN.a ⟨op6,ar6,ng6,nn6,dd6,nm6,ss6,rfl,hE6⟩
    .have hR:fN (.mk op arg neg l m name ks)=.mk op arg neg l m name (dB ks):=by rw[fN];exact aHc h4 h9 h5
     conv=>whnf
     repeat' first|((first|(apply aO.go)|(show Sto _ _ _ _;first|refine Sto.tl (A:=F1) (X:=[_]) rfl rfl ?_|refine Sto.tl (A:=[]) (X:=F1) rfl rfl ?_)|(show LdN _ _ _ _ _;first|refine LdN.tl (A:=F1) (F:=[_]) rfl ?_|refine LdN.tl (A:=[]) (F:=F1) rfl ?_)|(show Ld _ _ _ _;refine Ld.tl (A:=F1) (F:=[_]) rfl ?_)|((first|apply oI.z|apply cI.z)))<;>conv=>whnf)|(show cnd _ _ _;first|((first|apply aB|apply aD)<;>intro _<;>first|(exfalso;omega)|conv=>whnf))
     refine RN.rowA (X:=F1) gF hK (qP ks).symm fun h' s' hl hs hk'=>?_
     rw[hR,hs];exact⟨op,arg,neg,a,b,name,s',rfl,IsE.mkK ho ha (hv.mono (aA.lt hle hl)) hb hk'⟩
 .obtain⟨t,ht⟩:∃t,ks[j]?=some t:=⟨_,aY4 Aa⟩
  have c2:=fun h vs tb w=>ih t (bM ht) h vs tb w (aEk hoks (aY8 ht))
  have hkx:=hk.mono hle;replace tb:=tb.mono hle;conv=>whnf
  repeat' ((first|(show Idx _ _ _ _ _;refine Idx.kid hkx j t Aa ht (fun ad op arg neg a b name s' hE hld=>?_))|refine hld _ _ _ (aA.lr _) ?_|((first|apply oI.z|apply cI.z))|intro (_:Nat)|(show CN _ _ _ _ _ _;(refine CN.f rfl (c2 _ _ Ab Ab) (fun v h' hl2 hr=>?_);obtain⟨op2,ar2,ng2,nn2,dd2,nm2,ss2,rfl,hE2⟩:=hr;have hK2:=hK.mono hl2))|(show App _ _ _ _ _ _ _ _ _;refine App.growK (A:=[_,_]) (F:=F1) (size:=7) (bytes:=112) (z:=[.int .i64 0,.int .i64 0,.bool false,.slice none 0 0,.slice none 0 0,.string (txt []),.slice none 0 0]) rfl rfl gF ⟨_,0,none⟩ 1 1 [_,_,_,_,_,_,_] rfl (Has.front _) rfl Ag Aa Aa Ag (fun v' F' g'=>?_))|refine WN.i64 Aa Aa ?_|refine LdN.o 0 rfl rfl ?_|refine Sto.l 0 rfl rfl rfl ?_|(apply aB<;>intro _<;>try (exfalso;omega)))<;>conv=>whnf)
  exact⟨rfl,ks.length-(j+1),Aa,j+1,_,_::_::F',_,rfl,Ac,Aa,vi Aa,rfl,rfl,(g'.cons _).cons _,by rw[bB ht,sX,dB,dB];exact KC.snoc rfl hE2 hK2⟩
def aWv(t:Tr):Tr × Nat:=if aS t then (fX (fN t),0) else (aL,40)
theorem aFj(t:Tr)(h:aA)(vs:List Value)(tb:Tb h)(w:IsE h vs t):Fn0 T F.q8 [.agg vs.toArray] h fun v h'=>aKe h' v (aWv t):=by
 have c1:=fun h tb w=>jB t h vs tb w
 have c2:=fun h tb w (x:aS t)=>qZ t h vs tb w (xV x.1)
 have c3:=fun h us tb w (x:aS t)=>aD6 (fN t) h us 1 tb w (aPs x).1
 obtain⟨⟨op,arg,neg,l,m,name,ks⟩,ht⟩:=AE t;obtain⟨a,b,s,hvs,-⟩:=(ht.symm▸w:IsE h vs (.mk op arg neg l m name ks)).isK;subst hvs;by_cases hvt:aS t
 .rw[show dec (aS t)=true from aW hvt] at c1;rw[show aWv t=(fX (fN t),0) from if_pos hvt];refine f0C ok D.q8 rfl ?_;conv=>whnf
  repeat' ((first|(show LdN _ _ _ _ _;first|refine LdN.oA 0 rfl rfl ?_|refine LdN.oA 1 rfl rfl ?_)|(show CN _ _ _ _ _ _;first|(refine CN.f rfl (c1 _ Ab Ab) (fun v h' hl2 hr=>?_);subst hr)|(refine CN.f rfl (c2 _ Ae Af hvt) (fun v h' hl2 hr=>?_);obtain⟨op6,ar6,ng6,nn6,dd6,nm6,ss6,rfl,hE6⟩:=hr)|(refine CN.f rfl (c3 _ _ Ae hE6 hvt) (fun v h' hl2 hr=>?_);obtain⟨op7,ar7,ng7,nn7,dd7,nm7,ss7,rfl,hE7⟩:=hr))|((first|apply oI.z|apply cI.z))|intro (_:Nat)|refine Sto.l 0 rfl rfl rfl ?_)<;>conv=>whnf)
  exact RN.a ⟨_,rfl,op7,ar7,ng7,nn7,dd7,nm7,ss7,rfl,hE7⟩
 .rw[show dec (aS t)=false from aG hvt] at c1;rw[show aWv t=(aL,40) from if_neg hvt];refine f0C ok D.q8 rfl ?_;conv=>whnf
  repeat' ((first|(show LdN _ _ _ _ _;first|refine LdN.oA 0 rfl rfl ?_|refine LdN.oA 1 rfl rfl ?_)|(show CN _ _ _ _ _ _;(refine CN.f rfl (c1 _ Ab Ab) (fun v h' hl2 hr=>?_);subst hr))|((first|apply oI.z|apply cI.z))|intro (_:Nat)|refine Sto.l 0 rfl rfl rfl ?_)<;>conv=>whnf)
  exact RN.a ⟨_,rfl,VE.zero _⟩
end Go.Proofs.Y