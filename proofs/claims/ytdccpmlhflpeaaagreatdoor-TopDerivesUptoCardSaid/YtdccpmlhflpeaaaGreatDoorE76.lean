/- Simplify: the program's rules. -/
import Derived.Test.YtdccpmlhflpeaaaGreatDoorE68
set_option linter.all false
set_option maxHeartbeats 4000000
set_option maxRecDepth 20000
namespace Go.Vc
open Go Go.Dig
open Go.Proofs.Y in
theorem CN.rowX{T:Tab}{f:FuncId}{args:List Value}{k:Value->aA->Vc.Own->Prop}{e:TypeId}{v:Value}{n:Nat}{xs:List Value}{acc:List Tr}{h:aA}{X tl:Vc.Own}(g:aE e 7 v n xs X)(kc:KC h xs acc)(hn:n=acc.length)(hf:T.fn f=true)
  (hk:∀h' X' (s:Sl),h.le h'->v=s.val->IsK h' s acc->CN T f args h' (X'++tl) k):CN T f args h (X++tl) k:=by
 obtain⟨g1,⟨rfl,rfl⟩|⟨i,b,cap,zs,rfl,h2,h3,h4⟩⟩:=g
 .obtain rfl:acc=[]:=bD7.1 hn.symm;exact hk h X ⟨none,0,0⟩ (aA.lr _) rfl (IsK.nil h)
 .have hlt:=(bC9.1 h2).1;refine CN.keep i (by rw[bDi hlt];exact h2) hf fun hle=>?_
  rw[List.eraseIdx_append_of_lt_length hlt];exact hk _ _ ⟨some ⟨b,0,none⟩,n,cap⟩ hle rfl (IsK.put hle kc hn h3)
end Go.Vc
namespace Go.Proofs.Y
open Go Go.Vc Go.Dig
theorem vJ{q:Rat}(h:fits q):Sz 64 q:=⟨h.1,h.2⟩
theorem jN(h:aA)(n:Int)(h1:-9223372036854775808<=n)(h2:n<=9223372036854775807):Fn0 T F.q93 [.int .i64 n] h fun v h'=>VE h' v (mkL (n:Rat)):=by
 have hf:=qX n h1 h2;have c1:=fun h=>uD h n h1 h2
 have c2:=fun h a b w=>aE3 h a b (n:Rat) w (iD hf)
 obtain⟨q,hq⟩:=AB (n:Rat);rw[<-hq] at hf ⊢;simp only[<-hq] at c1 c2;clear hq;refine f0C ok D.q93 rfl ?_;conv=>whnf
 repeat' ((first|(show LdN _ _ _ _ _;first|refine LdN.oA 0 rfl rfl ?_|refine LdN.oA 1 rfl rfl ?_)|(show CN _ _ _ _ _ _;first|(refine CN.f rfl (c1 _) (fun v h' hl2 hr=>?_);obtain⟨s1,t1,rfl,hq1⟩:=hr)|(refine CN.f rfl (c2 _ _ _ Ab) (fun v h' hl2 hr=>?_);obtain⟨_,tt,bb,rfl,⟨op9,ar9,ng9,nn9,dd9,nm9,ss9,rfl,hE9⟩,t1,t2⟩:=hr))|((first|apply oI.z|apply cI.z))|intro (_:Nat)|(show Sto _ _ _ _;first|refine Sto.l 0 rfl rfl rfl ?_|refine Sto.l 1 rfl rfl rfl ?_))<;>conv=>whnf)
 all_goals
  have e:tt=mkL q:=by
   cases bb with
   | true=>exact (t1 rfl).2
   | false=>exact absurd hf (t2 rfl)
  subst e;exact RN.a ⟨op9,ar9,ng9,nn9,dd9,nm9,ss9,rfl,hE9⟩
def OpX(h:aA)(t:Tr)(n:Bool)(c d:Sl)(bb:Bool):Prop:=(bb=true->∃q,bW t=some q/\n=sg q/\cS h c d q)/\(bb=false->bW t=none)
theorem OpX.mono{h h':aA}{t:Tr}{n:Bool}{c d:Sl}{bb:Bool}(w:OpX h t n c d bb)(hl:h.le h'):OpX h' t n c d bb:=⟨fun e=>by
  obtain⟨q,h1,h2,h3⟩:=w.1 e;exact⟨q,h1,h2,h3.mono hl⟩,w.2⟩
theorem vK(t:Tr)(hok:okG t)(h:aA)(tb:Tb h)(op1 ar1:Int)(ng1:Bool)(nn1 dd1:Sl)(nm1:List Nat)(ss1:Sl)(w:IsE h [.int .i64 op1,.int .i64 ar1,.bool ng1,nn1.val,dd1.val,.string (txt nm1),ss1.val] t):Fn0 T F.q159 [.agg [.int .i64 op1,.int .i64 ar1,.bool ng1,nn1.val,dd1.val,.string (txt nm1),ss1.val].toArray] h fun v h'=>∃n,∃c d:Sl,∃bb,v=.agg #[.int .i64 op1,.int .i64 ar1,.bool ng1,nn1.val,dd1.val,.string (txt nm1),ss1.val,.bool n,c.val,d.val,.bool bb]/\OpX h' t n c d bb:=by
 have c1:=fun h tb w=>wL t hok h [.int .i64 op1,.int .i64 ar1,.bool ng1,nn1.val,dd1.val,.string (txt nm1),ss1.val] tb w
 refine f0C ok D.q159 rfl ?_;conv=>whnf
 repeat' ((first|(show LdN _ _ _ _ _;first|refine LdN.oA 0 rfl rfl ?_|refine LdN.oA 1 rfl rfl ?_|refine LdN.oA 2 rfl rfl ?_)|(show CN _ _ _ _ _ _;(refine CN.f rfl (c1 _ Ab Ab) (fun v h' hl2 hr=>?_);obtain⟨n5,c5,d5,bb5,rfl,t1,t2⟩:=hr))|((first|apply oI.z|apply cI.z))|intro (_:Nat)|(show Sto _ _ _ _;first|refine Sto.l 0 rfl rfl rfl ?_|refine Sto.l 1 rfl rfl rfl ?_))<;>conv=>whnf)
 all_goals exact RN.a ⟨n5,c5,d5,bb5,rfl,fun x=>by obtain⟨q,y1,-,y2,y3⟩:=t1 x;exact⟨q,y1,y2,y3⟩,t2⟩
theorem cL(t:Tr)(hok:okG t)(h:aA)(op1 ar1:Int)(ng1:Bool)(nn1 dd1:Sl)(nm1:List Nat)(ss1:Sl)(n1:Bool)(c1 d1:Sl)(bb1:Bool)(x:OpX h t n1 c1 d1 bb1)(n:Int)(hn1:-1<=n)(hn2:n<=1):
  Fn0 T F.q164 [.agg #[.int .i64 op1,.int .i64 ar1,.bool ng1,nn1.val,dd1.val,.string (txt nm1),ss1.val,.bool n1,c1.val,d1.val,.bool bb1],.int .i64 n] h fun v h'=>v=.bool (dec (bW t=some (n:Rat))):=by
 obtain⟨x1,x2⟩:=x;have k1:=fun h=>uD h n Aa Aa
 have hfn:=qX n Aa Aa;obtain⟨N,hN⟩:=AB (n:Rat);rw[<-hN] at hfn ⊢;simp only[<-hN] at k1;clear hN;cases bb1 with
 | false=>
  have e:=x2 rfl;rw[aG (by rw[e];simp)];refine f0C ok D.q164 rfl ?_;conv=>whnf
  repeat' ((first|((first|apply oI.z|apply cI.z))|intro (_:Nat)|refine Ld.o 0 rfl rfl ?_|refine DrN.run Al ?_)<;>conv=>whnf)
  all_goals exact RN.a rfl
 | true=>
  obtain⟨q,e,rfl,hq⟩:=x1 rfl;have hfq:=kC hok e;have k2:=fun h s t w' w=>aUy h c1 d1 s t q N w w' (iD hfq) (iD hfn)
  have fin:eq (aBc q N) 0=dec (bW t=some N):=by
   rw[pO];exact cY (aUx.trans ⟨fun z=>by rw[e,z],fun z=>Option.some.inj (e.symm.trans z)⟩)
  obtain⟨C,hC⟩:=AB (aBc q N);simp only[<-hC] at k2 fin;rw[<-fin];clear fin hC x1 x2;refine f0C ok D.q164 rfl ?_;conv=>whnf
  repeat' ((first|(show LdN _ _ _ _ _;refine LdN.oA 0 rfl rfl ?_)|(show CN _ _ _ _ _ _;first|(refine CN.f rfl (k1 _) (fun v h' hl2 hr=>?_);obtain⟨s5,t5,rfl,hq5⟩:=hr)|(refine CN.f rfl (k2 _ _ _ Ab (by (iterate 30 try first|assumption|refine cS.mono ?_ Ab);first|done|assumption)) (fun v h' hl2 hr=>?_);subst hr))|((first|apply oI.z|apply cI.z))|refine⟨fun _=>aH.o Ab,?_⟩|intro (_:Nat)|refine Ld.o 0 rfl rfl ?_|refine DrN.run Al ?_)<;>conv=>whnf)
  all_goals exact RN.a rfl
theorem aOd.yes{h:aA}{v:Value}{q:Rat}(w:aOd h v (some q)):∃c d:Sl,v=.tuple #[.agg #[.bool (sg q),c.val,d.val],.bool true]/\cS h c d q:=by
 obtain⟨n,c,d,bb,rfl,t1,t2⟩:=w;cases bb with
 | true=>obtain⟨q',y1,-,rfl,y3⟩:=t1 rfl;cases y1;exact⟨c,d,rfl,y3⟩
 | false=>cases t2 rfl
theorem aOd.no{h:aA}{v:Value}(w:aOd h v none):∃n,∃c d:Sl,v=.tuple #[.agg #[.bool n,c.val,d.val],.bool false]:=by
 obtain⟨n,c,d,bb,rfl,t1,t2⟩:=w;cases bb with
 | true=>obtain⟨q',y1,-⟩:=t1 rfl;cases y1
 | false=>exact⟨n,c,d,rfl⟩
theorem aO4.yes{h:aA}{v:Value}{q:Rat}(w:aO4 h v q)(hf:fits q):∃a,v=.tuple #[a,.bool true]/\VE h a (mkL q):=by
 obtain⟨a,tt,b,rfl,ve,t1,t2⟩:=w;cases b with
 | true=>obtain⟨-,rfl⟩:=t1 rfl;exact⟨a,rfl,ve⟩
 | false=>exact absurd hf (t2 rfl)
theorem aO4.no{h:aA}{v:Value}{q:Rat}(w:aO4 h v q)(hf:¬fits q):∃a tt,v=.tuple #[a,.bool false]/\VE h a tt:=by
 obtain⟨a,tt,b,rfl,ve,t1,t2⟩:=w;cases b with
 | true=>exact absurd (t1 rfl).1 hf
 | false=>exact⟨a,tt,rfl,ve⟩
theorem qA(t:Tr)(hok:okG t)(arg:Int)(neg:Bool)(l m name:List Nat)(h:aA)(vs:List Value)(tb:Tb h)(w:IsE h vs (.mk 4 arg neg l m name [t])):Fn0 T F.q90 [.agg vs.toArray] h fun v h'=>VE h' v (lS (.mk 4 arg neg l m name [t]) t):=by
 obtain⟨a,b,s,rfl,ho,ha,hv,hb,hk⟩:=w.isK;have hkl:s.l=1:=hk.len;have c1:=fun h vs tb w=>wL t hok h vs tb w
 cases hX:bW t with
 | some q=>
  have r1:lS (.mk 4 arg neg l m name [t]) t=mkL (-q):=by rw[lS,hX]
  have hfq:=kC hok hX;simp only[hX] at c1;rw[r1];have c1:=fun h vs tb w=>(c1 h vs tb w).mono fun v h' _ r=>r.yes
  have c2:=fun h c d w=>kS h c d q w ((iD hfq).mono Ad)
  have c3:=fun h c d (w:cS h c d q)=>(aE3 h c d (-q) (aAl w) (aEk (iD hfq))).mono fun v h' _ r=>r.yes (uX hfq)
  obtain⟨P,hP⟩:=AB (-q);simp only[<-hP] at c2 c3 ⊢;clear hP r1;obtain⟨bl3,off3,op3,ar3,ng3,nn3,dd3,nm3,ss3,hE3,hld3,hln3,hix3⟩:=hk.kidP 0 _ rfl;refine f0C ok D.q90 rfl ?_;conv=>whnf
  repeat' ((first|(apply aQ.go)|(show LdN _ _ _ _ _;first|refine LdN.oA 0 rfl rfl ?_|refine LdN.oA 2 rfl rfl ?_|(refine LdN.hasN [.int .i64 op3,.int .i64 ar3,.bool ng3,nn3.val,dd3.val,.string (txt nm3),ss3.val] rfl (fun i v hv=>hld3 _ _ i v Af hv) ?_))|refine hix3 _ _ rfl ?_|((first|apply oI.z|apply cI.z))|intro (_:Nat)|(show CN _ _ _ _ _ _;first|(refine CN.f rfl (c1 _ _ Ab Ab) (fun v h' hl2 hr=>?_);obtain⟨c5,d5,rfl,hq5⟩:=hr)|refine CN.quiet rfl (c2 _ _ _ Ab) ?_|(refine CN.f rfl (c3 _ _ _ Ab) (fun v h' hl2 hr=>?_);obtain⟨_,rfl,op9,ar9,ng9,nn9,dd9,nm9,ss9,rfl,hE9⟩:=hr))|refine Ld.o 1 rfl rfl ?_|(show Sto _ _ _ _;first|refine Sto.l 0 rfl rfl rfl ?_|refine Sto.l 2 rfl rfl rfl ?_))<;>conv=>whnf)
  all_goals exact RN.a ⟨op9,ar9,ng9,nn9,dd9,nm9,ss9,rfl,hE9⟩
 | none=>
  have r2:lE t->lS (.mk 4 arg neg l m name [t]) t=xE t:=fun x=>by rw[lS,hX];exact if_pos x
  have r3:¬lE t->lS (.mk 4 arg neg l m name [t]) t=.mk 4 arg neg l m name [t]:=fun x=>by rw[lS,hX];exact if_neg x
  simp only[hX] at c1;have c1:=fun h vs tb w=>(c1 h vs tb w).mono fun v h' _ r=>r.no
  by_cases hn:lE t
  .obtain⟨k,ng',l',m',nm',ar',rfl,e2,hkk⟩:=gX hok hn;rw[r2 hn,e2];clear r2 r3 hn e2;obtain⟨bl3,off3,op3,ar3,ng3,nn3,dd3,nm3,ss3,hE3,hld3,hln3,hix3⟩:=hk.kidP 0 _ rfl;obtain⟨e31,-,-,hv3,-,-,hk3⟩:=hE3.inv;have hkl3:ss3.l=1:=hk3.len;obtain⟨bl5,off5,op5,ar5,ng5,nn5,dd5,nm5,ss5,hE5,hld5,hln5,hix5⟩:=hk3.kidP 0 _ rfl;refine f0C ok D.q90 rfl ?_;conv=>whnf
   repeat' ((first|(apply aQ.go)|(show LdN _ _ _ _ _;first|refine LdN.oA 1 rfl rfl ?_|(refine LdN.hasN [.int .i64 op3,.int .i64 ar3,.bool ng3,nn3.val,dd3.val,.string (txt nm3),ss3.val] rfl (fun i v hv=>hld3 _ _ i v Af hv) ?_)|refine LdN.hasN [.int .i64 op5,.int .i64 ar5,.bool ng5,nn5.val,dd5.val,.string (txt nm5),ss5.val] rfl (fun i v hv=>hld5 _ _ i v Ab hv) ?_)|refine hix3 _ _ rfl ?_|refine hix5 _ _ rfl ?_|((first|apply oI.z|apply cI.z))|intro (_:Nat)|(show Ld _ _ _ _;first|(refine Ld.of (hld3 _ _ 0 _ Af rfl) ?_)|(refine Ld.of (hld3 _ _ 6 _ Af rfl) ?_)|refine Ld.o 1 rfl rfl ?_|refine Ld.o 2 rfl rfl ?_)|(show CN _ _ _ _ _ _;(refine CN.f rfl (c1 _ _ Ab Ab) (fun v h' hl2 hr=>?_);obtain⟨n5,c5,d5,rfl⟩:=hr))|(show Sto _ _ _ _;first|refine Sto.l 0 rfl rfl rfl ?_|refine Sto.l 1 rfl rfl rfl ?_)|(apply aD<;>intro _<;>try (exfalso;omega)))<;>conv=>whnf)
   all_goals exact RN.a ⟨op5,ar5,ng5,nn5,dd5,nm5,ss5,rfl,Ai⟩
  .rw[r3 hn];obtain⟨bl3,off3,op3,ar3,ng3,nn3,dd3,nm3,ss3,hE3,hld3,hln3,hix3⟩:=hk.kidP 0 _ rfl;have hne:op3≠4:=by
    obtain⟨o,ar',ng',l',m',nm',ks'⟩:=t;obtain⟨rfl,-⟩:=hE3.inv;exact hn
   clear r2 r3 hn;refine f0C ok D.q90 rfl ?_;conv=>whnf
   repeat' ((first|(apply aQ.go)|(show LdN _ _ _ _ _;first|refine LdN.oA 1 rfl rfl ?_|refine LdN.oA 2 rfl rfl ?_|(refine LdN.hasN [.int .i64 op3,.int .i64 ar3,.bool ng3,nn3.val,dd3.val,.string (txt nm3),ss3.val] rfl (fun i v hv=>hld3 _ _ i v Af hv) ?_))|refine hix3 _ _ rfl ?_|((first|apply oI.z|apply cI.z))|intro (_:Nat)|(show Ld _ _ _ _;first|(refine Ld.of (hld3 _ _ 0 _ Af rfl) ?_)|refine Ld.o 1 rfl rfl ?_|refine Ld.o 2 rfl rfl ?_)|(show CN _ _ _ _ _ _;(refine CN.f rfl (c1 _ _ Ab Ab) (fun v h' hl2 hr=>?_);obtain⟨n5,c5,d5,rfl⟩:=hr))|(show Sto _ _ _ _;first|refine Sto.l 0 rfl rfl rfl ?_|refine Sto.l 1 rfl rfl rfl ?_)|(apply aD<;>intro _<;>try (exfalso;omega)))<;>conv=>whnf)
   all_goals exact RN.a ⟨4,arg,neg,a,b,name,s,rfl,Ai⟩
theorem aXp{q:Rat}(h:fits q){n:Int}(h1:-32<=n)(h2:n<=32)(h0:n<0->nu q≠0):Sz 1073741824 (kR q n):=by
 unfold kR
 split
 .exact (Sz.pow (Sz.inv (vJ h) (h0 Ab)) Aa).mono Ad
 .exact (Sz.pow (vJ h) Aa).mono Ad
theorem aO8(t:Tr)(hok:okG t)(arg:Int)(ha1:-32<=arg)(ha2:arg<=32)(neg:Bool)(l m name:List Nat)(h:aA)(vs:List Value)(tb:Tb h)(w:IsE h vs (.mk 9 arg neg l m name [t])):Fn0 T F.q91 [.agg vs.toArray] h fun v h'=>VE h' v (mX (.mk 9 arg neg l m name [t]) arg t):=by
 obtain⟨a,b,s,rfl,ho,ha,hv,hb,hk⟩:=w.isK;have hkl:s.l=1:=hk.len;have c1:=fun h vs tb w=>wL t hok h vs tb w
 have r1:∀q,tJ arg t=some q->mX (.mk 9 arg neg l m name [t]) arg t=mkL q:=fun q e=>by rw[mX,e]
 have r2:tJ arg t=none->arg=0->mX (.mk 9 arg neg l m name [t]) arg t=mkL 1:=fun e x=>by rw[mX,e];exact if_pos x
 have r3:tJ arg t=none->arg=1->mX (.mk 9 arg neg l m name [t]) arg t=t:=fun e x=>by rw[mX,e];exact (if_neg Aa).trans (if_pos x)
 have r4:tJ arg t=none->arg≠0->arg≠1->mX (.mk 9 arg neg l m name [t]) arg t=.mk 9 arg neg l m name [t]:=fun e x y=>by rw[mX,e];exact (if_neg x).trans (if_neg y)
 have w1:=fun h=>jN h 1 Ad Ad
 simp only[aCv] at w1;obtain⟨bl3,off3,op3,ar3,ng3,nn3,dd3,nm3,ss3,hE3,hld3,hln3,hix3⟩:=hk.kidP 0 _ rfl;cases hX:bW t with
 | none=>
  have p3:tJ arg t=none:=by unfold tJ;rw[hX];rfl
  replace r2:=r2 p3;replace r3:=r3 p3;replace r4:=r4 p3;simp only[hX] at c1;have c1:=fun h vs tb w=>(c1 h vs tb w).mono fun v h' _ r=>r.no
  obtain⟨R,hR⟩:=AB (mX (.mk 9 arg neg l m name [t]) arg t);rw[<-hR] at r2 r3 r4 ⊢;replace r2:=Hq.mk r2;replace r3:=Hq.mk r3;replace r4:=Hq.mk r4;clear hR r1;refine f0C ok D.q91 rfl ?_;conv=>whnf
  repeat' ((first|(apply aQ.go)|(show LdN _ _ _ _ _;first|refine LdN.oA 1 rfl rfl ?_|refine LdN.oA 2 rfl rfl ?_|(refine LdN.hasN [.int .i64 op3,.int .i64 ar3,.bool ng3,nn3.val,dd3.val,.string (txt nm3),ss3.val] rfl (fun i v hv=>hld3 _ _ i v Af hv) ?_))|refine hix3 _ _ rfl ?_|((first|apply oI.z|apply cI.z))|intro (_:Nat)|(show CN _ _ _ _ _ _;first|(refine CN.f rfl (c1 _ _ Ab Ab) (fun v h' hl2 hr=>?_);obtain⟨n5,c5,d5,rfl⟩:=hr)|(refine CN.f rfl (w1 _) (fun v h' hl2 hr=>?_);obtain⟨op7,ar7,ng7,nn7,dd7,nm7,ss7,rfl,hE7⟩:=hr))|(show Ld _ _ _ _;first|refine Ld.o 1 rfl rfl ?_|refine Ld.o 2 rfl rfl ?_)|(show Sto _ _ _ _;first|refine Sto.l 0 rfl rfl rfl ?_|refine Sto.l 1 rfl rfl rfl ?_)|(apply aD<;>intro _<;>try (exfalso;omega)))<;>conv=>whnf)
  all_goals first
   | (rw[r2.out Aa];exact RN.a ⟨op7,ar7,ng7,nn7,dd7,nm7,ss7,rfl,hE7⟩)
   | (rw[r3.out Aa];exact RN.a ⟨op3,ar3,ng3,nn3,dd3,nm3,ss3,rfl,Ai⟩)
   | (rw[r4.out Aa Aa];exact RN.a ⟨9,arg,neg,a,b,name,s,rfl,Ai⟩)
 | some q=>
  have hfq:=kC hok hX;have p1:¬(arg<0/\dS q=0)->tJ arg t=iK (kR q arg):=fun x=>by
   unfold tJ;rw[hX];exact if_neg fun z=>x ⟨z.1,jZ.2 (gU.2 z.2)⟩
  have p2:arg<0->dS q=0->tJ arg t=none:=fun x y=>by
   unfold tJ;rw[hX];exact if_pos ⟨x,gU.1 (jZ.1 y)⟩
  simp only[hX] at c1;have c1:=fun h vs tb w=>(c1 h vs tb w).mono fun v h' _ r=>r.yes
  have zz:¬(arg<0/\dS q=0)->Sz 1073741824 (kR q arg):=fun x=>aXp hfq ha1 ha2 fun y z=>x ⟨y,jZ.2 z⟩
  have pr:∀h' c d,¬arg<0->cS h' c d q->Fn0 T F.q158 [.agg #[.bool (sg q),Sl.val c,Sl.val d],.int .i64 arg] h' fun v h'=>∃s t:Sl,v=.agg #[.bool (sg (kR q arg)),s.val,t.val]/\cS h' s t (kR q arg):=fun h' c d x w=>by
   have:=aDu h' c d q arg arg.toNat Aa w ((vJ hfq).mono Ad) Aa;rw[show q^arg.toNat=kR q arg from (if_neg x:kR q arg=_).symm] at this;exact this
  have pi:∀h' c d,arg<0->dS q≠0->cS h' d c q->Fn0 T F.q158 [.agg #[.bool (sg q⁻¹),Sl.val c,Sl.val d],.int .i64 (0-arg)] h' fun v h'=>∃s t:Sl,v=.agg #[.bool (sg (kR q arg)),s.val,t.val]/\cS h' s t (kR q arg):=fun h' c d x y w=>by
   have h0:nu q≠0:=fun z=>y (jZ.2 z)
   have:=aDu h' c d q⁻¹ (0-arg) (-arg).toNat Aa ⟨by rw[vW q h0];exact w.den,by rw[den_inv q h0];exact w.num⟩ ((Sz.inv (vJ hfq) h0).mono Ad) Aa
   rw[show q⁻¹^(-arg).toNat=kR q arg from (if_pos x:kR q arg=_).symm] at this;exact this
  have sn:=fun h' c d w=>uB h' c d q w ((vJ hfq).mono Ad)
  have iv:=fun h' c d w (x:dS q≠0)=>zB h' c d q w fun y=>x (jZ.2 y)
  have li:=fun h' c d w x=>aE3 h' c d (kR q arg) w (zz x)
  obtain⟨Sg,hSg⟩:=AB (dS q);obtain⟨P,hP⟩:=AB (kR q arg);obtain⟨I,hI⟩:=AB (q⁻¹);obtain⟨V,hV⟩:=AB (tJ arg t);obtain⟨R,hR⟩:=AB (mX (.mk 9 arg neg l m name [t]) arg t);simp only[<-hSg] at p1 p2 pi sn iv li;simp only[<-hP] at p1 pr pi li;simp only[<-hI] at pi iv;simp only[<-hV,<-hR] at r1 r2 r3 r4;simp only[<-hV] at p1 p2;rw[<-hR];have y1:¬(arg<0/\Sg=0)->fits P->R=mkL P:=fun x z=>r1 P ((p1 x).trans (if_pos z))
  have y2:¬(arg<0/\Sg=0)->¬fits P->V=none:=fun x z=>(p1 x).trans (if_neg z)
  replace r2:=Hq.mk r2;replace r3:=Hq.mk r3;replace r4:=Hq.mk r4;replace p2:=Hq.mk p2;replace y1:=Hq.mk y1;replace y2:=Hq.mk y2;clear hSg hP hI hV hR r1 p1 zz;by_cases hfp:fits P
  .have li:=fun h' c d w x=>(li h' c d w x).mono fun v h' _ r=>r.yes hfp
   refine f0C ok D.q91 rfl ?_;conv=>whnf
   repeat' first|((first|(apply aQ.go)|(show LdN _ _ _ _ _;first|refine LdN.oA 0 rfl rfl ?_|refine LdN.oA 1 rfl rfl ?_|refine LdN.oA 2 rfl rfl ?_|(refine LdN.hasN [.int .i64 op3,.int .i64 ar3,.bool ng3,nn3.val,dd3.val,.string (txt nm3),ss3.val] rfl (fun i v hv=>hld3 _ _ i v Af hv) ?_))|refine hix3 _ _ rfl ?_|((first|apply oI.z|apply cI.z))|intro (_:Nat)|(show CN _ _ _ _ _ _;first|(refine CN.f rfl (c1 _ _ Ab Ab) (fun v h' hl2 hr=>?_);obtain⟨c5,d5,rfl,hq5⟩:=hr)|refine CN.quiet rfl (sn _ _ _ Ab) ?_|refine CN.quiet rfl (iv _ _ _ Ab Aa) ?_|(refine CN.f rfl (pr _ _ _ Aa Ab) (fun v h' hl2 hr=>?_);obtain⟨s7,t7,rfl,hq7⟩:=hr)|(refine CN.f rfl (pi _ _ _ Aa Aa Ab) (fun v h' hl2 hr=>?_);obtain⟨s7,t7,rfl,hq7⟩:=hr)|(refine CN.f rfl (li _ _ _ Ab Aa) (fun v h' hl2 hr=>?_);obtain⟨_,rfl,op9,ar9,ng9,nn9,dd9,nm9,ss9,rfl,hE9⟩:=hr))|refine WN.i64 Aa Aa ?_|(show Ld _ _ _ _;first|refine Ld.o 1 rfl rfl ?_|refine Ld.o 2 rfl rfl ?_)|(show Sto _ _ _ _;first|refine Sto.l 0 rfl rfl rfl ?_|refine Sto.l 1 rfl rfl rfl ?_|refine Sto.l 2 rfl rfl rfl ?_))<;>conv=>whnf)|(show cnd _ _ _;first|((first|apply aB|apply bI|apply aD)<;>intro _<;>first|(exfalso;omega)|conv=>whnf)|(refine aJ ?_))
   all_goals first
    | (rw[y1.out Aa hfp];exact RN.a ⟨op9,ar9,ng9,nn9,dd9,nm9,ss9,rfl,hE9⟩)
    | (rw[r2.out (p2.out Aa Aa) Aa];exact RN.a ⟨op7,ar7,ng7,nn7,dd7,nm7,ss7,rfl,hE7⟩)
    | (rw[r3.out (p2.out Aa Aa) Aa];exact RN.a ⟨op3,ar3,ng3,nn3,dd3,nm3,ss3,rfl,Ab⟩)
    | (rw[r4.out (p2.out Aa Aa) Aa Aa];exact RN.a ⟨9,arg,neg,a,b,name,s,rfl,Ai⟩)
  .have li:=fun h' c d w x=>(li h' c d w x).mono fun v h' _ r=>r.no hfp
   have y3:Hq (V=none):=⟨by
     by_cases z:arg<0/\Sg=0
     .exact p2.out z.1 z.2
     .exact y2.out z hfp⟩
   refine f0C ok D.q91 rfl ?_;conv=>whnf
   repeat' first|((first|(apply aQ.go)|(show LdN _ _ _ _ _;first|refine LdN.oA 0 rfl rfl ?_|refine LdN.oA 1 rfl rfl ?_|refine LdN.oA 2 rfl rfl ?_|refine LdN.oA 3 rfl rfl ?_|(refine LdN.hasN [.int .i64 op3,.int .i64 ar3,.bool ng3,nn3.val,dd3.val,.string (txt nm3),ss3.val] rfl (fun i v hv=>hld3 _ _ i v (by (iterate 30 try first|assumption|exact aA.lr _|refine aA.lt ?_ Ab);first|done|assumption) hv) ?_))|refine hix3 _ _ rfl ?_|((first|apply oI.z|apply cI.z))|intro (_:Nat)|(show CN _ _ _ _ _ _;first|(refine CN.f rfl (c1 _ _ Ab Ab) (fun v h' hl2 hr=>?_);obtain⟨c5,d5,rfl,hq5⟩:=hr)|refine CN.quiet rfl (sn _ _ _ Ab) ?_|refine CN.quiet rfl (iv _ _ _ Ab Aa) ?_|(refine CN.f rfl (pr _ _ _ Aa Ab) (fun v h' hl2 hr=>?_);obtain⟨s7,t7,rfl,hq7⟩:=hr)|(refine CN.f rfl (pi _ _ _ Aa Aa Ab) (fun v h' hl2 hr=>?_);obtain⟨s7,t7,rfl,hq7⟩:=hr)|(refine CN.f rfl (li _ _ _ Ab Aa) (fun v h' hl2 hr=>?_);obtain⟨_,tt,rfl,op9,ar9,ng9,nn9,dd9,nm9,ss9,rfl,hE9⟩:=hr)|(refine CN.f rfl (w1 _) (fun v h' hl2 hr=>?_);obtain⟨op7,ar7,ng7,nn7,dd7,nm7,ss7,rfl,hE7⟩:=hr))|refine WN.i64 Aa Aa ?_|(show Ld _ _ _ _;first|refine Ld.o 1 rfl rfl ?_|refine Ld.o 2 rfl rfl ?_|refine Ld.o 3 rfl rfl ?_)|(show Sto _ _ _ _;first|refine Sto.l 0 rfl rfl rfl ?_|refine Sto.l 1 rfl rfl rfl ?_|refine Sto.l 2 rfl rfl rfl ?_))<;>conv=>whnf)|(show cnd _ _ _;first|((first|apply aB|apply bI|apply aD)<;>intro _<;>first|(exfalso;omega)|conv=>whnf)|(refine aJ ?_))
   all_goals first
    | (rw[r2.out y3.out Aa];exact RN.a ⟨op7,ar7,ng7,nn7,dd7,nm7,ss7,rfl,hE7⟩)
    | (rw[r3.out y3.out Aa];exact RN.a ⟨op3,ar3,ng3,nn3,dd3,nm3,ss3,rfl,Ai⟩)
    | (rw[r4.out y3.out Aa Aa];exact RN.a ⟨9,arg,neg,a,b,name,s,rfl,Ai⟩)
theorem aUb:((-1:Int):Rat)=-1:=rfl
def qH(op:Int)(q r:Rat):Rat:=if op=5 then q+r else if op=6 then q-r else q*r

theorem aA4(E t u:Tr)(hok1:okG t)(hok2:okG u)(h:aA)(tb:Tb h)(op0 ar0:Int)(ng0:Bool)(nn0 dd0:Sl)(nm0:List Nat)(ss0:Sl)(op1 ar1:Int)(ng1:Bool)(nn1 dd1:Sl)(nm1:List Nat)(ss1:Sl)(n1:Bool)(c1 d1:Sl)(bb1:Bool)(op2 ar2:Int)(ng2:Bool)(nn2 dd2:Sl)(nm2:List Nat)(ss2:Sl)(n2:Bool)(c2 d2:Sl)(bb2:Bool)(hE0:IsE h [.int .i64 op0,.int .i64 ar0,.bool ng0,nn0.val,dd0.val,.string (txt nm0),ss0.val] E)(hE1:IsE h [.int .i64 op1,.int .i64 ar1,.bool ng1,nn1.val,dd1.val,.string (txt nm1),ss1.val] t)(hE2:IsE h [.int .i64 op2,.int .i64 ar2,.bool ng2,nn2.val,dd2.val,.string (txt nm2),ss2.val] u)(x1:OpX h t n1 c1 d1 bb1)(x2:OpX h u n2 c2 d2 bb2):
  Fn0 T F.q161 [.agg #[.int .i64 op0,.int .i64 ar0,.bool ng0,nn0.val,dd0.val,.string (txt nm0),ss0.val],.agg #[.int .i64 op1,.int .i64 ar1,.bool ng1,nn1.val,dd1.val,.string (txt nm1),ss1.val,.bool n1,c1.val,d1.val,.bool bb1],.agg #[.int .i64 op2,.int .i64 ar2,.bool ng2,nn2.val,dd2.val,.string (txt nm2),ss2.val,.bool n2,c2.val,d2.val,.bool bb2]] h fun v h'=>VE h' v (uU E t u):=by
 have q1z:=fun h x=>cL t hok1 h op1 ar1 ng1 nn1 dd1 nm1 ss1 n1 c1 d1 bb1 x 0 Ad Ad
 have q1o:=fun h x=>cL t hok1 h op1 ar1 ng1 nn1 dd1 nm1 ss1 n1 c1 d1 bb1 x 1 Ad Ad
 have q1m:=fun h x=>cL t hok1 h op1 ar1 ng1 nn1 dd1 nm1 ss1 n1 c1 d1 bb1 x (-1) Ad Ad
 have q2z:=fun h x=>cL u hok2 h op2 ar2 ng2 nn2 dd2 nm2 ss2 n2 c2 d2 bb2 x 0 Ad Ad
 have q2o:=fun h x=>cL u hok2 h op2 ar2 ng2 nn2 dd2 nm2 ss2 n2 c2 d2 bb2 x 1 Ad Ad
 simp only[vF] at q1z q2z;simp only[aCv] at q1o q2o;simp only[aUb] at q1m;have w0:=fun h=>jN h 0 Ad Ad
 simp only[vF] at w0;have cn:=fun h vs tb w=>qA u hok2 0 false [] [] [] h vs tb w
 have r1:bW t=some 0->uU E t u=u:=fun x=>if_pos x
 have r2:¬bW t=some 0->bW u=some 0->uU E t u=t:=fun x y=>(if_neg x).trans (if_pos y)
 have r3:¬bW t=some 0->¬bW u=some 0->lE u->uU E t u=aF 6 0 [t,xE u]:=fun x y z=>(if_neg x).trans ((if_neg y).trans (if_pos z))
 have r4:¬bW t=some 0->¬bW u=some 0->¬lE u->uU E t u=E:=fun x y z=>(if_neg x).trans ((if_neg y).trans (if_neg z))
 obtain⟨R,hR⟩:=AB (uU E t u);rw[<-hR];simp only[<-hR] at r1 r2 r3 r4;clear hR;by_cases hn:lE u
 .obtain⟨k,ng',l',m',nm',ar',rfl,e2,hkk⟩:=gX hok2 hn;rw[e2] at r3;replace r3:=fun x y=>r3 x y hn
  clear r4 hn e2;obtain⟨e31,-,-,hv3,-,-,hk3⟩:=hE2.inv;have hkl3:ss2.l=1:=hk3.len;obtain⟨bl5,off5,op5,ar5,ng5,nn5,dd5,nm5,ss5,hE5,hld5,hln5,hix5⟩:=hk3.kidP 0 _ rfl;obtain⟨u,hu⟩:=AB (Tr.mk 4 ar' ng' l' m' nm' [k]);simp only[<-hu] at *;refine f0C ok D.q161 rfl ?_;conv=>whnf
  repeat' first|((first|(show DrN _ _ _ _ _ _;refine DrN.own [_,_] Aw Al ?_)|(refine⟨fun _=>⟨aH.o As,by first|exact List.Sublist.cons _ (List.Sublist.cons_cons _ (List.Sublist.cons_cons _ (bE1 _)))|exact List.Sublist.cons _ (List.Sublist.cons _ (List.Sublist.cons_cons _ (List.Sublist.cons_cons _ (bE1 _))))⟩,?_⟩)|refine hix5 _ _ rfl ?_|((first|apply oI.z|apply cI.z))|intro (_:Nat)|(show LdN _ _ _ _ _;first|refine LdN.oA 0 rfl rfl ?_|refine LdN.oA 1 rfl rfl ?_|refine LdN.oA 2 rfl rfl ?_|(refine LdN.hasN [.int .i64 op5,.int .i64 ar5,.bool ng5,nn5.val,dd5.val,.string (txt nm5),ss5.val] rfl (fun i v hv=>hld5 _ _ i v Ac hv) ?_))|(show CN _ _ _ _ _ _;first|(refine CN.f rfl (q1z _ (x1.mono Af)) (fun v h' hl2 hr=>?_);subst hr)|(refine CN.f rfl (q2z _ (x2.mono Ab)) (fun v h' hl2 hr=>?_);subst hr)|(refine CN.keep 0 rfl rfl (fun hl2=>?_);refine CN.f rfl (lG 6 0 Ad Ad [t,k] ⟨some ⟨_,0,none⟩,2,2⟩ _ (IsK.two (hE1.mono Ac) (hE5.mono Ac) rfl rfl hl2)) (fun v h3 hl3 hr=>?_);obtain⟨op8,ar8,ng8,nn8,dd8,nm8,ss8,rfl,hE8⟩:=hr))|(show Ld _ _ _ _;first|refine Ld.o 0 rfl rfl ?_|refine Ld.o 1 rfl rfl ?_)|refine Sto.l 0 rfl rfl rfl ?_)<;>conv=>whnf)|(show cnd _ _ _;first|((first|apply aD|apply aW)<;>intro _<;>first|(exfalso;omega)|conv=>whnf))
  all_goals first
   | (rw[r1 Ab];exact RN.a ⟨op2,ar2,ng2,nn2,dd2,nm2,ss2,rfl,Ai⟩)
   | (rw[r2 Ab Ab];exact RN.a ⟨op1,ar1,ng1,nn1,dd1,nm1,ss1,rfl,Ai⟩)
   | (rw[r3 Ab Ab];exact RN.a ⟨op8,ar8,ng8,nn8,dd8,nm8,ss8,rfl,hE8⟩)
   | (rw[r4 Ab Ab];exact RN.a ⟨op0,ar0,ng0,nn0,dd0,nm0,ss0,rfl,Ab⟩)
 .replace r4:=fun x y=>r4 x y hn
  have hne:op2≠4:=by
   obtain⟨o,ar',ng',l',m',nm',ks'⟩:=u;obtain⟨rfl,-⟩:=hE2.inv;exact hn
  clear r3 hn;refine f0C ok D.q161 rfl ?_;conv=>whnf
  repeat' first|((first|(show LdN _ _ _ _ _;first|refine LdN.oA 0 rfl rfl ?_|refine LdN.oA 1 rfl rfl ?_|refine LdN.oA 2 rfl rfl ?_|refine LdN.oA 3 rfl rfl ?_)|(show CN _ _ _ _ _ _;first|(refine CN.f rfl (q1z _ (x1.mono Af)) (fun v h' hl2 hr=>?_);subst hr)|(refine CN.f rfl (q2z _ (x2.mono Ab)) (fun v h' hl2 hr=>?_);subst hr))|((first|apply oI.z|apply cI.z))|intro (_:Nat)|refine Ld.o 1 rfl rfl ?_|refine Sto.l 0 rfl rfl rfl ?_)<;>conv=>whnf)|(show cnd _ _ _;first|((first|apply aD|apply aW)<;>intro _<;>first|(exfalso;omega)|conv=>whnf))
  all_goals first
   | (rw[r1 Ab];exact RN.a ⟨op2,ar2,ng2,nn2,dd2,nm2,ss2,rfl,Ai⟩)
   | (rw[r2 Ab Ab];exact RN.a ⟨op1,ar1,ng1,nn1,dd1,nm1,ss1,rfl,Ai⟩)
   | (rw[r3 Ab Ab];exact RN.a ⟨op8,ar8,ng8,nn8,dd8,nm8,ss8,rfl,hE8⟩)
   | (rw[r4 Ab Ab];exact RN.a ⟨op0,ar0,ng0,nn0,dd0,nm0,ss0,rfl,Ai⟩)
theorem nV(E t u:Tr)(hok1:okG t)(hok2:okG u)(h:aA)(tb:Tb h)(op0 ar0:Int)(ng0:Bool)(nn0 dd0:Sl)(nm0:List Nat)(ss0:Sl)(op1 ar1:Int)(ng1:Bool)(nn1 dd1:Sl)(nm1:List Nat)(ss1:Sl)(n1:Bool)(c1 d1:Sl)(bb1:Bool)(op2 ar2:Int)(ng2:Bool)(nn2 dd2:Sl)(nm2:List Nat)(ss2:Sl)(n2:Bool)(c2 d2:Sl)(bb2:Bool)(hE0:IsE h [.int .i64 op0,.int .i64 ar0,.bool ng0,nn0.val,dd0.val,.string (txt nm0),ss0.val] E)(hE1:IsE h [.int .i64 op1,.int .i64 ar1,.bool ng1,nn1.val,dd1.val,.string (txt nm1),ss1.val] t)(hE2:IsE h [.int .i64 op2,.int .i64 ar2,.bool ng2,nn2.val,dd2.val,.string (txt nm2),ss2.val] u)(x1:OpX h t n1 c1 d1 bb1)(x2:OpX h u n2 c2 d2 bb2):
  Fn0 T F.q162 [.agg #[.int .i64 op0,.int .i64 ar0,.bool ng0,nn0.val,dd0.val,.string (txt nm0),ss0.val],.agg #[.int .i64 op1,.int .i64 ar1,.bool ng1,nn1.val,dd1.val,.string (txt nm1),ss1.val,.bool n1,c1.val,d1.val,.bool bb1],.agg #[.int .i64 op2,.int .i64 ar2,.bool ng2,nn2.val,dd2.val,.string (txt nm2),ss2.val,.bool n2,c2.val,d2.val,.bool bb2]] h fun v h'=>VE h' v (wM E t u):=by
 have q1z:=fun h x=>cL t hok1 h op1 ar1 ng1 nn1 dd1 nm1 ss1 n1 c1 d1 bb1 x 0 Ad Ad
 have q1o:=fun h x=>cL t hok1 h op1 ar1 ng1 nn1 dd1 nm1 ss1 n1 c1 d1 bb1 x 1 Ad Ad
 have q1m:=fun h x=>cL t hok1 h op1 ar1 ng1 nn1 dd1 nm1 ss1 n1 c1 d1 bb1 x (-1) Ad Ad
 have q2z:=fun h x=>cL u hok2 h op2 ar2 ng2 nn2 dd2 nm2 ss2 n2 c2 d2 bb2 x 0 Ad Ad
 have q2o:=fun h x=>cL u hok2 h op2 ar2 ng2 nn2 dd2 nm2 ss2 n2 c2 d2 bb2 x 1 Ad Ad
 simp only[vF] at q1z q2z;simp only[aCv] at q1o q2o;simp only[aUb] at q1m;have w0:=fun h=>jN h 0 Ad Ad
 simp only[vF] at w0;have cn:=fun h vs tb w=>qA u hok2 0 false [] [] [] h vs tb w
 have r1:bW u=some 0->wM E t u=t:=fun x=>if_pos x
 have r2:¬bW u=some 0->bW t=some 0->wM E t u=lS (aF 4 0 [u]) u:=fun x y=>(if_neg x).trans (if_pos y)
 have r3:¬bW u=some 0->¬bW t=some 0->lE u->wM E t u=aF 5 0 [t,xE u]:=fun x y z=>(if_neg x).trans ((if_neg y).trans (if_pos z))
 have r4:¬bW u=some 0->¬bW t=some 0->¬lE u->wM E t u=E:=fun x y z=>(if_neg x).trans ((if_neg y).trans (if_neg z))
 have r5:True:=trivial;have r6:True:=trivial;obtain⟨R,hR⟩:=AB (wM E t u);rw[<-hR];simp only[<-hR] at r1 r2 r3 r4;clear hR;by_cases hn:lE u
 .obtain⟨k,ng',l',m',nm',ar',rfl,e2,hkk⟩:=gX hok2 hn;rw[e2] at r3;replace r3:=fun x y=>r3 x y hn
  clear r4 hn e2;obtain⟨e31,-,-,hv3,-,-,hk3⟩:=hE2.inv;have hkl3:ss2.l=1:=hk3.len;obtain⟨bl5,off5,op5,ar5,ng5,nn5,dd5,nm5,ss5,hE5,hld5,hln5,hix5⟩:=hk3.kidP 0 _ rfl;obtain⟨u,hu⟩:=AB (Tr.mk 4 ar' ng' l' m' nm' [k]);simp only[<-hu] at *;refine f0C ok D.q162 rfl ?_;conv=>whnf
  repeat' first|((first|(show DrN _ _ _ _ _ _;refine DrN.own [_,_] Aw Al ?_)|(refine⟨fun _=>⟨aH.o As,by first|exact List.Sublist.cons _ (List.Sublist.cons_cons _ (List.Sublist.cons_cons _ (bE1 _)))|exact List.Sublist.cons _ (List.Sublist.cons _ (List.Sublist.cons_cons _ (List.Sublist.cons_cons _ (bE1 _))))⟩,?_⟩)|refine hix5 _ _ rfl ?_|((first|apply oI.z|apply cI.z))|intro (_:Nat)|(show LdN _ _ _ _ _;first|refine LdN.oA 0 rfl rfl ?_|refine LdN.oA 1 rfl rfl ?_|refine LdN.oA 2 rfl rfl ?_|(refine LdN.hasN [.int .i64 op5,.int .i64 ar5,.bool ng5,nn5.val,dd5.val,.string (txt nm5),ss5.val] rfl (fun i v hv=>hld5 _ _ i v Ac hv) ?_))|(show CN _ _ _ _ _ _;first|(refine CN.f rfl (q1z _ (x1.mono Ab)) (fun v h' hl2 hr=>?_);subst hr)|(refine CN.f rfl (q2z _ (x2.mono Af)) (fun v h' hl2 hr=>?_);subst hr)|(refine CN.keep 0 rfl rfl (fun hl2=>?_);refine CN.f rfl (lG 4 0 Ad Ad [u] ⟨some ⟨_,0,none⟩,1,1⟩ _ (IsK.one (hE2.mono Ac) rfl hl2)) (fun v h3 hl3 hr=>?_);obtain⟨op8,ar8,ng8,nn8,dd8,nm8,ss8,rfl,hE8⟩:=hr)|(refine CN.f rfl (cn _ _ Ae hE8) (fun v h' hl2 hr=>?_);obtain⟨op6,ar6,ng6,nn6,dd6,nm6,ss6,rfl,hE6⟩:=hr)|(refine CN.keep 0 rfl rfl (fun hl2=>?_);refine CN.f rfl (lG 5 0 Ad Ad [t,k] ⟨some ⟨_,0,none⟩,2,2⟩ _ (IsK.two (hE1.mono Ac) (hE5.mono Ac) rfl rfl hl2)) (fun v h3 hl3 hr=>?_);obtain⟨op8,ar8,ng8,nn8,dd8,nm8,ss8,rfl,hE8⟩:=hr))|(show Ld _ _ _ _;first|refine Ld.o 0 rfl rfl ?_|refine Ld.o 1 rfl rfl ?_)|refine Sto.l 0 rfl rfl rfl ?_)<;>conv=>whnf)|(show cnd _ _ _;first|((first|apply aD|apply aW)<;>intro _<;>first|(exfalso;omega)|conv=>whnf))
  all_goals first
   | (rw[r1 Ab];exact RN.a ⟨op1,ar1,ng1,nn1,dd1,nm1,ss1,rfl,Ai⟩)
   | (rw[r2 Ab Ab];exact RN.a ⟨op6,ar6,ng6,nn6,dd6,nm6,ss6,rfl,hE6⟩)
   | (rw[r3 Ab Ab];exact RN.a ⟨op8,ar8,ng8,nn8,dd8,nm8,ss8,rfl,hE8⟩)
   | (rw[r4 Ab Ab];exact RN.a ⟨op0,ar0,ng0,nn0,dd0,nm0,ss0,rfl,Ab⟩)
 .replace r4:=fun x y=>r4 x y hn
  have hne:op2≠4:=by
   obtain⟨o,ar',ng',l',m',nm',ks'⟩:=u;obtain⟨rfl,-⟩:=hE2.inv;exact hn
  clear r3 hn;refine f0C ok D.q162 rfl ?_;conv=>whnf
  repeat' first|((first|(show LdN _ _ _ _ _;first|refine LdN.oA 0 rfl rfl ?_|refine LdN.oA 1 rfl rfl ?_|refine LdN.oA 2 rfl rfl ?_|refine LdN.oA 3 rfl rfl ?_)|(show CN _ _ _ _ _ _;first|(refine CN.f rfl (q1z _ (x1.mono Ab)) (fun v h' hl2 hr=>?_);subst hr)|(refine CN.f rfl (q2z _ (x2.mono Af)) (fun v h' hl2 hr=>?_);subst hr)|(refine CN.keep 0 rfl rfl (fun hl2=>?_);refine CN.f rfl (lG 4 0 Ad Ad [u] ⟨some ⟨_,0,none⟩,1,1⟩ _ (IsK.one (hE2.mono Ac) rfl hl2)) (fun v h3 hl3 hr=>?_);obtain⟨op8,ar8,ng8,nn8,dd8,nm8,ss8,rfl,hE8⟩:=hr)|(refine CN.f rfl (cn _ _ Ae hE8) (fun v h' hl2 hr=>?_);obtain⟨op6,ar6,ng6,nn6,dd6,nm6,ss6,rfl,hE6⟩:=hr))|((first|apply oI.z|apply cI.z))|intro (_:Nat)|refine Ld.o 1 rfl rfl ?_|refine Sto.l 0 rfl rfl rfl ?_)<;>conv=>whnf)|(show cnd _ _ _;first|((first|apply aD|apply aW)<;>intro _<;>first|(exfalso;omega)|conv=>whnf))
  all_goals first
   | (rw[r1 Ab];exact RN.a ⟨op1,ar1,ng1,nn1,dd1,nm1,ss1,rfl,Ai⟩)
   | (rw[r2 Ab Ab];exact RN.a ⟨op6,ar6,ng6,nn6,dd6,nm6,ss6,rfl,hE6⟩)
   | (rw[r3 Ab Ab];exact RN.a ⟨op8,ar8,ng8,nn8,dd8,nm8,ss8,rfl,hE8⟩)
   | (rw[r4 Ab Ab];exact RN.a ⟨op0,ar0,ng0,nn0,dd0,nm0,ss0,rfl,Ai⟩)
theorem nW(E t u:Tr)(hok1:okG t)(hok2:okG u)(h:aA)(tb:Tb h)(op0 ar0:Int)(ng0:Bool)(nn0 dd0:Sl)(nm0:List Nat)(ss0:Sl)(op1 ar1:Int)(ng1:Bool)(nn1 dd1:Sl)(nm1:List Nat)(ss1:Sl)(n1:Bool)(c1 d1:Sl)(bb1:Bool)(op2 ar2:Int)(ng2:Bool)(nn2 dd2:Sl)(nm2:List Nat)(ss2:Sl)(n2:Bool)(c2 d2:Sl)(bb2:Bool)(hE0:IsE h [.int .i64 op0,.int .i64 ar0,.bool ng0,nn0.val,dd0.val,.string (txt nm0),ss0.val] E)(hE1:IsE h [.int .i64 op1,.int .i64 ar1,.bool ng1,nn1.val,dd1.val,.string (txt nm1),ss1.val] t)(hE2:IsE h [.int .i64 op2,.int .i64 ar2,.bool ng2,nn2.val,dd2.val,.string (txt nm2),ss2.val] u)(x1:OpX h t n1 c1 d1 bb1)(x2:OpX h u n2 c2 d2 bb2):
  Fn0 T F.q163 [.agg #[.int .i64 op0,.int .i64 ar0,.bool ng0,nn0.val,dd0.val,.string (txt nm0),ss0.val],.agg #[.int .i64 op1,.int .i64 ar1,.bool ng1,nn1.val,dd1.val,.string (txt nm1),ss1.val,.bool n1,c1.val,d1.val,.bool bb1],.agg #[.int .i64 op2,.int .i64 ar2,.bool ng2,nn2.val,dd2.val,.string (txt nm2),ss2.val,.bool n2,c2.val,d2.val,.bool bb2]] h fun v h'=>VE h' v (uV E t u):=by
 have q1z:=fun h x=>cL t hok1 h op1 ar1 ng1 nn1 dd1 nm1 ss1 n1 c1 d1 bb1 x 0 Ad Ad
 have q1o:=fun h x=>cL t hok1 h op1 ar1 ng1 nn1 dd1 nm1 ss1 n1 c1 d1 bb1 x 1 Ad Ad
 have q1m:=fun h x=>cL t hok1 h op1 ar1 ng1 nn1 dd1 nm1 ss1 n1 c1 d1 bb1 x (-1) Ad Ad
 have q2z:=fun h x=>cL u hok2 h op2 ar2 ng2 nn2 dd2 nm2 ss2 n2 c2 d2 bb2 x 0 Ad Ad
 have q2o:=fun h x=>cL u hok2 h op2 ar2 ng2 nn2 dd2 nm2 ss2 n2 c2 d2 bb2 x 1 Ad Ad
 simp only[vF] at q1z q2z;simp only[aCv] at q1o q2o;simp only[aUb] at q1m;have w0:=fun h=>jN h 0 Ad Ad
 simp only[vF] at w0;have cn:=fun h vs tb w=>qA u hok2 0 false [] [] [] h vs tb w
 have r1:bW t=some 0->uV E t u=mkL 0:=fun x=>if_pos (.inl x)
 have r2:bW u=some 0->uV E t u=mkL 0:=fun x=>if_pos (.inr x)
 have r3:¬bW t=some 0->¬bW u=some 0->bW t=some 1->uV E t u=u:=fun x y z=>(if_neg fun w=>w.elim x y).trans (if_pos z)
 have r4:¬bW t=some 0->¬bW u=some 0->¬bW t=some 1->bW u=some 1->uV E t u=t:=fun x y z w=>(if_neg fun w=>w.elim x y).trans ((if_neg z).trans (if_pos w))
 have r5:¬bW t=some 0->¬bW u=some 0->¬bW t=some 1->¬bW u=some 1->bW t=some (-1)->uV E t u=lS (aF 4 0 [u]) u:=fun x y z w v=>(if_neg fun w=>w.elim x y).trans ((if_neg z).trans ((if_neg w).trans (if_pos v)))
 have r6:¬bW t=some 0->¬bW u=some 0->¬bW t=some 1->¬bW u=some 1->¬bW t=some (-1)->uV E t u=E:=fun x y z w v=>(if_neg fun w=>w.elim x y).trans ((if_neg z).trans ((if_neg w).trans (if_neg v)))
 obtain⟨R,hR⟩:=AB (uV E t u);rw[<-hR];simp only[<-hR] at r1 r2 r3 r4 r5 r6;clear hR;refine f0C ok D.q163 rfl ?_;conv=>whnf
 repeat' ((first|(show LdN _ _ _ _ _;first|refine LdN.oA 0 rfl rfl ?_|refine LdN.oA 1 rfl rfl ?_|refine LdN.oA 2 rfl rfl ?_|refine LdN.oA 3 rfl rfl ?_)|(show CN _ _ _ _ _ _;first|(refine CN.f rfl (q1z _ (x1.mono Af)) (fun v h' hl2 hr=>?_);subst hr)|(refine CN.f rfl (q1o _ (x1.mono Ac)) (fun v h' hl2 hr=>?_);subst hr)|(refine CN.f rfl (q1m _ (x1.mono Ac)) (fun v h' hl2 hr=>?_);subst hr)|(refine CN.f rfl (q2z _ (x2.mono Ab)) (fun v h' hl2 hr=>?_);subst hr)|(refine CN.f rfl (q2o _ (x2.mono Ac)) (fun v h' hl2 hr=>?_);subst hr)|(refine CN.keep 0 rfl rfl (fun hl2=>?_);refine CN.f rfl (lG 4 0 Ad Ad [u] ⟨some ⟨_,0,none⟩,1,1⟩ _ (IsK.one (hE2.mono Ac) rfl hl2)) (fun v h3 hl3 hr=>?_);obtain⟨op8,ar8,ng8,nn8,dd8,nm8,ss8,rfl,hE8⟩:=hr)|(refine CN.f rfl (cn _ _ Ae hE8) (fun v h' hl2 hr=>?_);obtain⟨op6,ar6,ng6,nn6,dd6,nm6,ss6,rfl,hE6⟩:=hr)|(refine CN.f rfl (w0 _) (fun v h' hl2 hr=>?_);obtain⟨op7,ar7,ng7,nn7,dd7,nm7,ss7,rfl,hE7⟩:=hr))|((first|apply oI.z|apply cI.z))|intro (_:Nat)|refine Sto.l 0 rfl rfl rfl ?_|(apply aW<;>intro _<;>try (exfalso;omega)))<;>conv=>whnf)
 all_goals first
  | (rw[r1 Ab];exact RN.a ⟨op7,ar7,ng7,nn7,dd7,nm7,ss7,rfl,hE7⟩)
  | (rw[r2 Ab];exact RN.a ⟨op7,ar7,ng7,nn7,dd7,nm7,ss7,rfl,hE7⟩)
  | (rw[r3 Ab Ab Ab];exact RN.a ⟨op2,ar2,ng2,nn2,dd2,nm2,ss2,rfl,Ai⟩)
  | (rw[r4 Ab Ab Ab Ab];exact RN.a ⟨op1,ar1,ng1,nn1,dd1,nm1,ss1,rfl,Ai⟩)
  | (rw[r5 Ab Ab Ab Ab Ab];exact RN.a ⟨op6,ar6,ng6,nn6,dd6,nm6,ss6,rfl,hE6⟩)
  | (rw[r6 Ab Ab Ab Ab Ab];exact RN.a ⟨op0,ar0,ng0,nn0,dd0,nm0,ss0,rfl,Ai⟩)
theorem aA5{k:Nat}{q:Rat}(s:Sr k q):Sz k q:=⟨by rw[nG];have:=s.num;omega,by rw[nG];have:=s.den;omega⟩
theorem aUc{op:Int}{q r:Rat}(h:fits q)(h':fits r)(hop:op=5\/op=6\/op=7):Sz 1073741824 (qH op q r):=by
 have a:=aX7 h;have b:=aX7 h';unfold qH
 repeat' split
 .exact (aA5 (tB a b)).mono Ad
 .rw[bFq];exact (aA5 (tB a (Sr.neg b))).mono Ad
 .exact (aA5 (vY a b)).mono Ad
theorem aXq(q r:Rat)(fq:fits q)(fr:fits r)(h:aA)(tb:Tb h)(op:Int)(hop:op=5\/op=6\/op=7)(a b c d:Sl)(hq:cS h a b q)(hr:cS h c d r):
  Fn0 T F.q160 [.int .i64 op,.agg #[.bool (sg q),a.val,b.val],.agg #[.bool (sg r),c.val,d.val]] h fun v h'=>∃s t:Sl,v=.agg #[.bool (sg (qH op q r)),s.val,t.val]/\cS h' s t (qH op q r):=by
 have r1:op=5->qH op q r=q+r:=fun x=>if_pos x
 have r2:op=6->qH op q r=q+-r:=fun x=>((if_neg Aa).trans (if_pos x)).trans (bFq q r)
 have r3:op=7->qH op q r=q*r:=fun x=>(if_neg Aa).trans (if_neg Aa)
 have s1:=iD fq;have s2:=iD fr;have k1:=fun h tb hq hr=>uC h tb a b c d q r hq hr s1 s2
 have k2:=fun h tb hq (hr:cS h c d r)=>uC h tb a b c d q (-r) hq (aAl hr) s1 (aEk s2)
 have k3:=fun h tb hq hr=>xQ h tb a b c d q r hq hr s1 s2
 have k5:=fun h hr=>kS h c d r hr (s2.mono Ad)
 obtain⟨R,hR⟩:=AB (qH op q r);obtain⟨P1,h1⟩:=AB (q+r);obtain⟨P2,h2⟩:=AB (q+-r);obtain⟨P3,h3⟩:=AB (q*r);obtain⟨M,h5⟩:=AB (-r);rw[<-hR] at r1 r2 r3 ⊢;simp only[<-h1] at r1 k1;simp only[<-h2] at r2 k2;simp only[<-h3] at r3 k3;simp only[<-h5] at k2 k5;replace r1:=Hq.mk r1;replace r2:=Hq.mk r2;replace r3:=Hq.mk r3;clear hR h1 h2 h3 h5;refine f0C ok D.q160 rfl ?_;conv=>whnf
 repeat' ((first|(show DrN _ _ _ _ _ _;refine DrN.own [_,_] Aw Al ?_)|(refine⟨fun _=>⟨aH.o Av,by repeat first|exact bE1 _|apply List.Sublist.cons_cons|apply List.Sublist.cons⟩,?_⟩)|((first|apply oI.z|apply cI.z))|intro (_:Nat)|(show LdN _ _ _ _ _;first|refine LdN.oA 0 rfl rfl ?_|refine LdN.oA 1 rfl rfl ?_|refine LdN.oA 2 rfl rfl ?_)|(show CN _ _ _ _ _ _;first|(refine CN.f rfl (k1 _ Ab Ab Ab) (fun v h' hl2 hr=>?_);obtain⟨s7,t7,rfl,hq7⟩:=hr)|(refine CN.f rfl (k2 _ Ab Ab Ab) (fun v h' hl2 hr=>?_);obtain⟨s7,t7,rfl,hq7⟩:=hr)|(refine CN.f rfl (k3 _ Ab Ab Ab) (fun v h' hl2 hr=>?_);obtain⟨s7,t7,rfl,hq7⟩:=hr)|refine CN.quiet rfl (k5 _ Ab) ?_)|refine Sto.l 0 rfl rfl rfl ?_|(apply aD<;>intro _<;>try (exfalso;omega)))<;>conv=>whnf)
 all_goals first
  | (rw[r1.out Aa];exact RN.a ⟨s7,t7,rfl,hq7⟩)
  | (rw[r2.out Aa];exact RN.a ⟨s7,t7,rfl,hq7⟩)
  | (rw[r3.out Aa];exact RN.a ⟨s7,t7,rfl,hq7⟩)
theorem aHy(t u:Tr)(op arg:Int)(hop:op=5\/op=6\/op=7)(neg:Bool)(l m name:List Nat)(hok1:okG t)(hok2:okG u)(h:aA)(vs:List Value)(tb:Tb h)(w:IsE h vs (.mk op arg neg l m name [t,u])):
  Fn0 T F.q92 [.agg vs.toArray] h fun v h'=>VE h' v (oX (.mk op arg neg l m name [t,u]) op t u):=by
 obtain⟨a,b,s,rfl,ho,ha,hv,hb,hk⟩:=w.isK;have hkl:s.l=2:=hk.len;obtain⟨bl1,off1,op1,ar1,ng1,nn1,dd1,nm1,ss1,hE1,hld1,hln1,hix1⟩:=hk.kidP 0 _ rfl;obtain⟨bl2,off2,op2,ar2,ng2,nn2,dd2,nm2,ss2,hE2,hld2,hln2,hix2⟩:=hk.kidP 1 _ rfl;have q1z:=fun h op1 ar1 ng1 nn1 dd1 nm1 ss1 n1 c1 d1 bb1 x=>cL t hok1 h op1 ar1 ng1 nn1 dd1 nm1 ss1 n1 c1 d1 bb1 x 0 Ad Ad
 have q2o:=fun h op2 ar2 ng2 nn2 dd2 nm2 ss2 n2 c2 d2 bb2 x=>cL u hok2 h op2 ar2 ng2 nn2 dd2 nm2 ss2 n2 c2 d2 bb2 x 1 Ad Ad
 have w0:=fun h=>jN h 0 Ad Ad
 simp only[vF] at q1z w0;simp only[aCv] at q2o;have oA:=fun h tb w=>vK t hok1 h tb op1 ar1 ng1 nn1 dd1 nm1 ss1 w
 have oB:=fun h tb w=>vK u hok2 h tb op2 ar2 ng2 nn2 dd2 nm2 ss2 w
 have b5:oW op t u=none->op=5->oX (.mk op arg neg l m name [t,u]) op t u=uU (.mk op arg neg l m name [t,u]) t u:=fun e x=>by rw[oX,e];exact if_pos x
 have b6:oW op t u=none->op=6->oX (.mk op arg neg l m name [t,u]) op t u=wM (.mk op arg neg l m name [t,u]) t u:=fun e x=>by rw[oX,e];exact (if_neg Aa).trans (if_pos x)
 have b7:oW op t u=none->op=7->oX (.mk op arg neg l m name [t,u]) op t u=uV (.mk op arg neg l m name [t,u]) t u:=fun e x=>by rw[oX,e];exact (if_neg Aa).trans ((if_neg Aa).trans (if_pos x))
 have bf:∀q,oW op t u=some q->oX (.mk op arg neg l m name [t,u]) op t u=mkL q:=fun q e=>by rw[oX,e]
 obtain⟨R,hR⟩:=AB (oX (.mk op arg neg l m name [t,u]) op t u);rw[<-hR];simp only[<-hR] at b5 b6 b7 bf;clear hR;refine f0C ok D.q92 rfl ?_
 repeat' first|(refine cI.seqN (a:=.region 1 _ _) ?_)|((first|apply oI.z|apply cI.z);conv=>whnf)|(intro (_:Nat);conv=>whnf)
 rename_i bx by_;refine aQ.cut (fun ρ h' L'=>∃(b3 b4:Nat) (n1:Bool) (c1 d1:Sl) (bb1:Bool) (n2:Bool) (c2 d2:Sl) (bb2:Bool),rd ρ 3=.pointer (some { block:=b3,off:=0 })/\rd ρ 4=.pointer (some { block:=b4,off:=0 })/\h.le h'/\OpX h' t n1 c1 d1 bb1/\OpX h' u n2 c2 d2 bb2/\(L'=(b4,.cells [.int .i64 op2,.int .i64 ar2,.bool ng2,nn2.val,dd2.val,.string (txt nm2),ss2.val,.bool n2,c2.val,d2.val,.bool bb2].toArray Ty.expr_operand (0,0))::(b3,.cells [.int .i64 op1,.int .i64 ar1,.bool ng1,nn1.val,dd1.val,.string (txt nm1),ss1.val,.bool n1,c1.val,d1.val,.bool bb1].toArray Ty.expr_operand (0,0))::[(by_,.cells [.int .i64 0,.int .i64 0,.bool false,.slice none 0 0,.slice none 0 0,.string (txt []),.slice none 0 0].toArray Ty.api_Expr (0,0)),(bx,.cells [.int .i64 op,.int .i64 arg,.bool neg,a.val,b.val,.string (txt name),s.val].toArray Ty.api_Expr (0,0))]\/L'=(b3,.cells [.int .i64 op1,.int .i64 ar1,.bool ng1,nn1.val,dd1.val,.string (txt nm1),ss1.val,.bool n1,c1.val,d1.val,.bool bb1].toArray Ty.expr_operand (0,0))::(b4,.cells [.int .i64 op2,.int .i64 ar2,.bool ng2,nn2.val,dd2.val,.string (txt nm2),ss2.val,.bool n2,c2.val,d2.val,.bool bb2].toArray Ty.expr_operand (0,0))::[(by_,.cells [.int .i64 0,.int .i64 0,.bool false,.slice none 0 0,.slice none 0 0,.string (txt []),.slice none 0 0].toArray Ty.api_Expr (0,0)),(bx,.cells [.int .i64 op,.int .i64 arg,.bool neg,a.val,b.val,.string (txt name),s.val].toArray Ty.api_Expr (0,0))])) ?_ ?_
 .conv=>whnf
  repeat ((first|apply oI.z|apply cI.z);conv=>whnf)
  repeat' first|((first|(show DrN _ _ _ _ _ _;refine DrN.own [_] (by exact List.Sublist.cons _ (List.Sublist.cons_cons _ (bE1 _))) Al ?_)|(refine⟨fun _=>⟨aH.o Av,by repeat first|exact bE1 _|apply List.Sublist.cons_cons|apply List.Sublist.cons⟩,?_⟩)|refine hix1 _ _ rfl ?_|refine hix2 _ _ rfl ?_|intro (_:Nat)|(show LdN _ _ _ _ _;first|(refine LdN.hasN [.int .i64 op1,.int .i64 ar1,.bool ng1,nn1.val,dd1.val,.string (txt nm1),ss1.val] rfl (fun i v hv=>hld1 _ _ i v Af hv) ?_)|(refine LdN.hasN [.int .i64 op2,.int .i64 ar2,.bool ng2,nn2.val,dd2.val,.string (txt nm2),ss2.val] rfl (fun i v hv=>hld2 _ _ i v Af hv) ?_))|(show CN _ _ _ _ _ _;first|(refine CN.f rfl (oA _ Ab (hE1.mono Af)) (fun v h' hl2 hr=>?_);obtain⟨n1,c1,d1,bb1,rfl,x1⟩:=hr)|(refine CN.f rfl (oB _ Ae (hE2.mono Ab)) (fun v h' hl2 hr=>?_);obtain⟨n2,c2,d2,bb2,rfl,x2⟩:=hr))|refine Ld.o 0 rfl rfl ?_|(show Sto _ _ _ _;first|refine Sto.l 0 rfl rfl rfl ?_|refine Sto.l 1 rfl rfl rfl ?_))<;>conv=>whnf)|(refine sS.mk ?_ ?_<;>(conv=>whnf))
  all_goals first
   | exact⟨rfl,_,_,_,_,_,_,_,_,_,_,rfl,rfl,Ac,x1.mono Ab,x2.mono Af,Or.inl rfl⟩
   | exact⟨rfl,_,_,_,_,_,_,_,_,_,_,rfl,rfl,Ac,x1.mono Ab,x2.mono Af,Or.inr rfl⟩
 conv=>whnf
 repeat intro _
 rename_i h7 L7 hj;obtain⟨b3,b4,n1,c1,d1,bb1,n2,c2,d2,bb2,e3,e4,hle,x1,x2,eL⟩:=hj;conv at e3=>lhs;whnf
 subst e3;conv at e4=>lhs;whnf
 subst e4;replace tb:=tb.mono hle;replace w:=w.mono hle;replace hE1:=hE1.mono hle;replace hE2:=hE2.mono hle;replace hld1:=fun h' L i v (x:h7.le h')=>hld1 h' L i v (aA.lt hle x)
 replace hld2:=fun h' L i v (x:h7.le h')=>hld2 h' L i v (aA.lt hle x)
 clear hix1 hix2 hln1 hln2 oA oB;clear hle;by_cases hb2:bb1=true/\bb2=true
 .obtain⟨rfl,rfl⟩:=hb2;obtain⟨q,e1,rfl,f1⟩:=x1.1 rfl;obtain⟨r,e2,rfl,f2⟩:=x2.1 rfl;have fq:=kC hok1 e1;have fr:=kC hok2 e2;have sn:=fun h' w=>uB h' c2 d2 r w ((iD fr).mono Ad)
  have ff:oW op t u=iK (qH op q r):=by
   unfold oW;rw[e1,e2];show aAm op q r=_;unfold aAm qH;rcases hop with rfl|rfl|rfl<;>rfl
  have fc:=fun h tb hq hr=>aXq q r fq fr h tb op hop c1 d1 c2 d2 hq hr
  have li:=fun h' c d w=>aE3 h' c d (qH op q r) w (aUc fq fr hop)
  obtain⟨Sg,hSg⟩:=AB (dS r);obtain⟨P,hP⟩:=AB (qH op q r);obtain⟨V,hV⟩:=AB (oW op t u);simp only[<-hSg] at sn;simp only[<-hP] at ff fc li;simp only[<-hV] at b5 b6 b7 bf ff;clear hSg hP hV;have v1:=ff;by_cases hfp:fits P
  .have r1:=bf P (v1.trans (if_pos hfp));have li:=fun h' c d w=>(li h' c d w).mono fun v h' _ r=>r.yes hfp
   rw[r1];clear b5 b6 b7 bf ff v1;rcases eL with rfl|rfl
   all_goals
    conv=>whnf
    repeat' first|((first|(apply aQ.go)|(show LdN _ _ _ _ _;first|refine LdN.oA 0 rfl rfl ?_|refine LdN.oA 1 rfl rfl ?_|refine LdN.oA 3 rfl rfl ?_)|(show CN _ _ _ _ _ _;first|(refine CN.f rfl (fc _ Ab Ab Ab) (fun v h' hl2 hr=>?_);obtain⟨s7,t7,rfl,hq7⟩:=hr)|(refine CN.f rfl (li _ _ _ Ab) (fun v h' hl2 hr=>?_);obtain⟨_,rfl,op9,ar9,ng9,nn9,dd9,nm9,ss9,rfl,hE9⟩:=hr))|((first|apply oI.z|apply cI.z))|intro (_:Nat)|(show Ld _ _ _ _;first|refine Ld.o 0 rfl rfl ?_|refine Ld.o 1 rfl rfl ?_|refine Ld.o 3 rfl rfl ?_)|(show Sto _ _ _ _;first|refine Sto.l 0 rfl rfl rfl ?_|refine Sto.l 3 rfl rfl rfl ?_))<;>conv=>whnf)|(show cnd _ _ _;first|(apply aD<;>intro _<;>first|(exfalso;omega)|conv=>whnf)|(refine aJ ?_))
    all_goals first
     | exact RN.a ⟨op9,ar9,ng9,nn9,dd9,nm9,ss9,rfl,hE9⟩
  .have v0:=v1.trans (if_neg hfp);have li:=fun h' c d w=>(li h' c d w).mono fun v h' _ r=>r.no hfp
   replace b5:=Hq.mk (b5 v0);replace b6:=Hq.mk (b6 v0);replace b7:=Hq.mk (b7 v0);clear bf ff v1;rcases eL with rfl|rfl
   all_goals
    conv=>whnf
    repeat' first|((first|(apply aQ.go)|(show LdN _ _ _ _ _;first|refine LdN.oA 0 rfl rfl ?_|refine LdN.oA 1 rfl rfl ?_|refine LdN.oA 2 rfl rfl ?_|refine LdN.oA 3 rfl rfl ?_|refine LdN.oA 4 rfl rfl ?_)|(show CN _ _ _ _ _ _;first|(refine CN.f rfl (fc _ Ab Ab Ab) (fun v h' hl2 hr=>?_);obtain⟨s7,t7,rfl,hq7⟩:=hr)|(refine CN.f rfl (li _ _ _ Ab) (fun v h' hl2 hr=>?_);obtain⟨_,tt,rfl,op9,ar9,ng9,nn9,dd9,nm9,ss9,rfl,hE9⟩:=hr)|(refine CN.f rfl (aA4 _ t u hok1 hok2 _ Ae _ _ _ _ _ _ _ _ _ _ _ _ _ _ _ _ _ _ _ _ _ _ _ _ _ _ _ _ _ (w.mono Ac) (hE1.mono Ac) (hE2.mono Ac) (x1.mono Ac) (x2.mono Ac)) (fun v h' hl2 hr=>?_);obtain⟨op6,ar6,ng6,nn6,dd6,nm6,ss6,rfl,hE6⟩:=hr)|(refine CN.f rfl (nV _ t u hok1 hok2 _ Ae _ _ _ _ _ _ _ _ _ _ _ _ _ _ _ _ _ _ _ _ _ _ _ _ _ _ _ _ _ (w.mono Ac) (hE1.mono Ac) (hE2.mono Ac) (x1.mono Ac) (x2.mono Ac)) (fun v h' hl2 hr=>?_);obtain⟨op6,ar6,ng6,nn6,dd6,nm6,ss6,rfl,hE6⟩:=hr)|(refine CN.f rfl (nW _ t u hok1 hok2 _ Ae _ _ _ _ _ _ _ _ _ _ _ _ _ _ _ _ _ _ _ _ _ _ _ _ _ _ _ _ _ (w.mono Ac) (hE1.mono Ac) (hE2.mono Ac) (x1.mono Ac) (x2.mono Ac)) (fun v h' hl2 hr=>?_);obtain⟨op6,ar6,ng6,nn6,dd6,nm6,ss6,rfl,hE6⟩:=hr))|((first|apply oI.z|apply cI.z))|intro (_:Nat)|(show Ld _ _ _ _;first|refine Ld.o 0 rfl rfl ?_|refine Ld.o 1 rfl rfl ?_|refine Ld.o 3 rfl rfl ?_|refine Ld.o 4 rfl rfl ?_)|(show Sto _ _ _ _;first|refine Sto.l 0 rfl rfl rfl ?_|refine Sto.l 3 rfl rfl rfl ?_))<;>conv=>whnf)|(show cnd _ _ _;first|(apply aD<;>intro _<;>first|(exfalso;omega)|conv=>whnf)|(refine aJ ?_))
    all_goals first
     | (rw[b5.out Aa];exact RN.a ⟨op6,ar6,ng6,nn6,dd6,nm6,ss6,rfl,hE6⟩)
     | (rw[b6.out Aa];exact RN.a ⟨op6,ar6,ng6,nn6,dd6,nm6,ss6,rfl,hE6⟩)
     | (rw[b7.out Aa];exact RN.a ⟨op6,ar6,ng6,nn6,dd6,nm6,ss6,rfl,hE6⟩)
 .have v0:oW op t u=none:=by
   unfold oW;cases bb1 with
   | false=>rw[x1.2 rfl];rfl
   | true=>
    cases bb2 with
    | false=>obtain⟨q,e1,-⟩:=x1.1 rfl;rw[x2.2 rfl,e1];rfl
    | true=>exact absurd ⟨rfl,rfl⟩ hb2
  replace b5:=Hq.mk (b5 v0);replace b6:=Hq.mk (b6 v0);replace b7:=Hq.mk (b7 v0);clear bf v0;cases bb1 with
  | false=>
   rcases eL with rfl|rfl
   all_goals
    conv=>whnf
    repeat' ((first|(apply aQ.go)|(show LdN _ _ _ _ _;first|refine LdN.oA 0 rfl rfl ?_|refine LdN.oA 1 rfl rfl ?_|refine LdN.oA 2 rfl rfl ?_|refine LdN.oA 3 rfl rfl ?_)|(show CN _ _ _ _ _ _;first|(refine CN.f rfl (aA4 _ t u hok1 hok2 _ Ab _ _ _ _ _ _ _ _ _ _ _ _ _ _ _ _ _ _ _ _ _ _ _ _ _ _ _ _ _ (w.mono Af) (hE1.mono Af) (hE2.mono Af) (x1.mono Af) (x2.mono Af)) (fun v h' hl2 hr=>?_);obtain⟨op6,ar6,ng6,nn6,dd6,nm6,ss6,rfl,hE6⟩:=hr)|(refine CN.f rfl (nV _ t u hok1 hok2 _ Ab _ _ _ _ _ _ _ _ _ _ _ _ _ _ _ _ _ _ _ _ _ _ _ _ _ _ _ _ _ (w.mono Af) (hE1.mono Af) (hE2.mono Af) (x1.mono Af) (x2.mono Af)) (fun v h' hl2 hr=>?_);obtain⟨op6,ar6,ng6,nn6,dd6,nm6,ss6,rfl,hE6⟩:=hr)|(refine CN.f rfl (nW _ t u hok1 hok2 _ Ab _ _ _ _ _ _ _ _ _ _ _ _ _ _ _ _ _ _ _ _ _ _ _ _ _ _ _ _ _ (w.mono Af) (hE1.mono Af) (hE2.mono Af) (x1.mono Af) (x2.mono Af)) (fun v h' hl2 hr=>?_);obtain⟨op6,ar6,ng6,nn6,dd6,nm6,ss6,rfl,hE6⟩:=hr))|((first|apply oI.z|apply cI.z))|(show Ld _ _ _ _;first|refine Ld.o 0 rfl rfl ?_|refine Ld.o 1 rfl rfl ?_|refine Ld.o 3 rfl rfl ?_)|refine Sto.l 2 rfl rfl rfl ?_|(apply aD<;>intro _<;>try (exfalso;omega)))<;>conv=>whnf)
    all_goals first
     | (rw[b5.out Aa];exact RN.a ⟨op6,ar6,ng6,nn6,dd6,nm6,ss6,rfl,hE6⟩)
     | (rw[b6.out Aa];exact RN.a ⟨op6,ar6,ng6,nn6,dd6,nm6,ss6,rfl,hE6⟩)
     | (rw[b7.out Aa];exact RN.a ⟨op6,ar6,ng6,nn6,dd6,nm6,ss6,rfl,hE6⟩)
  | true=>
   cases bb2 with
   | true=>exact absurd ⟨rfl,rfl⟩ hb2
   | false=>
    clear hb2;rcases eL with rfl|rfl
    all_goals
     conv=>whnf
     repeat' ((first|(apply aQ.go)|(show LdN _ _ _ _ _;first|refine LdN.oA 0 rfl rfl ?_|refine LdN.oA 1 rfl rfl ?_|refine LdN.oA 2 rfl rfl ?_|refine LdN.oA 3 rfl rfl ?_)|(show CN _ _ _ _ _ _;first|(refine CN.f rfl (aA4 _ t u hok1 hok2 _ Ab _ _ _ _ _ _ _ _ _ _ _ _ _ _ _ _ _ _ _ _ _ _ _ _ _ _ _ _ _ (w.mono Af) (hE1.mono Af) (hE2.mono Af) (x1.mono Af) (x2.mono Af)) (fun v h' hl2 hr=>?_);obtain⟨op6,ar6,ng6,nn6,dd6,nm6,ss6,rfl,hE6⟩:=hr)|(refine CN.f rfl (nV _ t u hok1 hok2 _ Ab _ _ _ _ _ _ _ _ _ _ _ _ _ _ _ _ _ _ _ _ _ _ _ _ _ _ _ _ _ (w.mono Af) (hE1.mono Af) (hE2.mono Af) (x1.mono Af) (x2.mono Af)) (fun v h' hl2 hr=>?_);obtain⟨op6,ar6,ng6,nn6,dd6,nm6,ss6,rfl,hE6⟩:=hr)|(refine CN.f rfl (nW _ t u hok1 hok2 _ Ab _ _ _ _ _ _ _ _ _ _ _ _ _ _ _ _ _ _ _ _ _ _ _ _ _ _ _ _ _ (w.mono Af) (hE1.mono Af) (hE2.mono Af) (x1.mono Af) (x2.mono Af)) (fun v h' hl2 hr=>?_);obtain⟨op6,ar6,ng6,nn6,dd6,nm6,ss6,rfl,hE6⟩:=hr))|((first|apply oI.z|apply cI.z))|(show Ld _ _ _ _;first|refine Ld.o 0 rfl rfl ?_|refine Ld.o 1 rfl rfl ?_|refine Ld.o 3 rfl rfl ?_)|refine Sto.l 2 rfl rfl rfl ?_|(apply aD<;>intro _<;>try (exfalso;omega)))<;>conv=>whnf)
     all_goals first
      | (rw[b5.out Aa];exact RN.a ⟨op6,ar6,ng6,nn6,dd6,nm6,ss6,rfl,hE6⟩)
      | (rw[b6.out Aa];exact RN.a ⟨op6,ar6,ng6,nn6,dd6,nm6,ss6,rfl,hE6⟩)
      | (rw[b7.out Aa];exact RN.a ⟨op6,ar6,ng6,nn6,dd6,nm6,ss6,rfl,hE6⟩)
theorem aKb{op arg:Int}{e:Tr}{ks:List Tr}(h4:op≠4)(h9:op≠9)(h5:¬(op=5\/op=6\/op=7\/op=8)):rL op arg e ks=e:=by
 unfold rL
 split
 .rw[if_neg h4,if_neg h9]
 .rw[if_neg h5]
 .rfl
theorem aBk:∀t:Tr,∀(h:aA) (vs:List Value),Tb h->IsE h vs t->okG t->aZ t->Fn0 T F.q51 [.agg vs.toArray] h fun v h'=>VE h' v (eA t):=by
 refine bN fun t ih=>?_
 intro h vs tb w hok hp;obtain⟨op,arg,neg,l,m,name,ks⟩:=t;obtain⟨a,b,s,rfl,ho,ha,hv,hb,hk⟩:=w.isK;rw[okG] at hok;rw[aZ] at hp;obtain⟨hnb,hoks⟩:=hok;obtain⟨hpo,hpk⟩:=hp;have hks:ks.length<=3:=by
  have h1:=hnb.1;have h2:=mN op;omega
 have hkl:=hk.len;refine f0C ok D.q51 rfl ?_;conv=>whnf
 repeat' ((first|((first|apply oI.z|apply cI.z))|intro (_:Nat)|refine Ld.o 1 rfl rfl ?_)<;>conv=>whnf)
 rename_i be bz;refine LpN.of (fun r ρ hx L=>∃(j:Nat) (V:Value) (F1:Vc.Own) (xs:List Value),r=ks.length-j/\h.le hx/\j<=ks.length/\rd ρ 9=.int .i64 j/\rd ρ 3=V/\
   L=F1++((bz,.cells [.int .i64 0,.int .i64 0,.bool false,.slice none 0 0,.slice none 0 0,.string (txt []),.slice none 0 0].toArray Ty.api_Expr (0,0))::(be,.cells [.int .i64 op,.int .i64 arg,.bool neg,a.val,b.val,.string (txt name),s.val].toArray Ty.api_Expr (0,0))::[])/\
   aE Ty.api_Expr 7 V j xs F1/\KC hx xs (cK (ks.take j))) ks.length
  ⟨0,_,[],[],rfl,aA.lr _,bDw _,rfl,rfl,rfl,aE.nil _ _ _,by rw[bFa,cK];rfl⟩ ?_
 conv=>whnf
 repeat intro _
 rename_i r hx L2 hI;obtain⟨j,V,F1,xs,rfl,hle,hj,e9,e3,rfl,gF,hK⟩:=hI;conv at e9=>lhs;whnf
 subst e9;conv at e3=>lhs;whnf
 subst e3;by_cases hjl:j=ks.length
 .subst hjl;rw[bDm] at hK;obtain⟨sv,rfl⟩:=gF.sl;by_cases h4:op=4
  .subst h4;obtain⟨k,rfl⟩:∃k,ks=[k]:=by
    have e:ks.length=1:=by have x:=hnb.1;rw[show aR 4=1 from by decide] at x;omega
    match ks,e with
    | [k],_=>exact⟨k,rfl⟩
   have hkk:okG k:=by rw[cA] at hoks;exact hoks.1
   have fk:=rM hkk;have hR:eA (.mk 4 arg neg l m name [k])=lS (.mk 4 arg neg l m name [eA k]) (eA k):=by rw[eA,cK,cK];rfl
   rw[hR];rw[cK,cK] at hK;have hsl:1=[eA k].length:=rfl;have cc:=fun h vs tb w=>qA (eA k) fk arg neg l m name h vs tb w
   conv=>whnf
   repeat' first|((first|(apply aQ.go)|(show Sto _ _ _ _;first|refine Sto.tl (A:=F1) (X:=[_]) rfl rfl ?_|refine Sto.tl (A:=[]) (X:=X2) rfl rfl ?_)|(show LdN _ _ _ _ _;first|refine LdN.tl (A:=F1) (F:=[_]) rfl ?_|refine LdN.tl (A:=[]) (F:=X2) rfl ?_)|(show Ld _ _ _ _;refine Ld.tl (A:=F1) (F:=[_]) rfl ?_)|(show CN _ _ _ _ _ _;(refine CN.rowX (X:=F1) gF hK hsl rfl (fun h2 X2 s2 hl2 hs hk2=>?_);obtain rfl:=Sl.val_inj hs;have tb2:=tb.mono (aA.lt hle hl2);refine CN.f rfl (cc _ _ tb2 (IsE.mkK ho ha (hv.mono (aA.lt hle hl2)) hb hk2)) (fun v h3 hl3 hr=>?_);obtain⟨op6,ar6,ng6,nn6,dd6,nm6,ss6,rfl,hE6⟩:=hr))|((first|apply oI.z|apply cI.z)))<;>conv=>whnf)|(show cnd _ _ _;first|((first|apply aB|apply aD)<;>intro _<;>first|(exfalso;omega)|conv=>whnf))
   all_goals exact RN.a ⟨op6,ar6,ng6,nn6,dd6,nm6,ss6,rfl,hE6⟩
  .by_cases h9:op=9
   .subst h9;obtain⟨k,rfl⟩:∃k,ks=[k]:=by
     have e:ks.length=1:=by have x:=hnb.1;rw[show aR 9=1 from by decide] at x;omega
     match ks,e with
     | [k],_=>exact⟨k,rfl⟩
    have hkk:okG k:=by rw[cA] at hoks;exact hoks.1
    have fk:=rM hkk;have hR:eA (.mk 9 arg neg l m name [k])=mX (.mk 9 arg neg l m name [eA k]) arg (eA k):=by rw[eA,cK,cK];rfl
    rw[hR];rw[cK,cK] at hK;have hsl:1=[eA k].length:=rfl;have cc:=fun h vs tb w=>aO8 (eA k) fk arg hnb.2.1 hnb.2.2.1 neg l m name h vs tb w
    conv=>whnf
    repeat' first|((first|(apply aQ.go)|(show Sto _ _ _ _;first|refine Sto.tl (A:=F1) (X:=[_]) rfl rfl ?_|refine Sto.tl (A:=[]) (X:=X2) rfl rfl ?_)|(show LdN _ _ _ _ _;first|refine LdN.tl (A:=F1) (F:=[_]) rfl ?_|refine LdN.tl (A:=[]) (F:=X2) rfl ?_)|(show Ld _ _ _ _;refine Ld.tl (A:=F1) (F:=[_]) rfl ?_)|(show CN _ _ _ _ _ _;(refine CN.rowX (X:=F1) gF hK hsl rfl (fun h2 X2 s2 hl2 hs hk2=>?_);obtain rfl:=Sl.val_inj hs;have tb2:=tb.mono (aA.lt hle hl2);refine CN.f rfl (cc _ _ tb2 (IsE.mkK ho ha (hv.mono (aA.lt hle hl2)) hb hk2)) (fun v h3 hl3 hr=>?_);obtain⟨op6,ar6,ng6,nn6,dd6,nm6,ss6,rfl,hE6⟩:=hr))|((first|apply oI.z|apply cI.z)))<;>conv=>whnf)|(show cnd _ _ _;first|((first|apply aB|apply aD)<;>intro _<;>first|(exfalso;omega)|conv=>whnf))
    all_goals exact RN.a ⟨op6,ar6,ng6,nn6,dd6,nm6,ss6,rfl,hE6⟩
   .by_cases h5:op=5\/op=6\/op=7
    .obtain⟨k,k',rfl⟩:∃k k',ks=[k,k']:=by
      have e:ks.length=2:=by
       rcases h5 with rfl|rfl|rfl
       .have x:=hnb.1;rw[show aR 5=2 from by decide] at x;omega
       .have x:=hnb.1;rw[show aR 6=2 from by decide] at x;omega
       .have x:=hnb.1;rw[show aR 7=2 from by decide] at x;omega
      match ks,e with
      | [k,k'],_=>exact⟨k,k',rfl⟩
     have hkk:okG k/\okG k':=by rw[cA,cA] at hoks;exact⟨hoks.1,hoks.2.1⟩
     have fk:=rM hkk.1;have fk':=rM hkk.2;have hR:eA (.mk op arg neg l m name [k,k'])=oX (.mk op arg neg l m name [eA k,eA k']) op (eA k) (eA k'):=by rw[eA,cK,cK,cK];exact if_pos Aa
     rw[hR];rw[cK,cK,cK] at hK;have hsl:2=[eA k,eA k'].length:=rfl;have cc:=fun h vs tb w=>aHy (eA k) (eA k') op arg h5 neg l m name fk fk' h vs tb w
     obtain⟨R,hRR⟩:=AB (oX (.mk op arg neg l m name [eA k,eA k']) op (eA k) (eA k'));rw[<-hRR];simp only[<-hRR] at cc;clear hR hRR;conv=>whnf
     repeat' first|((first|(apply aQ.go)|(show Sto _ _ _ _;first|refine Sto.tl (A:=F1) (X:=[_]) rfl rfl ?_|refine Sto.tl (A:=[]) (X:=X2) rfl rfl ?_)|(show LdN _ _ _ _ _;first|refine LdN.tl (A:=F1) (F:=[_]) rfl ?_|refine LdN.tl (A:=[]) (F:=X2) rfl ?_)|(show Ld _ _ _ _;refine Ld.tl (A:=F1) (F:=[_]) rfl ?_)|(show CN _ _ _ _ _ _;(refine CN.rowX (X:=F1) gF hK hsl rfl (fun h2 X2 s2 hl2 hs hk2=>?_);obtain rfl:=Sl.val_inj hs;have tb2:=tb.mono (aA.lt hle hl2);refine CN.f rfl (cc _ _ tb2 (IsE.mkK ho ha (hv.mono (aA.lt hle hl2)) hb hk2)) (fun v h3 hl3 hr=>?_);obtain⟨op6,ar6,ng6,nn6,dd6,nm6,ss6,rfl,hE6⟩:=hr))|((first|apply oI.z|apply cI.z)))<;>conv=>whnf)|(show cnd _ _ _;first|((first|apply aB|apply aD)<;>intro _<;>first|(exfalso;omega)|conv=>whnf))
     all_goals exact RN.a ⟨op6,ar6,ng6,nn6,dd6,nm6,ss6,rfl,hE6⟩
    .have hR:eA (.mk op arg neg l m name ks)=.mk op arg neg l m name (cK ks):=by rw[eA];exact aKb h4 h9 Aa
     conv=>whnf
     repeat' first|((first|(apply aQ.go)|(show Sto _ _ _ _;first|refine Sto.tl (A:=F1) (X:=[_]) rfl rfl ?_|refine Sto.tl (A:=[]) (X:=F1) rfl rfl ?_)|(show LdN _ _ _ _ _;first|refine LdN.tl (A:=F1) (F:=[_]) rfl ?_|refine LdN.tl (A:=[]) (F:=F1) rfl ?_)|(show Ld _ _ _ _;refine Ld.tl (A:=F1) (F:=[_]) rfl ?_)|((first|apply oI.z|apply cI.z)))<;>conv=>whnf)|(show cnd _ _ _;first|((first|apply aB|apply aD)<;>intro _<;>first|(exfalso;omega)|conv=>whnf))
     refine RN.rowA (X:=F1) gF hK (wO ks).symm fun h' s' hl hs hk'=>?_
     rw[hR,hs];exact⟨op,arg,neg,a,b,name,s',rfl,IsE.mkK ho ha (hv.mono (aA.lt hle hl)) hb hk'⟩
 .obtain⟨t,ht⟩:∃t,ks[j]?=some t:=⟨_,bC8 Aa⟩
  have c2:=fun h vs tb w=>ih t (aP ht) h vs tb w (aGl hoks (bDc ht)) (iE hpk (bDc ht))
  have hkx:=hk.mono hle;replace tb:=tb.mono hle;conv=>whnf
  repeat' ((first|(show Idx _ _ _ _ _;refine Idx.kid hkx j t Aa ht (fun ad op arg neg a b name s' hE hld=>?_))|refine hld _ _ _ (aA.lr _) ?_|((first|apply oI.z|apply cI.z))|intro (_:Nat)|(show CN _ _ _ _ _ _;(refine CN.f rfl (c2 _ _ Ab Ab) (fun v h' hl2 hr=>?_);obtain⟨op2,ar2,ng2,nn2,dd2,nm2,ss2,rfl,hE2⟩:=hr;have hK2:=hK.mono hl2))|(show App _ _ _ _ _ _ _ _ _;refine App.growK (A:=[_,_]) (F:=F1) (size:=7) (bytes:=112) (z:=[.int .i64 0,.int .i64 0,.bool false,.slice none 0 0,.slice none 0 0,.string (txt []),.slice none 0 0]) rfl rfl gF ⟨_,0,none⟩ 1 1 [_,_,_,_,_,_,_] rfl (Has.front _) rfl Ad Aa Aa Ad (fun v' F' g'=>?_))|refine WN.i64 Aa Aa ?_|refine LdN.o 0 rfl rfl ?_|refine Sto.l 0 rfl rfl rfl ?_|(apply aB<;>intro _<;>try (exfalso;omega)))<;>conv=>whnf)
  exact⟨rfl,ks.length-(j+1),Aa,j+1,_,_::_::F',_,rfl,Ac,Aa,vi Aa,rfl,rfl,(g'.cons _).cons _,by rw[bD ht,uW,cK,cK];exact KC.snoc rfl hE2 hK2⟩
end Go.Proofs.Y