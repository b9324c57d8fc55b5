/- Simplify: the program's rules. -/
import Derived.Test.YtblecjeceecaaaaGreatDoorE68
set_option linter.all false
set_option maxHeartbeats 4000000
set_option maxRecDepth 20000
namespace Go.Vc
open Go Go.Dig
open Go.Proofs.Y in
theorem CN.rowX{T:Tab}{f:FuncId}{args:List Value}{k:Value->aA->Vc.Own->Prop}{e:TypeId}{v:Value}{n:Nat}{xs:List Value}{acc:List Tr}{h:aA}{X tl:Vc.Own}(g:aF e 7 v n xs X)(kc:KC h xs acc)(hn:n=acc.length)(hf:T.fn f=true)
  (hk:∀h' X' (s:Sl),h.le h'->v=s.val->IsK h' s acc->CN T f args h' (X'++tl) k):CN T f args h (X++tl) k:=by
 obtain⟨g1,⟨rfl,rfl⟩|⟨i,b,cap,zs,rfl,h2,h3,h4⟩⟩:=g
 .obtain rfl:acc=[]:=bJp.1 hn.symm;exact hk h X ⟨none,0,0⟩ (aA.lr _) rfl (IsK.nil h)
 .have hlt:=(bIr.1 h2).1;refine CN.keep i (by rw[bI0 hlt];exact h2) hf fun hle=>?_
  rw[List.eraseIdx_append_of_lt_length hlt];exact hk _ _ ⟨some ⟨b,0,none⟩,n,cap⟩ hle rfl (IsK.put hle kc hn h3)
end Go.Vc
namespace Go.Proofs.Y
open Go Go.Vc Go.Dig
theorem sz_fits{q:Rat}(h:fits q):Sz 64 q:=⟨h.1,h.2⟩
theorem whole_ct(h:aA)(n:Int)(h1:-9223372036854775808<=n)(h2:n<=9223372036854775807):Fn0 T F.q118 [.int .i64 n] h fun v h'=>VE h' v (mkL (n:Rat)):=by
 have hf:=wN n h1 h2;have c1:=fun h=>wL h n h1 h2
 have c2:=fun h a b w=>bEv h a b (n:Rat) w (oK hf)
 obtain⟨q,hq⟩:=AH (n:Rat);rw[<-hq] at hf ⊢;simp only[<-hq] at c1 c2;clear hq;refine f0C ok D.q118 rfl ?_;conv=>whnf
 repeat' ((first|(show LdN _ _ _ _ _;first|refine LdN.oA 0 rfl rfl ?_|refine LdN.oA 1 rfl rfl ?_)|(show CN _ _ _ _ _ _;first|(refine CN.f rfl (c1 _) (fun v h' hl2 hr=>?_);obtain⟨s1,t1,rfl,hq1⟩:=hr)|(refine CN.f rfl (c2 _ _ _ Ab) (fun v h' hl2 hr=>?_);obtain⟨_,tt,bb,rfl,⟨op9,ar9,ng9,nn9,dd9,nm9,ss9,rfl,hE9⟩,t1,t2⟩:=hr))|((first|apply oI.z|apply cI.z))|intro (_:Nat)|(show Sto _ _ _ _;first|refine Sto.l 0 rfl rfl rfl ?_|refine Sto.l 1 rfl rfl rfl ?_))<;>conv=>whnf)
 all_goals
  have e:tt=mkL q:=by
   cases bb with
   | true=>exact (t1 rfl).2
   | false=>exact absurd hf (t2 rfl)
  subst e;exact RN.a ⟨op9,ar9,ng9,nn9,dd9,nm9,ss9,rfl,hE9⟩
def OpX(h:aA)(t:Tr)(n:Bool)(c d:Sl)(bb:Bool):Prop:=(bb=true->∃q,uN t=some q/\n=sg q/\eJ h c d q)/\(bb=false->uN t=none)
theorem OpX.mono{h h':aA}{t:Tr}{n:Bool}{c d:Sl}{bb:Bool}(w:OpX h t n c d bb)(hl:h.le h'):OpX h' t n c d bb:=⟨fun e=>by
  obtain⟨q,h1,h2,h3⟩:=w.1 e;exact⟨q,h1,h2,h3.mono hl⟩,w.2⟩
theorem operandOf_ct(t:Tr)(hok:okG t)(h:aA)(tb:Tb h)(op1 ar1:Int)(ng1:Bool)(nn1 dd1:Sl)(nm1:List Nat)(ss1:Sl)(w:IsE h [.int .i64 op1,.int .i64 ar1,.bool ng1,nn1.val,dd1.val,.string (txt nm1),ss1.val] t):Fn0 T F.q190 [.agg [.int .i64 op1,.int .i64 ar1,.bool ng1,nn1.val,dd1.val,.string (txt nm1),ss1.val].toArray] h fun v h'=>∃n,∃c d:Sl,∃bb,v=.agg #[.int .i64 op1,.int .i64 ar1,.bool ng1,nn1.val,dd1.val,.string (txt nm1),ss1.val,.bool n,c.val,d.val,.bool bb]/\OpX h' t n c d bb:=by
 have c1:=fun h tb w=>literal_g t hok h [.int .i64 op1,.int .i64 ar1,.bool ng1,nn1.val,dd1.val,.string (txt nm1),ss1.val] tb w
 refine f0C ok D.q190 rfl ?_;conv=>whnf
 repeat' ((first|(show LdN _ _ _ _ _;first|refine LdN.oA 0 rfl rfl ?_|refine LdN.oA 1 rfl rfl ?_|refine LdN.oA 2 rfl rfl ?_)|(show CN _ _ _ _ _ _;(refine CN.f rfl (c1 _ Ab Ab) (fun v h' hl2 hr=>?_);obtain⟨n5,c5,d5,bb5,rfl,t1,t2⟩:=hr))|((first|apply oI.z|apply cI.z))|intro (_:Nat)|(show Sto _ _ _ _;first|refine Sto.l 0 rfl rfl rfl ?_|refine Sto.l 1 rfl rfl rfl ?_))<;>conv=>whnf)
 all_goals exact RN.a ⟨n5,c5,d5,bb5,rfl,fun x=>by obtain⟨q,y1,-,y2,y3⟩:=t1 x;exact⟨q,y1,y2,y3⟩,t2⟩
theorem equals_ct(t:Tr)(hok:okG t)(h:aA)(op1 ar1:Int)(ng1:Bool)(nn1 dd1:Sl)(nm1:List Nat)(ss1:Sl)(n1:Bool)(c1 d1:Sl)(bb1:Bool)(x:OpX h t n1 c1 d1 bb1)(n:Int)(hn1:-1<=n)(hn2:n<=1):
  Fn0 T F.q195 [.agg #[.int .i64 op1,.int .i64 ar1,.bool ng1,nn1.val,dd1.val,.string (txt nm1),ss1.val,.bool n1,c1.val,d1.val,.bool bb1],.int .i64 n] h fun v h'=>v=.bool (dec (uN t=some (n:Rat))):=by
 obtain⟨x1,x2⟩:=x;have k1:=fun h=>wL h n Aa Aa
 have hfn:=wN n Aa Aa;obtain⟨N,hN⟩:=AH (n:Rat);rw[<-hN] at hfn ⊢;simp only[<-hN] at k1;clear hN;cases bb1 with
 | false=>
  have e:=x2 rfl;rw[aH (by rw[e];simp)];refine f0C ok D.q195 rfl ?_;conv=>whnf
  repeat' ((first|((first|apply oI.z|apply cI.z))|intro (_:Nat)|refine Ld.o 0 rfl rfl ?_|refine DrN.run Ak ?_)<;>conv=>whnf)
  all_goals exact RN.a rfl
 | true=>
  obtain⟨q,e,rfl,hq⟩:=x1 rfl;have hfq:=litV_fitsG hok e;have k2:=fun h s t w' w=>aY3 h c1 d1 s t q N w w' (oK hfq) (oK hfn)
  have fin:eq (eX q N) 0=dec (uN t=some N):=by
   rw[lF];exact dJ (jY.trans ⟨fun z=>by rw[e,z],fun z=>Option.some.inj (e.symm.trans z)⟩)
  obtain⟨C,hC⟩:=AH (eX q N);simp only[<-hC] at k2 fin;rw[<-fin];clear fin hC x1 x2;refine f0C ok D.q195 rfl ?_;conv=>whnf
  repeat' ((first|(show LdN _ _ _ _ _;refine LdN.oA 0 rfl rfl ?_)|(show CN _ _ _ _ _ _;first|(refine CN.f rfl (k1 _) (fun v h' hl2 hr=>?_);obtain⟨s5,t5,rfl,hq5⟩:=hr)|(refine CN.f rfl (k2 _ _ _ Ab Ay) (fun v h' hl2 hr=>?_);subst hr))|((first|apply oI.z|apply cI.z))|refine⟨fun _=>aJ.o Ab,?_⟩|intro (_:Nat)|refine Ld.o 0 rfl rfl ?_|refine DrN.run Ak ?_)<;>conv=>whnf)
  all_goals exact RN.a rfl
theorem bIi.yes{h:aA}{v:Value}{q:Rat}(w:bIi h v (some q)):∃c d:Sl,v=.tuple #[.agg #[.bool (sg q),c.val,d.val],.bool true]/\eJ h c d q:=by
 obtain⟨n,c,d,bb,rfl,t1,t2⟩:=w;cases bb with
 | true=>obtain⟨q',y1,-,rfl,y3⟩:=t1 rfl;cases y1;exact⟨c,d,rfl,y3⟩
 | false=>cases t2 rfl
theorem bIi.no{h:aA}{v:Value}(w:bIi h v none):∃n,∃c d:Sl,v=.tuple #[.agg #[.bool n,c.val,d.val],.bool false]:=by
 obtain⟨n,c,d,bb,rfl,t1,t2⟩:=w;cases bb with
 | true=>obtain⟨q',y1,-⟩:=t1 rfl;cases y1
 | false=>exact⟨n,c,d,rfl⟩
theorem bG0.yes{h:aA}{v:Value}{q:Rat}(w:bG0 h v q)(hf:fits q):∃a,v=.tuple #[a,.bool true]/\VE h a (mkL q):=by
 obtain⟨a,tt,b,rfl,ve,t1,t2⟩:=w;cases b with
 | true=>obtain⟨-,rfl⟩:=t1 rfl;exact⟨a,rfl,ve⟩
 | false=>exact absurd hf (t2 rfl)
theorem bG0.no{h:aA}{v:Value}{q:Rat}(w:bG0 h v q)(hf:¬fits q):∃a tt,v=.tuple #[a,.bool false]/\VE h a tt:=by
 obtain⟨a,tt,b,rfl,ve,t1,t2⟩:=w;cases b with
 | true=>exact absurd (t1 rfl).1 hf
 | false=>exact⟨a,tt,rfl,ve⟩
theorem negated_ct(t:Tr)(hok:okG t)(arg:Int)(neg:Bool)(l m name:List Nat)(h:aA)(vs:List Value)(tb:Tb h)(w:IsE h vs (.mk 4 arg neg l m name [t])):Fn0 T F.q115 [.agg vs.toArray] h fun v h'=>VE h' v (bDp (.mk 4 arg neg l m name [t]) t):=by
 obtain⟨a,b,s,rfl,ho,ha,hv,hb,hk⟩:=w.isK;have hkl:s.l=1:=hk.len;have c1:=fun h vs tb w=>literal_g t hok h vs tb w
 cases hX:uN t with
 | some q=>
  have r1:bDp (.mk 4 arg neg l m name [t]) t=mkL (-q):=by rw[bDp,hX]
  have hfq:=litV_fitsG hok hX;simp only[hX] at c1;rw[r1];have c1:=fun h vs tb w=>(c1 h vs tb w).mono fun v h' _ r=>r.yes
  have c2:=fun h c d w=>zL h c d q w ((oK hfq).mono Ae)
  have c3:=fun h c d (w:eJ h c d q)=>(bEv h c d (-q) (isFr_neg w) (sz_neg' (oK hfq))).mono fun v h' _ r=>r.yes (aJy hfq)
  obtain⟨P,hP⟩:=AH (-q);simp only[<-hP] at c2 c3 ⊢;clear hP r1;obtain⟨bl3,off3,op3,ar3,ng3,nn3,dd3,nm3,ss3,hE3,hld3,hln3,hix3⟩:=hk.kidP 0 _ rfl;refine f0C ok D.q115 rfl ?_;conv=>whnf
  repeat' ((first|(apply bJ.go)|(show LdN _ _ _ _ _;first|refine LdN.oA 0 rfl rfl ?_|refine LdN.oA 2 rfl rfl ?_|(refine LdN.hasN [.int .i64 op3,.int .i64 ar3,.bool ng3,nn3.val,dd3.val,.string (txt nm3),ss3.val] rfl (fun i v hv=>hld3 _ _ i v Ad hv) ?_))|refine hix3 _ _ rfl ?_|((first|apply oI.z|apply cI.z))|intro (_:Nat)|(show CN _ _ _ _ _ _;first|(refine CN.f rfl (c1 _ _ Ab Ab) (fun v h' hl2 hr=>?_);obtain⟨c5,d5,rfl,hq5⟩:=hr)|refine CN.quiet rfl (c2 _ _ _ Ab) ?_|(refine CN.f rfl (c3 _ _ _ Ab) (fun v h' hl2 hr=>?_);obtain⟨_,rfl,op9,ar9,ng9,nn9,dd9,nm9,ss9,rfl,hE9⟩:=hr))|refine Ld.o 1 rfl rfl ?_|(show Sto _ _ _ _;first|refine Sto.l 0 rfl rfl rfl ?_|refine Sto.l 2 rfl rfl rfl ?_))<;>conv=>whnf)
  all_goals exact RN.a ⟨op9,ar9,ng9,nn9,dd9,nm9,ss9,rfl,hE9⟩
 | none=>
  have r2:aJx t->bDp (.mk 4 arg neg l m name [t]) t=bDo t:=fun x=>by rw[bDp,hX];exact if_pos x
  have r3:¬aJx t->bDp (.mk 4 arg neg l m name [t]) t=.mk 4 arg neg l m name [t]:=fun x=>by rw[bDp,hX];exact if_neg x
  simp only[hX] at c1;have c1:=fun h vs tb w=>(c1 h vs tb w).mono fun v h' _ r=>r.no
  by_cases hn:aJx t
  .obtain⟨k,ng',l',m',nm',ar',rfl,e2,hkk⟩:=isNeg_kidG hok hn;rw[r2 hn,e2];clear r2 r3 hn e2;obtain⟨bl3,off3,op3,ar3,ng3,nn3,dd3,nm3,ss3,hE3,hld3,hln3,hix3⟩:=hk.kidP 0 _ rfl;obtain⟨e31,-,-,hv3,-,-,hk3⟩:=hE3.inv;have hkl3:ss3.l=1:=hk3.len;obtain⟨bl5,off5,op5,ar5,ng5,nn5,dd5,nm5,ss5,hE5,hld5,hln5,hix5⟩:=hk3.kidP 0 _ rfl;refine f0C ok D.q115 rfl ?_;conv=>whnf
   repeat' ((first|(apply bJ.go)|(show LdN _ _ _ _ _;first|refine LdN.oA 1 rfl rfl ?_|(refine LdN.hasN [.int .i64 op3,.int .i64 ar3,.bool ng3,nn3.val,dd3.val,.string (txt nm3),ss3.val] rfl (fun i v hv=>hld3 _ _ i v Ad hv) ?_)|refine LdN.hasN [.int .i64 op5,.int .i64 ar5,.bool ng5,nn5.val,dd5.val,.string (txt nm5),ss5.val] rfl (fun i v hv=>hld5 _ _ i v Ab hv) ?_)|refine hix3 _ _ rfl ?_|refine hix5 _ _ rfl ?_|((first|apply oI.z|apply cI.z))|intro (_:Nat)|(show Ld _ _ _ _;first|(refine Ld.of (hld3 _ _ 0 _ Ad rfl) ?_)|(refine Ld.of (hld3 _ _ 6 _ Ad rfl) ?_)|refine Ld.o 1 rfl rfl ?_|refine Ld.o 2 rfl rfl ?_)|(show CN _ _ _ _ _ _;(refine CN.f rfl (c1 _ _ Ab Ab) (fun v h' hl2 hr=>?_);obtain⟨n5,c5,d5,rfl⟩:=hr))|(show Sto _ _ _ _;first|refine Sto.l 0 rfl rfl rfl ?_|refine Sto.l 1 rfl rfl rfl ?_)|(apply aD<;>intro _<;>try (exfalso;omega)))<;>conv=>whnf)
   all_goals exact RN.a ⟨op5,ar5,ng5,nn5,dd5,nm5,ss5,rfl,Al⟩
  .rw[r3 hn];obtain⟨bl3,off3,op3,ar3,ng3,nn3,dd3,nm3,ss3,hE3,hld3,hln3,hix3⟩:=hk.kidP 0 _ rfl;have hne:op3≠4:=by
    obtain⟨o,ar',ng',l',m',nm',ks'⟩:=t;obtain⟨rfl,-⟩:=hE3.inv;exact hn
   clear r2 r3 hn;refine f0C ok D.q115 rfl ?_;conv=>whnf
   repeat' ((first|(apply bJ.go)|(show LdN _ _ _ _ _;first|refine LdN.oA 1 rfl rfl ?_|refine LdN.oA 2 rfl rfl ?_|(refine LdN.hasN [.int .i64 op3,.int .i64 ar3,.bool ng3,nn3.val,dd3.val,.string (txt nm3),ss3.val] rfl (fun i v hv=>hld3 _ _ i v Ad hv) ?_))|refine hix3 _ _ rfl ?_|((first|apply oI.z|apply cI.z))|intro (_:Nat)|(show Ld _ _ _ _;first|(refine Ld.of (hld3 _ _ 0 _ Ad rfl) ?_)|refine Ld.o 1 rfl rfl ?_|refine Ld.o 2 rfl rfl ?_)|(show CN _ _ _ _ _ _;(refine CN.f rfl (c1 _ _ Ab Ab) (fun v h' hl2 hr=>?_);obtain⟨n5,c5,d5,rfl⟩:=hr))|(show Sto _ _ _ _;first|refine Sto.l 0 rfl rfl rfl ?_|refine Sto.l 1 rfl rfl rfl ?_)|(apply aD<;>intro _<;>try (exfalso;omega)))<;>conv=>whnf)
   all_goals exact RN.a ⟨4,arg,neg,a,b,name,s,rfl,Al⟩
theorem powQ_sz{q:Rat}(h:fits q){n:Int}(h1:-32<=n)(h2:n<=32)(h0:n<0->nu q≠0):Sz 1073741824 (oX q n):=by
 unfold oX
 split
 .exact (Sz.pow (Sz.inv (sz_fits h) (h0 Ab)) Aa).mono Ae
 .exact (Sz.pow (sz_fits h) Aa).mono Ae
theorem raised_ct(t:Tr)(hok:okG t)(arg:Int)(ha1:-32<=arg)(ha2:arg<=32)(neg:Bool)(l m name:List Nat)(h:aA)(vs:List Value)(tb:Tb h)(w:IsE h vs (.mk 9 arg neg l m name [t])):Fn0 T F.q116 [.agg vs.toArray] h fun v h'=>VE h' v (bHx (.mk 9 arg neg l m name [t]) arg t):=by
 obtain⟨a,b,s,rfl,ho,ha,hv,hb,hk⟩:=w.isK;have hkl:s.l=1:=hk.len;have c1:=fun h vs tb w=>literal_g t hok h vs tb w
 have r1:∀q,bHw arg t=some q->bHx (.mk 9 arg neg l m name [t]) arg t=mkL q:=fun q e=>by rw[bHx,e]
 have r2:bHw arg t=none->arg=0->bHx (.mk 9 arg neg l m name [t]) arg t=mkL 1:=fun e x=>by rw[bHx,e];exact if_pos x
 have r3:bHw arg t=none->arg=1->bHx (.mk 9 arg neg l m name [t]) arg t=t:=fun e x=>by rw[bHx,e];exact (if_neg Aa).trans (if_pos x)
 have r4:bHw arg t=none->arg≠0->arg≠1->bHx (.mk 9 arg neg l m name [t]) arg t=.mk 9 arg neg l m name [t]:=fun e x y=>by rw[bHx,e];exact (if_neg x).trans (if_neg y)
 have w1:=fun h=>whole_ct h 1 Ae Ae
 simp only[bCk] at w1;obtain⟨bl3,off3,op3,ar3,ng3,nn3,dd3,nm3,ss3,hE3,hld3,hln3,hix3⟩:=hk.kidP 0 _ rfl;cases hX:uN t with
 | none=>
  have p3:bHw arg t=none:=by unfold bHw;rw[hX];rfl
  replace r2:=r2 p3;replace r3:=r3 p3;replace r4:=r4 p3;simp only[hX] at c1;have c1:=fun h vs tb w=>(c1 h vs tb w).mono fun v h' _ r=>r.no
  obtain⟨R,hR⟩:=AH (bHx (.mk 9 arg neg l m name [t]) arg t);rw[<-hR] at r2 r3 r4 ⊢;replace r2:=Hq.mk r2;replace r3:=Hq.mk r3;replace r4:=Hq.mk r4;clear hR r1;refine f0C ok D.q116 rfl ?_;conv=>whnf
  repeat' ((first|(apply bJ.go)|(show LdN _ _ _ _ _;first|refine LdN.oA 1 rfl rfl ?_|refine LdN.oA 2 rfl rfl ?_|(refine LdN.hasN [.int .i64 op3,.int .i64 ar3,.bool ng3,nn3.val,dd3.val,.string (txt nm3),ss3.val] rfl (fun i v hv=>hld3 _ _ i v Ad hv) ?_))|refine hix3 _ _ rfl ?_|((first|apply oI.z|apply cI.z))|intro (_:Nat)|(show CN _ _ _ _ _ _;first|(refine CN.f rfl (c1 _ _ Ab Ab) (fun v h' hl2 hr=>?_);obtain⟨n5,c5,d5,rfl⟩:=hr)|(refine CN.f rfl (w1 _) (fun v h' hl2 hr=>?_);obtain⟨op7,ar7,ng7,nn7,dd7,nm7,ss7,rfl,hE7⟩:=hr))|(show Ld _ _ _ _;first|refine Ld.o 1 rfl rfl ?_|refine Ld.o 2 rfl rfl ?_)|(show Sto _ _ _ _;first|refine Sto.l 0 rfl rfl rfl ?_|refine Sto.l 1 rfl rfl rfl ?_)|(apply aD<;>intro _<;>try (exfalso;omega)))<;>conv=>whnf)
  all_goals first
   | (rw[r2.out Aa];exact RN.a ⟨op7,ar7,ng7,nn7,dd7,nm7,ss7,rfl,hE7⟩)
   | (rw[r3.out Aa];exact RN.a ⟨op3,ar3,ng3,nn3,dd3,nm3,ss3,rfl,Al⟩)
   | (rw[r4.out Aa Aa];exact RN.a ⟨9,arg,neg,a,b,name,s,rfl,Al⟩)
 | some q=>
  have hfq:=litV_fitsG hok hX;have p1:¬(arg<0/\dH q=0)->bHw arg t=dZ (oX q arg):=fun x=>by
   unfold bHw;rw[hX];exact if_neg fun z=>x ⟨z.1,eL.2 (cE.2 z.2)⟩
  have p2:arg<0->dH q=0->bHw arg t=none:=fun x y=>by
   unfold bHw;rw[hX];exact if_pos ⟨x,cE.1 (eL.1 y)⟩
  simp only[hX] at c1;have c1:=fun h vs tb w=>(c1 h vs tb w).mono fun v h' _ r=>r.yes
  have zz:¬(arg<0/\dH q=0)->Sz 1073741824 (oX q arg):=fun x=>powQ_sz hfq ha1 ha2 fun y z=>x ⟨y,eL.2 z⟩
  have pr:∀h' c d,¬arg<0->eJ h' c d q->Fn0 T F.q189 [.agg #[.bool (sg q),Sl.val c,Sl.val d],.int .i64 arg] h' fun v h'=>∃s t:Sl,v=.agg #[.bool (sg (oX q arg)),s.val,t.val]/\eJ h' s t (oX q arg):=fun h' c d x w=>by
   have:=aTd h' c d q arg arg.toNat Aa w ((sz_fits hfq).mono Ae) Aa;rw[show q^arg.toNat=oX q arg from (if_neg x:oX q arg=_).symm] at this;exact this
  have pi:∀h' c d,arg<0->dH q≠0->eJ h' d c q->Fn0 T F.q189 [.agg #[.bool (sg q⁻¹),Sl.val c,Sl.val d],.int .i64 (0-arg)] h' fun v h'=>∃s t:Sl,v=.agg #[.bool (sg (oX q arg)),s.val,t.val]/\eJ h' s t (oX q arg):=fun h' c d x y w=>by
   have h0:nu q≠0:=fun z=>y (eL.2 z)
   have:=aTd h' c d q⁻¹ (0-arg) (-arg).toNat Aa ⟨by rw[yI q h0];exact w.den,by rw[den_inv q h0];exact w.num⟩ ((Sz.inv (sz_fits hfq) h0).mono Ae) Aa
   rw[show q⁻¹^(-arg).toNat=oX q arg from (if_pos x:oX q arg=_).symm] at this;exact this
  have sn:=fun h' c d w=>aAc h' c d q w ((sz_fits hfq).mono Ae)
  have iv:=fun h' c d w (x:dH q≠0)=>vE h' c d q w fun y=>x (eL.2 y)
  have li:=fun h' c d w x=>bEv h' c d (oX q arg) w (zz x)
  obtain⟨Sg,hSg⟩:=AH (dH q);obtain⟨P,hP⟩:=AH (oX q arg);obtain⟨I,hI⟩:=AH (q⁻¹);obtain⟨V,hV⟩:=AH (bHw arg t);obtain⟨R,hR⟩:=AH (bHx (.mk 9 arg neg l m name [t]) arg t);simp only[<-hSg] at p1 p2 pi sn iv li;simp only[<-hP] at p1 pr pi li;simp only[<-hI] at pi iv;simp only[<-hV,<-hR] at r1 r2 r3 r4;simp only[<-hV] at p1 p2;rw[<-hR];have y1:¬(arg<0/\Sg=0)->fits P->R=mkL P:=fun x z=>r1 P ((p1 x).trans (if_pos z))
  have y2:¬(arg<0/\Sg=0)->¬fits P->V=none:=fun x z=>(p1 x).trans (if_neg z)
  replace r2:=Hq.mk r2;replace r3:=Hq.mk r3;replace r4:=Hq.mk r4;replace p2:=Hq.mk p2;replace y1:=Hq.mk y1;replace y2:=Hq.mk y2;clear hSg hP hI hV hR r1 p1 zz;by_cases hfp:fits P
  .have li:=fun h' c d w x=>(li h' c d w x).mono fun v h' _ r=>r.yes hfp
   refine f0C ok D.q116 rfl ?_;conv=>whnf
   repeat' first|((first|(apply bJ.go)|(show LdN _ _ _ _ _;first|refine LdN.oA 0 rfl rfl ?_|refine LdN.oA 1 rfl rfl ?_|refine LdN.oA 2 rfl rfl ?_|(refine LdN.hasN [.int .i64 op3,.int .i64 ar3,.bool ng3,nn3.val,dd3.val,.string (txt nm3),ss3.val] rfl (fun i v hv=>hld3 _ _ i v Ad hv) ?_))|refine hix3 _ _ rfl ?_|((first|apply oI.z|apply cI.z))|intro (_:Nat)|(show CN _ _ _ _ _ _;first|(refine CN.f rfl (c1 _ _ Ab Ab) (fun v h' hl2 hr=>?_);obtain⟨c5,d5,rfl,hq5⟩:=hr)|refine CN.quiet rfl (sn _ _ _ Ab) ?_|refine CN.quiet rfl (iv _ _ _ Ab Aa) ?_|(refine CN.f rfl (pr _ _ _ Aa Ab) (fun v h' hl2 hr=>?_);obtain⟨s7,t7,rfl,hq7⟩:=hr)|(refine CN.f rfl (pi _ _ _ Aa Aa Ab) (fun v h' hl2 hr=>?_);obtain⟨s7,t7,rfl,hq7⟩:=hr)|(refine CN.f rfl (li _ _ _ Ab Aa) (fun v h' hl2 hr=>?_);obtain⟨_,rfl,op9,ar9,ng9,nn9,dd9,nm9,ss9,rfl,hE9⟩:=hr))|refine WN.i64 Aa Aa ?_|(show Ld _ _ _ _;first|refine Ld.o 1 rfl rfl ?_|refine Ld.o 2 rfl rfl ?_)|(show Sto _ _ _ _;first|refine Sto.l 0 rfl rfl rfl ?_|refine Sto.l 1 rfl rfl rfl ?_|refine Sto.l 2 rfl rfl rfl ?_))<;>conv=>whnf)|(show cnd _ _ _;first|((first|apply aB|apply bX|apply aD)<;>intro _<;>first|(exfalso;omega)|conv=>whnf)|(refine aI ?_))
   all_goals first
    | (rw[y1.out Aa hfp];exact RN.a ⟨op9,ar9,ng9,nn9,dd9,nm9,ss9,rfl,hE9⟩)
    | (rw[r2.out (p2.out Aa Aa) Aa];exact RN.a ⟨op7,ar7,ng7,nn7,dd7,nm7,ss7,rfl,hE7⟩)
    | (rw[r3.out (p2.out Aa Aa) Aa];exact RN.a ⟨op3,ar3,ng3,nn3,dd3,nm3,ss3,rfl,Ab⟩)
    | (rw[r4.out (p2.out Aa Aa) Aa Aa];exact RN.a ⟨9,arg,neg,a,b,name,s,rfl,Al⟩)
  .have li:=fun h' c d w x=>(li h' c d w x).mono fun v h' _ r=>r.no hfp
   have y3:Hq (V=none):=⟨by
     by_cases z:arg<0/\Sg=0
     .exact p2.out z.1 z.2
     .exact y2.out z hfp⟩
   refine f0C ok D.q116 rfl ?_;conv=>whnf
   repeat' first|((first|(apply bJ.go)|(show LdN _ _ _ _ _;first|refine LdN.oA 0 rfl rfl ?_|refine LdN.oA 1 rfl rfl ?_|refine LdN.oA 2 rfl rfl ?_|refine LdN.oA 3 rfl rfl ?_|(refine LdN.hasN [.int .i64 op3,.int .i64 ar3,.bool ng3,nn3.val,dd3.val,.string (txt nm3),ss3.val] rfl (fun i v hv=>hld3 _ _ i v Av hv) ?_))|refine hix3 _ _ rfl ?_|((first|apply oI.z|apply cI.z))|intro (_:Nat)|(show CN _ _ _ _ _ _;first|(refine CN.f rfl (c1 _ _ Ab Ab) (fun v h' hl2 hr=>?_);obtain⟨c5,d5,rfl,hq5⟩:=hr)|refine CN.quiet rfl (sn _ _ _ Ab) ?_|refine CN.quiet rfl (iv _ _ _ Ab Aa) ?_|(refine CN.f rfl (pr _ _ _ Aa Ab) (fun v h' hl2 hr=>?_);obtain⟨s7,t7,rfl,hq7⟩:=hr)|(refine CN.f rfl (pi _ _ _ Aa Aa Ab) (fun v h' hl2 hr=>?_);obtain⟨s7,t7,rfl,hq7⟩:=hr)|(refine CN.f rfl (li _ _ _ Ab Aa) (fun v h' hl2 hr=>?_);obtain⟨_,tt,rfl,op9,ar9,ng9,nn9,dd9,nm9,ss9,rfl,hE9⟩:=hr)|(refine CN.f rfl (w1 _) (fun v h' hl2 hr=>?_);obtain⟨op7,ar7,ng7,nn7,dd7,nm7,ss7,rfl,hE7⟩:=hr))|refine WN.i64 Aa Aa ?_|(show Ld _ _ _ _;first|refine Ld.o 1 rfl rfl ?_|refine Ld.o 2 rfl rfl ?_|refine Ld.o 3 rfl rfl ?_)|(show Sto _ _ _ _;first|refine Sto.l 0 rfl rfl rfl ?_|refine Sto.l 1 rfl rfl rfl ?_|refine Sto.l 2 rfl rfl rfl ?_))<;>conv=>whnf)|(show cnd _ _ _;first|((first|apply aB|apply bX|apply aD)<;>intro _<;>first|(exfalso;omega)|conv=>whnf)|(refine aI ?_))
   all_goals first
    | (rw[r2.out y3.out Aa];exact RN.a ⟨op7,ar7,ng7,nn7,dd7,nm7,ss7,rfl,hE7⟩)
    | (rw[r3.out y3.out Aa];exact RN.a ⟨op3,ar3,ng3,nn3,dd3,nm3,ss3,rfl,Al⟩)
    | (rw[r4.out y3.out Aa Aa];exact RN.a ⟨9,arg,neg,a,b,name,s,rfl,Al⟩)
theorem ratIm:((-1:Int):Rat)=-1:=rfl
def foldP(op:Int)(q r:Rat):Rat:=if op=5 then q+r else if op=6 then q-r else if op=7 then q*r else q / r

theorem added_ct(E t u:Tr)(hok1:okG t)(hok2:okG u)(h:aA)(tb:Tb h)(op0 ar0:Int)(ng0:Bool)(nn0 dd0:Sl)(nm0:List Nat)(ss0:Sl)(op1 ar1:Int)(ng1:Bool)(nn1 dd1:Sl)(nm1:List Nat)(ss1:Sl)(n1:Bool)(c1 d1:Sl)(bb1:Bool)(op2 ar2:Int)(ng2:Bool)(nn2 dd2:Sl)(nm2:List Nat)(ss2:Sl)(n2:Bool)(c2 d2:Sl)(bb2:Bool)(hE0:IsE h [.int .i64 op0,.int .i64 ar0,.bool ng0,nn0.val,dd0.val,.string (txt nm0),ss0.val] E)(hE1:IsE h [.int .i64 op1,.int .i64 ar1,.bool ng1,nn1.val,dd1.val,.string (txt nm1),ss1.val] t)(hE2:IsE h [.int .i64 op2,.int .i64 ar2,.bool ng2,nn2.val,dd2.val,.string (txt nm2),ss2.val] u)(x1:OpX h t n1 c1 d1 bb1)(x2:OpX h u n2 c2 d2 bb2):
  Fn0 T F.q192 [.agg #[.int .i64 op0,.int .i64 ar0,.bool ng0,nn0.val,dd0.val,.string (txt nm0),ss0.val],.agg #[.int .i64 op1,.int .i64 ar1,.bool ng1,nn1.val,dd1.val,.string (txt nm1),ss1.val,.bool n1,c1.val,d1.val,.bool bb1],.agg #[.int .i64 op2,.int .i64 ar2,.bool ng2,nn2.val,dd2.val,.string (txt nm2),ss2.val,.bool n2,c2.val,d2.val,.bool bb2]] h fun v h'=>VE h' v (addS E t u):=by
 have q1z:=fun h x=>equals_ct t hok1 h op1 ar1 ng1 nn1 dd1 nm1 ss1 n1 c1 d1 bb1 x 0 Ae Ae
 have q1o:=fun h x=>equals_ct t hok1 h op1 ar1 ng1 nn1 dd1 nm1 ss1 n1 c1 d1 bb1 x 1 Ae Ae
 have q1m:=fun h x=>equals_ct t hok1 h op1 ar1 ng1 nn1 dd1 nm1 ss1 n1 c1 d1 bb1 x (-1) Ae Ae
 have q2z:=fun h x=>equals_ct u hok2 h op2 ar2 ng2 nn2 dd2 nm2 ss2 n2 c2 d2 bb2 x 0 Ae Ae
 have q2o:=fun h x=>equals_ct u hok2 h op2 ar2 ng2 nn2 dd2 nm2 ss2 n2 c2 d2 bb2 x 1 Ae Ae
 simp only[bGq] at q1z q2z;simp only[bCk] at q1o q2o;simp only[ratIm] at q1m;have w0:=fun h=>whole_ct h 0 Ae Ae
 simp only[bGq] at w0;have cn:=fun h vs tb w=>negated_ct u hok2 0 false [] [] [] h vs tb w
 have r1:uN t=some 0->addS E t u=u:=fun x=>if_pos x
 have r2:¬uN t=some 0->uN u=some 0->addS E t u=t:=fun x y=>(if_neg x).trans (if_pos y)
 have r3:¬uN t=some 0->¬uN u=some 0->aJx u->addS E t u=aG 6 0 [t,bDo u]:=fun x y z=>(if_neg x).trans ((if_neg y).trans (if_pos z))
 have r4:¬uN t=some 0->¬uN u=some 0->¬aJx u->addS E t u=E:=fun x y z=>(if_neg x).trans ((if_neg y).trans (if_neg z))
 obtain⟨R,hR⟩:=AH (addS E t u);rw[<-hR];simp only[<-hR] at r1 r2 r3 r4;clear hR;by_cases hn:aJx u
 .obtain⟨k,ng',l',m',nm',ar',rfl,e2,hkk⟩:=isNeg_kidG hok2 hn;rw[e2] at r3;replace r3:=fun x y=>r3 x y hn
  clear r4 hn e2;obtain⟨e31,-,-,hv3,-,-,hk3⟩:=hE2.inv;have hkl3:ss2.l=1:=hk3.len;obtain⟨bl5,off5,op5,ar5,ng5,nn5,dd5,nm5,ss5,hE5,hld5,hln5,hix5⟩:=hk3.kidP 0 _ rfl;obtain⟨u,hu⟩:=AH (Tr.mk 4 ar' ng' l' m' nm' [k]);simp only[<-hu] at *;refine f0C ok D.q192 rfl ?_;conv=>whnf
  repeat' first|((first|(show DrN _ _ _ _ _ _;refine DrN.own [_,_] (by exact List.Sublist.cons _ (List.Sublist.cons_cons _ (List.Sublist.cons_cons _ (bJ9 _)))) Ak ?_)|(refine⟨fun _=>⟨aJ.o As,by first|exact List.Sublist.cons _ (List.Sublist.cons_cons _ (List.Sublist.cons_cons _ (bJ9 _)))|exact List.Sublist.cons _ (List.Sublist.cons _ (List.Sublist.cons_cons _ (List.Sublist.cons_cons _ (bJ9 _))))⟩,?_⟩)|refine hix5 _ _ rfl ?_|((first|apply oI.z|apply cI.z))|intro (_:Nat)|(show LdN _ _ _ _ _;first|refine LdN.oA 0 rfl rfl ?_|refine LdN.oA 1 rfl rfl ?_|refine LdN.oA 2 rfl rfl ?_|(refine LdN.hasN [.int .i64 op5,.int .i64 ar5,.bool ng5,nn5.val,dd5.val,.string (txt nm5),ss5.val] rfl (fun i v hv=>hld5 _ _ i v Ac hv) ?_))|(show CN _ _ _ _ _ _;first|(refine CN.f rfl (q1z _ (x1.mono Ad)) (fun v h' hl2 hr=>?_);subst hr)|(refine CN.f rfl (q2z _ (x2.mono Ab)) (fun v h' hl2 hr=>?_);subst hr)|(refine CN.keep 0 rfl rfl (fun hl2=>?_);refine CN.f rfl (aYc 6 0 Ae Ae [t,k] ⟨some ⟨_,0,none⟩,2,2⟩ _ (IsK.two (hE1.mono Ac) (hE5.mono Ac) rfl rfl hl2)) (fun v h3 hl3 hr=>?_);obtain⟨op8,ar8,ng8,nn8,dd8,nm8,ss8,rfl,hE8⟩:=hr))|(show Ld _ _ _ _;first|refine Ld.o 0 rfl rfl ?_|refine Ld.o 1 rfl rfl ?_)|refine Sto.l 0 rfl rfl rfl ?_)<;>conv=>whnf)|(show cnd _ _ _;first|((first|apply aD|apply aU)<;>intro _<;>first|(exfalso;omega)|conv=>whnf))
  all_goals first
   | (rw[r1 Ab];exact RN.a ⟨op2,ar2,ng2,nn2,dd2,nm2,ss2,rfl,Al⟩)
   | (rw[r2 Ab Ab];exact RN.a ⟨op1,ar1,ng1,nn1,dd1,nm1,ss1,rfl,Al⟩)
   | (rw[r3 Ab Ab];exact RN.a ⟨op8,ar8,ng8,nn8,dd8,nm8,ss8,rfl,hE8⟩)
   | (rw[r4 Ab Ab];exact RN.a ⟨op0,ar0,ng0,nn0,dd0,nm0,ss0,rfl,Ab⟩)
 .replace r4:=fun x y=>r4 x y hn
  have hne:op2≠4:=by
   obtain⟨o,ar',ng',l',m',nm',ks'⟩:=u;obtain⟨rfl,-⟩:=hE2.inv;exact hn
  clear r3 hn;refine f0C ok D.q192 rfl ?_;conv=>whnf
  repeat' first|((first|(show LdN _ _ _ _ _;first|refine LdN.oA 0 rfl rfl ?_|refine LdN.oA 1 rfl rfl ?_|refine LdN.oA 2 rfl rfl ?_|refine LdN.oA 3 rfl rfl ?_)|(show CN _ _ _ _ _ _;first|(refine CN.f rfl (q1z _ (x1.mono Ad)) (fun v h' hl2 hr=>?_);subst hr)|(refine CN.f rfl (q2z _ (x2.mono Ab)) (fun v h' hl2 hr=>?_);subst hr))|((first|apply oI.z|apply cI.z))|intro (_:Nat)|refine Ld.o 1 rfl rfl ?_|refine Sto.l 0 rfl rfl rfl ?_)<;>conv=>whnf)|(show cnd _ _ _;first|((first|apply aD|apply aU)<;>intro _<;>first|(exfalso;omega)|conv=>whnf))
  all_goals first
   | (rw[r1 Ab];exact RN.a ⟨op2,ar2,ng2,nn2,dd2,nm2,ss2,rfl,Al⟩)
   | (rw[r2 Ab Ab];exact RN.a ⟨op1,ar1,ng1,nn1,dd1,nm1,ss1,rfl,Al⟩)
   | (rw[r3 Ab Ab];exact RN.a ⟨op8,ar8,ng8,nn8,dd8,nm8,ss8,rfl,hE8⟩)
   | (rw[r4 Ab Ab];exact RN.a ⟨op0,ar0,ng0,nn0,dd0,nm0,ss0,rfl,Al⟩)
theorem subtracted_ct(E t u:Tr)(hok1:okG t)(hok2:okG u)(h:aA)(tb:Tb h)(op0 ar0:Int)(ng0:Bool)(nn0 dd0:Sl)(nm0:List Nat)(ss0:Sl)(op1 ar1:Int)(ng1:Bool)(nn1 dd1:Sl)(nm1:List Nat)(ss1:Sl)(n1:Bool)(c1 d1:Sl)(bb1:Bool)(op2 ar2:Int)(ng2:Bool)(nn2 dd2:Sl)(nm2:List Nat)(ss2:Sl)(n2:Bool)(c2 d2:Sl)(bb2:Bool)(hE0:IsE h [.int .i64 op0,.int .i64 ar0,.bool ng0,nn0.val,dd0.val,.string (txt nm0),ss0.val] E)(hE1:IsE h [.int .i64 op1,.int .i64 ar1,.bool ng1,nn1.val,dd1.val,.string (txt nm1),ss1.val] t)(hE2:IsE h [.int .i64 op2,.int .i64 ar2,.bool ng2,nn2.val,dd2.val,.string (txt nm2),ss2.val] u)(x1:OpX h t n1 c1 d1 bb1)(x2:OpX h u n2 c2 d2 bb2):
  Fn0 T F.q193 [.agg #[.int .i64 op0,.int .i64 ar0,.bool ng0,nn0.val,dd0.val,.string (txt nm0),ss0.val],.agg #[.int .i64 op1,.int .i64 ar1,.bool ng1,nn1.val,dd1.val,.string (txt nm1),ss1.val,.bool n1,c1.val,d1.val,.bool bb1],.agg #[.int .i64 op2,.int .i64 ar2,.bool ng2,nn2.val,dd2.val,.string (txt nm2),ss2.val,.bool n2,c2.val,d2.val,.bool bb2]] h fun v h'=>VE h' v (bHt E t u):=by
 have q1z:=fun h x=>equals_ct t hok1 h op1 ar1 ng1 nn1 dd1 nm1 ss1 n1 c1 d1 bb1 x 0 Ae Ae
 have q1o:=fun h x=>equals_ct t hok1 h op1 ar1 ng1 nn1 dd1 nm1 ss1 n1 c1 d1 bb1 x 1 Ae Ae
 have q1m:=fun h x=>equals_ct t hok1 h op1 ar1 ng1 nn1 dd1 nm1 ss1 n1 c1 d1 bb1 x (-1) Ae Ae
 have q2z:=fun h x=>equals_ct u hok2 h op2 ar2 ng2 nn2 dd2 nm2 ss2 n2 c2 d2 bb2 x 0 Ae Ae
 have q2o:=fun h x=>equals_ct u hok2 h op2 ar2 ng2 nn2 dd2 nm2 ss2 n2 c2 d2 bb2 x 1 Ae Ae
 simp only[bGq] at q1z q2z;simp only[bCk] at q1o q2o;simp only[ratIm] at q1m;have w0:=fun h=>whole_ct h 0 Ae Ae
 simp only[bGq] at w0;have cn:=fun h vs tb w=>negated_ct u hok2 0 false [] [] [] h vs tb w
 have r1:uN u=some 0->bHt E t u=t:=fun x=>if_pos x
 have r2:¬uN u=some 0->uN t=some 0->bHt E t u=bDp (aG 4 0 [u]) u:=fun x y=>(if_neg x).trans (if_pos y)
 have r3:¬uN u=some 0->¬uN t=some 0->aJx u->bHt E t u=aG 5 0 [t,bDo u]:=fun x y z=>(if_neg x).trans ((if_neg y).trans (if_pos z))
 have r4:¬uN u=some 0->¬uN t=some 0->¬aJx u->bHt E t u=E:=fun x y z=>(if_neg x).trans ((if_neg y).trans (if_neg z))
 have r5:True:=trivial;have r6:True:=trivial;obtain⟨R,hR⟩:=AH (bHt E t u);rw[<-hR];simp only[<-hR] at r1 r2 r3 r4;clear hR;by_cases hn:aJx u
 .obtain⟨k,ng',l',m',nm',ar',rfl,e2,hkk⟩:=isNeg_kidG hok2 hn;rw[e2] at r3;replace r3:=fun x y=>r3 x y hn
  clear r4 hn e2;obtain⟨e31,-,-,hv3,-,-,hk3⟩:=hE2.inv;have hkl3:ss2.l=1:=hk3.len;obtain⟨bl5,off5,op5,ar5,ng5,nn5,dd5,nm5,ss5,hE5,hld5,hln5,hix5⟩:=hk3.kidP 0 _ rfl;obtain⟨u,hu⟩:=AH (Tr.mk 4 ar' ng' l' m' nm' [k]);simp only[<-hu] at *;refine f0C ok D.q193 rfl ?_;conv=>whnf
  repeat' first|((first|(show DrN _ _ _ _ _ _;refine DrN.own [_,_] (by exact List.Sublist.cons _ (List.Sublist.cons_cons _ (List.Sublist.cons_cons _ (bJ9 _)))) Ak ?_)|(refine⟨fun _=>⟨aJ.o As,by first|exact List.Sublist.cons _ (List.Sublist.cons_cons _ (List.Sublist.cons_cons _ (bJ9 _)))|exact List.Sublist.cons _ (List.Sublist.cons _ (List.Sublist.cons_cons _ (List.Sublist.cons_cons _ (bJ9 _))))⟩,?_⟩)|refine hix5 _ _ rfl ?_|((first|apply oI.z|apply cI.z))|intro (_:Nat)|(show LdN _ _ _ _ _;first|refine LdN.oA 0 rfl rfl ?_|refine LdN.oA 1 rfl rfl ?_|refine LdN.oA 2 rfl rfl ?_|(refine LdN.hasN [.int .i64 op5,.int .i64 ar5,.bool ng5,nn5.val,dd5.val,.string (txt nm5),ss5.val] rfl (fun i v hv=>hld5 _ _ i v Ac hv) ?_))|(show CN _ _ _ _ _ _;first|(refine CN.f rfl (q1z _ (x1.mono Ab)) (fun v h' hl2 hr=>?_);subst hr)|(refine CN.f rfl (q2z _ (x2.mono Ad)) (fun v h' hl2 hr=>?_);subst hr)|(refine CN.keep 0 rfl rfl (fun hl2=>?_);refine CN.f rfl (aYc 4 0 Ae Ae [u] ⟨some ⟨_,0,none⟩,1,1⟩ _ (IsK.one (hE2.mono Ac) rfl hl2)) (fun v h3 hl3 hr=>?_);obtain⟨op8,ar8,ng8,nn8,dd8,nm8,ss8,rfl,hE8⟩:=hr)|(refine CN.f rfl (cn _ _ Af hE8) (fun v h' hl2 hr=>?_);obtain⟨op6,ar6,ng6,nn6,dd6,nm6,ss6,rfl,hE6⟩:=hr)|(refine CN.keep 0 rfl rfl (fun hl2=>?_);refine CN.f rfl (aYc 5 0 Ae Ae [t,k] ⟨some ⟨_,0,none⟩,2,2⟩ _ (IsK.two (hE1.mono Ac) (hE5.mono Ac) rfl rfl hl2)) (fun v h3 hl3 hr=>?_);obtain⟨op8,ar8,ng8,nn8,dd8,nm8,ss8,rfl,hE8⟩:=hr))|(show Ld _ _ _ _;first|refine Ld.o 0 rfl rfl ?_|refine Ld.o 1 rfl rfl ?_)|refine Sto.l 0 rfl rfl rfl ?_)<;>conv=>whnf)|(show cnd _ _ _;first|((first|apply aD|apply aU)<;>intro _<;>first|(exfalso;omega)|conv=>whnf))
  all_goals first
   | (rw[r1 Ab];exact RN.a ⟨op1,ar1,ng1,nn1,dd1,nm1,ss1,rfl,Al⟩)
   | (rw[r2 Ab Ab];exact RN.a ⟨op6,ar6,ng6,nn6,dd6,nm6,ss6,rfl,hE6⟩)
   | (rw[r3 Ab Ab];exact RN.a ⟨op8,ar8,ng8,nn8,dd8,nm8,ss8,rfl,hE8⟩)
   | (rw[r4 Ab Ab];exact RN.a ⟨op0,ar0,ng0,nn0,dd0,nm0,ss0,rfl,Ab⟩)
 .replace r4:=fun x y=>r4 x y hn
  have hne:op2≠4:=by
   obtain⟨o,ar',ng',l',m',nm',ks'⟩:=u;obtain⟨rfl,-⟩:=hE2.inv;exact hn
  clear r3 hn;refine f0C ok D.q193 rfl ?_;conv=>whnf
  repeat' first|((first|(show LdN _ _ _ _ _;first|refine LdN.oA 0 rfl rfl ?_|refine LdN.oA 1 rfl rfl ?_|refine LdN.oA 2 rfl rfl ?_|refine LdN.oA 3 rfl rfl ?_)|(show CN _ _ _ _ _ _;first|(refine CN.f rfl (q1z _ (x1.mono Ab)) (fun v h' hl2 hr=>?_);subst hr)|(refine CN.f rfl (q2z _ (x2.mono Ad)) (fun v h' hl2 hr=>?_);subst hr)|(refine CN.keep 0 rfl rfl (fun hl2=>?_);refine CN.f rfl (aYc 4 0 Ae Ae [u] ⟨some ⟨_,0,none⟩,1,1⟩ _ (IsK.one (hE2.mono Ac) rfl hl2)) (fun v h3 hl3 hr=>?_);obtain⟨op8,ar8,ng8,nn8,dd8,nm8,ss8,rfl,hE8⟩:=hr)|(refine CN.f rfl (cn _ _ Af hE8) (fun v h' hl2 hr=>?_);obtain⟨op6,ar6,ng6,nn6,dd6,nm6,ss6,rfl,hE6⟩:=hr))|((first|apply oI.z|apply cI.z))|intro (_:Nat)|refine Ld.o 1 rfl rfl ?_|refine Sto.l 0 rfl rfl rfl ?_)<;>conv=>whnf)|(show cnd _ _ _;first|((first|apply aD|apply aU)<;>intro _<;>first|(exfalso;omega)|conv=>whnf))
  all_goals first
   | (rw[r1 Ab];exact RN.a ⟨op1,ar1,ng1,nn1,dd1,nm1,ss1,rfl,Al⟩)
   | (rw[r2 Ab Ab];exact RN.a ⟨op6,ar6,ng6,nn6,dd6,nm6,ss6,rfl,hE6⟩)
   | (rw[r3 Ab Ab];exact RN.a ⟨op8,ar8,ng8,nn8,dd8,nm8,ss8,rfl,hE8⟩)
   | (rw[r4 Ab Ab];exact RN.a ⟨op0,ar0,ng0,nn0,dd0,nm0,ss0,rfl,Al⟩)
theorem multiplied_ct(E t u:Tr)(hok1:okG t)(hok2:okG u)(h:aA)(tb:Tb h)(op0 ar0:Int)(ng0:Bool)(nn0 dd0:Sl)(nm0:List Nat)(ss0:Sl)(op1 ar1:Int)(ng1:Bool)(nn1 dd1:Sl)(nm1:List Nat)(ss1:Sl)(n1:Bool)(c1 d1:Sl)(bb1:Bool)(op2 ar2:Int)(ng2:Bool)(nn2 dd2:Sl)(nm2:List Nat)(ss2:Sl)(n2:Bool)(c2 d2:Sl)(bb2:Bool)(hE0:IsE h [.int .i64 op0,.int .i64 ar0,.bool ng0,nn0.val,dd0.val,.string (txt nm0),ss0.val] E)(hE1:IsE h [.int .i64 op1,.int .i64 ar1,.bool ng1,nn1.val,dd1.val,.string (txt nm1),ss1.val] t)(hE2:IsE h [.int .i64 op2,.int .i64 ar2,.bool ng2,nn2.val,dd2.val,.string (txt nm2),ss2.val] u)(x1:OpX h t n1 c1 d1 bb1)(x2:OpX h u n2 c2 d2 bb2):
  Fn0 T F.q194 [.agg #[.int .i64 op0,.int .i64 ar0,.bool ng0,nn0.val,dd0.val,.string (txt nm0),ss0.val],.agg #[.int .i64 op1,.int .i64 ar1,.bool ng1,nn1.val,dd1.val,.string (txt nm1),ss1.val,.bool n1,c1.val,d1.val,.bool bb1],.agg #[.int .i64 op2,.int .i64 ar2,.bool ng2,nn2.val,dd2.val,.string (txt nm2),ss2.val,.bool n2,c2.val,d2.val,.bool bb2]] h fun v h'=>VE h' v (mulS E t u):=by
 have q1z:=fun h x=>equals_ct t hok1 h op1 ar1 ng1 nn1 dd1 nm1 ss1 n1 c1 d1 bb1 x 0 Ae Ae
 have q1o:=fun h x=>equals_ct t hok1 h op1 ar1 ng1 nn1 dd1 nm1 ss1 n1 c1 d1 bb1 x 1 Ae Ae
 have q1m:=fun h x=>equals_ct t hok1 h op1 ar1 ng1 nn1 dd1 nm1 ss1 n1 c1 d1 bb1 x (-1) Ae Ae
 have q2z:=fun h x=>equals_ct u hok2 h op2 ar2 ng2 nn2 dd2 nm2 ss2 n2 c2 d2 bb2 x 0 Ae Ae
 have q2o:=fun h x=>equals_ct u hok2 h op2 ar2 ng2 nn2 dd2 nm2 ss2 n2 c2 d2 bb2 x 1 Ae Ae
 simp only[bGq] at q1z q2z;simp only[bCk] at q1o q2o;simp only[ratIm] at q1m;have w0:=fun h=>whole_ct h 0 Ae Ae
 simp only[bGq] at w0;have cn:=fun h vs tb w=>negated_ct u hok2 0 false [] [] [] h vs tb w
 have r1:uN t=some 0->mulS E t u=mkL 0:=fun x=>if_pos (.inl x)
 have r2:uN u=some 0->mulS E t u=mkL 0:=fun x=>if_pos (.inr x)
 have r3:¬uN t=some 0->¬uN u=some 0->uN t=some 1->mulS E t u=u:=fun x y z=>(if_neg fun w=>w.elim x y).trans (if_pos z)
 have r4:¬uN t=some 0->¬uN u=some 0->¬uN t=some 1->uN u=some 1->mulS E t u=t:=fun x y z w=>(if_neg fun w=>w.elim x y).trans ((if_neg z).trans (if_pos w))
 have r5:¬uN t=some 0->¬uN u=some 0->¬uN t=some 1->¬uN u=some 1->uN t=some (-1)->mulS E t u=bDp (aG 4 0 [u]) u:=fun x y z w v=>(if_neg fun w=>w.elim x y).trans ((if_neg z).trans ((if_neg w).trans (if_pos v)))
 have r6:¬uN t=some 0->¬uN u=some 0->¬uN t=some 1->¬uN u=some 1->¬uN t=some (-1)->mulS E t u=E:=fun x y z w v=>(if_neg fun w=>w.elim x y).trans ((if_neg z).trans ((if_neg w).trans (if_neg v)))
 obtain⟨R,hR⟩:=AH (mulS E t u);rw[<-hR];simp only[<-hR] at r1 r2 r3 r4 r5 r6;clear hR;refine f0C ok D.q194 rfl ?_;conv=>whnf
 repeat' ((first|(show LdN _ _ _ _ _;first|refine LdN.oA 0 rfl rfl ?_|refine LdN.oA 1 rfl rfl ?_|refine LdN.oA 2 rfl rfl ?_|refine LdN.oA 3 rfl rfl ?_)|(show CN _ _ _ _ _ _;first|(refine CN.f rfl (q1z _ (x1.mono Ad)) (fun v h' hl2 hr=>?_);subst hr)|(refine CN.f rfl (q1o _ (x1.mono Ac)) (fun v h' hl2 hr=>?_);subst hr)|(refine CN.f rfl (q1m _ (x1.mono Ac)) (fun v h' hl2 hr=>?_);subst hr)|(refine CN.f rfl (q2z _ (x2.mono Ab)) (fun v h' hl2 hr=>?_);subst hr)|(refine CN.f rfl (q2o _ (x2.mono Ac)) (fun v h' hl2 hr=>?_);subst hr)|(refine CN.keep 0 rfl rfl (fun hl2=>?_);refine CN.f rfl (aYc 4 0 Ae Ae [u] ⟨some ⟨_,0,none⟩,1,1⟩ _ (IsK.one (hE2.mono Ac) rfl hl2)) (fun v h3 hl3 hr=>?_);obtain⟨op8,ar8,ng8,nn8,dd8,nm8,ss8,rfl,hE8⟩:=hr)|(refine CN.f rfl (cn _ _ Af hE8) (fun v h' hl2 hr=>?_);obtain⟨op6,ar6,ng6,nn6,dd6,nm6,ss6,rfl,hE6⟩:=hr)|(refine CN.f rfl (w0 _) (fun v h' hl2 hr=>?_);obtain⟨op7,ar7,ng7,nn7,dd7,nm7,ss7,rfl,hE7⟩:=hr))|((first|apply oI.z|apply cI.z))|intro (_:Nat)|refine Sto.l 0 rfl rfl rfl ?_|(apply aU<;>intro _<;>try (exfalso;omega)))<;>conv=>whnf)
 all_goals first
  | (rw[r1 Ab];exact RN.a ⟨op7,ar7,ng7,nn7,dd7,nm7,ss7,rfl,hE7⟩)
  | (rw[r2 Ab];exact RN.a ⟨op7,ar7,ng7,nn7,dd7,nm7,ss7,rfl,hE7⟩)
  | (rw[r3 Ab Ab Ab];exact RN.a ⟨op2,ar2,ng2,nn2,dd2,nm2,ss2,rfl,Al⟩)
  | (rw[r4 Ab Ab Ab Ab];exact RN.a ⟨op1,ar1,ng1,nn1,dd1,nm1,ss1,rfl,Al⟩)
  | (rw[r5 Ab Ab Ab Ab Ab];exact RN.a ⟨op6,ar6,ng6,nn6,dd6,nm6,ss6,rfl,hE6⟩)
  | (rw[r6 Ab Ab Ab Ab Ab];exact RN.a ⟨op0,ar0,ng0,nn0,dd0,nm0,ss0,rfl,Al⟩)
theorem sz_of_sr{k:Nat}{q:Rat}(s:Sr k q):Sz k q:=⟨by rw[qW];have:=s.num;omega,by rw[qW];have:=s.den;omega⟩
theorem foldP_sz{op:Int}{q r:Rat}(h:fits q)(h':fits r)(h0:op=8->nu r≠0)(hop:op=5\/op=6\/op=7\/op=8):Sz 1073741824 (foldP op q r):=by
 have a:=jF h;have b:=jF h';unfold foldP
 repeat' split
 .exact (sz_of_sr (aGb a b)).mono Ae
 .rw[bMd];exact (sz_of_sr (aGb a (Sr.neg b))).mono Ae
 .exact (sz_of_sr (aL1 a b)).mono Ae
 .exact (sz_of_sr (bEu a b (h0 Aa))).mono Ae
theorem fold_ct(q r:Rat)(fq:fits q)(fr:fits r)(h:aA)(tb:Tb h)(op:Int)(hop:op=5\/op=6\/op=7\/op=8)(h0:op=8->nu r≠0)(a b c d:Sl)(hq:eJ h a b q)(hr:eJ h c d r):
  Fn0 T F.q191 [.int .i64 op,.agg #[.bool (sg q),a.val,b.val],.agg #[.bool (sg r),c.val,d.val]] h fun v h'=>∃s t:Sl,v=.agg #[.bool (sg (foldP op q r)),s.val,t.val]/\eJ h' s t (foldP op q r):=by
 have r1:op=5->foldP op q r=q+r:=fun x=>if_pos x
 have r2:op=6->foldP op q r=q+-r:=fun x=>((if_neg Aa).trans (if_pos x)).trans (bMd q r)
 have r3:op=7->foldP op q r=q*r:=fun x=>(if_neg Aa).trans ((if_neg Aa).trans (if_pos x))
 have r4:op=8->foldP op q r=q*r⁻¹:=fun x=>((if_neg Aa).trans ((if_neg Aa).trans (if_neg Aa))).trans (bMb q r)
 have s1:=oK fq;have s2:=oK fr;have k1:=fun h tb hq hr=>aF7 h tb a b c d q r hq hr s1 s2
 have k2:=fun h tb hq (hr:eJ h c d r)=>aF7 h tb a b c d q (-r) hq (isFr_neg hr) s1 (sz_neg' s2)
 have k3:=fun h tb hq hr=>aAd h tb a b c d q r hq hr s1 s2
 have k4:=fun h tb hq (hr:eJ h c d r) (x:op=8)=>aAd h tb a b d c q r⁻¹ hq ⟨by rw[yI r (h0 x)];exact hr.den,by rw[den_inv r (h0 x)];exact hr.num⟩ s1 ((Sz.inv (sz_fits fr) (h0 x)).mono Ae)
 have k5:=fun h hr=>zL h c d r hr (s2.mono Ae)
 have k6:=fun h hr (x:op=8)=>vE h c d r hr (h0 x)
 obtain⟨R,hR⟩:=AH (foldP op q r);obtain⟨P1,h1⟩:=AH (q+r);obtain⟨P2,h2⟩:=AH (q+-r);obtain⟨P3,h3⟩:=AH (q*r);obtain⟨P4,h4⟩:=AH (q*r⁻¹);obtain⟨M,h5⟩:=AH (-r);obtain⟨I,h6⟩:=AH (r⁻¹);rw[<-hR] at r1 r2 r3 r4 ⊢;simp only[<-h1] at r1 k1;simp only[<-h2] at r2 k2;simp only[<-h3] at r3 k3;simp only[<-h4] at r4 k4;simp only[<-h5] at k2 k5;simp only[<-h6] at k4 k6;replace r1:=Hq.mk r1;replace r2:=Hq.mk r2;replace r3:=Hq.mk r3;replace r4:=Hq.mk r4;clear hR h1 h2 h3 h4 h5 h6 h0;refine f0C ok D.q191 rfl ?_;conv=>whnf
 repeat' ((first|(show DrN _ _ _ _ _ _;refine DrN.own [_,_] (by exact List.Sublist.cons _ (List.Sublist.cons_cons _ (List.Sublist.cons_cons _ (bJ9 _)))) Ak ?_)|(refine⟨fun _=>⟨aJ.o (by first|exact aA.lr _|assumption|exact aA.lt Ab Ab|exact aA.lt (aA.lt Ab Ab) Ab),by repeat first|exact bJ9 _|apply List.Sublist.cons_cons|apply List.Sublist.cons⟩,?_⟩)|((first|apply oI.z|apply cI.z))|intro (_:Nat)|(show LdN _ _ _ _ _;first|refine LdN.oA 0 rfl rfl ?_|refine LdN.oA 1 rfl rfl ?_|refine LdN.oA 2 rfl rfl ?_)|(show CN _ _ _ _ _ _;first|(refine CN.f rfl (k1 _ Ab Ab Ab) (fun v h' hl2 hr=>?_);obtain⟨s7,t7,rfl,hq7⟩:=hr)|(refine CN.f rfl (k2 _ Ab Ab Ab) (fun v h' hl2 hr=>?_);obtain⟨s7,t7,rfl,hq7⟩:=hr)|(refine CN.f rfl (k3 _ Ab Ab Ab) (fun v h' hl2 hr=>?_);obtain⟨s7,t7,rfl,hq7⟩:=hr)|(refine CN.f rfl (k4 _ Ab Ab Ab Aa) (fun v h' hl2 hr=>?_);obtain⟨s7,t7,rfl,hq7⟩:=hr)|refine CN.quiet rfl (k5 _ Ab) ?_|refine CN.quiet rfl (k6 _ Ab Aa) ?_)|refine Sto.l 0 rfl rfl rfl ?_|(apply aD<;>intro _<;>try (exfalso;omega)))<;>conv=>whnf)
 all_goals first
  | (rw[r1.out Aa];exact RN.a ⟨s7,t7,rfl,hq7⟩)
  | (rw[r2.out Aa];exact RN.a ⟨s7,t7,rfl,hq7⟩)
  | (rw[r3.out Aa];exact RN.a ⟨s7,t7,rfl,hq7⟩)
  | (rw[r4.out Aa];exact RN.a ⟨s7,t7,rfl,hq7⟩)
theorem combined_ct(t u:Tr)(op arg:Int)(hop:op=5\/op=6\/op=7\/op=8)(neg:Bool)(l m name:List Nat)(hok1:okG t)(hok2:okG u)(h:aA)(vs:List Value)(tb:Tb h)(w:IsE h vs (.mk op arg neg l m name [t,u])):
  Fn0 T F.q117 [.agg vs.toArray] h fun v h'=>VE h' v (bHv (.mk op arg neg l m name [t,u]) op t u):=by
 obtain⟨a,b,s,rfl,ho,ha,hv,hb,hk⟩:=w.isK;have hkl:s.l=2:=hk.len;obtain⟨bl1,off1,op1,ar1,ng1,nn1,dd1,nm1,ss1,hE1,hld1,hln1,hix1⟩:=hk.kidP 0 _ rfl;obtain⟨bl2,off2,op2,ar2,ng2,nn2,dd2,nm2,ss2,hE2,hld2,hln2,hix2⟩:=hk.kidP 1 _ rfl;have q1z:=fun h op1 ar1 ng1 nn1 dd1 nm1 ss1 n1 c1 d1 bb1 x=>equals_ct t hok1 h op1 ar1 ng1 nn1 dd1 nm1 ss1 n1 c1 d1 bb1 x 0 Ae Ae
 have q2o:=fun h op2 ar2 ng2 nn2 dd2 nm2 ss2 n2 c2 d2 bb2 x=>equals_ct u hok2 h op2 ar2 ng2 nn2 dd2 nm2 ss2 n2 c2 d2 bb2 x 1 Ae Ae
 have w0:=fun h=>whole_ct h 0 Ae Ae
 simp only[bGq] at q1z w0;simp only[bCk] at q2o;have oA:=fun h tb w=>operandOf_ct t hok1 h tb op1 ar1 ng1 nn1 dd1 nm1 ss1 w
 have oB:=fun h tb w=>operandOf_ct u hok2 h tb op2 ar2 ng2 nn2 dd2 nm2 ss2 w
 have b5:bGb op t u=none->op=5->bHv (.mk op arg neg l m name [t,u]) op t u=addS (.mk op arg neg l m name [t,u]) t u:=fun e x=>by rw[bHv,e];exact if_pos x
 have b6:bGb op t u=none->op=6->bHv (.mk op arg neg l m name [t,u]) op t u=bHt (.mk op arg neg l m name [t,u]) t u:=fun e x=>by rw[bHv,e];exact (if_neg Aa).trans (if_pos x)
 have b7:bGb op t u=none->op=7->bHv (.mk op arg neg l m name [t,u]) op t u=mulS (.mk op arg neg l m name [t,u]) t u:=fun e x=>by rw[bHv,e];exact (if_neg Aa).trans ((if_neg Aa).trans (if_pos x))
 have b8:bGb op t u=none->op=8->bHv (.mk op arg neg l m name [t,u]) op t u=bHu (.mk op arg neg l m name [t,u]) t u:=fun e x=>by rw[bHv,e];exact (if_neg Aa).trans ((if_neg Aa).trans (if_neg Aa))
 have b81:bGb op t u=none->op=8->uN t=some 0->bHv (.mk op arg neg l m name [t,u]) op t u=mkL 0:=fun e x y=>(b8 e x).trans (if_pos y)
 have b82:bGb op t u=none->op=8->¬uN t=some 0->uN u=some 1->bHv (.mk op arg neg l m name [t,u]) op t u=t:=fun e x y z=>(b8 e x).trans ((if_neg y).trans (if_pos z))
 have b83:bGb op t u=none->op=8->¬uN t=some 0->¬uN u=some 1->bHv (.mk op arg neg l m name [t,u]) op t u=.mk op arg neg l m name [t,u]:=fun e x y z=>(b8 e x).trans ((if_neg y).trans (if_neg z))
 have bf:∀q,bGb op t u=some q->bHv (.mk op arg neg l m name [t,u]) op t u=mkL q:=fun q e=>by rw[bHv,e]
 obtain⟨R,hR⟩:=AH (bHv (.mk op arg neg l m name [t,u]) op t u);rw[<-hR];simp only[<-hR] at b5 b6 b7 b81 b82 b83 bf;clear hR b8;refine f0C ok D.q117 rfl ?_
 repeat' first|(refine cI.seqN (a:=.region 1 _ _) ?_)|((first|apply oI.z|apply cI.z);conv=>whnf)|(intro (_:Nat);conv=>whnf)
 rename_i bx by_;refine bJ.cut (fun ρ h' L'=>∃(b3 b4:Nat) (n1:Bool) (c1 d1:Sl) (bb1:Bool) (n2:Bool) (c2 d2:Sl) (bb2:Bool),rd ρ 3=.pointer (some { block:=b3,off:=0 })/\rd ρ 4=.pointer (some { block:=b4,off:=0 })/\h.le h'/\OpX h' t n1 c1 d1 bb1/\OpX h' u n2 c2 d2 bb2/\(L'=(b4,.cells [.int .i64 op2,.int .i64 ar2,.bool ng2,nn2.val,dd2.val,.string (txt nm2),ss2.val,.bool n2,c2.val,d2.val,.bool bb2].toArray Ty.expr_operand (0,0))::(b3,.cells [.int .i64 op1,.int .i64 ar1,.bool ng1,nn1.val,dd1.val,.string (txt nm1),ss1.val,.bool n1,c1.val,d1.val,.bool bb1].toArray Ty.expr_operand (0,0))::[(by_,.cells [.int .i64 0,.int .i64 0,.bool false,.slice none 0 0,.slice none 0 0,.string (txt []),.slice none 0 0].toArray Ty.api_Expr (0,0)),(bx,.cells [.int .i64 op,.int .i64 arg,.bool neg,a.val,b.val,.string (txt name),s.val].toArray Ty.api_Expr (0,0))]\/L'=(b3,.cells [.int .i64 op1,.int .i64 ar1,.bool ng1,nn1.val,dd1.val,.string (txt nm1),ss1.val,.bool n1,c1.val,d1.val,.bool bb1].toArray Ty.expr_operand (0,0))::(b4,.cells [.int .i64 op2,.int .i64 ar2,.bool ng2,nn2.val,dd2.val,.string (txt nm2),ss2.val,.bool n2,c2.val,d2.val,.bool bb2].toArray Ty.expr_operand (0,0))::[(by_,.cells [.int .i64 0,.int .i64 0,.bool false,.slice none 0 0,.slice none 0 0,.string (txt []),.slice none 0 0].toArray Ty.api_Expr (0,0)),(bx,.cells [.int .i64 op,.int .i64 arg,.bool neg,a.val,b.val,.string (txt name),s.val].toArray Ty.api_Expr (0,0))])) ?_ ?_
 .conv=>whnf
  repeat ((first|apply oI.z|apply cI.z);conv=>whnf)
  repeat' first|((first|(show DrN _ _ _ _ _ _;refine DrN.own [_] (by exact List.Sublist.cons _ (List.Sublist.cons_cons _ (bJ9 _))) Ak ?_)|(refine⟨fun _=>⟨aJ.o (by first|exact aA.lr _|assumption|exact aA.lt Ab Ab|exact aA.lt (aA.lt Ab Ab) Ab),by repeat first|exact bJ9 _|apply List.Sublist.cons_cons|apply List.Sublist.cons⟩,?_⟩)|refine hix1 _ _ rfl ?_|refine hix2 _ _ rfl ?_|intro (_:Nat)|(show LdN _ _ _ _ _;first|(refine LdN.hasN [.int .i64 op1,.int .i64 ar1,.bool ng1,nn1.val,dd1.val,.string (txt nm1),ss1.val] rfl (fun i v hv=>hld1 _ _ i v Ad hv) ?_)|(refine LdN.hasN [.int .i64 op2,.int .i64 ar2,.bool ng2,nn2.val,dd2.val,.string (txt nm2),ss2.val] rfl (fun i v hv=>hld2 _ _ i v Ad hv) ?_))|(show CN _ _ _ _ _ _;first|(refine CN.f rfl (oA _ Ab (hE1.mono Ad)) (fun v h' hl2 hr=>?_);obtain⟨n1,c1,d1,bb1,rfl,x1⟩:=hr)|(refine CN.f rfl (oB _ Af (hE2.mono Ab)) (fun v h' hl2 hr=>?_);obtain⟨n2,c2,d2,bb2,rfl,x2⟩:=hr))|refine Ld.o 0 rfl rfl ?_|(show Sto _ _ _ _;first|refine Sto.l 0 rfl rfl rfl ?_|refine Sto.l 1 rfl rfl rfl ?_))<;>conv=>whnf)|(refine rY.mk ?_ ?_<;>(conv=>whnf))
  all_goals first
   | exact⟨rfl,_,_,_,_,_,_,_,_,_,_,rfl,rfl,Ac,x1.mono Ab,x2.mono Ad,Or.inl rfl⟩
   | exact⟨rfl,_,_,_,_,_,_,_,_,_,_,rfl,rfl,Ac,x1.mono Ab,x2.mono Ad,Or.inr rfl⟩
 conv=>whnf
 repeat intro _
 rename_i h7 L7 hj;obtain⟨b3,b4,n1,c1,d1,bb1,n2,c2,d2,bb2,e3,e4,hle,x1,x2,eLL⟩:=hj;conv at e3=>lhs;whnf
 subst e3;conv at e4=>lhs;whnf
 subst e4;replace tb:=tb.mono hle;replace w:=w.mono hle;replace hE1:=hE1.mono hle;replace hE2:=hE2.mono hle;replace hld1:=fun h' L i v (x:h7.le h')=>hld1 h' L i v (aA.lt hle x)
 replace hld2:=fun h' L i v (x:h7.le h')=>hld2 h' L i v (aA.lt hle x)
 clear hix1 hix2 hln1 hln2 oA oB;clear hle;by_cases hb2:bb1=true/\bb2=true
 .obtain⟨rfl,rfl⟩:=hb2;obtain⟨q,e1,rfl,f1⟩:=x1.1 rfl;obtain⟨r,e2,rfl,f2⟩:=x2.1 rfl;have fq:=litV_fitsG hok1 e1;have fr:=litV_fitsG hok2 e2;have sn:=fun h' w=>aAc h' c2 d2 r w ((oK fr).mono Ae)
  have ff:(op=8->dH r≠0)->bGb op t u=dZ (foldP op q r):=fun x=>by
   unfold bGb;rw[e1,e2];show bGa op q r=_;unfold bGa foldP;rcases hop with rfl|rfl|rfl|rfl
   .rfl
   .rfl
   .rfl
   .exact if_neg fun y=>x rfl (eL.2 (cE.2 y))
  have fz:op=8->dH r=0->bGb op t u=none:=fun x y=>by
   unfold bGb;rw[e1,e2];show bGa op q r=none;unfold bGa;rw[if_neg Aa,if_neg Aa,if_neg Aa];exact if_pos (cE.1 (eL.1 y))
  have fc:=fun h tb hq hr (x:op=8->dH r≠0)=>fold_ct q r fq fr h tb op hop (fun y z=>x y (eL.2 z)) c1 d1 c2 d2 hq hr
  have li:=fun h' c d w (x:op=8->dH r≠0)=>bEv h' c d (foldP op q r) w (foldP_sz fq fr (fun y z=>x y (eL.2 z)) hop)
  obtain⟨Sg,hSg⟩:=AH (dH r);obtain⟨P,hP⟩:=AH (foldP op q r);obtain⟨V,hV⟩:=AH (bGb op t u);simp only[<-hSg] at sn ff fz fc li;simp only[<-hP] at ff fc li;simp only[<-hV] at b5 b6 b7 b81 b82 b83 bf ff fz;clear hSg hP hV;by_cases hz:op=8/\Sg=0
  .have v0:=fz hz.1 hz.2;replace b5:=Hq.mk (b5 v0);replace b6:=Hq.mk (b6 v0);replace b7:=Hq.mk (b7 v0);replace b81:=Hq.mk (b81 v0);replace b82:=Hq.mk (b82 v0);replace b83:=Hq.mk (b83 v0);obtain⟨rfl,rfl⟩:=hz;clear bf ff fz fc li hop;rcases eLL with rfl|rfl
   .conv=>whnf
    repeat' first|((first|(apply bJ.go)|(show LdN _ _ _ _ _;first|refine LdN.oA 0 rfl rfl ?_|refine LdN.oA 1 rfl rfl ?_|refine LdN.oA 2 rfl rfl ?_|refine LdN.oA 3 rfl rfl ?_)|(show CN _ _ _ _ _ _;first|refine CN.quiet rfl (sn _ Ab) ?_|(refine CN.f rfl (q1z _ _ _ _ _ _ _ _ _ _ _ _ (x1.mono Ad)) (fun v h' hl2 hr=>?_);subst hr)|(refine CN.f rfl (q2o _ _ _ _ _ _ _ _ _ _ _ _ (x2.mono Ab)) (fun v h' hl2 hr=>?_);subst hr)|(refine CN.f rfl (w0 _) (fun v h' hl2 hr=>?_);obtain⟨op7,ar7,ng7,nn7,dd7,nm7,ss7,rfl,hE7⟩:=hr))|((first|apply oI.z|apply cI.z))|(show Ld _ _ _ _;first|refine Ld.o 0 rfl rfl ?_|refine Ld.o 1 rfl rfl ?_|refine Ld.o 3 rfl rfl ?_)|refine Sto.l 2 rfl rfl rfl ?_)<;>conv=>whnf)|(show cnd _ _ _;first|(apply aD<;>intro _<;>first|(exfalso;omega)|conv=>whnf)|(refine aI ?_)|(apply aU<;>intro _<;>first|(exfalso;omega)|conv=>whnf))
    all_goals first
     | (rw[b5.out Aa];exact RN.a ⟨op6,ar6,ng6,nn6,dd6,nm6,ss6,rfl,hE6⟩)
     | (rw[b6.out Aa];exact RN.a ⟨op6,ar6,ng6,nn6,dd6,nm6,ss6,rfl,hE6⟩)
     | (rw[b7.out Aa];exact RN.a ⟨op6,ar6,ng6,nn6,dd6,nm6,ss6,rfl,hE6⟩)
     | (rw[b81.out Aa Ab];exact RN.a ⟨op7,ar7,ng7,nn7,dd7,nm7,ss7,rfl,hE7⟩)
     | (rw[b82.out Aa Ab Ab];exact RN.a ⟨op1,ar1,ng1,nn1,dd1,nm1,ss1,rfl,Al⟩)
     | (rw[b83.out Aa Ab Ab];exact RN.a ⟨_,arg,neg,a,b,name,s,rfl,Al⟩)
   .conv=>whnf
    repeat' first|((first|(apply bJ.go)|(show LdN _ _ _ _ _;first|refine LdN.oA 0 rfl rfl ?_|refine LdN.oA 1 rfl rfl ?_|refine LdN.oA 2 rfl rfl ?_|refine LdN.oA 3 rfl rfl ?_)|(show CN _ _ _ _ _ _;first|refine CN.quiet rfl (sn _ Ab) ?_|(refine CN.f rfl (q1z _ _ _ _ _ _ _ _ _ _ _ _ (x1.mono Ad)) (fun v h' hl2 hr=>?_);subst hr)|(refine CN.f rfl (q2o _ _ _ _ _ _ _ _ _ _ _ _ (x2.mono Ab)) (fun v h' hl2 hr=>?_);subst hr)|(refine CN.f rfl (w0 _) (fun v h' hl2 hr=>?_);obtain⟨op7,ar7,ng7,nn7,dd7,nm7,ss7,rfl,hE7⟩:=hr))|((first|apply oI.z|apply cI.z))|(show Ld _ _ _ _;first|refine Ld.o 0 rfl rfl ?_|refine Ld.o 1 rfl rfl ?_|refine Ld.o 3 rfl rfl ?_)|refine Sto.l 2 rfl rfl rfl ?_)<;>conv=>whnf)|(show cnd _ _ _;first|(apply aD<;>intro _<;>first|(exfalso;omega)|conv=>whnf)|(refine aI ?_)|(apply aU<;>intro _<;>first|(exfalso;omega)|conv=>whnf))
    all_goals first
     | (rw[b5.out Aa];exact RN.a ⟨op6,ar6,ng6,nn6,dd6,nm6,ss6,rfl,hE6⟩)
     | (rw[b6.out Aa];exact RN.a ⟨op6,ar6,ng6,nn6,dd6,nm6,ss6,rfl,hE6⟩)
     | (rw[b7.out Aa];exact RN.a ⟨op6,ar6,ng6,nn6,dd6,nm6,ss6,rfl,hE6⟩)
     | (rw[b81.out Aa Ab];exact RN.a ⟨op7,ar7,ng7,nn7,dd7,nm7,ss7,rfl,hE7⟩)
     | (rw[b82.out Aa Ab Ab];exact RN.a ⟨op1,ar1,ng1,nn1,dd1,nm1,ss1,rfl,Al⟩)
     | (rw[b83.out Aa Ab Ab];exact RN.a ⟨_,arg,neg,a,b,name,s,rfl,Al⟩)
  .have hz':op=8->Sg≠0:=fun x y=>hz ⟨x,y⟩
   have v1:=ff hz';have fc:=fun h tb hq hr=>fc h tb hq hr hz'
   have li:=fun h' c d w=>li h' c d w hz'
   replace hz':=Hq.mk hz';by_cases hfp:fits P
   .have r1:=bf P (v1.trans (if_pos hfp));have li:=fun h' c d w=>(li h' c d w).mono fun v h' _ r=>r.yes hfp
    rw[r1];clear b5 b6 b7 b81 b82 b83 bf ff fz v1 hz;rcases eLL with rfl|rfl
    .conv=>whnf
     repeat' first|((first|(apply bJ.go)|(show LdN _ _ _ _ _;first|refine LdN.oA 0 rfl rfl ?_|refine LdN.oA 1 rfl rfl ?_|refine LdN.oA 3 rfl rfl ?_)|(show CN _ _ _ _ _ _;first|refine CN.quiet rfl (sn _ Ab) ?_|(refine CN.f rfl (fc _ Ab Ab Ab) (fun v h' hl2 hr=>?_);obtain⟨s7,t7,rfl,hq7⟩:=hr)|(refine CN.f rfl (li _ _ _ Ab) (fun v h' hl2 hr=>?_);obtain⟨_,rfl,op9,ar9,ng9,nn9,dd9,nm9,ss9,rfl,hE9⟩:=hr))|((first|apply oI.z|apply cI.z))|intro (_:Nat)|(show Ld _ _ _ _;first|refine Ld.o 0 rfl rfl ?_|refine Ld.o 1 rfl rfl ?_|refine Ld.o 3 rfl rfl ?_)|(show Sto _ _ _ _;first|refine Sto.l 0 rfl rfl rfl ?_|refine Sto.l 3 rfl rfl rfl ?_))<;>conv=>whnf)|(show cnd _ _ _;first|(apply aD<;>intro _<;>first|(exfalso;omega)|conv=>whnf)|(refine aI ?_))
     all_goals first
      | exact RN.a ⟨op9,ar9,ng9,nn9,dd9,nm9,ss9,rfl,hE9⟩
      | exact absurd Ab (hz'.out Aa)
    .conv=>whnf
     repeat' first|((first|(apply bJ.go)|(show LdN _ _ _ _ _;first|refine LdN.oA 0 rfl rfl ?_|refine LdN.oA 1 rfl rfl ?_|refine LdN.oA 3 rfl rfl ?_)|(show CN _ _ _ _ _ _;first|refine CN.quiet rfl (sn _ Ab) ?_|(refine CN.f rfl (fc _ Ab Ab Ab) (fun v h' hl2 hr=>?_);obtain⟨s7,t7,rfl,hq7⟩:=hr)|(refine CN.f rfl (li _ _ _ Ab) (fun v h' hl2 hr=>?_);obtain⟨_,rfl,op9,ar9,ng9,nn9,dd9,nm9,ss9,rfl,hE9⟩:=hr))|((first|apply oI.z|apply cI.z))|intro (_:Nat)|(show Ld _ _ _ _;first|refine Ld.o 0 rfl rfl ?_|refine Ld.o 1 rfl rfl ?_|refine Ld.o 3 rfl rfl ?_)|(show Sto _ _ _ _;first|refine Sto.l 0 rfl rfl rfl ?_|refine Sto.l 3 rfl rfl rfl ?_))<;>conv=>whnf)|(show cnd _ _ _;first|(apply aD<;>intro _<;>first|(exfalso;omega)|conv=>whnf)|(refine aI ?_))
     all_goals first
      | exact RN.a ⟨op9,ar9,ng9,nn9,dd9,nm9,ss9,rfl,hE9⟩
      | exact absurd Ab (hz'.out Aa)
   .have v0:=v1.trans (if_neg hfp);have li:=fun h' c d w=>(li h' c d w).mono fun v h' _ r=>r.no hfp
    replace b5:=Hq.mk (b5 v0);replace b6:=Hq.mk (b6 v0);replace b7:=Hq.mk (b7 v0);replace b81:=Hq.mk (b81 v0);replace b82:=Hq.mk (b82 v0);replace b83:=Hq.mk (b83 v0);clear bf ff fz v1 hz;rcases eLL with rfl|rfl
    .conv=>whnf
     repeat' first|((first|(apply bJ.go)|(show LdN _ _ _ _ _;first|refine LdN.oA 0 rfl rfl ?_|refine LdN.oA 1 rfl rfl ?_|refine LdN.oA 2 rfl rfl ?_|refine LdN.oA 3 rfl rfl ?_|refine LdN.oA 4 rfl rfl ?_)|(show CN _ _ _ _ _ _;first|refine CN.quiet rfl (sn _ Ab) ?_|(refine CN.f rfl (fc _ Ab Ab Ab) (fun v h' hl2 hr=>?_);obtain⟨s7,t7,rfl,hq7⟩:=hr)|(refine CN.f rfl (li _ _ _ Ab) (fun v h' hl2 hr=>?_);obtain⟨_,tt,rfl,op9,ar9,ng9,nn9,dd9,nm9,ss9,rfl,hE9⟩:=hr)|(refine CN.f rfl (added_ct _ t u hok1 hok2 _ Af _ _ _ _ _ _ _ _ _ _ _ _ _ _ _ _ _ _ _ _ _ _ _ _ _ _ _ _ _ (w.mono Ac) (hE1.mono Ac) (hE2.mono Ac) (x1.mono Ac) (x2.mono Ac)) (fun v h' hl2 hr=>?_);obtain⟨op6,ar6,ng6,nn6,dd6,nm6,ss6,rfl,hE6⟩:=hr)|(refine CN.f rfl (subtracted_ct _ t u hok1 hok2 _ Af _ _ _ _ _ _ _ _ _ _ _ _ _ _ _ _ _ _ _ _ _ _ _ _ _ _ _ _ _ (w.mono Ac) (hE1.mono Ac) (hE2.mono Ac) (x1.mono Ac) (x2.mono Ac)) (fun v h' hl2 hr=>?_);obtain⟨op6,ar6,ng6,nn6,dd6,nm6,ss6,rfl,hE6⟩:=hr)|(refine CN.f rfl (multiplied_ct _ t u hok1 hok2 _ Af _ _ _ _ _ _ _ _ _ _ _ _ _ _ _ _ _ _ _ _ _ _ _ _ _ _ _ _ _ (w.mono Ac) (hE1.mono Ac) (hE2.mono Ac) (x1.mono Ac) (x2.mono Ac)) (fun v h' hl2 hr=>?_);obtain⟨op6,ar6,ng6,nn6,dd6,nm6,ss6,rfl,hE6⟩:=hr)|(refine CN.f rfl (q1z _ _ _ _ _ _ _ _ _ _ _ _ (x1.mono Av)) (fun v h' hl2 hr=>?_);subst hr)|(refine CN.f rfl (q2o _ _ _ _ _ _ _ _ _ _ _ _ (x2.mono Ac)) (fun v h' hl2 hr=>?_);subst hr)|(refine CN.f rfl (w0 _) (fun v h' hl2 hr=>?_);obtain⟨op7,ar7,ng7,nn7,dd7,nm7,ss7,rfl,hE7⟩:=hr))|((first|apply oI.z|apply cI.z))|intro (_:Nat)|(show Ld _ _ _ _;first|refine Ld.o 0 rfl rfl ?_|refine Ld.o 1 rfl rfl ?_|refine Ld.o 3 rfl rfl ?_|refine Ld.o 4 rfl rfl ?_)|(show Sto _ _ _ _;first|refine Sto.l 0 rfl rfl rfl ?_|refine Sto.l 2 rfl rfl rfl ?_|refine Sto.l 3 rfl rfl rfl ?_))<;>conv=>whnf)|(show cnd _ _ _;first|(apply aD<;>intro _<;>first|(exfalso;omega)|conv=>whnf)|(refine aI ?_)|(apply aU<;>intro _<;>first|(exfalso;omega)|conv=>whnf))
     all_goals first
      | (rw[b5.out Aa];exact RN.a ⟨op6,ar6,ng6,nn6,dd6,nm6,ss6,rfl,hE6⟩)
      | (rw[b6.out Aa];exact RN.a ⟨op6,ar6,ng6,nn6,dd6,nm6,ss6,rfl,hE6⟩)
      | (rw[b7.out Aa];exact RN.a ⟨op6,ar6,ng6,nn6,dd6,nm6,ss6,rfl,hE6⟩)
      | (rw[b81.out Aa Ab];exact RN.a ⟨op7,ar7,ng7,nn7,dd7,nm7,ss7,rfl,hE7⟩)
      | (rw[b82.out Aa Ab Ab];exact RN.a ⟨op1,ar1,ng1,nn1,dd1,nm1,ss1,rfl,Al⟩)
      | (rw[b83.out Aa Ab Ab];exact RN.a ⟨_,arg,neg,a,b,name,s,rfl,Al⟩)
      | exact absurd Ab (hz'.out Aa)
    .conv=>whnf
     repeat' first|((first|(apply bJ.go)|(show LdN _ _ _ _ _;first|refine LdN.oA 0 rfl rfl ?_|refine LdN.oA 1 rfl rfl ?_|refine LdN.oA 2 rfl rfl ?_|refine LdN.oA 3 rfl rfl ?_|refine LdN.oA 4 rfl rfl ?_)|(show CN _ _ _ _ _ _;first|refine CN.quiet rfl (sn _ Ab) ?_|(refine CN.f rfl (fc _ Ab Ab Ab) (fun v h' hl2 hr=>?_);obtain⟨s7,t7,rfl,hq7⟩:=hr)|(refine CN.f rfl (li _ _ _ Ab) (fun v h' hl2 hr=>?_);obtain⟨_,tt,rfl,op9,ar9,ng9,nn9,dd9,nm9,ss9,rfl,hE9⟩:=hr)|(refine CN.f rfl (added_ct _ t u hok1 hok2 _ Af _ _ _ _ _ _ _ _ _ _ _ _ _ _ _ _ _ _ _ _ _ _ _ _ _ _ _ _ _ (w.mono Ac) (hE1.mono Ac) (hE2.mono Ac) (x1.mono Ac) (x2.mono Ac)) (fun v h' hl2 hr=>?_);obtain⟨op6,ar6,ng6,nn6,dd6,nm6,ss6,rfl,hE6⟩:=hr)|(refine CN.f rfl (subtracted_ct _ t u hok1 hok2 _ Af _ _ _ _ _ _ _ _ _ _ _ _ _ _ _ _ _ _ _ _ _ _ _ _ _ _ _ _ _ (w.mono Ac) (hE1.mono Ac) (hE2.mono Ac) (x1.mono Ac) (x2.mono Ac)) (fun v h' hl2 hr=>?_);obtain⟨op6,ar6,ng6,nn6,dd6,nm6,ss6,rfl,hE6⟩:=hr)|(refine CN.f rfl (multiplied_ct _ t u hok1 hok2 _ Af _ _ _ _ _ _ _ _ _ _ _ _ _ _ _ _ _ _ _ _ _ _ _ _ _ _ _ _ _ (w.mono Ac) (hE1.mono Ac) (hE2.mono Ac) (x1.mono Ac) (x2.mono Ac)) (fun v h' hl2 hr=>?_);obtain⟨op6,ar6,ng6,nn6,dd6,nm6,ss6,rfl,hE6⟩:=hr)|(refine CN.f rfl (q1z _ _ _ _ _ _ _ _ _ _ _ _ (x1.mono Av)) (fun v h' hl2 hr=>?_);subst hr)|(refine CN.f rfl (q2o _ _ _ _ _ _ _ _ _ _ _ _ (x2.mono Ac)) (fun v h' hl2 hr=>?_);subst hr)|(refine CN.f rfl (w0 _) (fun v h' hl2 hr=>?_);obtain⟨op7,ar7,ng7,nn7,dd7,nm7,ss7,rfl,hE7⟩:=hr))|((first|apply oI.z|apply cI.z))|intro (_:Nat)|(show Ld _ _ _ _;first|refine Ld.o 0 rfl rfl ?_|refine Ld.o 1 rfl rfl ?_|refine Ld.o 3 rfl rfl ?_|refine Ld.o 4 rfl rfl ?_)|(show Sto _ _ _ _;first|refine Sto.l 0 rfl rfl rfl ?_|refine Sto.l 2 rfl rfl rfl ?_|refine Sto.l 3 rfl rfl rfl ?_))<;>conv=>whnf)|(show cnd _ _ _;first|(apply aD<;>intro _<;>first|(exfalso;omega)|conv=>whnf)|(refine aI ?_)|(apply aU<;>intro _<;>first|(exfalso;omega)|conv=>whnf))
     all_goals first
      | (rw[b5.out Aa];exact RN.a ⟨op6,ar6,ng6,nn6,dd6,nm6,ss6,rfl,hE6⟩)
      | (rw[b6.out Aa];exact RN.a ⟨op6,ar6,ng6,nn6,dd6,nm6,ss6,rfl,hE6⟩)
      | (rw[b7.out Aa];exact RN.a ⟨op6,ar6,ng6,nn6,dd6,nm6,ss6,rfl,hE6⟩)
      | (rw[b81.out Aa Ab];exact RN.a ⟨op7,ar7,ng7,nn7,dd7,nm7,ss7,rfl,hE7⟩)
      | (rw[b82.out Aa Ab Ab];exact RN.a ⟨op1,ar1,ng1,nn1,dd1,nm1,ss1,rfl,Al⟩)
      | (rw[b83.out Aa Ab Ab];exact RN.a ⟨_,arg,neg,a,b,name,s,rfl,Al⟩)
      | exact absurd Ab (hz'.out Aa)
 .have v0:bGb op t u=none:=by
   unfold bGb;cases bb1 with
   | false=>rw[x1.2 rfl];rfl
   | true=>
    cases bb2 with
    | false=>obtain⟨q,e1,-⟩:=x1.1 rfl;rw[x2.2 rfl,e1];rfl
    | true=>exact absurd ⟨rfl,rfl⟩ hb2
  replace b5:=Hq.mk (b5 v0);replace b6:=Hq.mk (b6 v0);replace b7:=Hq.mk (b7 v0);replace b81:=Hq.mk (b81 v0);replace b82:=Hq.mk (b82 v0);replace b83:=Hq.mk (b83 v0);clear bf v0;cases bb1 with
  | false=>
   rcases eLL with rfl|rfl
   .conv=>whnf
    repeat' first|((first|(apply bJ.go)|(show LdN _ _ _ _ _;first|refine LdN.oA 0 rfl rfl ?_|refine LdN.oA 1 rfl rfl ?_|refine LdN.oA 2 rfl rfl ?_|refine LdN.oA 3 rfl rfl ?_)|(show CN _ _ _ _ _ _;first|(refine CN.f rfl (added_ct _ t u hok1 hok2 _ Ab _ _ _ _ _ _ _ _ _ _ _ _ _ _ _ _ _ _ _ _ _ _ _ _ _ _ _ _ _ (w.mono Ad) (hE1.mono Ad) (hE2.mono Ad) (x1.mono Ad) (x2.mono Ad)) (fun v h' hl2 hr=>?_);obtain⟨op6,ar6,ng6,nn6,dd6,nm6,ss6,rfl,hE6⟩:=hr)|(refine CN.f rfl (subtracted_ct _ t u hok1 hok2 _ Ab _ _ _ _ _ _ _ _ _ _ _ _ _ _ _ _ _ _ _ _ _ _ _ _ _ _ _ _ _ (w.mono Ad) (hE1.mono Ad) (hE2.mono Ad) (x1.mono Ad) (x2.mono Ad)) (fun v h' hl2 hr=>?_);obtain⟨op6,ar6,ng6,nn6,dd6,nm6,ss6,rfl,hE6⟩:=hr)|(refine CN.f rfl (multiplied_ct _ t u hok1 hok2 _ Ab _ _ _ _ _ _ _ _ _ _ _ _ _ _ _ _ _ _ _ _ _ _ _ _ _ _ _ _ _ (w.mono Ad) (hE1.mono Ad) (hE2.mono Ad) (x1.mono Ad) (x2.mono Ad)) (fun v h' hl2 hr=>?_);obtain⟨op6,ar6,ng6,nn6,dd6,nm6,ss6,rfl,hE6⟩:=hr)|(refine CN.f rfl (q1z _ _ _ _ _ _ _ _ _ _ _ _ (x1.mono Ad)) (fun v h' hl2 hr=>?_);subst hr)|(refine CN.f rfl (q2o _ _ _ _ _ _ _ _ _ _ _ _ (x2.mono Ab)) (fun v h' hl2 hr=>?_);subst hr)|(refine CN.f rfl (w0 _) (fun v h' hl2 hr=>?_);obtain⟨op7,ar7,ng7,nn7,dd7,nm7,ss7,rfl,hE7⟩:=hr))|((first|apply oI.z|apply cI.z))|(show Ld _ _ _ _;first|refine Ld.o 1 rfl rfl ?_|refine Ld.o 3 rfl rfl ?_)|refine Sto.l 2 rfl rfl rfl ?_)<;>conv=>whnf)|(show cnd _ _ _;first|((first|apply aD|apply aU)<;>intro _<;>first|(exfalso;omega)|conv=>whnf))
    all_goals first
     | (rw[b5.out Aa];exact RN.a ⟨op6,ar6,ng6,nn6,dd6,nm6,ss6,rfl,hE6⟩)
     | (rw[b6.out Aa];exact RN.a ⟨op6,ar6,ng6,nn6,dd6,nm6,ss6,rfl,hE6⟩)
     | (rw[b7.out Aa];exact RN.a ⟨op6,ar6,ng6,nn6,dd6,nm6,ss6,rfl,hE6⟩)
     | (rw[b81.out Aa Ab];exact RN.a ⟨op7,ar7,ng7,nn7,dd7,nm7,ss7,rfl,hE7⟩)
     | (rw[b82.out Aa Ab Ab];exact RN.a ⟨op1,ar1,ng1,nn1,dd1,nm1,ss1,rfl,Al⟩)
     | (rw[b83.out Aa Ab Ab];exact RN.a ⟨_,arg,neg,a,b,name,s,rfl,Al⟩)
   .conv=>whnf
    repeat' first|((first|(apply bJ.go)|(show LdN _ _ _ _ _;first|refine LdN.oA 0 rfl rfl ?_|refine LdN.oA 1 rfl rfl ?_|refine LdN.oA 2 rfl rfl ?_|refine LdN.oA 3 rfl rfl ?_)|(show CN _ _ _ _ _ _;first|(refine CN.f rfl (added_ct _ t u hok1 hok2 _ Ab _ _ _ _ _ _ _ _ _ _ _ _ _ _ _ _ _ _ _ _ _ _ _ _ _ _ _ _ _ (w.mono Ad) (hE1.mono Ad) (hE2.mono Ad) (x1.mono Ad) (x2.mono Ad)) (fun v h' hl2 hr=>?_);obtain⟨op6,ar6,ng6,nn6,dd6,nm6,ss6,rfl,hE6⟩:=hr)|(refine CN.f rfl (subtracted_ct _ t u hok1 hok2 _ Ab _ _ _ _ _ _ _ _ _ _ _ _ _ _ _ _ _ _ _ _ _ _ _ _ _ _ _ _ _ (w.mono Ad) (hE1.mono Ad) (hE2.mono Ad) (x1.mono Ad) (x2.mono Ad)) (fun v h' hl2 hr=>?_);obtain⟨op6,ar6,ng6,nn6,dd6,nm6,ss6,rfl,hE6⟩:=hr)|(refine CN.f rfl (multiplied_ct _ t u hok1 hok2 _ Ab _ _ _ _ _ _ _ _ _ _ _ _ _ _ _ _ _ _ _ _ _ _ _ _ _ _ _ _ _ (w.mono Ad) (hE1.mono Ad) (hE2.mono Ad) (x1.mono Ad) (x2.mono Ad)) (fun v h' hl2 hr=>?_);obtain⟨op6,ar6,ng6,nn6,dd6,nm6,ss6,rfl,hE6⟩:=hr)|(refine CN.f rfl (q1z _ _ _ _ _ _ _ _ _ _ _ _ (x1.mono Ad)) (fun v h' hl2 hr=>?_);subst hr)|(refine CN.f rfl (q2o _ _ _ _ _ _ _ _ _ _ _ _ (x2.mono Ab)) (fun v h' hl2 hr=>?_);subst hr)|(refine CN.f rfl (w0 _) (fun v h' hl2 hr=>?_);obtain⟨op7,ar7,ng7,nn7,dd7,nm7,ss7,rfl,hE7⟩:=hr))|((first|apply oI.z|apply cI.z))|(show Ld _ _ _ _;first|refine Ld.o 0 rfl rfl ?_|refine Ld.o 3 rfl rfl ?_)|refine Sto.l 2 rfl rfl rfl ?_)<;>conv=>whnf)|(show cnd _ _ _;first|((first|apply aD|apply aU)<;>intro _<;>first|(exfalso;omega)|conv=>whnf))
    all_goals first
     | (rw[b5.out Aa];exact RN.a ⟨op6,ar6,ng6,nn6,dd6,nm6,ss6,rfl,hE6⟩)
     | (rw[b6.out Aa];exact RN.a ⟨op6,ar6,ng6,nn6,dd6,nm6,ss6,rfl,hE6⟩)
     | (rw[b7.out Aa];exact RN.a ⟨op6,ar6,ng6,nn6,dd6,nm6,ss6,rfl,hE6⟩)
     | (rw[b81.out Aa Ab];exact RN.a ⟨op7,ar7,ng7,nn7,dd7,nm7,ss7,rfl,hE7⟩)
     | (rw[b82.out Aa Ab Ab];exact RN.a ⟨op1,ar1,ng1,nn1,dd1,nm1,ss1,rfl,Al⟩)
     | (rw[b83.out Aa Ab Ab];exact RN.a ⟨_,arg,neg,a,b,name,s,rfl,Al⟩)
  | true=>
   cases bb2 with
   | true=>exact absurd ⟨rfl,rfl⟩ hb2
   | false=>
    clear hb2;rcases eLL with rfl|rfl
    .conv=>whnf
     repeat' first|((first|(apply bJ.go)|(show LdN _ _ _ _ _;first|refine LdN.oA 0 rfl rfl ?_|refine LdN.oA 1 rfl rfl ?_|refine LdN.oA 2 rfl rfl ?_|refine LdN.oA 3 rfl rfl ?_)|(show CN _ _ _ _ _ _;first|(refine CN.f rfl (added_ct _ t u hok1 hok2 _ Ab _ _ _ _ _ _ _ _ _ _ _ _ _ _ _ _ _ _ _ _ _ _ _ _ _ _ _ _ _ (w.mono Ad) (hE1.mono Ad) (hE2.mono Ad) (x1.mono Ad) (x2.mono Ad)) (fun v h' hl2 hr=>?_);obtain⟨op6,ar6,ng6,nn6,dd6,nm6,ss6,rfl,hE6⟩:=hr)|(refine CN.f rfl (subtracted_ct _ t u hok1 hok2 _ Ab _ _ _ _ _ _ _ _ _ _ _ _ _ _ _ _ _ _ _ _ _ _ _ _ _ _ _ _ _ (w.mono Ad) (hE1.mono Ad) (hE2.mono Ad) (x1.mono Ad) (x2.mono Ad)) (fun v h' hl2 hr=>?_);obtain⟨op6,ar6,ng6,nn6,dd6,nm6,ss6,rfl,hE6⟩:=hr)|(refine CN.f rfl (multiplied_ct _ t u hok1 hok2 _ Ab _ _ _ _ _ _ _ _ _ _ _ _ _ _ _ _ _ _ _ _ _ _ _ _ _ _ _ _ _ (w.mono Ad) (hE1.mono Ad) (hE2.mono Ad) (x1.mono Ad) (x2.mono Ad)) (fun v h' hl2 hr=>?_);obtain⟨op6,ar6,ng6,nn6,dd6,nm6,ss6,rfl,hE6⟩:=hr)|(refine CN.f rfl (q1z _ _ _ _ _ _ _ _ _ _ _ _ (x1.mono Ad)) (fun v h' hl2 hr=>?_);subst hr)|(refine CN.f rfl (q2o _ _ _ _ _ _ _ _ _ _ _ _ (x2.mono Ab)) (fun v h' hl2 hr=>?_);subst hr)|(refine CN.f rfl (w0 _) (fun v h' hl2 hr=>?_);obtain⟨op7,ar7,ng7,nn7,dd7,nm7,ss7,rfl,hE7⟩:=hr))|((first|apply oI.z|apply cI.z))|(show Ld _ _ _ _;first|refine Ld.o 0 rfl rfl ?_|refine Ld.o 1 rfl rfl ?_|refine Ld.o 3 rfl rfl ?_)|refine Sto.l 2 rfl rfl rfl ?_)<;>conv=>whnf)|(show cnd _ _ _;first|((first|apply aD|apply aU)<;>intro _<;>first|(exfalso;omega)|conv=>whnf))
     all_goals first
      | (rw[b5.out Aa];exact RN.a ⟨op6,ar6,ng6,nn6,dd6,nm6,ss6,rfl,hE6⟩)
      | (rw[b6.out Aa];exact RN.a ⟨op6,ar6,ng6,nn6,dd6,nm6,ss6,rfl,hE6⟩)
      | (rw[b7.out Aa];exact RN.a ⟨op6,ar6,ng6,nn6,dd6,nm6,ss6,rfl,hE6⟩)
      | (rw[b81.out Aa Ab];exact RN.a ⟨op7,ar7,ng7,nn7,dd7,nm7,ss7,rfl,hE7⟩)
      | (rw[b82.out Aa Ab Ab];exact RN.a ⟨op1,ar1,ng1,nn1,dd1,nm1,ss1,rfl,Al⟩)
      | (rw[b83.out Aa Ab Ab];exact RN.a ⟨_,arg,neg,a,b,name,s,rfl,Al⟩)
    .conv=>whnf
     repeat' first|((first|(apply bJ.go)|(show LdN _ _ _ _ _;first|refine LdN.oA 0 rfl rfl ?_|refine LdN.oA 1 rfl rfl ?_|refine LdN.oA 2 rfl rfl ?_|refine LdN.oA 3 rfl rfl ?_)|(show CN _ _ _ _ _ _;first|(refine CN.f rfl (added_ct _ t u hok1 hok2 _ Ab _ _ _ _ _ _ _ _ _ _ _ _ _ _ _ _ _ _ _ _ _ _ _ _ _ _ _ _ _ (w.mono Ad) (hE1.mono Ad) (hE2.mono Ad) (x1.mono Ad) (x2.mono Ad)) (fun v h' hl2 hr=>?_);obtain⟨op6,ar6,ng6,nn6,dd6,nm6,ss6,rfl,hE6⟩:=hr)|(refine CN.f rfl (subtracted_ct _ t u hok1 hok2 _ Ab _ _ _ _ _ _ _ _ _ _ _ _ _ _ _ _ _ _ _ _ _ _ _ _ _ _ _ _ _ (w.mono Ad) (hE1.mono Ad) (hE2.mono Ad) (x1.mono Ad) (x2.mono Ad)) (fun v h' hl2 hr=>?_);obtain⟨op6,ar6,ng6,nn6,dd6,nm6,ss6,rfl,hE6⟩:=hr)|(refine CN.f rfl (multiplied_ct _ t u hok1 hok2 _ Ab _ _ _ _ _ _ _ _ _ _ _ _ _ _ _ _ _ _ _ _ _ _ _ _ _ _ _ _ _ (w.mono Ad) (hE1.mono Ad) (hE2.mono Ad) (x1.mono Ad) (x2.mono Ad)) (fun v h' hl2 hr=>?_);obtain⟨op6,ar6,ng6,nn6,dd6,nm6,ss6,rfl,hE6⟩:=hr)|(refine CN.f rfl (q1z _ _ _ _ _ _ _ _ _ _ _ _ (x1.mono Ad)) (fun v h' hl2 hr=>?_);subst hr)|(refine CN.f rfl (q2o _ _ _ _ _ _ _ _ _ _ _ _ (x2.mono Ab)) (fun v h' hl2 hr=>?_);subst hr)|(refine CN.f rfl (w0 _) (fun v h' hl2 hr=>?_);obtain⟨op7,ar7,ng7,nn7,dd7,nm7,ss7,rfl,hE7⟩:=hr))|((first|apply oI.z|apply cI.z))|(show Ld _ _ _ _;first|refine Ld.o 0 rfl rfl ?_|refine Ld.o 1 rfl rfl ?_|refine Ld.o 3 rfl rfl ?_)|refine Sto.l 2 rfl rfl rfl ?_)<;>conv=>whnf)|(show cnd _ _ _;first|((first|apply aD|apply aU)<;>intro _<;>first|(exfalso;omega)|conv=>whnf))
     all_goals first
      | (rw[b5.out Aa];exact RN.a ⟨op6,ar6,ng6,nn6,dd6,nm6,ss6,rfl,hE6⟩)
      | (rw[b6.out Aa];exact RN.a ⟨op6,ar6,ng6,nn6,dd6,nm6,ss6,rfl,hE6⟩)
      | (rw[b7.out Aa];exact RN.a ⟨op6,ar6,ng6,nn6,dd6,nm6,ss6,rfl,hE6⟩)
      | (rw[b81.out Aa Ab];exact RN.a ⟨op7,ar7,ng7,nn7,dd7,nm7,ss7,rfl,hE7⟩)
      | (rw[b82.out Aa Ab Ab];exact RN.a ⟨op1,ar1,ng1,nn1,dd1,nm1,ss1,rfl,Al⟩)
      | (rw[b83.out Aa Ab Ab];exact RN.a ⟨_,arg,neg,a,b,name,s,rfl,Al⟩)
theorem nodeS_else{op arg:Int}{e:Tr}{ks:List Tr}(h4:op≠4)(h9:op≠9)(h5:¬(op=5\/op=6\/op=7\/op=8)):bGc op arg e ks=e:=by
 unfold bGc
 split
 .rw[if_neg h4,if_neg h9]
 .rw[if_neg h5]
 .rfl
theorem simplified_ct:∀t:Tr,∀(h:aA) (vs:List Value),Tb h->IsE h vs t->okG t->Fn0 T F.q65 [.agg vs.toArray] h fun v h'=>VE h' v (bDq t):=by
 refine eE fun t ih=>?_
 intro h vs tb w hok;obtain⟨op,arg,neg,l,m,name,ks⟩:=t;obtain⟨a,b,s,rfl,ho,ha,hv,hb,hk⟩:=w.isK;rw[okG] at hok;obtain⟨hnb,hoks⟩:=hok;have hks:ks.length<=3:=by
  have h1:=hnb.1;have h2:=fS op;omega
 have hkl:=hk.len;refine f0C ok D.q65 rfl ?_;conv=>whnf
 repeat' ((first|((first|apply oI.z|apply cI.z))|intro (_:Nat)|refine Ld.o 1 rfl rfl ?_)<;>conv=>whnf)
 rename_i be bz;refine LpN.of (fun r ρ hx L=>∃(j:Nat) (V:Value) (F1:Vc.Own) (xs:List Value),r=ks.length-j/\h.le hx/\j<=ks.length/\rd ρ 9=.int .i64 j/\rd ρ 3=V/\
   L=F1++((bz,.cells [.int .i64 0,.int .i64 0,.bool false,.slice none 0 0,.slice none 0 0,.string (txt []),.slice none 0 0].toArray Ty.api_Expr (0,0))::(be,.cells [.int .i64 op,.int .i64 arg,.bool neg,a.val,b.val,.string (txt name),s.val].toArray Ty.api_Expr (0,0))::[])/\
   aF Ty.api_Expr 7 V j xs F1/\KC hx xs (aV8 (ks.take j))) ks.length
  ⟨0,_,[],[],rfl,aA.lr _,bJe _,rfl,rfl,rfl,aF.nil _ _ _,by rw[bKq,aV8];rfl⟩ ?_
 conv=>whnf
 repeat intro _
 rename_i r hx L2 hI;obtain⟨j,V,F1,xs,rfl,hle,hj,e9,e3,rfl,gF,hK⟩:=hI;conv at e9=>lhs;whnf
 subst e9;conv at e3=>lhs;whnf
 subst e3;by_cases hjl:j=ks.length
 .subst hjl;rw[bI4] at hK;obtain⟨sv,rfl⟩:=gF.sl;by_cases h4:op=4
  .subst h4;obtain⟨k,rfl⟩:∃k,ks=[k]:=by
    have e:ks.length=1:=by have x:=hnb.1;rw[show bM 4=1 from by decide] at x;omega
    match ks,e with
    | [k],_=>exact⟨k,rfl⟩
   have hkk:okG k:=by rw[aJl] at hoks;exact hoks.1
   have fk:=simT_G hkk;have hR:bDq (.mk 4 arg neg l m name [k])=bDp (.mk 4 arg neg l m name [bDq k]) (bDq k):=by rw[bDq,aV8,aV8];rfl
   rw[hR];rw[aV8,aV8] at hK;have hsl:1=[bDq k].length:=rfl;have cc:=fun h vs tb w=>negated_ct (bDq k) fk arg neg l m name h vs tb w
   conv=>whnf
   repeat' first|((first|(apply bJ.go)|(show Sto _ _ _ _;first|refine Sto.tl (A:=F1) (X:=[_]) rfl rfl ?_|refine Sto.tl (A:=[]) (X:=X2) rfl rfl ?_)|(show LdN _ _ _ _ _;first|refine LdN.tl (A:=F1) (F:=[_]) rfl ?_|refine LdN.tl (A:=[]) (F:=X2) rfl ?_)|(show Ld _ _ _ _;refine Ld.tl (A:=F1) (F:=[_]) rfl ?_)|(show CN _ _ _ _ _ _;(refine CN.rowX (X:=F1) gF hK hsl rfl (fun h2 X2 s2 hl2 hs hk2=>?_);obtain rfl:=Sl.val_inj hs;have tb2:=tb.mono (aA.lt hle hl2);refine CN.f rfl (cc _ _ tb2 (IsE.mkK ho ha (hv.mono (aA.lt hle hl2)) hb hk2)) (fun v h3 hl3 hr=>?_);obtain⟨op6,ar6,ng6,nn6,dd6,nm6,ss6,rfl,hE6⟩:=hr))|((first|apply oI.z|apply cI.z)))<;>conv=>whnf)|(show cnd _ _ _;first|((first|apply aB|apply aD)<;>intro _<;>first|(exfalso;omega)|conv=>whnf))
   all_goals exact RN.a ⟨op6,ar6,ng6,nn6,dd6,nm6,ss6,rfl,hE6⟩
  .by_cases h9:op=9
   .subst h9;obtain⟨k,rfl⟩:∃k,ks=[k]:=by
     have e:ks.length=1:=by have x:=hnb.1;rw[show bM 9=1 from by decide] at x;omega
     match ks,e with
     | [k],_=>exact⟨k,rfl⟩
    have hkk:okG k:=by rw[aJl] at hoks;exact hoks.1
    have fk:=simT_G hkk;have hR:bDq (.mk 9 arg neg l m name [k])=bHx (.mk 9 arg neg l m name [bDq k]) arg (bDq k):=by rw[bDq,aV8,aV8];rfl
    rw[hR];rw[aV8,aV8] at hK;have hsl:1=[bDq k].length:=rfl;have cc:=fun h vs tb w=>raised_ct (bDq k) fk arg hnb.2.1 hnb.2.2.1 neg l m name h vs tb w
    conv=>whnf
    repeat' first|((first|(apply bJ.go)|(show Sto _ _ _ _;first|refine Sto.tl (A:=F1) (X:=[_]) rfl rfl ?_|refine Sto.tl (A:=[]) (X:=X2) rfl rfl ?_)|(show LdN _ _ _ _ _;first|refine LdN.tl (A:=F1) (F:=[_]) rfl ?_|refine LdN.tl (A:=[]) (F:=X2) rfl ?_)|(show Ld _ _ _ _;refine Ld.tl (A:=F1) (F:=[_]) rfl ?_)|(show CN _ _ _ _ _ _;(refine CN.rowX (X:=F1) gF hK hsl rfl (fun h2 X2 s2 hl2 hs hk2=>?_);obtain rfl:=Sl.val_inj hs;have tb2:=tb.mono (aA.lt hle hl2);refine CN.f rfl (cc _ _ tb2 (IsE.mkK ho ha (hv.mono (aA.lt hle hl2)) hb hk2)) (fun v h3 hl3 hr=>?_);obtain⟨op6,ar6,ng6,nn6,dd6,nm6,ss6,rfl,hE6⟩:=hr))|((first|apply oI.z|apply cI.z)))<;>conv=>whnf)|(show cnd _ _ _;first|((first|apply aB|apply aD)<;>intro _<;>first|(exfalso;omega)|conv=>whnf))
    all_goals exact RN.a ⟨op6,ar6,ng6,nn6,dd6,nm6,ss6,rfl,hE6⟩
   .by_cases h5:op=5\/op=6\/op=7\/op=8
    .obtain⟨k,k',rfl⟩:∃k k',ks=[k,k']:=by
      have e:ks.length=2:=by
       rcases h5 with rfl|rfl|rfl|rfl
       .have x:=hnb.1;rw[show bM 5=2 from by decide] at x;omega
       .have x:=hnb.1;rw[show bM 6=2 from by decide] at x;omega
       .have x:=hnb.1;rw[show bM 7=2 from by decide] at x;omega
       .have x:=hnb.1;rw[show bM 8=2 from by decide] at x;omega
      match ks,e with
      | [k,k'],_=>exact⟨k,k',rfl⟩
     have hkk:okG k/\okG k':=by rw[aJl,aJl] at hoks;exact⟨hoks.1,hoks.2.1⟩
     have fk:=simT_G hkk.1;have fk':=simT_G hkk.2;have hR:bDq (.mk op arg neg l m name [k,k'])=bHv (.mk op arg neg l m name [bDq k,bDq k']) op (bDq k) (bDq k'):=by rw[bDq,aV8,aV8,aV8];exact if_pos h5
     rw[hR];rw[aV8,aV8,aV8] at hK;have hsl:2=[bDq k,bDq k'].length:=rfl;have cc:=fun h vs tb w=>combined_ct (bDq k) (bDq k') op arg h5 neg l m name fk fk' h vs tb w
     obtain⟨R,hRR⟩:=AH (bHv (.mk op arg neg l m name [bDq k,bDq k']) op (bDq k) (bDq k'));rw[<-hRR];simp only[<-hRR] at cc;clear hR hRR;conv=>whnf
     repeat' first|((first|(apply bJ.go)|(show Sto _ _ _ _;first|refine Sto.tl (A:=F1) (X:=[_]) rfl rfl ?_|refine Sto.tl (A:=[]) (X:=X2) rfl rfl ?_)|(show LdN _ _ _ _ _;first|refine LdN.tl (A:=F1) (F:=[_]) rfl ?_|refine LdN.tl (A:=[]) (F:=X2) rfl ?_)|(show Ld _ _ _ _;refine Ld.tl (A:=F1) (F:=[_]) rfl ?_)|(show CN _ _ _ _ _ _;(refine CN.rowX (X:=F1) gF hK hsl rfl (fun h2 X2 s2 hl2 hs hk2=>?_);obtain rfl:=Sl.val_inj hs;have tb2:=tb.mono (aA.lt hle hl2);refine CN.f rfl (cc _ _ tb2 (IsE.mkK ho ha (hv.mono (aA.lt hle hl2)) hb hk2)) (fun v h3 hl3 hr=>?_);obtain⟨op6,ar6,ng6,nn6,dd6,nm6,ss6,rfl,hE6⟩:=hr))|((first|apply oI.z|apply cI.z)))<;>conv=>whnf)|(show cnd _ _ _;first|((first|apply aB|apply aD)<;>intro _<;>first|(exfalso;omega)|conv=>whnf))
     all_goals exact RN.a ⟨op6,ar6,ng6,nn6,dd6,nm6,ss6,rfl,hE6⟩
    .have hR:bDq (.mk op arg neg l m name ks)=.mk op arg neg l m name (aV8 ks):=by rw[bDq];exact nodeS_else h4 h9 h5
     conv=>whnf
     repeat' first|((first|(apply bJ.go)|(show Sto _ _ _ _;first|refine Sto.tl (A:=F1) (X:=[_]) rfl rfl ?_|refine Sto.tl (A:=[]) (X:=F1) rfl rfl ?_)|(show LdN _ _ _ _ _;first|refine LdN.tl (A:=F1) (F:=[_]) rfl ?_|refine LdN.tl (A:=[]) (F:=F1) rfl ?_)|(show Ld _ _ _ _;refine Ld.tl (A:=F1) (F:=[_]) rfl ?_)|((first|apply oI.z|apply cI.z)))<;>conv=>whnf)|(show cnd _ _ _;first|((first|apply aB|apply aD)<;>intro _<;>first|(exfalso;omega)|conv=>whnf))
     refine RN.rowA (X:=F1) gF hK (simTs_len ks).symm fun h' s' hl hs hk'=>?_
     rw[hR,hs];exact⟨op,arg,neg,a,b,name,s',rfl,IsE.mkK ho ha (hv.mono (aA.lt hle hl)) hb hk'⟩
 .obtain⟨t,ht⟩:∃t,ks[j]?=some t:=⟨_,bIq Aa⟩
  have c2:=fun h vs tb w=>ih t (bD ht) h vs tb w (okGs_mem hoks (bIu ht))
  have hkx:=hk.mono hle;replace tb:=tb.mono hle;conv=>whnf
  repeat' ((first|(show Idx _ _ _ _ _;refine Idx.kid hkx j t Aa ht (fun ad op arg neg a b name s' hE hld=>?_))|refine hld _ _ _ (aA.lr _) ?_|((first|apply oI.z|apply cI.z))|intro (_:Nat)|(show CN _ _ _ _ _ _;(refine CN.f rfl (c2 _ _ Ab Ab) (fun v h' hl2 hr=>?_);obtain⟨op2,ar2,ng2,nn2,dd2,nm2,ss2,rfl,hE2⟩:=hr;have hK2:=hK.mono hl2))|(show App _ _ _ _ _ _ _ _ _;refine App.growK (A:=[_,_]) (F:=F1) (size:=7) (bytes:=112) (z:=[.int .i64 0,.int .i64 0,.bool false,.slice none 0 0,.slice none 0 0,.string (txt []),.slice none 0 0]) rfl rfl gF ⟨_,0,none⟩ 1 1 [_,_,_,_,_,_,_] rfl (Has.front _) rfl Ae Aa Aa Ae (fun v' F' g'=>?_))|refine WN.i64 Aa Aa ?_|refine LdN.o 0 rfl rfl ?_|refine Sto.l 0 rfl rfl rfl ?_|(apply aB<;>intro _<;>try (exfalso;omega)))<;>conv=>whnf)
  exact⟨rfl,ks.length-(j+1),Aa,j+1,_,_::_::F',_,rfl,Ac,Aa,vi Aa,rfl,rfl,(g'.cons _).cons _,by rw[aY ht,simTs_append,aV8,aV8];exact KC.snoc rfl hE2 hK2⟩
def simX(t:Tr):Tr × Nat:=if bB t then (lC (bDq t),0) else (bI,40)
end Go.Proofs.Y