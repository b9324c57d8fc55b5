/- Valid trees: the program's count of nodes. -/
import Derived.Test.YtiohcpiloenmoaaGreatDoorE16
set_option linter.all false
set_option maxHeartbeats 2000000
set_option maxRecDepth 20000
namespace Go.Proofs.Y
open Go Go.Vc Go.Dig
theorem LdN.oA{h:aA}{L:Own}{b o m:Nat}{k:Value->Prop}{l:List Value}{T:TypeId}{fz:Nat × Nat}(n:Nat)(hb:L[n]?=some (b,.cells l.toArray T fz))(hl:Nat.ble (o+m) l.length=true)(hk:k (.agg ((l.drop o).take m).toArray)):LdN h L ⟨b,o,none⟩ m k:=
 have hle:=bCs hl
 ⟨(l.drop o).take m,by rw[aZn,aZz];omega,fun i hi=>by
   rw[aZ];refine Has.own n hb ?_;rw[aZx,aY3,bA5,if_pos hi,bBt,aY4 Aa]
   rfl,hk⟩
theorem vL(q:Rat):le 0 (bY q)=dec (0<=q):=by
 unfold le;rw[iX,rX];refine decide_eq_decide.2 ?_;rw[<-Rat.num_nonneg];rcases bB5 q.num 0 with h|h|h
 .rw[bA7 h];omega
 .rw[h];simp
 .rw[bBg h];omega
theorem aSa(h:aA)(op:Int):Fn0 T F.q165 [.int .i64 op] h fun v h'=>h'=h/\∃(n:Nat) (b:Bool),v=.tuple #[.int .i64 n,.bool b]/\(b=true->(n:Int)=aV op)/\(b=false->aV op=-1):=by
 have k0:op=1\/op=2\/op=3->aV op=0:=fun x=>if_pos x
 have k1:op=4\/op=9\/op=10\/op=11\/op=12->aV op=1:=fun x=>by unfold aV;rw[if_neg Aa,if_pos x]
 have k2:op=5\/op=6\/op=7\/op=8\/op=13\/op=14->aV op=2:=fun x=>by unfold aV;rw[if_neg Aa,if_neg Aa,if_pos x]
 have k3:op=15->aV op=3:=fun x=>by unfold aV;rw[if_neg Aa,if_neg Aa,if_neg Aa,if_pos x]
 have k4:¬(op=1\/op=2\/op=3)->¬(op=4\/op=9\/op=10\/op=11\/op=12)->¬(op=5\/op=6\/op=7\/op=8\/op=13\/op=14)->op≠15->aV op=-1:=fun a b c d=>by unfold aV;rw[if_neg a,if_neg b,if_neg c,if_neg d]
 obtain⟨K,hK⟩:=AE (aV op);rw[<-hK] at k0 k1 k2 k3 k4 ⊢;replace k0:=Hq.mk k0;replace k1:=Hq.mk k1;replace k2:=Hq.mk k2;replace k3:=Hq.mk k3;replace k4:=Hq.mk k4;refine f0C ok D.q165 rfl ?_;conv=>whnf
 repeat' ((first|(apply aO.go)|((first|apply oI.z|apply cI.z))|(apply aD<;>intro _<;>try (exfalso;omega)))<;>conv=>whnf)
 all_goals first
  | exact RN.a ⟨rfl,0,true,rfl,fun _=>by rw[k0.out Aa];rfl,fun x=>by cases x⟩
  | exact RN.a ⟨rfl,1,true,rfl,fun _=>by rw[k1.out Aa];rfl,fun x=>by cases x⟩
  | exact RN.a ⟨rfl,2,true,rfl,fun _=>by rw[k2.out Aa];rfl,fun x=>by cases x⟩
  | exact RN.a ⟨rfl,3,true,rfl,fun _=>by rw[k3.out Aa];rfl,fun x=>by cases x⟩
  | exact RN.a ⟨rfl,0,false,rfl,(fun x=>by cases x),fun _=>k4.out Aa Aa Aa Aa⟩
theorem aKb(h:aA)(tb:Tb h)(op arg:Int)(neg:Bool)(a b:Sl)(l m name:List Nat)(s:Sl)(n:Nat)(hv:aY h a b l m)(hb:∀y∈name,y<256)(hs:s.l=n):
  Fn0 T F.q98 [.agg #[.int .i64 op,.int .i64 arg,.bool neg,a.val,b.val,.string (txt name),s.val]] h fun v h'=>v=.bool (dec (dW op arg neg l m name n)):=by
 have hl':=hv.ln;have hs':=hv.sn;obtain⟨DD,hD⟩:=AE (dec (dW op arg neg l m name n));obtain⟨KN,hK⟩:=AE (aV op);obtain⟨LO,hL⟩:=AE (jO op);obtain⟨HI,hH⟩:=AE (fJ op);have l9:op=9->LO=-32/\HI=32:=fun x=>by rw[hL,hH,x];exact⟨rfl,rfl⟩
 have l10:op=10->LO=2/\HI=8:=fun x=>by rw[hL,hH,x];exact⟨rfl,rfl⟩
 have l11:op=11->LO=1/\HI=8:=fun x=>by rw[hL,hH,x];exact⟨rfl,rfl⟩
 have l0:op≠9->op≠10->op≠11->LO=0/\HI=0:=fun x y z=>by rw[hL,hH,jO,fJ,if_neg x,if_neg y,if_neg z,if_neg x,if_neg y,if_neg z];exact⟨rfl,rfl⟩
 have n1:(n:Int)≠KN->DD=false:=fun x=>by rw[hD];exact aG fun y=>x (by rw[hK];exact y.1)
 have n2:arg<LO->DD=false:=fun x=>by rw[hD];exact aG fun y=>absurd y.2.1 Aa
 have n3:HI<arg->DD=false:=fun x=>by rw[hD];exact aG fun y=>absurd y.2.2.1 Aa
 have n4:op=2->¬dH name->DD=false:=fun x z=>by rw[hD];exact aG fun y=>z (by have:=y.2.2.2.1;rw[if_pos x] at this;exact this)
 have n5:op≠2->name≠[]->DD=false:=fun x z=>by rw[hD];exact aG fun y=>z (by have:=y.2.2.2.1;rw[if_neg x] at this;exact this)
 have p1:(n:Int)=KN->LO<=arg->arg<=HI->(op=2->dH name)->(op≠2->name=[])->op=1->DD=dec (aGi neg l m):=fun x y z u v o=>by
  rw[hD];refine cA ⟨fun q=>?_,fun q=>⟨Aa,Aa,Aa,?_,?_⟩⟩
  .have:=q.2.2.2.2;rw[if_pos o] at this;exact this
  .by_cases t:op=2
   .rw[if_pos t];exact u t
   .rw[if_neg t];exact v t
  .rw[if_pos o];exact q
 have p2:(n:Int)=KN->LO<=arg->arg<=HI->(op=2->dH name)->(op≠2->name=[])->op≠1->DD=dec (evl 4294967296 l=0):=fun x y z u v o=>by
  rw[hD];refine cA ⟨fun q=>?_,fun q=>⟨Aa,Aa,Aa,?_,?_⟩⟩
  .have:=q.2.2.2.2;rw[if_neg o] at this;exact this
  .by_cases t:op=2
   .rw[if_pos t];exact u t
   .rw[if_neg t];exact v t
  .rw[if_neg o];exact q
 have r1:okR neg l m->dec (aGi neg l m)=dec (0<=aK neg l m):=fun x=>cA ⟨fun y=>y.2,fun y=>⟨x,y⟩⟩
 have r2:¬okR neg l m->dec (aGi neg l m)=false:=fun x=>aG fun y=>x y.1
 have c0:=fun h=>aSa h op
 rw[<-hK] at c0;rw[<-hD];clear hD hK hL hH;replace n1:=Hq.mk n1;replace n4:=Hq.mk n4;replace n5:=Hq.mk n5;replace p1:=Hq.mk p1;replace p2:=Hq.mk p2;replace r1:=Hq.mk r1;replace r2:=Hq.mk r2;have c1:=fun h=>iN h name hb
 have c2:=fun h hv=>lY h a l hv hl' Aa
 obtain⟨x,hx⟩:=AE (evl 4294967296 l);have hxl:ln 4294967296 x<=1073741824:=by rw[hx];exact aZr ((aQ Ag).2 (iM tlB hl')) hs'
 rw[<-hx] at p2;have lsg:=vL (aK neg l m);have hsz:=fun (y:okR neg l m)=>(okR.sz y).mono (show 64<=1099511627776 by omega)
 obtain⟨q,hq⟩:=AE (aK neg l m);have c3:=fun h tb hv=>fE h tb neg a b l m hv
 rw[<-hq] at r1 lsg hsz c3;have hvn:=hv.num;refine f0C ok D.q98 rfl ?_;conv=>whnf
 repeat' first|((first|(apply aO.go)|(show CN _ _ _ _ _ _;first|(refine CN.f rfl (c0 _) (fun v h' hl2 hr=>?_);obtain⟨rfl,kn,kb,rfl,hk1,hk2⟩:=hr;clear hl2)|(refine CN.f rfl (c1 _) (fun v h' hl2 hr=>?_);subst hr)|(refine CN.f rfl (lY _ _ l Ai hl' Aa) (fun v h' hl hr=>?_);rw[<-hx] at hr;obtain⟨s',rfl,hs'⟩:=hr)|refine CN.quiet rfl (iI _ _ _ Ab Aa) ?_|(refine CN.f rfl (c3 _ Ab Ab) (fun v h' hl hr=>?_);obtain⟨sx,cx,dx,rfl,hfx⟩:=hr)|(obtain⟨e1,hfr⟩:=hfx Ab;subst e1;refine CN.quiet rfl (qG _ _ _ q hfr (hsz Ab)) ?_))|(show LdN _ _ _ _ _;(first|refine LdN.o 0 rfl rfl ?_|refine LdN.oA 0 rfl rfl ?_))|((first|apply oI.z|apply cI.z))|intro (_:Nat)|refine Ld.o 0 rfl rfl ?_|refine Sto.l 0 rfl rfl rfl ?_)<;>conv=>whnf)|(show cnd _ _ _;first|(refine iK name rfl rfl (fun _=>?_) (fun _=>?_)<;>(conv=>whnf))|((first|apply aB|apply aD)<;>intro _<;>first|(exfalso;omega)|conv=>whnf)|(refine aI ?_)|(apply aN<;>intro _<;>first|(exfalso;omega)|conv=>whnf)|(refine bQ (fun hb=>?_) (fun hb=>?_)<;>(first|cases hb|subst hb)<;>(conv=>whnf)))
 all_goals first
  | (rw[n1.out (by first|(rw[hk2 rfl];omega)|(rw[<-hk1 rfl];omega))];exact RN.a rfl)
  | (rw[n2 Aa];exact RN.a rfl)
  | (rw[n3 Aa];exact RN.a rfl)
  | (rw[n4.out Aa Ab];exact RN.a rfl)
  | (rw[n5.out Aa Ab];exact RN.a rfl)
  | (rw[p2.out (by have:=hk1 rfl;omega) Aa Aa (fun e=>by first|assumption|(exfalso;omega)) (fun e=>by first|assumption|(exfalso;omega)) Aa];exact RN.a rfl)
  | (rw[p1.out (by have:=hk1 rfl;omega) Aa Aa (fun e=>by first|assumption|(exfalso;omega)) (fun e=>by first|assumption|(exfalso;omega)) Aa,r2.out Ab];exact RN.a rfl)
  | (rw[p1.out (by have:=hk1 rfl;omega) Aa Aa (fun e=>by first|assumption|(exfalso;omega)) (fun e=>by first|assumption|(exfalso;omega)) Aa,r1.out Ab,<-lsg];exact RN.a rfl)
theorem cR(op:Int):aV op<=3:=by
 unfold aV
 repeat' split
 all_goals omega
def nB(d n:Nat)(t:Tr):Nat:=if okT d t/\n+szT t<=300 then n+szT t else 301
theorem aN0(d n:Nat)(t:Tr):nB d n t>300->nB d n t=301:=by
 unfold nB
 split
 .omega
 .exact fun _=>rfl
theorem dX{P:Tr->Prop}(h:∀t,(∀u,szT u<szT t->P u)->P t):∀t,P t:=fun t=>by
 have:∀n t,szT t=n->P t:=fun n=>by
  induction n using Nat.strongRecOn with
  | ind n ih=>exact fun t e=>h t fun u hu=>ih (szT u) Aa u rfl
 exact this _ t rfl
theorem bM{op arg:Int}{neg:Bool}{l m name:List Nat}{ks:List Tr}{t:Tr}{j:Nat}(h:ks[j]?=some t):szT t<szT (.mk op arg neg l m name ks):=by
 have:=nA (aY8 h);rw[szT];omega
theorem aN1:∀t:Tr,∀(h:aA) (vs:List Value) (d n:Nat),Tb h->IsE h vs t->n<=300->d<=1000->Fn0 T F.q49 [.agg vs.toArray,.int .i64 d,.int .i64 n] h fun v h'=>v=.int .i64 (nB d n t:Nat):=by
 refine dX fun t ih=>?_
 intro h vs d n tb w hn hd;obtain⟨op,arg,neg,l,m,name,ks⟩:=t;obtain⟨a,b,s,rfl,ho,ha,hv,hb,hk⟩:=w.isK;obtain⟨NB,hNB⟩:=AE (dW op arg neg l m name ks.length);have c1:=fun h tb hv=>aKb h tb op arg neg a b l m name s ks.length hv hb hk.len
 have f1:n+1>300->nB d n (.mk op arg neg l m name ks)=301:=fun x=>if_neg fun y=>by
  have:=y.2;rw[szT] at this;omega
 have f2:d>30->nB d n (.mk op arg neg l m name ks)=301:=fun x=>if_neg fun y=>by
  have:=y.1;rw[okT] at this;omega
 have f3:¬dW op arg neg l m name ks.length->nB d n (.mk op arg neg l m name ks)=301:=fun x=>if_neg fun y=>by
  have:=y.1;rw[okT] at this;exact x this.2.1
 have f4:∀j t,ks[j]?=some t->nB (d+1) (n+1+dA (ks.take j)) t>300->nB d n (.mk op arg neg l m name ks)=301:=fun j t ht x=>if_neg fun y=>by
  obtain⟨y1,y2⟩:=y;rw[okT] at y1;rw[szT] at y2;have e:=kU ht;rw[e,iP,dA] at y2;have z:=y1.2.2;rw[e,kE,bZ] at z;unfold nB at x;rw[if_pos ⟨z.2.1,Aa⟩] at x;omega
 have f5:d<=30->dW op arg neg l m name ks.length->bZ (d+1) ks->n+1+dA ks<=300->nB d n (.mk op arg neg l m name ks)=n+1+dA ks:=fun x y z u=>by
  unfold nB;rw[if_pos (show okT d (.mk op arg neg l m name ks)/\n+szT (.mk op arg neg l m name ks)<=300 from ⟨by rw[okT];exact⟨x,y,z⟩,by rw[szT];omega⟩),szT];omega
 obtain⟨R,hR⟩:=AE (nB d n (.mk op arg neg l m name ks));rw[<-hR] at f1 f2 f3 f4 f5 ⊢;have hkl:=hk.len;refine f0C ok D.q49 rfl ?_;conv=>whnf
 repeat' first|((first|(show CN _ _ _ _ _ _;(refine CN.f rfl (c1 _ Ab Ab) (fun v h' hl2 hr=>?_);subst hr))|((first|apply oI.z|apply cI.z))|intro (_:Nat)|refine WN.i64 Aa Aa ?_|refine LdN.o 0 rfl rfl ?_|refine Ld.o 0 rfl rfl ?_)<;>conv=>whnf)|(show cnd _ _ _;first|(apply aB<;>intro _<;>first|(exfalso;omega)|conv=>whnf)|(refine aI ?_)|(apply aN<;>intro _<;>first|(exfalso;omega)|conv=>whnf))
 .rw[f1 Aa];exact RN.a rfl
 .rw[f2 Aa];exact RN.a rfl
 .have hd30:d<=30:=Aa;have hNBt:dW op arg neg l m name ks.length:=Ab;replace f5:=f5 hd30 hNBt;have hks:ks.length<=3:=by
   have h1:=hNBt.1;have h2:=cR op;omega
  clear f1 f2 f3;have hle0:h.le h':=Ab;refine LpN.of (fun r ρ hx L=>∃(j c:Nat),r=ks.length-j/\h.le hx/\j<=ks.length/\rd ρ 25=.int .i64 j/\rd ρ 2=.int .i64 c/\c=n+1+dA (ks.take j)/\c<=300/\Hq (bZ (d+1) (ks.take j))) ks.length
   ⟨0,n+1,rfl,hle0,aZs _,rfl,vi Aa,by rw[bAt,dA],Aa,⟨by rw[bAt,bZ];trivial⟩⟩ ?_
  conv=>whnf
  repeat intro _
  rename_i r hx L2 hI;obtain⟨j,c,rfl,hle,hj,e25,e2,hc,hc3,hq⟩:=hI;conv at e25=>lhs;whnf
  subst e25;conv at e2=>lhs;whnf
  subst e2;by_cases hjl:j=ks.length
  .subst hjl;rw[aZi] at hc hq;rw[f5 hq.out Aa,<-hc];conv=>whnf
   repeat' ((first|((first|apply oI.z|apply cI.z))|(apply aB<;>intro _<;>try (exfalso;omega)))<;>conv=>whnf)
   exact RN.a rfl
  .obtain⟨t,ht⟩:∃t,ks[j]?=some t:=⟨_,aY4 Aa⟩
   have c2:=fun h vs tb w=>ih t (bM ht) h vs (d+1) c tb w hc3 Aa
   have f4:=f4 j t ht;rw[<-hc] at f4;have hc4:¬nB (d+1) c t>300->bZ (d+1) (ks.take (j+1))/\nB (d+1) c t=n+1+dA (ks.take (j+1)):=fun x=>by
    unfold nB at x ⊢
    split at x
    .rename_i y;rw[if_pos y,bB ht,kE,iP,bZ,dA,dA,bZ];exact⟨⟨hq.out,y.1,trivial⟩,Aa⟩
    .omega
   obtain⟨C,hC⟩:=AE (nB (d+1) c t);rw[<-hC] at c2 f4 hc4;have hC3:C>300->C=301:=by rw[hC];exact aN0 _ _ _
   replace hc4:=Hq.mk hc4;have hkx:=hk.mono hle;conv=>whnf
   repeat' ((first|(show Idx _ _ _ _ _;refine Idx.kid hkx j t Aa ht (fun ad op arg neg a b name s' hE hld=>?_))|refine hld _ _ _ (aA.lr _) ?_|((first|apply oI.z|apply cI.z))|intro (_:Nat)|(show CN _ _ _ _ _ _;(refine CN.f rfl (c2 _ _ Ae Ab) (fun v h' hl2 hr=>?_);subst hr))|refine WN.i64 Aa Aa ?_|refine LdN.o 0 rfl rfl ?_|refine Sto.l 0 rfl rfl rfl ?_|(apply aB<;>intro _<;>try (exfalso;omega)))<;>conv=>whnf)
   .rw[f4 Aa,hC3 Aa];exact RN.a rfl
   .obtain⟨x1,x2⟩:=hc4.out Aa;exact⟨rfl,ks.length-(j+1),Aa,j+1,C,rfl,Ac,Aa,vi Aa,vi Aa,x2,Aa,⟨x1⟩⟩
 .rw[f3 Ab];exact RN.a rfl
theorem aN2(t:Tr):nB 1 0 t<=300↔aS t:=by
 unfold nB aS;constructor
 .intro x
  split at x
  .rename_i y;exact⟨y.1,Aa⟩
  .omega
 .intro x;rw[if_pos ⟨x.1,by have:=x.2;omega⟩]
  have:=x.2;omega
theorem jB(t:Tr)(h:aA)(vs:List Value)(tb:Tb h)(w:IsE h vs t):Fn0 T F.q21 [.agg vs.toArray] h fun v h'=>v=.bool (dec (aS t)):=by
 have hv:=aN2 t;have c1:=fun h tb w=>aN1 t h vs 1 0 tb w Aa Aa
 obtain⟨C,hC⟩:=AE (nB 1 0 t);rw[<-hC] at c1 hv;obtain⟨⟨op,arg,neg,l,m,name,ks⟩,ht⟩:=AE t;obtain⟨a,b,s,hvs,-⟩:=(ht.symm▸w:IsE h vs (.mk op arg neg l m name ks)).isK;subst hvs;refine f0C ok D.q21 rfl ?_;conv=>whnf
 repeat' ((first|(show CN _ _ _ _ _ _;(refine CN.f rfl (c1 _ Ab Ab) (fun v h' hl2 hr=>?_);subst hr))|((first|apply oI.z|apply cI.z))|intro (_:Nat)|refine LdN.o 0 rfl rfl ?_)<;>conv=>whnf)
 refine RN.a ?_
 congr 1
 unfold le;rw[iX];refine decide_eq_decide.2 ?_;rw[<-hv];omega
end Go.Proofs.Y
/- A copy of a tree with canonical numbers; the result of an operation. -/
namespace Go.Dig
end Go.Dig
namespace Go.Proofs.Y
open Go Go.Vc Go.Dig
def nC(neg:Bool)(l m:List Nat):Rat:=if okR neg l m then aK neg l m else 0
mutual
def fX:Tr->Tr
 | .mk op arg neg l m name ks=>if op=1 then .mk op arg (sg (nC neg l m)) (dg 4294967296 (nu (nC neg l m))) (dg 4294967296 (dn (nC neg l m))) name (dD ks) else .mk op arg false [] [] name (dD ks)
def dD:List Tr->List Tr
 | []=>[]
 | t::ts=>fX t::dD ts
end
theorem lF:∀(a b:List Tr),dD (a++b)=dD a++dD b
 | [],b=>by rw[dD];rfl
 | t::a,b=>by rw[bAk,dD,dD,lF a b];rfl
theorem pN:∀a:List Tr,(dD a).length=a.length
 | []=>by rw[dD]
 | t::a=>by rw[dD,aY6,aY6,pN a]
theorem dY{d:Nat}:∀{ts:List Tr} {t:Tr},bZ d ts->t∈ts->okT d t
 | u::ts,t,h,hm=>by
  rw[bZ] at h;rcases aZl.1 hm with rfl|hm
  .exact h.1
  .exact dY h.2 hm
theorem IsE.mkK{h:aA}{op arg:Int}{neg:Bool}{a b s:Sl}{l m name:List Nat}{ks:List Tr}(h1:-9223372036854775808<=op/\op<=9223372036854775807)(h2:-9223372036854775808<=arg/\arg<=9223372036854775807)(v:aY h a b l m)(hb:∀y∈name,y<256)(k:IsK h s ks):
  IsE h [.int .i64 op,.int .i64 arg,.bool neg,a.val,b.val,.string (txt name),s.val] (.mk op arg neg l m name ks):=by
 rw[IsE];exact⟨a,b,s,rfl,h1,h2,v,hb,k.len,k.cap,k.mem⟩
theorem RN.rowA{e:TypeId}{v w:Value}{n:Nat}{xs:List Value}{acc:List Tr}{h:aA}{X tl:Own}{R:Value->aA->Prop}(g:aE e 7 v n xs X)(k:KC h xs acc)(hn:n=acc.length)
  (hk:∀h' (s:Sl),h.le h'->v=s.val->IsK h' s acc->R w h'):RN w h (X++tl) fun v h' L'=>L'=[]/\R v h':=by
 obtain⟨g1,⟨rfl,rfl⟩|⟨i,b,cap,zs,rfl,h2,h3,h4⟩⟩:=g
 .obtain rfl:acc=[]:=aZ3.1 hn.symm;exact RN.a (hk h ⟨none,0,0⟩ (aA.lr _) rfl (IsK.nil h))
 .have hlt:=(aY5.1 h2).1;refine RN.keep i (by rw[aZe hlt];exact h2) fun hle=>?_
  exact RN.a (hk _ ⟨some ⟨b,0,none⟩,n,cap⟩ hle rfl (IsK.put hle k hn h3))
theorem aKc(neg:Bool)(l m:List Nat):fits (nC neg l m):=by
 unfold nC
 split
 .rename_i h;exact h.2.2
 .exact eD
theorem aKd{h:aA}{v:Value}{neg:Bool}{l m:List Nat}(r:Res h v (mC (fun q=>q) neg l m)):∃(a b:Sl) (e:Int),v=.tuple #[.agg #[.bool (sg (nC neg l m)),a.val,b.val],.int .i64 e]/\aY h a b (dg 4294967296 (nu (nC neg l m))) (dg 4294967296 (dn (nC neg l m))):=by
 have hq:(mC (fun q=>q) neg l m).1=nC neg l m:=by
  unfold mC nC
  split
  .rename_i x;unfold eA;rw[if_pos x.2.2]
  .rfl
 obtain⟨a,b,rfl,w⟩:=r;rw[hq] at w ⊢;exact⟨a,b,_,rfl,qL w (gZ (aKc neg l m))⟩
theorem aD6:∀t:Tr,∀(h:aA) (vs:List Value) (d:Nat),Tb h->IsE h vs t->okT d t->Fn0 T F.q22 [.agg vs.toArray] h fun v h'=>VE h' v (fX t):=by
 refine dX fun t ih=>?_
 intro h vs d tb w hok;obtain⟨op,arg,neg,l,m,name,ks⟩:=t;obtain⟨a,b,s,rfl,ho,ha,hv,hb,hk⟩:=w.isK;rw[okT] at hok;obtain⟨hd,hnb,hoks⟩:=hok;have hks:ks.length<=3:=by
  have h1:=hnb.1;have h2:=cR op;omega
 have hkl:=hk.len;have hv0:=aY.zero h;have c1:=fun h tb hv=>tU h tb neg a b l m hv
 have fin:∀(ng:Bool) (l2 m2:List Nat),(op=1->ng=sg (nC neg l m)/\l2=dg 4294967296 (nu (nC neg l m))/\m2=dg 4294967296 (dn (nC neg l m)))->(op≠1->ng=false/\l2=[]/\m2=[])->fX (.mk op arg neg l m name ks)=.mk op arg ng l2 m2 name (dD ks):=fun ng l2 m2 x y=>by
  rw[fX]
  split
  .obtain⟨rfl,rfl,rfl⟩:=x Ab;rfl
  .obtain⟨rfl,rfl,rfl⟩:=y Ab;rfl
 refine f0C ok D.q22 rfl ?_;conv=>whnf
 repeat' ((first|(apply aO.go)|(show LdN _ _ _ _ _;refine LdN.oA 1 rfl rfl ?_)|(show CN _ _ _ _ _ _;(refine CN.f rfl (c1 _ Ab Ab) (fun v h' hl2 hr=>?_);obtain⟨a2,b2,er,rfl,hv2⟩:=aKd hr))|((first|apply oI.z|apply cI.z))|intro (_:Nat)|refine Ld.o 1 rfl rfl ?_|refine Sto.l 1 rfl rfl rfl ?_|(apply aD<;>intro _<;>try (exfalso;omega)))<;>conv=>whnf)
 -- loops of clone
 .rename_i be bz hop;have hcl:=fin (sg (nC neg l m)) (dg 4294967296 (nu (nC neg l m))) (dg 4294967296 (dn (nC neg l m))) (fun _=>⟨rfl,rfl,rfl⟩) (fun x=>absurd hop x)
  refine LpN.of (fun r ρ hx L=>∃(j:Nat) (V:Value) (F1:Own) (xs:List Value),r=ks.length-j/\h'.le hx/\j<=ks.length/\rd ρ 21=.int .i64 j/\rd ρ 3=V/\
    L=F1++((bz,.cells [.int .i64 0,.int .i64 0,.bool false,.slice none 0 0,.slice none 0 0,.string (txt []),.slice none 0 0].toArray Ty.api_Expr (0,0))::(be,.cells [.int .i64 op,.int .i64 arg,.bool (sg (nC neg l m)),a2.val,b2.val,.string (txt name),s.val].toArray Ty.api_Expr (0,0))::[])/\
    aE Ty.api_Expr 7 V j xs F1/\KC hx xs (dD (ks.take j))) ks.length
   ⟨0,_,[],[],rfl,aA.lr _,aZs _,rfl,rfl,rfl,aE.nil _ _ _,by rw[bAt,dD];rfl⟩ ?_
  conv=>whnf
  repeat intro _
  rename_i r hx L2 hI;obtain⟨j,V,F1,xs,rfl,hle,hj,e21,e3,rfl,gF,hK⟩:=hI;conv at e21=>lhs;whnf
  subst e21;conv at e3=>lhs;whnf
  subst e3;by_cases hjl:j=ks.length
  .subst hjl;rw[aZi] at hK;obtain⟨sv,rfl⟩:=gF.sl;conv=>whnf
   repeat' ((first|(show Sto _ _ _ _;first|refine Sto.tl (A:=F1) (X:=[_]) rfl rfl ?_|refine Sto.tl (A:=[]) (X:=F1) rfl rfl ?_)|(show LdN _ _ _ _ _;first|refine LdN.tl (A:=F1) (F:=[_]) rfl ?_|refine LdN.tl (A:=[]) (F:=F1) rfl ?_)|((first|apply oI.z|apply cI.z))|(apply aB<;>intro _<;>try (exfalso;omega)))<;>conv=>whnf)
   refine RN.rowA (X:=F1) gF hK (pN ks).symm fun h' s' hl hs hk'=>?_
   rw[hcl,hs];exact⟨op,arg,(sg (nC neg l m)),a2,b2,name,s',rfl,IsE.mkK ho ha Ao hb hk'⟩
  .obtain⟨t,ht⟩:∃t,ks[j]?=some t:=⟨_,aY4 Aa⟩
   have c2:=fun h vs tb w=>ih t (bM ht) h vs (d+1) tb w (dY hoks (aY8 ht))
   have hkx:=hk.mono (aA.lt hl2 hle);conv=>whnf
   repeat' ((first|(show Idx _ _ _ _ _;refine Idx.kid hkx j t Aa ht (fun ad op arg neg a b name s' hE hld=>?_))|refine hld _ _ _ (aA.lr _) ?_|((first|apply oI.z|apply cI.z))|intro (_:Nat)|(show CN _ _ _ _ _ _;(refine CN.f rfl (c2 _ _ Ae Ab) (fun v h' hl2 hr=>?_);obtain⟨op2,ar2,ng2,nn2,dd2,nm2,ss2,rfl,hE2⟩:=hr;have hK2:=hK.mono hl2))|(show App _ _ _ _ _ _ _ _ _;refine App.growK (A:=[_,_]) (F:=F1) (size:=7) (bytes:=112) (z:=[.int .i64 0,.int .i64 0,.bool false,.slice none 0 0,.slice none 0 0,.string (txt []),.slice none 0 0]) rfl rfl gF ⟨_,0,none⟩ 1 1 [_,_,_,_,_,_,_] rfl (Has.front _) rfl Ag Aa Aa Ag (fun v' F' g'=>?_))|refine WN.i64 Aa Aa ?_|refine LdN.o 0 rfl rfl ?_|refine Sto.l 0 rfl rfl rfl ?_|(apply aB<;>intro _<;>try (exfalso;omega)))<;>conv=>whnf)
   exact⟨rfl,ks.length-(j+1),Aa,j+1,_,_::_::F',_,rfl,Ac,Aa,vi Aa,rfl,rfl,(g'.cons _).cons _,by rw[bB ht,lF,dD,dD];exact KC.snoc rfl hE2 hK2⟩
 .rename_i be bz hop;have hcl:=fin false [] [] (fun x=>absurd x hop) (fun _=>⟨rfl,rfl,rfl⟩)
  refine LpN.of (fun r ρ hx L=>∃(j:Nat) (V:Value) (F1:Own) (xs:List Value),r=ks.length-j/\h.le hx/\j<=ks.length/\rd ρ 21=.int .i64 j/\rd ρ 3=V/\
    L=F1++((bz,.cells [.int .i64 0,.int .i64 0,.bool false,.slice none 0 0,.slice none 0 0,.string (txt []),.slice none 0 0].toArray Ty.api_Expr (0,0))::(be,.cells [.int .i64 op,.int .i64 arg,.bool false,.slice none 0 0,.slice none 0 0,.string (txt name),s.val].toArray Ty.api_Expr (0,0))::[])/\
    aE Ty.api_Expr 7 V j xs F1/\KC hx xs (dD (ks.take j))) ks.length
   ⟨0,_,[],[],rfl,aA.lr _,aZs _,rfl,rfl,rfl,aE.nil _ _ _,by rw[bAt,dD];rfl⟩ ?_
  conv=>whnf
  repeat intro _
  rename_i r hx L2 hI;obtain⟨j,V,F1,xs,rfl,hle,hj,e21,e3,rfl,gF,hK⟩:=hI;conv at e21=>lhs;whnf
  subst e21;conv at e3=>lhs;whnf
  subst e3;by_cases hjl:j=ks.length
  .subst hjl;rw[aZi] at hK;obtain⟨sv,rfl⟩:=gF.sl;conv=>whnf
   repeat' ((first|(show Sto _ _ _ _;first|refine Sto.tl (A:=F1) (X:=[_]) rfl rfl ?_|refine Sto.tl (A:=[]) (X:=F1) rfl rfl ?_)|(show LdN _ _ _ _ _;first|refine LdN.tl (A:=F1) (F:=[_]) rfl ?_|refine LdN.tl (A:=[]) (F:=F1) rfl ?_)|((first|apply oI.z|apply cI.z))|(apply aB<;>intro _<;>try (exfalso;omega)))<;>conv=>whnf)
   refine RN.rowA (X:=F1) gF hK (pN ks).symm fun h' s' hl hs hk'=>?_
   rw[hcl,hs];exact⟨op,arg,false,⟨none,0,0⟩,⟨none,0,0⟩,name,s',rfl,IsE.mkK ho ha Ao hb hk'⟩
  .obtain⟨t,ht⟩:∃t,ks[j]?=some t:=⟨_,aY4 Aa⟩
   have c2:=fun h vs tb w=>ih t (bM ht) h vs (d+1) tb w (dY hoks (aY8 ht))
   have hkx:=hk.mono (aA.lt (aA.lr _) hle);conv=>whnf
   repeat' ((first|(show Idx _ _ _ _ _;refine Idx.kid hkx j t Aa ht (fun ad op arg neg a b name s' hE hld=>?_))|refine hld _ _ _ (aA.lr _) ?_|((first|apply oI.z|apply cI.z))|intro (_:Nat)|(show CN _ _ _ _ _ _;(refine CN.f rfl (c2 _ _ Ae Ab) (fun v h' hl2 hr=>?_);obtain⟨op2,ar2,ng2,nn2,dd2,nm2,ss2,rfl,hE2⟩:=hr;have hK2:=hK.mono hl2))|(show App _ _ _ _ _ _ _ _ _;refine App.growK (A:=[_,_]) (F:=F1) (size:=7) (bytes:=112) (z:=[.int .i64 0,.int .i64 0,.bool false,.slice none 0 0,.slice none 0 0,.string (txt []),.slice none 0 0]) rfl rfl gF ⟨_,0,none⟩ 1 1 [_,_,_,_,_,_,_] rfl (Has.front _) rfl Ag Aa Aa Ag (fun v' F' g'=>?_))|refine WN.i64 Aa Aa ?_|refine LdN.o 0 rfl rfl ?_|refine Sto.l 0 rfl rfl rfl ?_|(apply aB<;>intro _<;>try (exfalso;omega)))<;>conv=>whnf)
   exact⟨rfl,ks.length-(j+1),Aa,j+1,_,_::_::F',_,rfl,Ac,Aa,vi Aa,rfl,rfl,(g'.cons _).cons _,by rw[bB ht,lF,dD,dD];exact KC.snoc rfl hE2 hK2⟩
 -- end of the loops
def aL:Tr:=.mk 0 0 false [] [] [] []
theorem IsE.zero(h:aA):IsE h [.int .i64 0,.int .i64 0,.bool false,.slice none 0 0,.slice none 0 0,.string (txt []),.slice none 0 0] aL:=
 IsE.mkK (a:=⟨none,0,0⟩) (b:=⟨none,0,0⟩) (s:=⟨none,0,0⟩) Ag Ag (aY.zero h) Ar (IsK.nil h)
theorem VE.zero(h:aA):VE h (.agg #[.int .i64 0,.int .i64 0,.bool false,.slice none 0 0,.slice none 0 0,.string (txt []),.slice none 0 0]) aL:=
 ⟨0,0,false,⟨none,0,0⟩,⟨none,0,0⟩,[],⟨none,0,0⟩,rfl,IsE.zero h⟩
def aKe(h:aA)(v:Value)(x:Tr × Nat):Prop:=∃a,v=.tuple #[a,.int .i64 x.2]/\VE h a x.1
def dR(t:Tr):Tr × Nat:=if aS t then (fX t,0) else (aL,4)
theorem lG(t:Tr)(h:aA)(vs:List Value)(tb:Tb h)(w:IsE h vs t):Fn0 T F.q26 [.agg vs.toArray] h fun v h'=>aKe h' v (dR t):=by
 have c1:=fun h tb w=>jB t h vs tb w
 have c2:=fun h tb w (x:aS t)=>aD6 t h vs 1 tb w x.1
 have r1:aS t->dR t=(fX t,0):=fun x=>if_pos x
 have r2:¬aS t->dR t=(aL,4):=fun x=>if_neg x
 obtain⟨R,hR⟩:=AE (dR t);rw[<-hR] at r1 r2 ⊢;obtain⟨⟨op,arg,neg,l,m,name,ks⟩,ht⟩:=AE t;obtain⟨a,b,s,hvs,-⟩:=(ht.symm▸w:IsE h vs (.mk op arg neg l m name ks)).isK;subst hvs;refine f0C ok D.q26 rfl ?_;conv=>whnf
 repeat' first|((first|(show CN _ _ _ _ _ _;first|(refine CN.f rfl (c1 _ Ab Ab) (fun v h' hl2 hr=>?_);subst hr)|(refine CN.f rfl (c2 _ Ae Af Ab) (fun v h' hl2 hr=>?_);obtain⟨op2,ar2,ng2,nn2,dd2,nm2,ss2,rfl,hE2⟩:=hr))|((first|apply oI.z|apply cI.z))|intro (_:Nat)|(show LdN _ _ _ _ _;first|refine LdN.o 0 rfl rfl ?_|refine LdN.o 1 rfl rfl ?_)|refine Sto.l 0 rfl rfl rfl ?_)<;>conv=>whnf)|(show cnd _ _ _;first|(refine aI ?_)|(apply aN<;>intro _<;>first|(exfalso;omega)|conv=>whnf))
 all_goals first
  | (rw[r1 Ab];exact RN.a ⟨_,rfl,op2,ar2,ng2,nn2,dd2,nm2,ss2,rfl,hE2⟩)
  | (rw[r2 Ab];exact RN.a ⟨_,rfl,VE.zero _⟩)
end Go.Proofs.Y