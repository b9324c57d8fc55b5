/- Valid trees: the program's count of nodes. -/
import Derived.Test.YtdccpmlhflpeaaaGreatDoorE16
set_option linter.all false
set_option maxHeartbeats 2000000
set_option maxRecDepth 20000
namespace Go.Proofs.Y
open Go Go.Vc Go.Dig
theorem LdN.oA{h:aA}{L:Own}{b o m:Nat}{k:Value->Prop}{l:List Value}{T:TypeId}{fz:Nat × Nat}(n:Nat)(hb:L[n]?=some (b,.cells l.toArray T fz))(hl:Nat.ble (o+m) l.length=true)(hk:k (.agg ((l.drop o).take m).toArray)):LdN h L ⟨b,o,none⟩ m k:=
 have hle:=bG7 hl
 ⟨(l.drop o).take m,by rw[bDr,bD3];omega,fun i hi=>by
   rw[bB];refine Has.own n hb ?_;rw[bD1,bC7,bFb,if_pos hi,bF5,bC8 Aa]
   rfl,hk⟩
theorem aK4(q:Rat):le 0 (dS q)=dec (0<=q):=by
 unfold le;rw[jX,yZ];refine decide_eq_decide.2 ?_;rw[<-Rat.num_nonneg];rcases bGw q.num 0 with h|h|h
 .rw[bFg h];omega
 .rw[h];simp
 .rw[bFt h];omega
theorem aVs(h:aA)(op:Int):Fn0 T F.q168 [.int .i64 op] h fun v h'=>h'=h/\∃(n:Nat) (b:Bool),v=.tuple #[.int .i64 n,.bool b]/\(b=true->(n:Int)=aR op)/\(b=false->aR op=-1):=by
 have k0:op=1\/op=2\/op=3->aR op=0:=fun x=>if_pos x
 have k1:op=4\/op=9\/op=10\/op=11\/op=12->aR op=1:=fun x=>by unfold aR;rw[if_neg Aa,if_pos x]
 have k2:op=5\/op=6\/op=7\/op=8\/op=13\/op=14->aR op=2:=fun x=>by unfold aR;rw[if_neg Aa,if_neg Aa,if_pos x]
 have k3:op=15->aR op=3:=fun x=>by unfold aR;rw[if_neg Aa,if_neg Aa,if_neg Aa,if_pos x]
 have k4:¬(op=1\/op=2\/op=3)->¬(op=4\/op=9\/op=10\/op=11\/op=12)->¬(op=5\/op=6\/op=7\/op=8\/op=13\/op=14)->op≠15->aR op=-1:=fun a b c d=>by unfold aR;rw[if_neg a,if_neg b,if_neg c,if_neg d]
 obtain⟨K,hK⟩:=AB (aR op);rw[<-hK] at k0 k1 k2 k3 k4 ⊢;replace k0:=Hq.mk k0;replace k1:=Hq.mk k1;replace k2:=Hq.mk k2;replace k3:=Hq.mk k3;replace k4:=Hq.mk k4;refine f0C ok D.q168 rfl ?_;conv=>whnf
 repeat' ((first|(apply aQ.go)|((first|apply oI.z|apply cI.z))|(apply aD<;>intro _<;>try (exfalso;omega)))<;>conv=>whnf)
 all_goals first
  | exact RN.a ⟨rfl,0,true,rfl,fun _=>by rw[k0.out Aa];rfl,fun x=>by cases x⟩
  | exact RN.a ⟨rfl,1,true,rfl,fun _=>by rw[k1.out Aa];rfl,fun x=>by cases x⟩
  | exact RN.a ⟨rfl,2,true,rfl,fun _=>by rw[k2.out Aa];rfl,fun x=>by cases x⟩
  | exact RN.a ⟨rfl,3,true,rfl,fun _=>by rw[k3.out Aa];rfl,fun x=>by cases x⟩
  | exact RN.a ⟨rfl,0,false,rfl,(fun x=>by cases x),fun _=>k4.out Aa Aa Aa Aa⟩
theorem aNn(h:aA)(tb:Tb h)(op arg:Int)(neg:Bool)(a b:Sl)(l m name:List Nat)(s:Sl)(n:Nat)(hv:bJ h a b l m)(hb:∀y∈name,y<256)(hs:s.l=n):
  Fn0 T F.q106 [.agg #[.int .i64 op,.int .i64 arg,.bool neg,a.val,b.val,.string (txt name),s.val]] h fun v h'=>v=.bool (dec (fQ op arg neg l m name n)):=by
 have hl':=hv.ln;have hs':=hv.sn;obtain⟨DD,hD⟩:=AB (dec (fQ op arg neg l m name n));obtain⟨KN,hK⟩:=AB (aR op);obtain⟨LO,hL⟩:=AB (jP op);obtain⟨HI,hH⟩:=AB (eO op);have l9:op=9->LO=-32/\HI=32:=fun x=>by rw[hL,hH,x];exact⟨rfl,rfl⟩
 have l10:op=10->LO=2/\HI=8:=fun x=>by rw[hL,hH,x];exact⟨rfl,rfl⟩
 have l11:op=11->LO=1/\HI=8:=fun x=>by rw[hL,hH,x];exact⟨rfl,rfl⟩
 have l0:op≠9->op≠10->op≠11->LO=0/\HI=0:=fun x y z=>by rw[hL,hH,jP,eO,if_neg x,if_neg y,if_neg z,if_neg x,if_neg y,if_neg z];exact⟨rfl,rfl⟩
 have n1:(n:Int)≠KN->DD=false:=fun x=>by rw[hD];exact aG fun y=>x (by rw[hK];exact y.1)
 have n2:arg<LO->DD=false:=fun x=>by rw[hD];exact aG fun y=>absurd y.2.1 Aa
 have n3:HI<arg->DD=false:=fun x=>by rw[hD];exact aG fun y=>absurd y.2.2.1 Aa
 have n4:op=2->¬fE name->DD=false:=fun x z=>by rw[hD];exact aG fun y=>z (by have:=y.2.2.2.1;rw[if_pos x] at this;exact this)
 have n5:op≠2->name≠[]->DD=false:=fun x z=>by rw[hD];exact aG fun y=>z (by have:=y.2.2.2.1;rw[if_neg x] at this;exact this)
 have p1:(n:Int)=KN->LO<=arg->arg<=HI->(op=2->fE name)->(op≠2->name=[])->op=1->DD=dec (aI5 neg l m):=fun x y z u v o=>by
  rw[hD];refine cY ⟨fun q=>?_,fun q=>⟨Aa,Aa,Aa,?_,?_⟩⟩
  .have:=q.2.2.2.2;rw[if_pos o] at this;exact this
  .by_cases t:op=2
   .rw[if_pos t];exact u t
   .rw[if_neg t];exact v t
  .rw[if_pos o];exact q
 have p2:(n:Int)=KN->LO<=arg->arg<=HI->(op=2->fE name)->(op≠2->name=[])->op≠1->DD=dec (evl 4294967296 l=0):=fun x y z u v o=>by
  rw[hD];refine cY ⟨fun q=>?_,fun q=>⟨Aa,Aa,Aa,?_,?_⟩⟩
  .have:=q.2.2.2.2;rw[if_neg o] at this;exact this
  .by_cases t:op=2
   .rw[if_pos t];exact u t
   .rw[if_neg t];exact v t
  .rw[if_neg o];exact q
 have r1:okR neg l m->dec (aI5 neg l m)=dec (0<=aN neg l m):=fun x=>cY ⟨fun y=>y.2,fun y=>⟨x,y⟩⟩
 have r2:¬okR neg l m->dec (aI5 neg l m)=false:=fun x=>aG fun y=>x y.1
 have c0:=fun h=>aVs h op
 rw[<-hK] at c0;rw[<-hD];clear hD hK hL hH;replace n1:=Hq.mk n1;replace n4:=Hq.mk n4;replace n5:=Hq.mk n5;replace p1:=Hq.mk p1;replace p2:=Hq.mk p2;replace r1:=Hq.mk r1;replace r2:=Hq.mk r2;have c1:=fun h=>pL h name hb
 have c2:=fun h hv=>oF h a l hv hl' Aa
 obtain⟨x,hx⟩:=AB (evl 4294967296 l);have hxl:ln 4294967296 x<=1073741824:=by rw[hx];exact bDv ((aL Ad).2 (iS tlB hl')) hs'
 rw[<-hx] at p2;have lsg:=aK4 (aN neg l m);have hsz:=fun (y:okR neg l m)=>(okR.sz y).mono (show 64<=1099511627776 by omega)
 obtain⟨q,hq⟩:=AB (aN neg l m);have c3:=fun h tb hv=>lO h tb neg a b l m hv
 rw[<-hq] at r1 lsg hsz c3;have hvn:=hv.num;refine f0C ok D.q106 rfl ?_;conv=>whnf
 repeat' first|((first|(apply aQ.go)|(show CN _ _ _ _ _ _;first|(refine CN.f rfl (c0 _) (fun v h' hl2 hr=>?_);obtain⟨rfl,kn,kb,rfl,hk1,hk2⟩:=hr;clear hl2)|(refine CN.f rfl (c1 _) (fun v h' hl2 hr=>?_);subst hr)|(refine CN.f rfl (oF _ _ l Ag hl' Aa) (fun v h' hl hr=>?_);rw[<-hx] at hr;obtain⟨s',rfl,hs'⟩:=hr)|refine CN.quiet rfl (jE _ _ _ Ab Aa) ?_|(refine CN.f rfl (c3 _ Ab Ab) (fun v h' hl hr=>?_);obtain⟨sx,cx,dx,rfl,hfx⟩:=hr)|(obtain⟨e1,hfr⟩:=hfx Ab;subst e1;refine CN.quiet rfl (uB _ _ _ q hfr (hsz Ab)) ?_))|(show LdN _ _ _ _ _;(first|refine LdN.o 0 rfl rfl ?_|refine LdN.oA 0 rfl rfl ?_))|((first|apply oI.z|apply cI.z))|intro (_:Nat)|refine Ld.o 0 rfl rfl ?_|refine Sto.l 0 rfl rfl rfl ?_)<;>conv=>whnf)|(show cnd _ _ _;first|(refine iO name rfl rfl (fun _=>?_) (fun _=>?_)<;>(conv=>whnf))|((first|apply aB|apply aD)<;>intro _<;>first|(exfalso;omega)|conv=>whnf)|(refine aJ ?_)|(apply aW<;>intro _<;>first|(exfalso;omega)|conv=>whnf)|(refine dE (fun hb=>?_) (fun hb=>?_)<;>(first|cases hb|subst hb)<;>(conv=>whnf)))
 all_goals first
  | (rw[n1.out (by first|(rw[hk2 rfl];omega)|(rw[<-hk1 rfl];omega))];exact RN.a rfl)
  | (rw[n2 Aa];exact RN.a rfl)
  | (rw[n3 Aa];exact RN.a rfl)
  | (rw[n4.out Aa Ab];exact RN.a rfl)
  | (rw[n5.out Aa Ab];exact RN.a rfl)
  | (rw[p2.out (by have:=hk1 rfl;omega) Aa Aa (fun e=>by first|assumption|(exfalso;omega)) (fun e=>by first|assumption|(exfalso;omega)) Aa];exact RN.a rfl)
  | (rw[p1.out (by have:=hk1 rfl;omega) Aa Aa (fun e=>by first|assumption|(exfalso;omega)) (fun e=>by first|assumption|(exfalso;omega)) Aa,r2.out Ab];exact RN.a rfl)
  | (rw[p1.out (by have:=hk1 rfl;omega) Aa Aa (fun e=>by first|assumption|(exfalso;omega)) (fun e=>by first|assumption|(exfalso;omega)) Aa,r1.out Ab,<-lsg];exact RN.a rfl)
theorem mN(op:Int):aR op<=3:=by
 unfold aR
 repeat' split
 all_goals omega
def oN(d n:Nat)(t:Tr):Nat:=if okT d t/\n+szT t<=300 then n+szT t else 301
theorem aQ2(d n:Nat)(t:Tr):oN d n t>300->oN d n t=301:=by
 unfold oN
 split
 .omega
 .exact fun _=>rfl
theorem bN{P:Tr->Prop}(h:∀t,(∀u,szT u<szT t->P u)->P t):∀t,P t:=fun t=>by
 have:∀n t,szT t=n->P t:=fun n=>by
  induction n using Nat.strongRecOn with
  | ind n ih=>exact fun t e=>h t fun u hu=>ih (szT u) Aa u rfl
 exact this _ t rfl
theorem aP{op arg:Int}{neg:Bool}{l m name:List Nat}{ks:List Tr}{t:Tr}{j:Nat}(h:ks[j]?=some t):szT t<szT (.mk op arg neg l m name ks):=by
 have:=oK (bDc h);rw[szT];omega
theorem aQ3:∀t:Tr,∀(h:aA) (vs:List Value) (d n:Nat),Tb h->IsE h vs t->n<=300->d<=1000->Fn0 T F.q62 [.agg vs.toArray,.int .i64 d,.int .i64 n] h fun v h'=>v=.int .i64 (oN d n t:Nat):=by
 refine bN fun t ih=>?_
 intro h vs d n tb w hn hd;obtain⟨op,arg,neg,l,m,name,ks⟩:=t;obtain⟨a,b,s,rfl,ho,ha,hv,hb,hk⟩:=w.isK;obtain⟨NB,hNB⟩:=AB (fQ op arg neg l m name ks.length);have c1:=fun h tb hv=>aNn h tb op arg neg a b l m name s ks.length hv hb hk.len
 have f1:n+1>300->oN d n (.mk op arg neg l m name ks)=301:=fun x=>if_neg fun y=>by
  have:=y.2;rw[szT] at this;omega
 have f2:d>30->oN d n (.mk op arg neg l m name ks)=301:=fun x=>if_neg fun y=>by
  have:=y.1;rw[okT] at this;omega
 have f3:¬fQ op arg neg l m name ks.length->oN d n (.mk op arg neg l m name ks)=301:=fun x=>if_neg fun y=>by
  have:=y.1;rw[okT] at this;exact x this.2.1
 have f4:∀j t,ks[j]?=some t->oN (d+1) (n+1+eF (ks.take j)) t>300->oN d n (.mk op arg neg l m name ks)=301:=fun j t ht x=>if_neg fun y=>by
  obtain⟨y1,y2⟩:=y;rw[okT] at y1;rw[szT] at y2;have e:=mF ht;rw[e,iY,eF] at y2;have z:=y1.2.2;rw[e,kX,dJ] at z;unfold oN at x;rw[if_pos ⟨z.2.1,Aa⟩] at x;omega
 have f5:d<=30->fQ op arg neg l m name ks.length->dJ (d+1) ks->n+1+eF ks<=300->oN d n (.mk op arg neg l m name ks)=n+1+eF ks:=fun x y z u=>by
  unfold oN;rw[if_pos (show okT d (.mk op arg neg l m name ks)/\n+szT (.mk op arg neg l m name ks)<=300 from ⟨by rw[okT];exact⟨x,y,z⟩,by rw[szT];omega⟩),szT];omega
 obtain⟨R,hR⟩:=AB (oN d n (.mk op arg neg l m name ks));rw[<-hR] at f1 f2 f3 f4 f5 ⊢;have hkl:=hk.len;refine f0C ok D.q62 rfl ?_;conv=>whnf
 repeat' first|((first|(show CN _ _ _ _ _ _;(refine CN.f rfl (c1 _ Ab Ab) (fun v h' hl2 hr=>?_);subst hr))|((first|apply oI.z|apply cI.z))|intro (_:Nat)|refine WN.i64 Aa Aa ?_|refine LdN.o 0 rfl rfl ?_|refine Ld.o 0 rfl rfl ?_)<;>conv=>whnf)|(show cnd _ _ _;first|(apply aB<;>intro _<;>first|(exfalso;omega)|conv=>whnf)|(refine aJ ?_)|(apply aW<;>intro _<;>first|(exfalso;omega)|conv=>whnf))
 .rw[f1 Aa];exact RN.a rfl
 .rw[f2 Aa];exact RN.a rfl
 .have hd30:d<=30:=Aa;have hNBt:fQ op arg neg l m name ks.length:=Ab;replace f5:=f5 hd30 hNBt;have hks:ks.length<=3:=by
   have h1:=hNBt.1;have h2:=mN op;omega
  clear f1 f2 f3;have hle0:h.le h':=Ab;refine LpN.of (fun r ρ hx L=>∃(j c:Nat),r=ks.length-j/\h.le hx/\j<=ks.length/\rd ρ 25=.int .i64 j/\rd ρ 2=.int .i64 c/\c=n+1+eF (ks.take j)/\c<=300/\Hq (dJ (d+1) (ks.take j))) ks.length
   ⟨0,n+1,rfl,hle0,bDw _,rfl,vi Aa,by rw[bFa,eF],Aa,⟨by rw[bFa,dJ];trivial⟩⟩ ?_
  conv=>whnf
  repeat intro _
  rename_i r hx L2 hI;obtain⟨j,c,rfl,hle,hj,e25,e2,hc,hc3,hq⟩:=hI;conv at e25=>lhs;whnf
  subst e25;conv at e2=>lhs;whnf
  subst e2;by_cases hjl:j=ks.length
  .subst hjl;rw[bDm] at hc hq;rw[f5 hq.out Aa,<-hc];conv=>whnf
   repeat' ((first|((first|apply oI.z|apply cI.z))|(apply aB<;>intro _<;>try (exfalso;omega)))<;>conv=>whnf)
   exact RN.a rfl
  .obtain⟨t,ht⟩:∃t,ks[j]?=some t:=⟨_,bC8 Aa⟩
   have c2:=fun h vs tb w=>ih t (aP ht) h vs (d+1) c tb w hc3 Aa
   have f4:=f4 j t ht;rw[<-hc] at f4;have hc4:¬oN (d+1) c t>300->dJ (d+1) (ks.take (j+1))/\oN (d+1) c t=n+1+eF (ks.take (j+1)):=fun x=>by
    unfold oN at x ⊢
    split at x
    .rename_i y;rw[if_pos y,bD ht,kX,iY,dJ,eF,eF,dJ];exact⟨⟨hq.out,y.1,trivial⟩,Aa⟩
    .omega
   obtain⟨C,hC⟩:=AB (oN (d+1) c t);rw[<-hC] at c2 f4 hc4;have hC3:C>300->C=301:=by rw[hC];exact aQ2 _ _ _
   replace hc4:=Hq.mk hc4;have hkx:=hk.mono hle;conv=>whnf
   repeat' ((first|(show Idx _ _ _ _ _;refine Idx.kid hkx j t Aa ht (fun ad op arg neg a b name s' hE hld=>?_))|refine hld _ _ _ (aA.lr _) ?_|((first|apply oI.z|apply cI.z))|intro (_:Nat)|(show CN _ _ _ _ _ _;(refine CN.f rfl (c2 _ _ Ae Ab) (fun v h' hl2 hr=>?_);subst hr))|refine WN.i64 Aa Aa ?_|refine LdN.o 0 rfl rfl ?_|refine Sto.l 0 rfl rfl rfl ?_|(apply aB<;>intro _<;>try (exfalso;omega)))<;>conv=>whnf)
   .rw[f4 Aa,hC3 Aa];exact RN.a rfl
   .obtain⟨x1,x2⟩:=hc4.out Aa;exact⟨rfl,ks.length-(j+1),Aa,j+1,C,rfl,Ac,Aa,vi Aa,vi Aa,x2,Aa,⟨x1⟩⟩
 .rw[f3 Ab];exact RN.a rfl
theorem aQ4(t:Tr):oN 1 0 t<=300↔dN t:=by
 unfold oN dN;constructor
 .intro x
  split at x
  .rename_i y;exact⟨y.1,Aa⟩
  .omega
 .intro x;rw[if_pos ⟨x.1,by have:=x.2;omega⟩]
  have:=x.2;omega
theorem rB(t:Tr)(h:aA)(vs:List Value)(tb:Tb h)(w:IsE h vs t):Fn0 T F.q29 [.agg vs.toArray] h fun v h'=>v=.bool (dec (dN t)):=by
 have hv:=aQ4 t;have c1:=fun h tb w=>aQ3 t h vs 1 0 tb w Aa Aa
 obtain⟨C,hC⟩:=AB (oN 1 0 t);rw[<-hC] at c1 hv;obtain⟨⟨op,arg,neg,l,m,name,ks⟩,ht⟩:=AB t;obtain⟨a,b,s,hvs,-⟩:=(ht.symm▸w:IsE h vs (.mk op arg neg l m name ks)).isK;subst hvs;refine f0C ok D.q29 rfl ?_;conv=>whnf
 repeat' ((first|(show CN _ _ _ _ _ _;(refine CN.f rfl (c1 _ Ab Ab) (fun v h' hl2 hr=>?_);subst hr))|((first|apply oI.z|apply cI.z))|intro (_:Nat)|refine LdN.o 0 rfl rfl ?_)<;>conv=>whnf)
 refine RN.a ?_
 congr 1
 unfold le;rw[jX];refine decide_eq_decide.2 ?_;rw[<-hv];omega
end Go.Proofs.Y
/- A copy of a tree with canonical numbers; the result of an operation. -/
namespace Go.Dig
end Go.Dig
namespace Go.Proofs.Y
open Go Go.Vc Go.Dig
def nQ(neg:Bool)(l m:List Nat):Rat:=if okR neg l m then aN neg l m else 0
mutual
def iV:Tr->Tr
 | .mk op arg neg l m name ks=>if op=1 then .mk op arg (sg (nQ neg l m)) (dg 4294967296 (nu (nQ neg l m))) (dg 4294967296 (dn (nQ neg l m))) name (cH ks) else .mk op arg false [] [] name (cH ks)
def cH:List Tr->List Tr
 | []=>[]
 | t::ts=>iV t::cH ts
end
theorem mO:∀(a b:List Tr),cH (a++b)=cH a++cH b
 | [],b=>by rw[cH];rfl
 | t::a,b=>by rw[bEn,cH,cH,mO a b];rfl
theorem rC:∀a:List Tr,(cH a).length=a.length
 | []=>by rw[cH]
 | t::a=>by rw[cH,bDa,bDa,rC a]
theorem fC{d:Nat}:∀{ts:List Tr} {t:Tr},dJ d ts->t∈ts->okT d t
 | u::ts,t,h,hm=>by
  rw[dJ] at h;rcases bDp.1 hm with rfl|hm
  .exact h.1
  .exact fC h.2 hm
theorem IsE.mkK{h:aA}{op arg:Int}{neg:Bool}{a b s:Sl}{l m name:List Nat}{ks:List Tr}(h1:-9223372036854775808<=op/\op<=9223372036854775807)(h2:-9223372036854775808<=arg/\arg<=9223372036854775807)(v:bJ h a b l m)(hb:∀y∈name,y<256)(k:IsK h s ks):
  IsE h [.int .i64 op,.int .i64 arg,.bool neg,a.val,b.val,.string (txt name),s.val] (.mk op arg neg l m name ks):=by
 rw[IsE];exact⟨a,b,s,rfl,h1,h2,v,hb,k.len,k.cap,k.mem⟩
theorem RN.rowA{e:TypeId}{v w:Value}{n:Nat}{xs:List Value}{acc:List Tr}{h:aA}{X tl:Own}{R:Value->aA->Prop}(g:aE e 7 v n xs X)(k:KC h xs acc)(hn:n=acc.length)
  (hk:∀h' (s:Sl),h.le h'->v=s.val->IsK h' s acc->R w h'):RN w h (X++tl) fun v h' L'=>L'=[]/\R v h':=by
 obtain⟨g1,⟨rfl,rfl⟩|⟨i,b,cap,zs,rfl,h2,h3,h4⟩⟩:=g
 .obtain rfl:acc=[]:=bD7.1 hn.symm;exact RN.a (hk h ⟨none,0,0⟩ (aA.lr _) rfl (IsK.nil h))
 .have hlt:=(bC9.1 h2).1;refine RN.keep i (by rw[bDi hlt];exact h2) fun hle=>?_
  exact RN.a (hk _ ⟨some ⟨b,0,none⟩,n,cap⟩ hle rfl (IsK.put hle k hn h3))
theorem aNo(neg:Bool)(l m:List Nat):fits (nQ neg l m):=by
 unfold nQ
 split
 .rename_i h;exact h.2.2
 .exact eV
theorem aNp{h:aA}{v:Value}{neg:Bool}{l m:List Nat}(r:Res h v (qD (fun q=>q) neg l m)):∃(a b:Sl) (e:Int),v=.tuple #[.agg #[.bool (sg (nQ neg l m)),a.val,b.val],.int .i64 e]/\bJ h a b (dg 4294967296 (nu (nQ neg l m))) (dg 4294967296 (dn (nQ neg l m))):=by
 have hq:(qD (fun q=>q) neg l m).1=nQ neg l m:=by
  unfold qD nQ
  split
  .rename_i x;unfold fH;rw[if_pos x.2.2]
  .rfl
 obtain⟨a,b,rfl,w⟩:=r;rw[hq] at w ⊢;exact⟨a,b,_,rfl,mD w (iD (aNo neg l m))⟩
theorem aQ5:∀t:Tr,∀(h:aA) (vs:List Value) (d:Nat),Tb h->IsE h vs t->okT d t->Fn0 T F.q81 [.agg vs.toArray] h fun v h'=>VE h' v (iV t):=by
 refine bN fun t ih=>?_
 intro h vs d tb w hok;obtain⟨op,arg,neg,l,m,name,ks⟩:=t;obtain⟨a,b,s,rfl,ho,ha,hv,hb,hk⟩:=w.isK;rw[okT] at hok;obtain⟨hd,hnb,hoks⟩:=hok;have hks:ks.length<=3:=by
  have h1:=hnb.1;have h2:=mN op;omega
 have hkl:=hk.len;have hv0:=bJ.zero h;have c1:=fun h tb hv=>vX h tb neg a b l m hv
 have fin:∀(ng:Bool) (l2 m2:List Nat),(op=1->ng=sg (nQ neg l m)/\l2=dg 4294967296 (nu (nQ neg l m))/\m2=dg 4294967296 (dn (nQ neg l m)))->(op≠1->ng=false/\l2=[]/\m2=[])->iV (.mk op arg neg l m name ks)=.mk op arg ng l2 m2 name (cH ks):=fun ng l2 m2 x y=>by
  rw[iV]
  split
  .obtain⟨rfl,rfl,rfl⟩:=x Ab;rfl
  .obtain⟨rfl,rfl,rfl⟩:=y Ab;rfl
 refine f0C ok D.q81 rfl ?_;conv=>whnf
 repeat' ((first|(apply aQ.go)|(show LdN _ _ _ _ _;refine LdN.oA 1 rfl rfl ?_)|(show CN _ _ _ _ _ _;(refine CN.f rfl (c1 _ Ab Ab) (fun v h' hl2 hr=>?_);obtain⟨a2,b2,er,rfl,hv2⟩:=aNp hr))|((first|apply oI.z|apply cI.z))|intro (_:Nat)|refine Ld.o 1 rfl rfl ?_|refine Sto.l 1 rfl rfl rfl ?_|(apply aD<;>intro _<;>try (exfalso;omega)))<;>conv=>whnf)
 -- loops of clone
 .rename_i be bz hop;have hcl:=fin (sg (nQ neg l m)) (dg 4294967296 (nu (nQ neg l m))) (dg 4294967296 (dn (nQ neg l m))) (fun _=>⟨rfl,rfl,rfl⟩) (fun x=>absurd hop x)
  refine LpN.of (fun r ρ hx L=>∃(j:Nat) (V:Value) (F1:Own) (xs:List Value),r=ks.length-j/\h'.le hx/\j<=ks.length/\rd ρ 21=.int .i64 j/\rd ρ 3=V/\
    L=F1++((bz,.cells [.int .i64 0,.int .i64 0,.bool false,.slice none 0 0,.slice none 0 0,.string (txt []),.slice none 0 0].toArray Ty.api_Expr (0,0))::(be,.cells [.int .i64 op,.int .i64 arg,.bool (sg (nQ neg l m)),a2.val,b2.val,.string (txt name),s.val].toArray Ty.api_Expr (0,0))::[])/\
    aE Ty.api_Expr 7 V j xs F1/\KC hx xs (cH (ks.take j))) ks.length
   ⟨0,_,[],[],rfl,aA.lr _,bDw _,rfl,rfl,rfl,aE.nil _ _ _,by rw[bFa,cH];rfl⟩ ?_
  conv=>whnf
  repeat intro _
  rename_i r hx L2 hI;obtain⟨j,V,F1,xs,rfl,hle,hj,e21,e3,rfl,gF,hK⟩:=hI;conv at e21=>lhs;whnf
  subst e21;conv at e3=>lhs;whnf
  subst e3;by_cases hjl:j=ks.length
  .subst hjl;rw[bDm] at hK;obtain⟨sv,rfl⟩:=gF.sl;conv=>whnf
   repeat' ((first|(show Sto _ _ _ _;first|refine Sto.tl (A:=F1) (X:=[_]) rfl rfl ?_|refine Sto.tl (A:=[]) (X:=F1) rfl rfl ?_)|(show LdN _ _ _ _ _;first|refine LdN.tl (A:=F1) (F:=[_]) rfl ?_|refine LdN.tl (A:=[]) (F:=F1) rfl ?_)|((first|apply oI.z|apply cI.z))|(apply aB<;>intro _<;>try (exfalso;omega)))<;>conv=>whnf)
   refine RN.rowA (X:=F1) gF hK (rC ks).symm fun h' s' hl hs hk'=>?_
   rw[hcl,hs];exact⟨op,arg,(sg (nQ neg l m)),a2,b2,name,s',rfl,IsE.mkK ho ha Ap hb hk'⟩
  .obtain⟨t,ht⟩:∃t,ks[j]?=some t:=⟨_,bC8 Aa⟩
   have c2:=fun h vs tb w=>ih t (aP ht) h vs (d+1) tb w (fC hoks (bDc ht))
   have hkx:=hk.mono (aA.lt hl2 hle);conv=>whnf
   repeat' ((first|(show Idx _ _ _ _ _;refine Idx.kid hkx j t Aa ht (fun ad op arg neg a b name s' hE hld=>?_))|refine hld _ _ _ (aA.lr _) ?_|((first|apply oI.z|apply cI.z))|intro (_:Nat)|(show CN _ _ _ _ _ _;(refine CN.f rfl (c2 _ _ Ae Ab) (fun v h' hl2 hr=>?_);obtain⟨op2,ar2,ng2,nn2,dd2,nm2,ss2,rfl,hE2⟩:=hr;have hK2:=hK.mono hl2))|(show App _ _ _ _ _ _ _ _ _;refine App.growK (A:=[_,_]) (F:=F1) (size:=7) (bytes:=112) (z:=[.int .i64 0,.int .i64 0,.bool false,.slice none 0 0,.slice none 0 0,.string (txt []),.slice none 0 0]) rfl rfl gF ⟨_,0,none⟩ 1 1 [_,_,_,_,_,_,_] rfl (Has.front _) rfl Ad Aa Aa Ad (fun v' F' g'=>?_))|refine WN.i64 Aa Aa ?_|refine LdN.o 0 rfl rfl ?_|refine Sto.l 0 rfl rfl rfl ?_|(apply aB<;>intro _<;>try (exfalso;omega)))<;>conv=>whnf)
   exact⟨rfl,ks.length-(j+1),Aa,j+1,_,_::_::F',_,rfl,Ac,Aa,vi Aa,rfl,rfl,(g'.cons _).cons _,by rw[bD ht,mO,cH,cH];exact KC.snoc rfl hE2 hK2⟩
 .rename_i be bz hop;have hcl:=fin false [] [] (fun x=>absurd x hop) (fun _=>⟨rfl,rfl,rfl⟩)
  refine LpN.of (fun r ρ hx L=>∃(j:Nat) (V:Value) (F1:Own) (xs:List Value),r=ks.length-j/\h.le hx/\j<=ks.length/\rd ρ 21=.int .i64 j/\rd ρ 3=V/\
    L=F1++((bz,.cells [.int .i64 0,.int .i64 0,.bool false,.slice none 0 0,.slice none 0 0,.string (txt []),.slice none 0 0].toArray Ty.api_Expr (0,0))::(be,.cells [.int .i64 op,.int .i64 arg,.bool false,.slice none 0 0,.slice none 0 0,.string (txt name),s.val].toArray Ty.api_Expr (0,0))::[])/\
    aE Ty.api_Expr 7 V j xs F1/\KC hx xs (cH (ks.take j))) ks.length
   ⟨0,_,[],[],rfl,aA.lr _,bDw _,rfl,rfl,rfl,aE.nil _ _ _,by rw[bFa,cH];rfl⟩ ?_
  conv=>whnf
  repeat intro _
  rename_i r hx L2 hI;obtain⟨j,V,F1,xs,rfl,hle,hj,e21,e3,rfl,gF,hK⟩:=hI;conv at e21=>lhs;whnf
  subst e21;conv at e3=>lhs;whnf
  subst e3;by_cases hjl:j=ks.length
  .subst hjl;rw[bDm] at hK;obtain⟨sv,rfl⟩:=gF.sl;conv=>whnf
   repeat' ((first|(show Sto _ _ _ _;first|refine Sto.tl (A:=F1) (X:=[_]) rfl rfl ?_|refine Sto.tl (A:=[]) (X:=F1) rfl rfl ?_)|(show LdN _ _ _ _ _;first|refine LdN.tl (A:=F1) (F:=[_]) rfl ?_|refine LdN.tl (A:=[]) (F:=F1) rfl ?_)|((first|apply oI.z|apply cI.z))|(apply aB<;>intro _<;>try (exfalso;omega)))<;>conv=>whnf)
   refine RN.rowA (X:=F1) gF hK (rC ks).symm fun h' s' hl hs hk'=>?_
   rw[hcl,hs];exact⟨op,arg,false,⟨none,0,0⟩,⟨none,0,0⟩,name,s',rfl,IsE.mkK ho ha Ap hb hk'⟩
  .obtain⟨t,ht⟩:∃t,ks[j]?=some t:=⟨_,bC8 Aa⟩
   have c2:=fun h vs tb w=>ih t (aP ht) h vs (d+1) tb w (fC hoks (bDc ht))
   have hkx:=hk.mono (aA.lt (aA.lr _) hle);conv=>whnf
   repeat' ((first|(show Idx _ _ _ _ _;refine Idx.kid hkx j t Aa ht (fun ad op arg neg a b name s' hE hld=>?_))|refine hld _ _ _ (aA.lr _) ?_|((first|apply oI.z|apply cI.z))|intro (_:Nat)|(show CN _ _ _ _ _ _;(refine CN.f rfl (c2 _ _ Ae Ab) (fun v h' hl2 hr=>?_);obtain⟨op2,ar2,ng2,nn2,dd2,nm2,ss2,rfl,hE2⟩:=hr;have hK2:=hK.mono hl2))|(show App _ _ _ _ _ _ _ _ _;refine App.growK (A:=[_,_]) (F:=F1) (size:=7) (bytes:=112) (z:=[.int .i64 0,.int .i64 0,.bool false,.slice none 0 0,.slice none 0 0,.string (txt []),.slice none 0 0]) rfl rfl gF ⟨_,0,none⟩ 1 1 [_,_,_,_,_,_,_] rfl (Has.front _) rfl Ad Aa Aa Ad (fun v' F' g'=>?_))|refine WN.i64 Aa Aa ?_|refine LdN.o 0 rfl rfl ?_|refine Sto.l 0 rfl rfl rfl ?_|(apply aB<;>intro _<;>try (exfalso;omega)))<;>conv=>whnf)
   exact⟨rfl,ks.length-(j+1),Aa,j+1,_,_::_::F',_,rfl,Ac,Aa,vi Aa,rfl,rfl,(g'.cons _).cons _,by rw[bD ht,mO,cH,cH];exact KC.snoc rfl hE2 hK2⟩
 -- end of the loops
def bZ:Tr:=.mk 0 0 false [] [] [] []
theorem IsE.zero(h:aA):IsE h [.int .i64 0,.int .i64 0,.bool false,.slice none 0 0,.slice none 0 0,.string (txt []),.slice none 0 0] bZ:=
 IsE.mkK (a:=⟨none,0,0⟩) (b:=⟨none,0,0⟩) (s:=⟨none,0,0⟩) Ad Ad (bJ.zero h) Ao (IsK.nil h)
theorem VE.zero(h:aA):VE h (.agg #[.int .i64 0,.int .i64 0,.bool false,.slice none 0 0,.slice none 0 0,.string (txt []),.slice none 0 0]) bZ:=
 ⟨0,0,false,⟨none,0,0⟩,⟨none,0,0⟩,[],⟨none,0,0⟩,rfl,IsE.zero h⟩
def bBo(h:aA)(v:Value)(x:Tr × Nat):Prop:=∃a,v=.tuple #[a,.int .i64 x.2]/\VE h a x.1
def qE(t:Tr):Tr × Nat:=if dN t then (iV t,0) else (bZ,4)
theorem zK(t:Tr)(h:aA)(vs:List Value)(tb:Tb h)(w:IsE h vs t):Fn0 T F.q39 [.agg vs.toArray] h fun v h'=>bBo h' v (qE t):=by
 have c1:=fun h tb w=>rB t h vs tb w
 have c2:=fun h tb w (x:dN t)=>aQ5 t h vs 1 tb w x.1
 have r1:dN t->qE t=(iV t,0):=fun x=>if_pos x
 have r2:¬dN t->qE t=(bZ,4):=fun x=>if_neg x
 obtain⟨R,hR⟩:=AB (qE t);rw[<-hR] at r1 r2 ⊢;obtain⟨⟨op,arg,neg,l,m,name,ks⟩,ht⟩:=AB t;obtain⟨a,b,s,hvs,-⟩:=(ht.symm▸w:IsE h vs (.mk op arg neg l m name ks)).isK;subst hvs;refine f0C ok D.q39 rfl ?_;conv=>whnf
 repeat' first|((first|(show CN _ _ _ _ _ _;first|(refine CN.f rfl (c1 _ Ab Ab) (fun v h' hl2 hr=>?_);subst hr)|(refine CN.f rfl (c2 _ Ae Ai Ab) (fun v h' hl2 hr=>?_);obtain⟨op2,ar2,ng2,nn2,dd2,nm2,ss2,rfl,hE2⟩:=hr))|((first|apply oI.z|apply cI.z))|intro (_:Nat)|(show LdN _ _ _ _ _;first|refine LdN.o 0 rfl rfl ?_|refine LdN.o 1 rfl rfl ?_)|refine Sto.l 0 rfl rfl rfl ?_)<;>conv=>whnf)|(show cnd _ _ _;first|(refine aJ ?_)|(apply aW<;>intro _<;>first|(exfalso;omega)|conv=>whnf))
 all_goals first
  | (rw[r1 Ab];exact RN.a ⟨_,rfl,op2,ar2,ng2,nn2,dd2,nm2,ss2,rfl,hE2⟩)
  | (rw[r2 Ab];exact RN.a ⟨_,rfl,VE.zero _⟩)
end Go.Proofs.Y