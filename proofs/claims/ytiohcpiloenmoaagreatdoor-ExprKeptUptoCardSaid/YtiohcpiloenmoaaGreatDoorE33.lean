/- The reference's side of valid trees: kinds, arguments, nodes. -/
import Derived.Test.YtiohcpiloenmoaaGreatDoorE29
set_option linter.all false
set_option maxHeartbeats 2000000
set_option maxRecDepth 20000
namespace Go.Proofs.Y
open Go Go.Vc Go.Dig
theorem aGv{lo x hi:Int}(h:lo<=x):le x hi=dec (lo<=x/\x<=hi):=by
 unfold le;rw[iX];exact decide_eq_decide.2 ⟨fun y=>⟨h,y⟩,fun y=>y.2⟩
theorem aIr(l:List Nat)(hb:∀y∈l,y<256):seq (txt l) ⟨#[]⟩=dec (l=[]):=by
 by_cases h:l=[]
 .subst h;rw[aW rfl];unfold seq;exact beq_self_eq_true _
 .rw[aG h];exact aNk fun x=>h (sD hb (fun y hy=>by cases hy) x)
theorem jE{x y:Int}:eq x y=dec (x=y):=by
 unfold eq;rw[iX]
theorem aO9(h:aA)(op:Int):Fn0 T F.q80 [.int .i64 op] h fun v h'=>h'=h/\v=.int .i64 (aV op):=by
 have k0:op=1\/op=2\/op=3->aV op=0:=fun x=>if_pos x
 have k1:op=4\/op=9\/op=10\/op=11\/op=12->aV op=1:=fun x=>by unfold aV;rw[if_neg Aa,if_pos x]
 have k2:op=5\/op=6\/op=7\/op=8\/op=13\/op=14->aV op=2:=fun x=>by unfold aV;rw[if_neg Aa,if_neg Aa,if_pos x]
 have k3:op=15->aV op=3:=fun x=>by unfold aV;rw[if_neg Aa,if_neg Aa,if_neg Aa,if_pos x]
 have k4:¬(op=1\/op=2\/op=3)->¬(op=4\/op=9\/op=10\/op=11\/op=12)->¬(op=5\/op=6\/op=7\/op=8\/op=13\/op=14)->op≠15->aV op=-1:=fun a b c d=>by unfold aV;rw[if_neg a,if_neg b,if_neg c,if_neg d]
 obtain⟨K,hK⟩:=AE (aV op);rw[<-hK] at k0 k1 k2 k3 k4 ⊢;replace k0:=Hq.mk k0;replace k1:=Hq.mk k1;replace k2:=Hq.mk k2;replace k3:=Hq.mk k3;replace k4:=Hq.mk k4;refine f0C ok D.q80 rfl ?_;conv=>whnf
 repeat' ((first|(apply aO.go)|((first|apply oI.z|apply cI.z))|(apply aD<;>intro _<;>try (exfalso;omega)))<;>conv=>whnf)
 all_goals first
  | exact RN.a ⟨rfl,by rw[k0.out Aa]⟩
  | exact RN.a ⟨rfl,by rw[k1.out Aa]⟩
  | exact RN.a ⟨rfl,by rw[k2.out Aa]⟩
  | exact RN.a ⟨rfl,by rw[k3.out Aa]⟩
  | exact RN.a ⟨rfl,by rw[k4.out Aa Aa Aa Aa]⟩
theorem aTb(h:aA)(op arg:Int)(neg:Bool)(a b s:Sl)(name:ByteArray):
  Fn0 T F.q81 [.agg #[.int .i64 op,.int .i64 arg,.bool neg,a.val,b.val,.string name,s.val]] h fun v h'=>v=.bool (dec (jO op<=arg/\arg<=fJ op)):=by
 obtain⟨R,hR⟩:=AE (dec (jO op<=arg/\arg<=fJ op));have l9:op=9->R=(dec (-32<=arg/\arg<=32)):=fun x=>by rw[hR,x];exact cA Iff.rfl
 have l10:op=10->R=(dec (2<=arg/\arg<=8)):=fun x=>by rw[hR,x];exact cA Iff.rfl
 have l11:op=11->R=(dec (1<=arg/\arg<=8)):=fun x=>by rw[hR,x];exact cA Iff.rfl
 have l0:op≠9->op≠10->op≠11->R=dec (arg=0):=fun x y z=>by
  rw[hR,jO,fJ,if_neg x,if_neg y,if_neg z,if_neg x,if_neg y,if_neg z];exact cA ⟨fun u=>by omega,fun u=>by omega⟩
 rw[<-hR];clear hR;replace l9:=Hq.mk l9;replace l10:=Hq.mk l10;replace l11:=Hq.mk l11;replace l0:=Hq.mk l0;refine f0C ok D.q81 rfl ?_;conv=>whnf
 repeat' first|((first|((first|apply oI.z|apply cI.z))|intro (_:Nat)|refine Ld.o 0 rfl rfl ?_)<;>conv=>whnf)|(show cnd _ _ _;first|((first|apply bH|apply aD)<;>intro _<;>first|(exfalso;omega)|conv=>whnf))
 all_goals first
  | (refine RN.a ?_;rw[l9.out Aa];first|exact congrArg Value.bool (aGv Aa)|(rw[aG (fun u=>by omega)];done))
  | (refine RN.a ?_;rw[l10.out Aa];first|exact congrArg Value.bool (aGv Aa)|(rw[aG (fun u=>by omega)];done))
  | (refine RN.a ?_;rw[l11.out Aa];first|exact congrArg Value.bool (aGv Aa)|(rw[aG (fun u=>by omega)];done))
  | (refine RN.a ?_;rw[l0.out Aa Aa Aa];exact congrArg Value.bool jE)
theorem aPa(h:aA)(neg:Bool)(a b:Sl)(l m:List Nat)(hv:aY h a b l m):Fn0 T F.q83 [.agg #[.bool neg,a.val,b.val]] h fun v h'=>v=.bool (dec (evl 4294967296 l=0)):=by
 have i1:=hv.num;have l1:=hv.ln;have l3:=hv.sn;obtain⟨x,hx⟩:=AE (evl 4294967296 l);have hz:=aT (b:=65536) (n:=x) Aa;rw[<-hx];refine f0C ok D.q83 rfl ?_;conv=>whnf
 repeat' ((first|(show CN _ _ _ _ _ _;(refine CN.f rfl (pH _ _ l Ab l1 Aa) (fun v h' hl hr=>?_);rw[<-hx] at hr;obtain⟨s',rfl,hs'⟩:=hr;have hxl:=hs'.len))|((first|apply oI.z|apply cI.z))|intro (_:Nat)|refine Ld.o 0 rfl rfl ?_)<;>conv=>whnf)
 refine RN.a ?_
 congr 1
 unfold eq;rw[iX];refine decide_eq_decide.2 ?_;rw[<-hz,hxl];omega
theorem aPb(h:aA)(op arg:Int)(neg:Bool)(a b:Sl)(l m name:List Nat)(s:Sl)(n:Nat)(hv:aY h a b l m)(hb:∀y∈name,y<256)(hs:s.l=n):
  Fn0 T F.q41 [.agg #[.int .i64 op,.int .i64 arg,.bool neg,a.val,b.val,.string (txt name),s.val]] h fun v h'=>v=.bool (dec (dW op arg neg l m name n)):=by
 obtain⟨DD,hD⟩:=AE (dec (dW op arg neg l m name n));obtain⟨KN,hK⟩:=AE (aV op);obtain⟨LO,hL⟩:=AE (jO op);obtain⟨HI,hH⟩:=AE (fJ op);have n1:(n:Int)≠KN->DD=false:=fun x=>by rw[hD];exact aG fun y=>x (by rw[hK];exact y.1)
 have n2:¬(LO<=arg/\arg<=HI)->DD=false:=fun x=>by rw[hD];exact aG fun y=>x (by rw[hL,hH];exact⟨y.2.1,y.2.2.1⟩)
 have ar:LO<=arg/\arg<=HI->jO op<=arg/\arg<=fJ op:=fun x=>by rw[hL,hH] at x;exact x
 have p1:(n:Int)=KN->LO<=arg/\arg<=HI->op=1->DD=dec (okR neg l m/\0<=aK neg l m/\name=[]):=fun x y z=>by
  rw[hD];refine cA ⟨fun q=>?_,fun q=>⟨Aa,(ar y).1,(ar y).2,?_,?_⟩⟩
  .have q1:=q.2.2.2.1;have q2:=q.2.2.2.2;rw[if_neg Aa] at q1;rw[if_pos z] at q2;exact⟨q2.1,q2.2,q1⟩
  .rw[if_neg Aa];exact q.2.2
  .rw[if_pos z];exact⟨q.1,q.2.1⟩
 have p2:(n:Int)=KN->LO<=arg/\arg<=HI->op≠1->¬evl 4294967296 l=0->DD=false:=fun x y z u=>by
  rw[hD];exact aG fun q=>u (by have:=q.2.2.2.2;rw[if_neg z] at this;exact this)
 have p3:(n:Int)=KN->LO<=arg/\arg<=HI->op=2->evl 4294967296 l=0->DD=dec (dH name):=fun x y z u=>by
  rw[hD];refine cA ⟨fun q=>?_,fun q=>⟨Aa,(ar y).1,(ar y).2,?_,?_⟩⟩
  .have:=q.2.2.2.1;rw[if_pos z] at this;exact this
  .rw[if_pos z];exact q
  .rw[if_neg Aa];exact u
 have p4:(n:Int)=KN->LO<=arg/\arg<=HI->op≠1->op≠2->evl 4294967296 l=0->DD=dec (name=[]):=fun x y z t u=>by
  rw[hD];refine cA ⟨fun q=>?_,fun q=>⟨Aa,(ar y).1,(ar y).2,?_,?_⟩⟩
  .have:=q.2.2.2.1;rw[if_neg t] at this;exact this
  .rw[if_neg t];exact q
  .rw[if_neg z];exact u
 have c0:=fun h=>aO9 h op
 have c1:=fun h=>aTb h op arg neg a b s (txt name)
 rw[<-hK] at c0;rw[<-hL,<-hH] at c1;rw[<-hD];clear hD hK hL hH ar;have lsg:=vL (aK neg l m);have hsz:=(aDr (neg:=neg) hv).mono (show 2147483649<=1099511627776 by decide)
 have c2:=fun h hv=>aM3 h neg a b l m hv
 have c3:=fun h hv=>tT h neg a b l m hv
 have c4:=fun h hv=>aPa h neg a b l m hv
 have c5:=fun h=>aD0 h name hb
 obtain⟨q,hq⟩:=AE (aK neg l m);obtain⟨OK,hOK⟩:=AE (okR neg l m);obtain⟨Z,hZ⟩:=AE (evl 4294967296 l=0);rw[<-hq] at p1 lsg hsz c3;have sg1:0<=bY q↔0<=q:=by
  have x:=lsg;unfold le at x;rw[iX] at x;exact decide_eq_decide.1 x
 replace sg1:=Hq.mk sg1;replace n1:=Hq.mk n1;replace n2:=Hq.mk n2;replace p1:=Hq.mk p1;replace p2:=Hq.mk p2;replace p3:=Hq.mk p3;replace p4:=Hq.mk p4;refine f0C ok D.q41 rfl ?_;conv=>whnf
 repeat' first|((first|(show DrN _ _ _ _ _ _;refine DrN.each Al ?_)|(show CN _ _ _ _ _ _;first|refine CN.quiet rfl (c0 _) ?_|(refine CN.f rfl (c1 _) (fun v h' hl2 hr=>?_);subst hr)|(refine CN.f rfl (c2 _ Ao) (fun v h' hl2 hr=>?_);subst hr)|(refine CN.f rfl (c3 _ Ao) (fun v h' hl2 hr=>?_);obtain⟨a',b',rfl,hq'⟩:=hr)|refine CN.quiet rfl (aM2 _ _ _ q Ab hsz) ?_|(refine CN.f rfl (c4 _ Ao) (fun v h' hl2 hr=>?_);subst hr)|(refine CN.f rfl (c5 _) (fun v h' hl2 hr=>?_);subst hr))|(show LdN _ _ _ _ _;(first|refine LdN.o 0 rfl rfl ?_|refine LdN.oA 0 rfl rfl ?_))|((first|apply oI.z|apply cI.z))|refine⟨fun _=>aF.o (aA.lr _),?_⟩|refine⟨fun _=>aF.o Ab,?_⟩|intro (_:Nat)|refine Ld.o 0 rfl rfl ?_)<;>conv=>whnf)|(show cnd _ _ _;first|((first|apply bH|apply aD)<;>intro _<;>first|(exfalso;omega)|conv=>whnf)|(refine aI ?_)|(apply aN<;>intro _<;>first|(exfalso;omega)|conv=>whnf))|(refine kM.mk ?_ ?_<;>(conv=>whnf))
 all_goals first
  | (rw[n1.out Aa];exact RN.a rfl)
  | (rw[n2.out Ab];exact RN.a rfl)
  | (rw[p2.out Aa Ab Aa Ab];exact RN.a rfl)
  | (rw[p3.out Aa Ab Aa Ab];exact RN.a rfl)
  | (rw[p4.out Aa Ab Aa Aa Ab];exact RN.a (congrArg Value.bool (aIr name hb)))
  | (rw[p1.out Aa Ab Aa,aG (fun u=>absurd u.1 Ab)];exact RN.a rfl)
  | (rw[p1.out Aa Ab Aa,aG (fun u=>by have:=sg1.out.2 u.2.1;omega)];exact RN.a rfl)
  | (rw[p1.out Aa Ab Aa,cA (q:=name=[]) (Iff.intro (fun u=>u.2.2) (fun u=>And.intro Ab (And.intro (sg1.out.1 Aa) u)))];exact RN.a (congrArg Value.bool (aIr name hb)))
  | skip
end Go.Proofs.Y
/- The reference's walk over a tree, and Valid. -/
namespace Go.Proofs.Y
open Go Go.Vc Go.Dig
def oW(d n:Nat)(t:Tr):Int:=if okT d t/\szT t<=n then (n:Int)-(szT t:Nat) else -1
theorem xR(d n:Nat)(t:Tr):oW d n t<0↔¬(okT d t/\szT t<=n):=by
 unfold oW
 split
 .rename_i x;exact⟨fun y=>by have:=x.2;omega,fun y=>absurd x y⟩
 .rename_i x;exact⟨fun _=>x,fun _=>by omega⟩
theorem aPc:∀t:Tr,∀(h:aA) (vs:List Value) (d n:Nat),IsE h vs t->n<=300->d<=1000->Fn0 T F.q19 [.agg vs.toArray,.int .i64 d,.int .i64 n] h fun v h'=>v=.int .i64 (oW d n t):=by
 refine dX fun t ih=>?_
 intro h vs d n w hn hd;obtain⟨op,arg,neg,l,m,name,ks⟩:=t;obtain⟨a,b,s,rfl,ho,ha,hv,hb,hk⟩:=w.isK;have c1:=fun h hv=>aPb h op arg neg a b l m name s ks.length hv hb hk.len
 have f1:n=0->oW d n (.mk op arg neg l m name ks)=-1:=fun x=>if_neg fun y=>by
  have:=y.2;rw[szT] at this;omega
 have f2:d>30->oW d n (.mk op arg neg l m name ks)=-1:=fun x=>if_neg fun y=>by
  have:=y.1;rw[okT] at this;omega
 have f3:¬dW op arg neg l m name ks.length->oW d n (.mk op arg neg l m name ks)=-1:=fun x=>if_neg fun y=>by
  have:=y.1;rw[okT] at this;exact x this.2.1
 have f4:∀j c t,ks[j]?=some t->c+1+dA (ks.take j)=n->oW (d+1) c t<0->oW d n (.mk op arg neg l m name ks)=-1:=fun j c t ht hc x=>if_neg fun y=>by
  obtain⟨y1,y2⟩:=y;rw[okT] at y1;rw[szT] at y2;have e:=kU ht;rw[e,iP,dA] at y2;have z:=y1.2.2;rw[e,kE,bZ] at z;exact (xR _ _ _).1 x ⟨z.2.1,Aa⟩
 have f5:d<=30->dW op arg neg l m name ks.length->bZ (d+1) ks->∀c,c+1+dA ks=n->oW d n (.mk op arg neg l m name ks)=c:=fun x y z c u=>by
  unfold oW;rw[if_pos (show okT d (.mk op arg neg l m name ks)/\szT (.mk op arg neg l m name ks)<=n from ⟨by rw[okT];exact⟨x,y,z⟩,by rw[szT];omega⟩),szT];omega
 obtain⟨R,hR⟩:=AE (oW d n (.mk op arg neg l m name ks));rw[<-hR] at f1 f2 f3 f4 f5 ⊢;have hkl:=hk.len;refine f0C ok D.q19 rfl ?_;conv=>whnf
 repeat' first|((first|(show CN _ _ _ _ _ _;(refine CN.f rfl (c1 _ Ab) (fun v h' hl2 hr=>?_);subst hr))|((first|apply oI.z|apply cI.z))|intro (_:Nat)|refine WN.i64 Aa Aa ?_|refine LdN.o 0 rfl rfl ?_)<;>conv=>whnf)|(show cnd _ _ _;first|((first|apply aB|apply bH)<;>intro _<;>first|(exfalso;omega)|conv=>whnf)|(refine aI ?_)|(apply aN<;>intro _<;>first|(exfalso;omega)|conv=>whnf))
 .rw[f2 Aa];exact RN.a rfl
 .rw[f1 Aa];exact RN.a rfl
 .rename_i be x1 x2 x3;have hd30:d<=30:=Aa;have hNBt:dW op arg neg l m name ks.length:=Ab;replace f5:=f5 hd30 hNBt;have hks:ks.length<=3:=by
   have h1:=hNBt.1;have h2:=cR op;omega
  clear f1 f2 f3;have hle0:h.le h':=Ab;refine LpN.of (fun r ρ hx L=>∃(j c:Nat),r=ks.length-j/\h.le hx/\j<=ks.length/\rd ρ 7=.int .i64 j/\rd ρ 2=.int .i64 c/\
      L=[(be,.cells [.int .i64 op,.int .i64 arg,.bool neg,a.val,b.val,.string (txt name),s.val].toArray Ty.api_Expr (0,0))]/\c<=300/\c+1+dA (ks.take j)=n/\Hq (bZ (d+1) (ks.take j))) ks.length
   ⟨0,n-1,rfl,hle0,aZs _,rfl,vi Aa,rfl,Aa,by rw[bAt,dA];omega,⟨by rw[bAt,bZ];trivial⟩⟩ ?_
  conv=>whnf
  repeat intro _
  rename_i r hx L2 hI;obtain⟨j,c,rfl,hle,hj,e7,e2,rfl,hc3,hc,hq⟩:=hI;conv at e7=>lhs;whnf
  subst e7;conv at e2=>lhs;whnf
  subst e2;by_cases hjl:j=ks.length
  .subst hjl;rw[aZi] at hc hq;rw[f5 hq.out c hc];conv=>whnf
   repeat' ((first|((first|apply oI.z|apply cI.z))|refine Ld.o 0 rfl rfl ?_|(apply aB<;>intro _<;>try (exfalso;omega)))<;>conv=>whnf)
   exact RN.a rfl
  .obtain⟨t,ht⟩:∃t,ks[j]?=some t:=⟨_,aY4 Aa⟩
   have c2:=fun h vs w=>ih t (bM ht) h vs (d+1) c w hc3 Aa
   have f4:=f4 j c t ht hc;have hc4:¬oW (d+1) c t<0->bZ (d+1) (ks.take (j+1))/\∃c':Nat,oW (d+1) c t=c'/\c'<=300/\c'+1+dA (ks.take (j+1))=n:=fun x=>by
    have y:okT (d+1) t/\szT t<=c:=Decidable.not_not.1 fun z=>x ((xR _ _ _).2 z)
    rw[bB ht,kE,iP,bZ,dA,dA,bZ];refine⟨⟨hq.out,y.1,trivial⟩,c-szT t,?_,Aa,Aa⟩;unfold oW;rw[if_pos y];omega
   obtain⟨C,hC⟩:=AE (oW (d+1) c t);rw[<-hC] at c2 f4 hc4;replace hc4:=Hq.mk hc4;have hkx:=hk.mono hle;conv=>whnf
   repeat' ((first|(show Idx _ _ _ _ _;refine Idx.kid hkx j t Aa ht (fun ad op2 arg2 neg2 a2 b2 name2 s2 hE hld=>?_))|refine hld _ _ _ (aA.lr _) ?_|((first|apply oI.z|apply cI.z))|(show CN _ _ _ _ _ _;(refine CN.f rfl (c2 _ _ Ab) (fun v h' hl2 hr=>?_);subst hr))|refine WN.i64 Aa Aa ?_|refine Ld.o 0 rfl rfl ?_|(apply aB<;>intro _<;>try (exfalso;omega)))<;>conv=>whnf)
   .rw[f4 Aa];exact RN.a rfl
   .obtain⟨x1,c',x2,x3,x4⟩:=hc4.out Aa;exact⟨rfl,ks.length-(j+1),Aa,j+1,c',rfl,Ac,Aa,vi Aa,vi Aa,rfl,x3,x4,⟨x1⟩⟩
 .rw[f3 Ab];exact RN.a rfl
theorem aPd(t:Tr):0<=oW 1 300 t↔aS t:=by
 have:=xR 1 300 t;unfold aS;constructor
 .intro x;exact Decidable.not_not.1 fun z=>by have:=this.2 z;omega
 .intro x;have:¬oW 1 300 t<0:=fun y=>this.1 y x
  omega
theorem aKw(t:Tr)(h:aA)(vs:List Value)(w:IsE h vs t):Fn0 T F.q4 [.agg vs.toArray] h fun v h'=>v=.bool (dec (aS t)):=by
 have hv:=aPd t;have c1:=fun h w=>aPc t h vs 1 300 w Aa Aa
 obtain⟨C,hC⟩:=AE (oW 1 300 t);rw[<-hC] at c1 hv;obtain⟨⟨op,arg,neg,l,m,name,ks⟩,ht⟩:=AE t;obtain⟨a,b,s,hvs,-⟩:=(ht.symm▸w:IsE h vs (.mk op arg neg l m name ks)).isK;subst hvs;refine f0C ok D.q4 rfl ?_;conv=>whnf
 repeat' ((first|(show CN _ _ _ _ _ _;(refine CN.f rfl (c1 _ Ab) (fun v h' hl2 hr=>?_);subst hr))|((first|apply oI.z|apply cI.z))|intro (_:Nat)|refine LdN.o 0 rfl rfl ?_)<;>conv=>whnf)
 refine RN.a ?_
 congr 1
 unfold le;rw[iX];refine decide_eq_decide.2 ?_;rw[<-hv]
end Go.Proofs.Y
/- Equal trees: plain; the reference's Same, the program's equal. -/
namespace Go.Proofs.Y
open Go Go.Vc Go.Dig
mutual
def jF:Tr->Tr->Bool
 | .mk op arg neg l m name ks,.mk op' arg' neg' l' m' name' ks'=>decide (op=op'/\arg=arg'/\name=name'/\aK neg l m=aK neg' l' m') && gL ks ks'
def gL:List Tr->List Tr->Bool
 | [],[]=>true
 | [],_::_=>false
 | _::_,[]=>false
 | t::ts,u::us=>jF t u && gL ts us
end
theorem xS:∀{a b:List Tr},gL a b=true->a.length=b.length
 | [],[],_=>rfl
 | [],_::_,h=>by rw[gL] at h;cases h
 | _::_,[],h=>by rw[gL] at h;cases h
 | t::ts,u::us,h=>by
  rw[gL,bBa] at h;rw[aY6,aY6,xS h.2]
theorem xT:∀{a b:List Tr} {j:Nat} {t u:Tr},a[j]?=some t->b[j]?=some u->jF t u=false->gL a b=false
 | [],_,_,_,_,h,_,_=>by simp at h
 | _::_,[],_,_,_,_,h,_=>by simp at h
 | x::xs,y::ys,0,t,u,h1,h2,h=>by
  simp at h1 h2;subst h1 h2;rw[gL,h,Bool.false_and]
 | x::xs,y::ys,j+1,t,u,h1,h2,h=>by
  rw[gL,xT (a:=xs) (b:=ys) (j:=j) (by simpa using h1) (by simpa using h2) h,Bool.and_false]
theorem xU:∀{a b:List Tr},a.length=b.length->(∀(j:Nat) t u,a[j]?=some t->b[j]?=some u->jF t u=true)->gL a b=true
 | [],[],_,_=>by rw[gL]
 | [],_::_,h,_=>by simp at h
 | _::_,[],h,_=>by simp at h
 | t::ts,u::us,h,g=>by
  rw[gL,g 0 t u rfl rfl,Bool.true_and];exact xU (by simpa using h) fun j t u h1 h2=>g (j+1) t u (by simpa using h1) (by simpa using h2)
theorem aKx{neg:Bool}{l m:List Nat}(h:evl 4294967296 l=0):aK neg l m=0:=by
 unfold aK;rw[h,wS]
theorem aIs{op arg:Int}{neg:Bool}{l m name:List Nat}{n:Nat}(h:dW op arg neg l m name n):Sz 64 (aK neg l m):=by
 have h4:=h.2.2.2.2;by_cases ho:op=1
 .rw[if_pos ho] at h4;exact okR.sz h4.1
 .rw[if_neg ho] at h4;rw[aKx h4];exact aHy 63
theorem kH{d:Nat}:∀{ts:List Tr} {j:Nat} {t:Tr},bZ d ts->ts[j]?=some t->okT d t
 | u::ts,0,t,h,e=>by
  rw[bZ] at h;simp at e;subst e;exact h.1
 | u::ts,j+1,t,h,e=>by
  rw[bZ] at h;exact kH h.2 (by simpa using e)
 | [],j,t,_,e=>by simp at e
theorem aPe(h:aA)(n1:Bool)(a1 b1:Sl)(l1 m1:List Nat)(n2:Bool)(a2 b2:Sl)(l2 m2:List Nat)(hv1:aY h a1 b1 l1 m1)(hv2:aY h a2 b2 l2 m2)(z1:Sz 64 (aK n1 l1 m1))(z2:Sz 64 (aK n2 l2 m2)):
  Fn0 T F.q18 [.agg #[.bool n1,a1.val,b1.val],.agg #[.bool n2,a2.val,b2.val]] h fun v h'=>v=.bool (dec (aK n1 l1 m1=aK n2 l2 m2)):=by
 have c1:=fun h hv1=>tT h n1 a1 b1 l1 m1 hv1
 have c2:=fun h hv2=>tT h n2 a2 b2 l2 m2 hv2
 obtain⟨q,hq⟩:=AE (aK n1 l1 m1);obtain⟨r,hr⟩:=AE (aK n2 l2 m2);rw[<-hq] at c1 z1 ⊢;rw[<-hr] at c2 z2 ⊢;have y1:Sr 65536 q:=(Sr.of z1).mono Ag;have y2:Sr 65536 r:=(Sr.of z2).mono Ag;have e:=aBn (q:=q) (r:=r);refine f0C ok D.q18 rfl ?_;conv=>whnf
 repeat' first|((first|(show DrN _ _ _ _ _ _;refine DrN.each Al ?_)|(show CN _ _ _ _ _ _;first|(refine CN.f rfl (c1 _ Ab) (fun v h' hl hr=>?_);obtain⟨x1,x2,rfl,g1⟩:=hr)|(refine CN.f rfl (c2 _ Ao) (fun v h' hl hr=>?_);obtain⟨x3,x4,rfl,g2⟩:=hr)|(refine CN.f rfl (aRq _ _ _ _ _ q r (by (iterate 30 try first|assumption|refine IsQ.mono ?_ Ab);first|done|assumption) Ab y1 y2) (fun v h' hl hr=>?_);subst hr))|((first|apply oI.z|apply cI.z))|refine⟨fun _=>aF.o (aA.lr _),?_⟩|refine⟨fun _=>aF.o Ab,?_⟩|intro (_:Nat)|(show LdN _ _ _ _ _;first|refine LdN.o 0 rfl rfl ?_|refine LdN.o 1 rfl rfl ?_))<;>conv=>whnf)|(refine kM.mk ?_ ?_<;>(conv=>whnf))
 all_goals exact RN.a (by congr 1;unfold eq;rw[iX];exact decide_eq_decide.2 e)
theorem aTc:∀t:Tr,∀(u:Tr) (h:aA) (vs us:List Value) (d d':Nat),IsE h vs t->IsE h us u->okT d t->okT d' u->Fn0 T F.q17 [.agg vs.toArray,.agg us.toArray] h fun v h'=>v=.bool (jF t u):=by
 refine dX fun t ih=>?_
 intro u h vs us d d' w w' ht hu;obtain⟨op,arg,neg,l,m,name,ks⟩:=t;obtain⟨op1,arg1,neg1,l1,m1,name1,ks1⟩:=u;obtain⟨a,b,s,rfl,ho,ha,hv,hb,hk⟩:=w.isK;obtain⟨a1,b1,s1,rfl,ho1,ha1,hv1,hb1,hk1⟩:=w'.isK;rw[okT] at ht hu;obtain⟨-,hn,hoks⟩:=ht;obtain⟨-,hn1,hoks1⟩:=hu;have c1:=fun h hv hv1=>aPe h neg a b l m neg1 a1 b1 l1 m1 hv hv1 (aIs hn) (aIs hn1)
 have hks:ks.length<=3:=by
  have h1:=hn.1;have h2:=cR op;omega
 have hkl:=hk.len;have hkl1:=hk1.len;have f0:¬(op=op1/\arg=arg1/\name=name1/\aK neg l m=aK neg1 l1 m1)->jF (.mk op arg neg l m name ks) (.mk op1 arg1 neg1 l1 m1 name1 ks1)=false:=fun x=>by rw[jF,decide_eq_false x,Bool.false_and]
 have g1:=fun (x:¬op=op1)=>f0 fun y=>x y.1
 have g2:=fun (x:¬arg=arg1)=>f0 fun y=>x y.2.1
 have g3:=fun (x:¬name=name1)=>f0 fun y=>x y.2.2.1
 have g4:=fun (x:¬aK neg l m=aK neg1 l1 m1)=>f0 fun y=>x y.2.2.2
 have f2:¬ks.length=ks1.length->jF (.mk op arg neg l m name ks) (.mk op1 arg1 neg1 l1 m1 name1 ks1)=false:=fun x=>by
  rw[jF,Bool.and_eq_false_iff];right;cases e:gL ks ks1 with
  | false=>rfl
  | true=>exact absurd (xS e) x
 have f3:∀(j:Nat) t u,ks[j]?=some t->ks1[j]?=some u->jF t u=false->jF (.mk op arg neg l m name ks) (.mk op1 arg1 neg1 l1 m1 name1 ks1)=false:=fun j t u a b c=>by rw[jF,xT a b c,Bool.and_false]
 have f4:op=op1->arg=arg1->name=name1->aK neg l m=aK neg1 l1 m1->ks.length=ks1.length->(∀(j:Nat) t u,ks[j]?=some t->ks1[j]?=some u->jF t u=true)->jF (.mk op arg neg l m name ks) (.mk op1 arg1 neg1 l1 m1 name1 ks1)=true:=fun a b c d e f=>by
  rw[jF,decide_eq_true ⟨a,b,c,d⟩,xU e f];rfl
 obtain⟨R,hR⟩:=AE (jF (.mk op arg neg l m name ks) (.mk op1 arg1 neg1 l1 m1 name1 ks1));rw[<-hR] at g1 g2 g3 g4 f2 f3 f4 ⊢;clear f0 hR;obtain⟨q,hq⟩:=AE (aK neg l m);obtain⟨q1,hq1⟩:=AE (aK neg1 l1 m1);rw[<-hq,<-hq1] at c1 g4 f4;refine f0C ok D.q17 rfl ?_;conv=>whnf
 repeat' first|((first|(show LdN _ _ _ _ _;first|refine LdN.oA 0 rfl rfl ?_|refine LdN.oA 1 rfl rfl ?_)|(show CN _ _ _ _ _ _;(refine CN.f rfl (c1 _ Ab Ab) (fun v h' hl hr=>?_);subst hr))|((first|apply oI.z|apply cI.z))|intro (_:Nat)|(show Ld _ _ _ _;first|refine Ld.o 0 rfl rfl ?_|refine Ld.o 1 rfl rfl ?_))<;>conv=>whnf)|(show cnd _ _ _;first|(refine jV hb hb1 (fun _=>?_) (fun _=>?_)<;>(conv=>whnf))|(apply aD<;>intro _<;>first|(exfalso;omega)|conv=>whnf)|(refine aI ?_)|(apply aN<;>intro _<;>first|(exfalso;omega)|conv=>whnf))
 all_goals try first
  | (refine RN.a ?_;rw[g1 Ab];done)
  | (refine RN.a ?_;rw[g2 Ab];done)
  | (refine RN.a ?_;rw[g3 Ab];done)
  | (refine RN.a ?_;rw[g4 Ab];done)
  | (refine RN.a ?_;rw[f2 Aa];done)
 rename_i be bf o1 o2 o3 o4 o5;replace f4:=f4 Ab Ab Ab Ab Aa;have hle0:h.le h':=Ab;have hkk:ks.length=ks1.length:=Aa;clear g1 g2 g3 g4 f2 c1;refine LpN.of (fun r ρ hx L=>∃j:Nat,r=ks.length-j/\h.le hx/\j<=ks.length/\rd ρ 5=.int .i64 j/\
     L=[(bf,.cells [.int .i64 op1,.int .i64 arg1,.bool neg1,a1.val,b1.val,.string (txt name1),s1.val].toArray Ty.api_Expr (0,0)),(be,.cells [.int .i64 op,.int .i64 arg,.bool neg,a.val,b.val,.string (txt name),s.val].toArray Ty.api_Expr (0,0))]/\
     Hq (∀(i:Nat) t u,i<j->ks[i]?=some t->ks1[i]?=some u->jF t u=true)) ks.length
  ⟨0,rfl,hle0,aZs _,rfl,rfl,⟨fun i t u x=>absurd x (Nat.not_lt_zero _)⟩⟩ ?_
 conv=>whnf
 repeat intro _
 rename_i r hx L2 hI;obtain⟨j,rfl,hle,hj,e5,rfl,hq⟩:=hI;conv at e5=>lhs;whnf
 subst e5;by_cases hjl:j=ks.length
 .subst hjl;rw[f4 fun j t u x y=>hq.out j t u (aY5.1 x).1 x y]
  conv=>whnf
  repeat' ((first|((first|apply oI.z|apply cI.z))|refine Ld.o 1 rfl rfl ?_|(apply aB<;>intro _<;>try (exfalso;omega)))<;>conv=>whnf)
  exact RN.a rfl
 .obtain⟨t,ht⟩:∃t,ks[j]?=some t:=⟨_,aY4 Aa⟩
  obtain⟨u,hu⟩:∃t,ks1[j]?=some t:=⟨_,aY4 Aa⟩
  have c2:=fun h vs us w w'=>ih t (bM ht) u h vs us (d+1) (d'+1) w w' (kH hoks ht) (kH hoks1 hu)
  have f3:=f3 j t u ht hu;obtain⟨C,hC⟩:=AE (jF t u);rw[<-hC] at c2 f3;have hkx:=hk.mono hle;have hkx1:=hk1.mono hle;conv=>whnf
  repeat' first|((first|(show Idx _ _ _ _ _;first|refine Idx.kid hkx j t Aa ht (fun ad op2 arg2 neg2 a2 b2 name2 s2 hE hld=>?_)|refine Idx.kid hkx1 j u Aa hu (fun ad3 op3 arg3 neg3 a3 b3 name3 s3 hE3 hld3=>?_))|refine hld _ _ _ (aA.lr _) ?_|refine hld3 _ _ _ (aA.lr _) ?_|((first|apply oI.z|apply cI.z))|refine⟨fun _=>aF.o Ab,?_⟩|(show CN _ _ _ _ _ _;(refine CN.f rfl (c2 _ _ _ Ab Ab) (fun v h' hl2 hr=>?_);subst hr))|refine WN.i64 Aa Aa ?_|(show Ld _ _ _ _;first|refine Ld.o 0 rfl rfl ?_|refine Ld.o 1 rfl rfl ?_)|refine DrN.run Al ?_)<;>conv=>whnf)|(show cnd _ _ _;first|(apply aB<;>intro _<;>first|(exfalso;omega)|conv=>whnf)|(refine aI ?_)|(refine bQ (fun hb=>?_) (fun hb=>?_)<;>(first|cases hb|subst hb)<;>(conv=>whnf)))
  .exact⟨rfl,ks.length-(j+1),Aa,j+1,rfl,Ac,Aa,vi Aa,rfl,⟨fun i t' u' x y z=>by
     rcases Nat.lt_succ_iff_lt_or_eq.1 x with x|rfl
     .exact hq.out i t' u' x y z
     .rw[ht] at y;rw[hu] at z;cases y;cases z;rw[<-hC]⟩⟩
  .rw[f3 rfl];exact RN.a rfl
attribute [local irreducible] Vc.Fn
end Go.Proofs.Y
/- Trees with numbers (pR): equal trees have equal pR; copies keep them; nodes replaced. -/
namespace Go.Proofs.Y
open Go Go.Vc Go.Dig
inductive Kt where
 | mk (op arg:Int) (q:Rat) (name:List Nat) (kids:List Kt)
mutual
def key:Tr->Kt
 | .mk op arg neg l m name ks=>.mk op arg (aK neg l m) name (pR ks)
def pR:List Tr->List Kt
 | []=>[]
 | t::ts=>key t::pR ts
end
mutual
theorem aAl:∀{t u:Tr},jF t u=true↔key t=key u
 | .mk op arg neg l m name ks,.mk op' arg' neg' l' m' name' ks'=>by
  rw[jF,key,key,bBa,decide_eq_true_eq,uS,Kt.mk.injEq];constructor
  .rintro⟨⟨a,b,c,d⟩,e⟩;exact⟨a,b,d,c,e⟩
  .rintro⟨a,b,d,c,e⟩;exact⟨⟨a,b,c,d⟩,e⟩
theorem uS:∀{a b:List Tr},gL a b=true↔pR a=pR b
 | [],[]=>by rw[gL,pR];exact⟨fun _=>rfl,fun _=>rfl⟩
 | [],_::_=>by rw[gL,pR,pR];exact⟨fun h=>(by cases h),fun h=>(by cases h)⟩
 | _::_,[]=>by rw[gL,pR,pR];exact⟨fun h=>(by cases h),fun h=>(by cases h)⟩
 | t::ts,u::us=>by rw[gL,pR,pR,bBa,aAl,uS,List.cons.injEq]
end

mutual
def jJ(g:Tr->Option Tr):Tr->Tr
 | .mk op arg neg l m name ks=>match g (.mk op arg neg l m name ks) with
  | some u=>u
  | none=>.mk op arg neg l m name (dK g ks)
def dK(g:Tr->Option Tr):List Tr->List Tr
 | []=>[]
 | t::ts=>jJ g t::dK g ts
end
theorem oG(g:Tr->Option Tr):∀(a b:List Tr),dK g (a++b)=dK g a++dK g b
 | [],b=>by rw[dK];rfl
 | t::a,b=>by rw[bAk,dK,dK,oG g a b];rfl
theorem qO(g:Tr->Option Tr):∀a:List Tr,(dK g a).length=a.length
 | []=>by rw[dK]
 | t::a=>by rw[dK,aY6,aY6,qO g a]
theorem kV{g:Tr->Option Tr}{t u:Tr}(h:g t=some u):jJ g t=u:=by
 obtain⟨op,arg,neg,l,m,name,ks⟩:=t;rw[jJ,h]
theorem jQ{g:Tr->Option Tr}{op arg:Int}{neg:Bool}{l m name:List Nat}{ks:List Tr}(h:g (.mk op arg neg l m name ks)=none):jJ g (.mk op arg neg l m name ks)=.mk op arg neg l m name (dK g ks):=by
 rw[jJ,h]
mutual
def okG:Tr->Prop
 | .mk op arg neg l m name ks=>dW op arg neg l m name ks.length/\dN ks
def dN:List Tr->Prop
 | []=>True
 | t::ts=>okG t/\dN ts
end
mutual
theorem xV:∀{d:Nat} {t:Tr},okT d t->okG t
 | d,.mk op arg neg l m name ks,h=>by
  rw[okT] at h;rw[okG];exact⟨h.2.1,aIt h.2.2⟩
theorem aIt:∀{d:Nat} {ts:List Tr},bZ d ts->dN ts
 | _,[],_=>by rw[dN];trivial
 | d,t::ts,h=>by
  rw[bZ] at h;rw[dN];exact⟨xV h.1,aIt h.2⟩
end
theorem aEk:∀{ts:List Tr} {t:Tr},dN ts->t∈ts->okG t
 | u::us,t,h,hm=>by
  rw[dN] at h;cases hm with
  | head=>exact h.1
  | tail _ hm=>exact aEk h.2 hm
end Go.Proofs.Y