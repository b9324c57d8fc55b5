/- The reference's side of valid trees: kinds, arguments, nodes. -/
import Derived.Test.YtdccpmlhflpeaaaGreatDoorE29
set_option linter.all false
set_option maxHeartbeats 2000000
set_option maxRecDepth 20000
namespace Go.Proofs.Y
open Go Go.Vc Go.Dig
theorem aJi{lo x hi:Int}(h:lo<=x):le x hi=dec (lo<=x/\x<=hi):=by
 unfold le;rw[jX];exact decide_eq_decide.2 ⟨fun y=>⟨h,y⟩,fun y=>y.2⟩
theorem aLt(l:List Nat)(hb:∀y∈l,y<256):seq (txt l) ⟨#[]⟩=dec (l=[]):=by
 by_cases h:l=[]
 .subst h;rw[bA rfl];unfold seq;exact beq_self_eq_true _
 .rw[aG h];exact aQo fun x=>h (uH hb (fun y hy=>by cases hy) x)
theorem pO{x y:Int}:eq x y=dec (x=y):=by
 unfold eq;rw[jX]
theorem aR9(h:aA)(op:Int):Fn0 T F.q97 [.int .i64 op] h fun v h'=>h'=h/\v=.int .i64 (aR op):=by
 have k0:op=1\/op=2\/op=3->aR op=0:=fun x=>if_pos x
 have k1:op=4\/op=9\/op=10\/op=11\/op=12->aR op=1:=fun x=>by unfold aR;rw[if_neg Aa,if_pos x]
 have k2:op=5\/op=6\/op=7\/op=8\/op=13\/op=14->aR op=2:=fun x=>by unfold aR;rw[if_neg Aa,if_neg Aa,if_pos x]
 have k3:op=15->aR op=3:=fun x=>by unfold aR;rw[if_neg Aa,if_neg Aa,if_neg Aa,if_pos x]
 have k4:¬(op=1\/op=2\/op=3)->¬(op=4\/op=9\/op=10\/op=11\/op=12)->¬(op=5\/op=6\/op=7\/op=8\/op=13\/op=14)->op≠15->aR op=-1:=fun a b c d=>by unfold aR;rw[if_neg a,if_neg b,if_neg c,if_neg d]
 obtain⟨K,hK⟩:=AB (aR op);rw[<-hK] at k0 k1 k2 k3 k4 ⊢;replace k0:=Hq.mk k0;replace k1:=Hq.mk k1;replace k2:=Hq.mk k2;replace k3:=Hq.mk k3;replace k4:=Hq.mk k4;refine f0C ok D.q97 rfl ?_;conv=>whnf
 repeat' ((first|(apply aQ.go)|((first|apply oI.z|apply cI.z))|(apply aD<;>intro _<;>try (exfalso;omega)))<;>conv=>whnf)
 all_goals first
  | exact RN.a ⟨rfl,by rw[k0.out Aa]⟩
  | exact RN.a ⟨rfl,by rw[k1.out Aa]⟩
  | exact RN.a ⟨rfl,by rw[k2.out Aa]⟩
  | exact RN.a ⟨rfl,by rw[k3.out Aa]⟩
  | exact RN.a ⟨rfl,by rw[k4.out Aa Aa Aa Aa]⟩
theorem aWl(h:aA)(op arg:Int)(neg:Bool)(a b s:Sl)(name:ByteArray):
  Fn0 T F.q98 [.agg #[.int .i64 op,.int .i64 arg,.bool neg,a.val,b.val,.string name,s.val]] h fun v h'=>v=.bool (dec (jP op<=arg/\arg<=eO op)):=by
 obtain⟨R,hR⟩:=AB (dec (jP op<=arg/\arg<=eO op));have l9:op=9->R=(dec (-32<=arg/\arg<=32)):=fun x=>by rw[hR,x];exact cY Iff.rfl
 have l10:op=10->R=(dec (2<=arg/\arg<=8)):=fun x=>by rw[hR,x];exact cY Iff.rfl
 have l11:op=11->R=(dec (1<=arg/\arg<=8)):=fun x=>by rw[hR,x];exact cY Iff.rfl
 have l0:op≠9->op≠10->op≠11->R=dec (arg=0):=fun x y z=>by
  rw[hR,jP,eO,if_neg x,if_neg y,if_neg z,if_neg x,if_neg y,if_neg z];exact cY ⟨fun u=>by omega,fun u=>by omega⟩
 rw[<-hR];clear hR;replace l9:=Hq.mk l9;replace l10:=Hq.mk l10;replace l11:=Hq.mk l11;replace l0:=Hq.mk l0;refine f0C ok D.q98 rfl ?_;conv=>whnf
 repeat' first|((first|((first|apply oI.z|apply cI.z))|intro (_:Nat)|refine Ld.o 0 rfl rfl ?_)<;>conv=>whnf)|(show cnd _ _ _;first|((first|apply bI|apply aD)<;>intro _<;>first|(exfalso;omega)|conv=>whnf))
 all_goals first
  | (refine RN.a ?_;rw[l9.out Aa];first|exact congrArg Value.bool (aJi Aa)|(rw[aG (fun u=>by omega)];done))
  | (refine RN.a ?_;rw[l10.out Aa];first|exact congrArg Value.bool (aJi Aa)|(rw[aG (fun u=>by omega)];done))
  | (refine RN.a ?_;rw[l11.out Aa];first|exact congrArg Value.bool (aJi Aa)|(rw[aG (fun u=>by omega)];done))
  | (refine RN.a ?_;rw[l0.out Aa Aa Aa];exact congrArg Value.bool pO)
theorem aSa(h:aA)(neg:Bool)(a b:Sl)(l m:List Nat)(hv:bJ h a b l m):Fn0 T F.q100 [.agg #[.bool neg,a.val,b.val]] h fun v h'=>v=.bool (dec (evl 4294967296 l=0)):=by
 have i1:=hv.num;have l1:=hv.ln;have l3:=hv.sn;obtain⟨x,hx⟩:=AB (evl 4294967296 l);have hz:=aT (b:=65536) (n:=x) Aa;rw[<-hx];refine f0C ok D.q100 rfl ?_;conv=>whnf
 repeat' ((first|(show CN _ _ _ _ _ _;(refine CN.f rfl (qT _ _ l Ab l1 Aa) (fun v h' hl hr=>?_);rw[<-hx] at hr;obtain⟨s',rfl,hs'⟩:=hr;have hxl:=hs'.len))|((first|apply oI.z|apply cI.z))|intro (_:Nat)|refine Ld.o 0 rfl rfl ?_)<;>conv=>whnf)
 refine RN.a ?_
 congr 1
 unfold eq;rw[jX];refine decide_eq_decide.2 ?_;rw[<-hz,hxl];omega
theorem aSb(h:aA)(op arg:Int)(neg:Bool)(a b:Sl)(l m name:List Nat)(s:Sl)(n:Nat)(hv:bJ h a b l m)(hb:∀y∈name,y<256)(hs:s.l=n):
  Fn0 T F.q53 [.agg #[.int .i64 op,.int .i64 arg,.bool neg,a.val,b.val,.string (txt name),s.val]] h fun v h'=>v=.bool (dec (fQ op arg neg l m name n)):=by
 obtain⟨DD,hD⟩:=AB (dec (fQ op arg neg l m name n));obtain⟨KN,hK⟩:=AB (aR op);obtain⟨LO,hL⟩:=AB (jP op);obtain⟨HI,hH⟩:=AB (eO op);have n1:(n:Int)≠KN->DD=false:=fun x=>by rw[hD];exact aG fun y=>x (by rw[hK];exact y.1)
 have n2:¬(LO<=arg/\arg<=HI)->DD=false:=fun x=>by rw[hD];exact aG fun y=>x (by rw[hL,hH];exact⟨y.2.1,y.2.2.1⟩)
 have ar:LO<=arg/\arg<=HI->jP op<=arg/\arg<=eO op:=fun x=>by rw[hL,hH] at x;exact x
 have p1:(n:Int)=KN->LO<=arg/\arg<=HI->op=1->DD=dec (okR neg l m/\0<=aN neg l m/\name=[]):=fun x y z=>by
  rw[hD];refine cY ⟨fun q=>?_,fun q=>⟨Aa,(ar y).1,(ar y).2,?_,?_⟩⟩
  .have q1:=q.2.2.2.1;have q2:=q.2.2.2.2;rw[if_neg Aa] at q1;rw[if_pos z] at q2;exact⟨q2.1,q2.2,q1⟩
  .rw[if_neg Aa];exact q.2.2
  .rw[if_pos z];exact⟨q.1,q.2.1⟩
 have p2:(n:Int)=KN->LO<=arg/\arg<=HI->op≠1->¬evl 4294967296 l=0->DD=false:=fun x y z u=>by
  rw[hD];exact aG fun q=>u (by have:=q.2.2.2.2;rw[if_neg z] at this;exact this)
 have p3:(n:Int)=KN->LO<=arg/\arg<=HI->op=2->evl 4294967296 l=0->DD=dec (fE name):=fun x y z u=>by
  rw[hD];refine cY ⟨fun q=>?_,fun q=>⟨Aa,(ar y).1,(ar y).2,?_,?_⟩⟩
  .have:=q.2.2.2.1;rw[if_pos z] at this;exact this
  .rw[if_pos z];exact q
  .rw[if_neg Aa];exact u
 have p4:(n:Int)=KN->LO<=arg/\arg<=HI->op≠1->op≠2->evl 4294967296 l=0->DD=dec (name=[]):=fun x y z t u=>by
  rw[hD];refine cY ⟨fun q=>?_,fun q=>⟨Aa,(ar y).1,(ar y).2,?_,?_⟩⟩
  .have:=q.2.2.2.1;rw[if_neg t] at this;exact this
  .rw[if_neg t];exact q
  .rw[if_neg z];exact u
 have c0:=fun h=>aR9 h op
 have c1:=fun h=>aWl h op arg neg a b s (txt name)
 rw[<-hK] at c0;rw[<-hL,<-hH] at c1;rw[<-hD];clear hD hK hL hH ar;have lsg:=aK4 (aN neg l m);have hsz:=(aF2 (neg:=neg) hv).mono (show 2147483649<=1099511627776 by decide)
 have c2:=fun h hv=>aQb h neg a b l m hv
 have c3:=fun h hv=>zD h neg a b l m hv
 have c4:=fun h hv=>aSa h neg a b l m hv
 have c5:=fun h=>wV h name hb
 obtain⟨q,hq⟩:=AB (aN neg l m);obtain⟨OK,hOK⟩:=AB (okR neg l m);obtain⟨Z,hZ⟩:=AB (evl 4294967296 l=0);rw[<-hq] at p1 lsg hsz c3;have sg1:0<=dS q↔0<=q:=by
  have x:=lsg;unfold le at x;rw[jX] at x;exact decide_eq_decide.1 x
 replace sg1:=Hq.mk sg1;replace n1:=Hq.mk n1;replace n2:=Hq.mk n2;replace p1:=Hq.mk p1;replace p2:=Hq.mk p2;replace p3:=Hq.mk p3;replace p4:=Hq.mk p4;refine f0C ok D.q53 rfl ?_;conv=>whnf
 repeat' first|((first|(show DrN _ _ _ _ _ _;refine DrN.each Al ?_)|(show CN _ _ _ _ _ _;first|refine CN.quiet rfl (c0 _) ?_|(refine CN.f rfl (c1 _) (fun v h' hl2 hr=>?_);subst hr)|(refine CN.f rfl (c2 _ Ap) (fun v h' hl2 hr=>?_);subst hr)|(refine CN.f rfl (c3 _ Ap) (fun v h' hl2 hr=>?_);obtain⟨a',b',rfl,hq'⟩:=hr)|refine CN.quiet rfl (aXz _ _ _ q Ab hsz) ?_|(refine CN.f rfl (c4 _ Ap) (fun v h' hl2 hr=>?_);subst hr)|(refine CN.f rfl (c5 _) (fun v h' hl2 hr=>?_);subst hr))|(show LdN _ _ _ _ _;(first|refine LdN.o 0 rfl rfl ?_|refine LdN.oA 0 rfl rfl ?_))|((first|apply oI.z|apply cI.z))|refine⟨fun _=>aH.o (aA.lr _),?_⟩|refine⟨fun _=>aH.o Ab,?_⟩|intro (_:Nat)|refine Ld.o 0 rfl rfl ?_)<;>conv=>whnf)|(show cnd _ _ _;first|((first|apply bI|apply aD)<;>intro _<;>first|(exfalso;omega)|conv=>whnf)|(refine aJ ?_)|(apply aW<;>intro _<;>first|(exfalso;omega)|conv=>whnf))|(refine sS.mk ?_ ?_<;>(conv=>whnf))
 all_goals first
  | (rw[n1.out Aa];exact RN.a rfl)
  | (rw[n2.out Ab];exact RN.a rfl)
  | (rw[p2.out Aa Ab Aa Ab];exact RN.a rfl)
  | (rw[p3.out Aa Ab Aa Ab];exact RN.a rfl)
  | (rw[p4.out Aa Ab Aa Aa Ab];exact RN.a (congrArg Value.bool (aLt name hb)))
  | (rw[p1.out Aa Ab Aa,aG (fun u=>absurd u.1 Ab)];exact RN.a rfl)
  | (rw[p1.out Aa Ab Aa,aG (fun u=>by have:=sg1.out.2 u.2.1;omega)];exact RN.a rfl)
  | (rw[p1.out Aa Ab Aa,cY (q:=name=[]) (Iff.intro (fun u=>u.2.2) (fun u=>And.intro Ab (And.intro (sg1.out.1 Aa) u)))];exact RN.a (congrArg Value.bool (aLt name hb)))
  | skip
end Go.Proofs.Y
/- The reference's walk over a tree, and Valid. -/
namespace Go.Proofs.Y
open Go Go.Vc Go.Dig
def qI(d n:Nat)(t:Tr):Int:=if okT d t/\szT t<=n then (n:Int)-(szT t:Nat) else -1
theorem aAa(d n:Nat)(t:Tr):qI d n t<0↔¬(okT d t/\szT t<=n):=by
 unfold qI
 split
 .rename_i x;exact⟨fun y=>by have:=x.2;omega,fun y=>absurd x y⟩
 .rename_i x;exact⟨fun _=>x,fun _=>by omega⟩
theorem aSc:∀t:Tr,∀(h:aA) (vs:List Value) (d n:Nat),IsE h vs t->n<=300->d<=1000->Fn0 T F.q20 [.agg vs.toArray,.int .i64 d,.int .i64 n] h fun v h'=>v=.int .i64 (qI d n t):=by
 refine bN fun t ih=>?_
 intro h vs d n w hn hd;obtain⟨op,arg,neg,l,m,name,ks⟩:=t;obtain⟨a,b,s,rfl,ho,ha,hv,hb,hk⟩:=w.isK;have c1:=fun h hv=>aSb h op arg neg a b l m name s ks.length hv hb hk.len
 have f1:n=0->qI d n (.mk op arg neg l m name ks)=-1:=fun x=>if_neg fun y=>by
  have:=y.2;rw[szT] at this;omega
 have f2:d>30->qI d n (.mk op arg neg l m name ks)=-1:=fun x=>if_neg fun y=>by
  have:=y.1;rw[okT] at this;omega
 have f3:¬fQ op arg neg l m name ks.length->qI d n (.mk op arg neg l m name ks)=-1:=fun x=>if_neg fun y=>by
  have:=y.1;rw[okT] at this;exact x this.2.1
 have f4:∀j c t,ks[j]?=some t->c+1+eF (ks.take j)=n->qI (d+1) c t<0->qI d n (.mk op arg neg l m name ks)=-1:=fun j c t ht hc x=>if_neg fun y=>by
  obtain⟨y1,y2⟩:=y;rw[okT] at y1;rw[szT] at y2;have e:=mF ht;rw[e,iY,eF] at y2;have z:=y1.2.2;rw[e,kX,dJ] at z;exact (aAa _ _ _).1 x ⟨z.2.1,Aa⟩
 have f5:d<=30->fQ op arg neg l m name ks.length->dJ (d+1) ks->∀c,c+1+eF ks=n->qI d n (.mk op arg neg l m name ks)=c:=fun x y z c u=>by
  unfold qI;rw[if_pos (show okT d (.mk op arg neg l m name ks)/\szT (.mk op arg neg l m name ks)<=n from ⟨by rw[okT];exact⟨x,y,z⟩,by rw[szT];omega⟩),szT];omega
 obtain⟨R,hR⟩:=AB (qI d n (.mk op arg neg l m name ks));rw[<-hR] at f1 f2 f3 f4 f5 ⊢;have hkl:=hk.len;refine f0C ok D.q20 rfl ?_;conv=>whnf
 repeat' first|((first|(show CN _ _ _ _ _ _;(refine CN.f rfl (c1 _ Ab) (fun v h' hl2 hr=>?_);subst hr))|((first|apply oI.z|apply cI.z))|intro (_:Nat)|refine WN.i64 Aa Aa ?_|refine LdN.o 0 rfl rfl ?_)<;>conv=>whnf)|(show cnd _ _ _;first|((first|apply aB|apply bI)<;>intro _<;>first|(exfalso;omega)|conv=>whnf)|(refine aJ ?_)|(apply aW<;>intro _<;>first|(exfalso;omega)|conv=>whnf))
 .rw[f2 Aa];exact RN.a rfl
 .rw[f1 Aa];exact RN.a rfl
 .rename_i be x1 x2 x3;have hd30:d<=30:=Aa;have hNBt:fQ op arg neg l m name ks.length:=Ab;replace f5:=f5 hd30 hNBt;have hks:ks.length<=3:=by
   have h1:=hNBt.1;have h2:=mN op;omega
  clear f1 f2 f3;have hle0:h.le h':=Ab;refine LpN.of (fun r ρ hx L=>∃(j c:Nat),r=ks.length-j/\h.le hx/\j<=ks.length/\rd ρ 7=.int .i64 j/\rd ρ 2=.int .i64 c/\
      L=[(be,.cells [.int .i64 op,.int .i64 arg,.bool neg,a.val,b.val,.string (txt name),s.val].toArray Ty.api_Expr (0,0))]/\c<=300/\c+1+eF (ks.take j)=n/\Hq (dJ (d+1) (ks.take j))) ks.length
   ⟨0,n-1,rfl,hle0,bDw _,rfl,vi Aa,rfl,Aa,by rw[bFa,eF];omega,⟨by rw[bFa,dJ];trivial⟩⟩ ?_
  conv=>whnf
  repeat intro _
  rename_i r hx L2 hI;obtain⟨j,c,rfl,hle,hj,e7,e2,rfl,hc3,hc,hq⟩:=hI;conv at e7=>lhs;whnf
  subst e7;conv at e2=>lhs;whnf
  subst e2;by_cases hjl:j=ks.length
  .subst hjl;rw[bDm] at hc hq;rw[f5 hq.out c hc];conv=>whnf
   repeat' ((first|((first|apply oI.z|apply cI.z))|refine Ld.o 0 rfl rfl ?_|(apply aB<;>intro _<;>try (exfalso;omega)))<;>conv=>whnf)
   exact RN.a rfl
  .obtain⟨t,ht⟩:∃t,ks[j]?=some t:=⟨_,bC8 Aa⟩
   have c2:=fun h vs w=>ih t (aP ht) h vs (d+1) c w hc3 Aa
   have f4:=f4 j c t ht hc;have hc4:¬qI (d+1) c t<0->dJ (d+1) (ks.take (j+1))/\∃c':Nat,qI (d+1) c t=c'/\c'<=300/\c'+1+eF (ks.take (j+1))=n:=fun x=>by
    have y:okT (d+1) t/\szT t<=c:=Decidable.not_not.1 fun z=>x ((aAa _ _ _).2 z)
    rw[bD ht,kX,iY,dJ,eF,eF,dJ];refine⟨⟨hq.out,y.1,trivial⟩,c-szT t,?_,Aa,Aa⟩;unfold qI;rw[if_pos y];omega
   obtain⟨C,hC⟩:=AB (qI (d+1) c t);rw[<-hC] at c2 f4 hc4;replace hc4:=Hq.mk hc4;have hkx:=hk.mono hle;conv=>whnf
   repeat' ((first|(show Idx _ _ _ _ _;refine Idx.kid hkx j t Aa ht (fun ad op2 arg2 neg2 a2 b2 name2 s2 hE hld=>?_))|refine hld _ _ _ (aA.lr _) ?_|((first|apply oI.z|apply cI.z))|(show CN _ _ _ _ _ _;(refine CN.f rfl (c2 _ _ Ab) (fun v h' hl2 hr=>?_);subst hr))|refine WN.i64 Aa Aa ?_|refine Ld.o 0 rfl rfl ?_|(apply aB<;>intro _<;>try (exfalso;omega)))<;>conv=>whnf)
   .rw[f4 Aa];exact RN.a rfl
   .obtain⟨x1,c',x2,x3,x4⟩:=hc4.out Aa;exact⟨rfl,ks.length-(j+1),Aa,j+1,c',rfl,Ac,Aa,vi Aa,vi Aa,rfl,x3,x4,⟨x1⟩⟩
 .rw[f3 Ab];exact RN.a rfl
theorem aSd(t:Tr):0<=qI 1 300 t↔dN t:=by
 have:=aAa 1 300 t;unfold dN;constructor
 .intro x;exact Decidable.not_not.1 fun z=>by have:=this.2 z;omega
 .intro x;have:¬qI 1 300 t<0:=fun y=>this.1 y x
  omega
theorem aN4(t:Tr)(h:aA)(vs:List Value)(w:IsE h vs t):Fn0 T F.q4 [.agg vs.toArray] h fun v h'=>v=.bool (dec (dN t)):=by
 have hv:=aSd t;have c1:=fun h w=>aSc t h vs 1 300 w Aa Aa
 obtain⟨C,hC⟩:=AB (qI 1 300 t);rw[<-hC] at c1 hv;obtain⟨⟨op,arg,neg,l,m,name,ks⟩,ht⟩:=AB t;obtain⟨a,b,s,hvs,-⟩:=(ht.symm▸w:IsE h vs (.mk op arg neg l m name ks)).isK;subst hvs;refine f0C ok D.q4 rfl ?_;conv=>whnf
 repeat' ((first|(show CN _ _ _ _ _ _;(refine CN.f rfl (c1 _ Ab) (fun v h' hl2 hr=>?_);subst hr))|((first|apply oI.z|apply cI.z))|intro (_:Nat)|refine LdN.o 0 rfl rfl ?_)<;>conv=>whnf)
 refine RN.a ?_
 congr 1
 unfold le;rw[jX];refine decide_eq_decide.2 ?_;rw[<-hv]
end Go.Proofs.Y
/- Equal trees: plain; the reference's Same, the program's equal. -/
namespace Go.Proofs.Y
open Go Go.Vc Go.Dig
theorem sA{neg:Bool}{l m:List Nat}(h:evl 4294967296 l=0):aN neg l m=0:=by
 unfold aN;rw[h,yW]
theorem aAb{d:Nat}:∀{ts:List Tr} {j:Nat} {t:Tr},dJ d ts->ts[j]?=some t->okT d t
 | u::ts,0,t,h,e=>by
  rw[dJ] at h;simp at e;subst e;exact h.1
 | u::ts,j+1,t,h,e=>by
  rw[dJ] at h;exact aAb h.2 (by simpa using e)
 | [],j,t,_,e=>by simp at e
attribute [local irreducible] Vc.Fn
end Go.Proofs.Y
/- Trees with numbers (gI): equal trees have equal gI; copies keep them; nodes replaced. -/
namespace Go.Proofs.Y
open Go Go.Vc Go.Dig
inductive Kt where
 | mk (op arg:Int) (q:Rat) (name:List Nat) (kids:List Kt)
mutual
def key:Tr->Kt
 | .mk op arg neg l m name ks=>.mk op arg (aN neg l m) name (gI ks)
def gI:List Tr->List Kt
 | []=>[]
 | t::ts=>key t::gI ts
end

mutual
theorem wG:∀{d:Nat} {t:Tr},okT d t->key (iV t)=key t
 | d,.mk op arg neg l m name ks,h=>by
  rw[okT] at h;obtain⟨-,hn,hk⟩:=h;have hq:=hn.2.2.2.2;rw[iV]
  split
  .rename_i o;rw[if_pos o] at hq;rw[key,key,jF,nQ,if_pos hq.1,tI hk]
  .rename_i o;rw[if_neg o] at hq;rw[key,key,tI hk,sA hq,sA (show evl 4294967296 []=0 from aU _)]
theorem tI:∀{d:Nat} {ts:List Tr},dJ d ts->gI (cH ts)=gI ts
 | _,[],_=>by rw[cH]
 | d,t::ts,h=>by
  rw[dJ] at h;rw[cH,gI,gI,wG h.1,tI h.2]
end
mutual
def okG:Tr->Prop
 | .mk op arg neg l m name ks=>fQ op arg neg l m name ks.length/\cA ks
def cA:List Tr->Prop
 | []=>True
 | t::ts=>okG t/\cA ts
end
mutual
theorem rG:∀{d:Nat} {t:Tr},okT d t->okG t
 | d,.mk op arg neg l m name ks,h=>by
  rw[okT] at h;rw[okG];exact⟨h.2.1,aLu h.2.2⟩
theorem aLu:∀{d:Nat} {ts:List Tr},dJ d ts->cA ts
 | _,[],_=>by rw[cA];trivial
 | d,t::ts,h=>by
  rw[dJ] at h;rw[cA];exact⟨rG h.1,aLu h.2⟩
end
theorem aGl:∀{ts:List Tr} {t:Tr},cA ts->t∈ts->okG t
 | u::us,t,h,hm=>by
  rw[cA] at h;cases hm with
  | head=>exact h.1
  | tail _ hm=>exact aGl h.2 hm
end Go.Proofs.Y