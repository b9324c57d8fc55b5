/- Value: the document's side. -/
import Derived.Test.YtblecjeceecaaaaGreatDoorE68
import Derived.Test.YtblecjeceecaaaaGreatDoorE65
import Derived.Test.YtblecjeceecaaaaGreatDoorPF10
set_option linter.all false
set_option maxHeartbeats 4000000
set_option maxRecDepth 20000
namespace Go.Proofs.Y
open Go Go.Vc Go.Dig
theorem aNo{bs:List (List Nat × Option Rat)}{j:Nat}{n:List Nat}{x:Option Rat}(h:bs[j]?=some (n,x)):(aS bs).drop j=(n,x.getD 0)::(aS bs).drop (j+1):=by
 have:(aS bs)[j]?=some (n,x.getD 0):=by unfold aS;rw[bKo,h];rfl
 obtain⟨h1,h2⟩:=bIr.1 this;rw[<-h2];exact (bJo h1)
theorem bind_some{q:Rat}(h:fits q):(some q).bind dZ=some q:=if_pos h
def RV(h:aA)(v:Value)(x:Option Rat):Prop:=RQ h v x
theorem aNp(bs:List (List Nat × Option Rat))(hbl:bs.length<=1099511627776)(hsm:iY bs)(hvf:∀b∈aS bs,fits b.2)(sb:Sl)(t:Tr)(ih:∀u,szT u<szT t->∀(h:aA) (vs:List Value) (d:Nat),IsV h sb bs->IsE h vs u->okT d u->Fn0 T F.q101 [.agg vs.toArray,sb.val] h fun v h'=>RQ h' v (bL (aS bs) u))
  (h:aA) (vs:List Value) (d:Nat) (wb:IsV h sb bs) (w:IsE h vs t) (hok:okT d t):Fn0 T F.q178 [.agg vs.toArray,sb.val] h fun v h'=>∃x,RQ h' v x/\x.bind dZ=bL (aS bs) t:=by
 have hsl:=wb.len;obtain⟨op,arg,neg,l,m,name,ks⟩:=t;obtain⟨a,b,s,rfl,ho,ha,hv,hb,hk⟩:=w.isK;rw[okT] at hok;obtain⟨hd,hnb,hoks⟩:=hok;have hks:=hnb.1;have hkl:=hk.len;obtain⟨vals,hvals⟩:=AH (aS bs);rw[<-hvals] at hvf ⊢;simp only[<-hvals] at ih;have hnum:op=1->bP h neg a b (some (aK neg l m)):=fun x=>by
  have hn:=hnb.2.2.2.2;rw[if_pos x] at hn;exact⟨l,m,hv,(if_pos hn.1).symm⟩
 have hnf:op=1->fits (aK neg l m):=fun x=>(hnum x).fits
 have r1:op=1->bL vals (.mk op arg neg l m name ks)=some (aK neg l m):=fun x=>by rw[bL,if_pos x]
 have r2:op=2->bL vals (.mk op arg neg l m name ks)=eN vals name:=fun x=>by rw[bL,if_neg Aa,if_pos x]
 have r3:op=3->bL vals (.mk op arg neg l m name ks)=none:=fun x=>by rw[bL,if_neg Aa,if_neg Aa,if_pos x]
 have r4:op≠1->op≠2->op≠3->bL vals (.mk op arg neg l m name ks)=aEn op arg (bY vals ks):=fun x y z=>by rw[bL,if_neg x,if_neg y,if_neg z]
 obtain⟨R,hR⟩:=AH (bL vals (.mk op arg neg l m name ks));obtain⟨N,hN⟩:=AH (aK neg l m);rw[<-hR] at r1 r2 r3 r4 ⊢;rw[<-hN] at r1 hnum hnf;clear hR hN;by_cases o2:op=2
 .replace r2:=r2 o2;clear r1 r3 r4 hnum hnf ih;refine f0C ok D.q178 rfl ?_;conv=>whnf
  repeat' ((first|((first|apply oI.z|apply cI.z))|intro (_:Nat)|refine Ld.o 1 rfl rfl ?_|(apply aD<;>intro _<;>try (exfalso;omega)))<;>conv=>whnf)
  refine LpN.keepL (fun r ρ hx=>∃j:Nat,r=bs.length-j/\j<=bs.length/\rd ρ 6=.int .i64 j/\Hq (R=eN (vals.drop j) name)) bs.length ⟨0,rfl,bJe _,rfl,⟨r2⟩⟩ ?_
  conv=>whnf
  repeat intro _
  rename_i r hx hle hI;obtain⟨j,rfl,hj,e6,hq⟩:=hI;conv at e6=>lhs;whnf
  subst e6;by_cases hjl:j=bs.length
  .subst hjl;have hq:=hq.out;rw[hvals,bLk (by unfold aS;rw[bJb];exact bJf _)] at hq;conv=>whnf
   repeat' ((first|(show LdN _ _ _ _ _;refine LdN.oA 0 rfl rfl ?_)|((first|apply oI.z|apply cI.z))|refine Sto.l 0 rfl rfl rfl ?_|(apply aB<;>intro _<;>try (exfalso;omega)))<;>conv=>whnf)
   all_goals exact RN.a ⟨none,RQ.none _ false ⟨none,0,0⟩ ⟨none,0,0⟩,hq.symm⟩
  .obtain⟨⟨n,x⟩,hu⟩:∃x,bs[j]?=some x:=⟨_,bIq Aa⟩
   have wbx:=wb.mono hle;have hnb':=wb.bytes hu;obtain⟨q,rfl⟩:∃q,x=some q:=Option.isSome_iff_exists.1 (hsm _ (bIu hu))
   have hdr:=aNo hu;rw[<-hvals] at hdr;have hq:=hq.out;rw[hdr,eN] at hq;have q1:n=name->R=some q:=fun e=>hq.trans (if_pos e)
   have q2:n≠name->R=eN (vals.drop (j+1)) name:=fun e=>hq.trans (if_neg e)
   clear hdr hq r2 hvf;have cq:=fun h n a b w=>bCl h n a b q w
   conv=>whnf
   repeat' first|((first|(show DrN _ _ _ _ _ _;refine DrN.run Ak ?_)|(show LdN _ _ _ _ _;first|refine LdN.oA 0 rfl rfl ?_|refine LdN.hasN [.bool ng,a2.val,b2.val] rfl (fun i v hv=>h2 _ _ i v (aA.lr _) hv) ?_)|(show Idx _ _ _ _ _;refine Idx.valu wbx j n (some q) Aa hu (fun bl off ng a2 b2 hnn hE h1 h2=>?_))|(show Ld _ _ _ _;first|refine Ld.of (h1 _ _ (aA.lr _)) ?_|refine Ld.o 1 rfl rfl ?_)|(show CN _ _ _ _ _ _;(refine CN.f rfl (cq _ _ _ _ Ab) (fun v h' hl2 hr=>?_);obtain⟨s1,t1,rfl,hq1⟩:=hr))|((first|apply oI.z|apply cI.z))|refine WN.i64 Aa Aa ?_|refine Sto.l 0 rfl rfl rfl ?_)<;>conv=>whnf)|(show cnd _ _ _;first|(refine oM hnb' hb (fun _=>?_) (fun _=>?_)<;>(conv=>whnf))|(apply aB<;>intro _<;>first|(exfalso;omega)|conv=>whnf))
   all_goals first
    | (have fq:fits q:=bP.fits Ab
       rw[q1 Ab];exact RN.a ⟨some q,RQ.some Ab ((jF fq).mono Ae),bind_some fq⟩)
    | exact⟨rfl,bs.length-(j+1),Aa,Ab,rfl,j+1,rfl,Aa,vi Aa,⟨q2 Ab⟩⟩
 clear r2;by_cases o15:op=15
 .obtain⟨k0,k1,k2,rfl⟩:=bGv (by rw[<-o15];exact hks);replace r4:=r4 Aa Aa Aa;rw[bY,bY,bY,bY] at r4;replace r4:R=(bL vals k0).bind fun c=>if 0<=c then bL vals k1 else bL vals k2:=r4
  have o0:=iK hoks (j:=0) rfl;have o1:=iK hoks (j:=1) rfl;have o2':=iK hoks (j:=2) rfl;have i0:=fun h vs wb w=>ih k0 (bD (j:=0) rfl) h vs (d+1) wb w o0
  have i1:=fun h vs wb w=>ih k1 (bD (j:=1) rfl) h vs (d+1) wb w o1
  have i2:=fun h vs wb w=>ih k2 (bD (j:=2) rfl) h vs (d+1) wb w o2'
  have g0:bL vals k0=none->R=none:=fun x=>by rw[r4,x];rfl
  have g1:∀c,bL vals k0=some c->0<=dH c->R=bL vals k1:=fun c x y=>by
   rw[r4,x];exact if_pos (by have:=tY c;rw[Vc.le_true' y] at this;by_cases z:0<=c;exact z;rw[aH z] at this;cases this)
  have g2:∀c,bL vals k0=some c->¬0<=dH c->R=bL vals k2:=fun c x y=>by
   rw[r4,x];exact if_neg fun z=>by have:=tY c;rw[aX z,Vc.le_false' Aa] at this;cases this
  have f1:=zF fun q=>lS hvf k1 (d+1) o1 q
  have f2:=zF fun q=>lS hvf k2 (d+1) o2' q
  clear r1 r3 r4 hnum hnf ih;obtain⟨V0,h0⟩:=AH (bL vals k0);obtain⟨V1,h1⟩:=AH (bL vals k1);obtain⟨V2,h2⟩:=AH (bL vals k2);simp only[<-h0] at i0 g0 g1 g2;simp only[<-h1] at i1 g1 f1;simp only[<-h2] at i2 g2 f2;clear h0 h1 h2;simp only[bIs,bIv] at hkl;refine f0C ok D.q178 rfl ?_;conv=>whnf
  repeat' first|((first|(show LdN _ _ _ _ _;first|refine LdN.oA 0 rfl rfl ?_|refine LdN.oA 1 rfl rfl ?_)|(show Idx _ _ _ _ _;first|(refine Idx.kid (hk.mono Ad) 0 k0 Aa rfl (fun ad op3 arg3 neg3 a3 b3 name3 s3 hE hld=>?_))|refine Idx.kid (hk.mono Ab) 1 k1 Aa rfl (fun ad op3 arg3 neg3 a3 b3 name3 s3 hE hld=>?_)|refine Idx.kid (hk.mono Ab) 2 k2 Aa rfl (fun ad op3 arg3 neg3 a3 b3 name3 s3 hE hld=>?_))|(refine hld _ _ _ Ad ?_)|((first|apply oI.z|apply cI.z))|intro (_:Nat)|(show CN _ _ _ _ _ _;first|(refine CN.f rfl (i0 _ _ (wb.mono Ad) Al) (fun v h' hl hr=>?_);obtain⟨n1,a1,b1,bb1,rfl,t1,t2⟩:=hr)|((first|refine CN.f rfl (i1 _ _ (wb.mono Ab) Al) (fun v h' hl hr=>?_)|refine CN.f rfl (i2 _ _ (wb.mono Ab) Ab) (fun v h' hl hr=>?_));obtain⟨n2,a2,b2,bb2,rfl,u1,u2⟩:=hr)|(obtain⟨c,t3,rfl,t4,t5⟩:=t1 rfl;refine CN.quiet rfl (aBl _ _ _ c t4 (t5.mono Ae)) ?_))|(show Ld _ _ _ _;first|refine Ld.o 1 rfl rfl ?_|refine Ld.o 2 rfl rfl ?_)|(show Sto _ _ _ _;first|refine Sto.l 0 rfl rfl rfl ?_|refine Sto.l 1 rfl rfl rfl ?_))<;>conv=>whnf)|(show cnd _ _ _;first|((first|apply bX|apply aD)<;>intro _<;>first|(exfalso;omega)|conv=>whnf)|(refine aI ?_)|(refine bO (fun hb=>?_) (fun hb=>?_)<;>(first|cases hb|subst hb)<;>(conv=>whnf)))
  all_goals first
   | (rw[g0 (t2 rfl)];exact RN.a ⟨none,RQ.none _ false ⟨none,0,0⟩ ⟨none,0,0⟩,rfl⟩)
   | (rw[g1 c t3 Aa];exact RN.a ⟨V1,⟨n2,a2,b2,bb2,rfl,u1,u2⟩,f1⟩)
   | (rw[g2 c t3 Aa];exact RN.a ⟨V2,⟨n2,a2,b2,bb2,rfl,u1,u2⟩,f2⟩)
 .have hk2:op≠1->op≠2->op≠3->1<=ks.length/\ks.length<=2:=fun x y z=>by
   have h:=fS op;have:bM op≠3:=fun e=>o15 (bGu e)
   have h0:bM op≠0:=fun e=>by
    unfold bM at e
    repeat' split at e
    all_goals omega
   omega
  by_cases oo:op=1\/op=3
  .clear r4 ih;refine f0C ok D.q178 rfl ?_;conv=>whnf
   repeat' ((first|(show LdN _ _ _ _ _;first|refine LdN.oA 0 rfl rfl ?_|refine LdN.oA 1 rfl rfl ?_)|(show CN _ _ _ _ _ _;(refine CN.f rfl (bCl _ neg a b N (hnum Aa)) (fun v h' hl2 hr=>?_);obtain⟨s1,t1,rfl,hq1⟩:=hr))|((first|apply oI.z|apply cI.z))|intro (_:Nat)|refine Ld.o 1 rfl rfl ?_|refine Sto.l 0 rfl rfl rfl ?_|(apply aD<;>intro _<;>try (exfalso;omega)))<;>conv=>whnf)
   all_goals first
    | (rw[r1 Ab];exact RN.a ⟨some N,RQ.some Ab ((jF (hnf Ab)).mono Ae),bind_some (hnf Ab)⟩)
    | (rw[r3 Aa];exact RN.a ⟨none,RQ.none _ false ⟨none,0,0⟩ ⟨none,0,0⟩,rfl⟩)
  replace r4:=r4 Aa o2 Aa;have hk2:=hk2 Aa o2 Aa;clear r1 r3 hnum hnf;rcases (by omega:ks.length=1\/ks.length=2) with e1|e1
  .obtain⟨k0,rfl⟩:∃k0,ks=[k0]:=by
    match ks,e1 with
    | [k0],_=>exact⟨k0,rfl⟩
   have hun:=bGs (op:=op) (arg:=arg) Aa hnb.2.1 hnb.2.2.1;have o0:=iK hoks (j:=0) rfl;have i0:=fun h vs wb w=>ih k0 (bD (j:=0) rfl) h vs (d+1) wb w o0
   have f0:=fun q=>lS hvf k0 (d+1) o0 q
   rw[bY,bY] at r4;have g0:bL vals k0=none->R=none:=fun x=>by rw[r4,x];rfl
   have g1:∀q,bL vals k0=some q->unQ op arg q=R:=fun q x=>by rw[r4,x];rfl
   clear r4 ih;obtain⟨V0,h0⟩:=AH (bL vals k0);simp only[<-h0] at i0 g0 g1 f0;clear h0;simp only[bIs,bIv] at hkl;refine f0C ok D.q178 rfl ?_;conv=>whnf
   repeat' first|((first|(show LdN _ _ _ _ _;first|refine LdN.oA 0 rfl rfl ?_|refine LdN.oA 1 rfl rfl ?_|refine LdN.oA 2 rfl rfl ?_)|(show Idx _ _ _ _ _;(refine Idx.kid (hk.mono Ad) 0 k0 Aa rfl (fun ad op3 arg3 neg3 a3 b3 name3 s3 hE hld=>?_)))|(refine hld _ _ _ Ad ?_)|((first|apply oI.z|apply cI.z))|intro (_:Nat)|(show CN _ _ _ _ _ _;first|(refine CN.f rfl (i0 _ _ (wb.mono Ad) Ab) (fun v h' hl hr=>?_);obtain⟨n1,a1,b1,bb1,rfl,t1,t2⟩:=hr)|(obtain⟨c,t3,rfl,t4,t5⟩:=t1 rfl;refine CN.f rfl (aYb c (f0 c t3) _ op arg neg a b s name _ _ hun Ab) (fun v h' hl hr=>?_);obtain⟨x,hx,ex⟩:=hr;obtain⟨n2,a2,b2,bb2,rfl,u1,u2⟩:=hx))|(show Ld _ _ _ _;first|refine Ld.o 1 rfl rfl ?_|refine Ld.o 2 rfl rfl ?_)|(show Sto _ _ _ _;first|refine Sto.l 0 rfl rfl rfl ?_|refine Sto.l 1 rfl rfl rfl ?_))<;>conv=>whnf)|(show cnd _ _ _;first|(apply aD<;>intro _<;>first|(exfalso;omega)|conv=>whnf)|(refine aI ?_)|(refine bO (fun hb=>?_) (fun hb=>?_)<;>(first|cases hb|subst hb)<;>(conv=>whnf)))
   all_goals first
    | (rw[g0 (t2 rfl)];exact RN.a ⟨none,RQ.none _ false ⟨none,0,0⟩ ⟨none,0,0⟩,rfl⟩)
    | (rw[<-g1 c t3];exact RN.a ⟨x,⟨_,_,_,_,rfl,u1,u2⟩,ex⟩)
  .obtain⟨k0,k1,rfl⟩:∃k0 k1,ks=[k0,k1]:=by
    match ks,e1 with
    | [k0,k1],_=>exact⟨k0,k1,rfl⟩
   have hbi:=bGt (op:=op) Aa;have o0:=iK hoks (j:=0) rfl;have o1:=iK hoks (j:=1) rfl;have i0:=fun h vs wb w=>ih k0 (bD (j:=0) rfl) h vs (d+1) wb w o0
   have i1:=fun h vs wb w=>ih k1 (bD (j:=1) rfl) h vs (d+1) wb w o1
   have f0:=fun q=>lS hvf k0 (d+1) o0 q
   have f1:=fun q=>lS hvf k1 (d+1) o1 q
   rw[bY,bY,bY] at r4;have g0:bL vals k0=none->R=none:=fun x=>by rw[r4,x];rfl
   have g1:bL vals k1=none->R=none:=fun x=>by rw[r4,x];cases bL vals k0<;>rfl
   have g2:∀p q,bL vals k0=some p->bL vals k1=some q->biQ op p q=R:=fun p q x y=>by rw[r4,x,y];rfl
   clear r4 ih;obtain⟨V0,h0⟩:=AH (bL vals k0);obtain⟨V1,h1⟩:=AH (bL vals k1);simp only[<-h0] at i0 g0 g2 f0;simp only[<-h1] at i1 g1 g2 f1;clear h0 h1;simp only[bIs,bIv] at hkl;refine f0C ok D.q178 rfl ?_;conv=>whnf
   repeat' first|((first|(show LdN _ _ _ _ _;first|refine LdN.oA 0 rfl rfl ?_|refine LdN.oA 1 rfl rfl ?_|refine LdN.oA 2 rfl rfl ?_)|(show Idx _ _ _ _ _;first|(refine Idx.kid (hk.mono Ad) 0 k0 Aa rfl (fun ad op3 arg3 neg3 a3 b3 name3 s3 hE hld=>?_))|refine Idx.kid (hk.mono Ab) 1 k1 Aa rfl (fun ad op3 arg3 neg3 a3 b3 name3 s3 hE hld=>?_))|(refine hld _ _ _ Ad ?_)|((first|apply oI.z|apply cI.z))|intro (_:Nat)|(show CN _ _ _ _ _ _;first|(refine CN.f rfl (i0 _ _ (wb.mono Ad) Al) (fun v h' hl hr=>?_);obtain⟨n1,a1,b1,bb1,rfl,t1,t2⟩:=hr)|(obtain⟨c,t3,rfl,t4,t5⟩:=t1 rfl;refine CN.f rfl (i1 _ _ (wb.mono Ab) Ab) (fun v h' hl hr=>?_);obtain⟨n2,a2,b2,bb2,rfl,u1,u2⟩:=hr)|(obtain⟨e,u3,rfl,u4,u5⟩:=u1 rfl;refine CN.f rfl (bBx c e (f0 c t3) (f1 e u3) _ op _ _ _ _ hbi Ao Ab) (fun v h' hl hr=>?_);obtain⟨x,hx,ex⟩:=hr;obtain⟨n6,a6,b6,bb6,rfl,x1,x2⟩:=hx))|(show Ld _ _ _ _;first|refine Ld.o 1 rfl rfl ?_|refine Ld.o 2 rfl rfl ?_|refine Ld.o 3 rfl rfl ?_)|(show Sto _ _ _ _;first|refine Sto.l 0 rfl rfl rfl ?_|refine Sto.l 1 rfl rfl rfl ?_|refine Sto.l 2 rfl rfl rfl ?_))<;>conv=>whnf)|(show cnd _ _ _;first|(apply aD<;>intro _<;>first|(exfalso;omega)|conv=>whnf)|(refine aI ?_)|(refine bO (fun hb=>?_) (fun hb=>?_)<;>(first|cases hb|subst hb)<;>(conv=>whnf)))
   all_goals first
    | (rw[g0 (t2 rfl)];exact RN.a ⟨none,RQ.none _ false ⟨none,0,0⟩ ⟨none,0,0⟩,rfl⟩)
    | (rw[g1 (u2 rfl)];exact RN.a ⟨none,RQ.none _ false ⟨none,0,0⟩ ⟨none,0,0⟩,rfl⟩)
    | (rw[<-g2 c e t3 u3];exact RN.a ⟨x,⟨_,_,_,_,rfl,x1,x2⟩,ex⟩)
theorem aSe(bs:List (List Nat × Option Rat))(hbl:bs.length<=1099511627776)(hsm:iY bs)(hvf:∀b∈aS bs,fits b.2)(sb:Sl):∀t:Tr,∀(h:aA) (vs:List Value) (d:Nat),IsV h sb bs->IsE h vs t->okT d t->Fn0 T F.q101 [.agg vs.toArray,sb.val] h fun v h'=>RQ h' v (bL (aS bs) t):=by
 refine eE fun t ih=>?_
 intro h vs d wb w hok;have c1:=fun h vs wb w=>aNp bs hbl hsm hvf sb t ih h vs d wb w hok
 obtain⟨⟨op,arg,neg,l,m,name,ks⟩,ht⟩:=AH t;obtain⟨a,b,s,hvs,-⟩:=(ht.symm▸w:IsE h vs (.mk op arg neg l m name ks)).isK;subst hvs;obtain⟨R,hR⟩:=AH (bL (aS bs) t);simp only[<-hR] at c1;rw[<-hR];clear hR;have fo1:∀q,fits q->dZ q=some q:=fun q x=>if_pos x
 have fo2:∀q,¬fits q->dZ q=none:=fun q x=>if_neg x
 refine f0C ok D.q101 rfl ?_;conv=>whnf
 repeat' first|((first|(show LdN _ _ _ _ _;first|refine LdN.oA 0 rfl rfl ?_|refine LdN.oA 1 rfl rfl ?_)|(show CN _ _ _ _ _ _;first|(refine CN.f rfl (c1 _ _ (wb.mono Ad) Ab) (fun v h' hl hr=>?_);obtain⟨x,hx,rfl⟩:=hr;obtain⟨n1,a1,b1,bb1,rfl,t1,t2⟩:=hx)|(obtain⟨c,rfl,rfl,t4,t5⟩:=t1 rfl;refine CN.quiet rfl (aLy _ _ _ c t4 t5) ?_))|((first|apply oI.z|apply cI.z))|intro (_:Nat)|(show Sto _ _ _ _;first|refine Sto.l 0 rfl rfl rfl ?_|refine Sto.l 1 rfl rfl rfl ?_))<;>conv=>whnf)|(show cnd _ _ _;first|(refine aI ?_)|(apply aU<;>intro _<;>first|(exfalso;omega)|conv=>whnf)|(refine bO (fun hb=>?_) (fun hb=>?_)<;>(first|cases hb|subst hb)<;>(conv=>whnf)))
 all_goals first
  | (rw[t2 rfl];exact RN.a (RQ.none _ false ⟨none,0,0⟩ ⟨none,0,0⟩))
  | (rw[show (some c).bind dZ=none from fo2 c Ab];exact RN.a (RQ.none _ false ⟨none,0,0⟩ ⟨none,0,0⟩))
  | (rw[show (some c).bind dZ=some c from fo1 c Ab];exact RN.a (RQ.some t4 t5))
def tL(bs:List (List Nat × Option Rat)):Int:=if ¬eS bs then 41 else if ¬iY bs then 1 else 0
theorem aSf(bs:List (List Nat × Option Rat))(hbl:bs.length<=1099511627776)(sb:Sl)(h:aA)(wb:IsV h sb bs):Fn0 T F.q100 [sb.val] h fun v h'=>v=.int .i64 (tL bs):=by
 have c2:=fun h n hn=>oN h n hn
 have hsl:=wb.len;have r2:∀(j:Nat) n u,bs[j]?=some (n,u)->¬fD n->tL bs=41:=fun j n u hj x=>if_pos fun y=>x (y.1 _ (bIu hj))
 have r3:∀(i j:Nat) n n' u u',i<j->bs[i]?=some (n',u')->bs[j]?=some (n,u)->n'=n->tL bs=41:=fun i j n n' u u' hij hi hj e=>if_pos fun y=>by
  have h1:(bs.map (·.1))[i]?=some n':=by rw[bKo,hi];rfl
  have h2:(bs.map (·.1))[j]?=some n:=by rw[bKo,hj];rfl
  obtain⟨g1,k1⟩:=bIr.1 h1;obtain⟨g2,k2⟩:=bIr.1 h2;have:=(List.nodup_iff_pairwise_ne.1 y.2);have:=List.pairwise_iff_getElem.1 this i j g1 g2 hij;rw[k1,k2] at this;exact this e
 have r4:eS bs->∀(j:Nat) n u,bs[j]?=some (n,u)->¬u.isSome=true->tL bs=1:=fun x j n u hj y=>(if_neg fun z=>z x).trans (if_pos fun z=>y (z _ (bIu hj)))
 have r5:eS bs->iY bs->tL bs=0:=fun x y=>(if_neg fun z=>z x).trans (if_neg fun z=>z y)
 obtain⟨R,hR⟩:=AH (tL bs);rw[<-hR] at r5 ⊢;simp only[<-hR] at r2 r3 r4;clear hR;refine f0C ok D.q100 rfl ?_;conv=>whnf
 repeat ((first|apply oI.z|apply cI.z);conv=>whnf)
 skip
 refine LpN.keepL (fun r ρ hx=>∃i:Nat,r=bs.length-i/\i<=bs.length/\rd ρ 3=.int .i64 i/\Hq (eS (bs.take i))) bs.length ⟨0,rfl,bJe _,rfl,⟨aC5⟩⟩ ?_
 conv=>whnf
 repeat intro _
 rename_i r2' hy hle3 hI;obtain⟨i,rfl,hi,e3,hq⟩:=hI;conv at e3=>lhs;whnf
 subst e3;by_cases hil:i=bs.length
 .subst hil;have hqn:=hq.out;rw[bI4] at hqn;replace r4:=r4 hqn;replace r5:=r5 hqn;conv=>whnf
  repeat' ((first|((first|apply oI.z|apply cI.z))|(apply aB<;>intro _<;>try (exfalso;omega)))<;>conv=>whnf)
  refine LpN.keepL (fun r ρ hx=>∃i:Nat,r=bs.length-i/\i<=bs.length/\rd ρ 5=.int .i64 i/\Hq (iY (bs.take i))) bs.length ⟨0,rfl,bJe _,rfl,⟨aKy⟩⟩ ?_
  conv=>whnf
  repeat intro _
  rename_i r5' hz hle5 hI;obtain⟨k,rfl,hk,e5,hq5⟩:=hI;conv at e5=>lhs;whnf
  subst e5;have hle6:=aA.lt hle3 hle5;by_cases hkl:k=bs.length
  .subst hkl;have hqs:=hq5.out;rw[bI4] at hqs;conv=>whnf
   repeat' ((first|((first|apply oI.z|apply cI.z))|(apply aB<;>intro _<;>try (exfalso;omega)))<;>conv=>whnf)
   all_goals exact RN.a (by rw[r5 hqs])
  .obtain⟨⟨n,x⟩,hu⟩:∃x,bs[k]?=some x:=⟨_,bIq Aa⟩
   have wbx:=wb.mono hle6;have htk:=aY hu;replace r4:=r4 k n x hu;have cl:=fun h n a b w=>bEw h n a b x w
   clear r2 r3 r5;conv=>whnf
   repeat' first|((first|(show Idx _ _ _ _ _;refine Idx.valu wbx k n x Aa hu (fun bl off ng a2 b2 hnn hE h1 h2=>?_))|(show LdN _ _ _ _ _;refine LdN.hasN [.bool ng,a2.val,b2.val] rfl (fun i v hv=>h2 _ _ i v (aA.lr _) hv) ?_)|(show CN _ _ _ _ _ _;(refine CN.f rfl (cl _ _ _ _ Ab) (fun v h' hl2 hr=>?_);subst hr))|((first|apply oI.z|apply cI.z))|refine WN.i64 Aa Aa ?_)<;>conv=>whnf)|(show cnd _ _ _;first|(apply aB<;>intro _<;>first|(exfalso;omega)|conv=>whnf)|(refine aI ?_)|(apply aU<;>intro _<;>first|(exfalso;omega)|conv=>whnf))
   all_goals first
    | (rw[r4 Ab];exact RN.a rfl)
    | exact⟨rfl,bs.length-(k+1),Aa,Ac,rfl,k+1,rfl,Aa,vi Aa,⟨by rw[htk];exact uL.2 ⟨hq5.out,Ab⟩⟩⟩
 .obtain⟨⟨n,u⟩,hu⟩:∃x,bs[i]?=some x:=⟨_,bIq Aa⟩
  have wbx:=wb.mono hle3;have hnb:=wb.bytes hu;have c2:=fun h=>c2 h n hnb
  replace r2:=r2 i n u hu;have r3:=fun k n' u' a b=>r3 k i n n' u u' a b hu
  have htk:=aY hu;clear r4 r5;conv=>whnf
  repeat' first|((first|(show Idx _ _ _ _ _;refine Idx.valu wbx i n u Aa hu (fun bl off ng a2 b2 hnn hE h1 h2=>?_))|(show Ld _ _ _ _;refine Ld.of (h1 _ _ (aA.lr _)) ?_)|(show CN _ _ _ _ _ _;(refine CN.f rfl (c2 _) (fun v h' hl2 hr=>?_);subst hr))|((first|apply oI.z|apply cI.z)))<;>conv=>whnf)|(show cnd _ _ _;first|(apply aB<;>intro _<;>first|(exfalso;omega)|conv=>whnf)|(refine aI ?_)|(apply aU<;>intro _<;>first|(exfalso;omega)|conv=>whnf))
  all_goals try (rw[r2 Ab];exact RN.a rfl)
  have hnm:fD n:=Ab;refine LpN.keepL (fun r ρ hx=>∃k:Nat,r=i-k/\k<=i/\rd ρ 4=.int .i64 k/\Hq (∀(q:Nat) n' u',q<k->bs[q]?=some (n',u')->n'≠n)) i ⟨0,rfl,bJe _,rfl,⟨fun q n' u' x=>absurd x (Nat.not_lt_zero _)⟩⟩ ?_
  conv=>whnf
  repeat intro _
  rename_i r3' hz hle4 hI;obtain⟨k,rfl,hk,e4,hq2⟩:=hI;conv at e4=>lhs;whnf
  subst e4;have hle5:=aA.lt (aA.lt hle3 hl2) hle4;by_cases hkl:k=i
  .subst hkl;have hn2:eS (bs.take (k+1)):=by
    rw[htk];refine jJ.2 ⟨hq.out,hnm,fun x=>?_⟩
    obtain⟨⟨n',u'⟩,hm,e⟩:=List.mem_map.1 x;obtain⟨q,hq1,hq3⟩:=List.mem_take_iff_getElem.1 hm;exact hq2.out q n' u' Aa (by rw[bIq Aa,hq3]) e
   conv=>whnf
   repeat' ((first|((first|apply oI.z|apply cI.z))|refine WN.i64 Aa Aa ?_|(apply aB<;>intro _<;>try (exfalso;omega)))<;>conv=>whnf)
   all_goals exact⟨rfl,bs.length-(k+1),Aa,hle5,rfl,k+1,rfl,Aa,vi Aa,⟨hn2⟩⟩
  .obtain⟨⟨n',u'⟩,hu'⟩:∃x,bs[k]?=some x:=⟨_,bIq Aa⟩
   have wbz:=wb.mono hle5;have hnb':=wb.bytes hu';replace r3:=r3 k n' u' Aa hu';conv=>whnf
   repeat' first|((first|(show DrN _ _ _ _ _ _;refine DrN.run Ak ?_)|(show Idx _ _ _ _ _;first|refine Idx.valu wbz k n' u' Aa hu' (fun blk offk ngk a2k b2k hnnk hEk h1k h2k=>?_)|refine Idx.valu wbz i n u Aa hu (fun blz offz ngz a2z b2z hnnz hEz h1z h2z=>?_))|(show Ld _ _ _ _;first|refine Ld.of (h1k _ _ (aA.lr _)) ?_|refine Ld.of (h1z _ _ (aA.lr _)) ?_)|((first|apply oI.z|apply cI.z))|refine WN.i64 Aa Aa ?_)<;>conv=>whnf)|(show cnd _ _ _;first|(refine oM hnb' hnb (fun _=>?_) (fun _=>?_)<;>(conv=>whnf))|(apply aB<;>intro _<;>first|(exfalso;omega)|conv=>whnf))
   .rw[r3 Ab];exact RN.a rfl
   .have hne:n'≠n:=Ab;exact⟨rfl,i-(k+1),Aa,Ab,rfl,k+1,rfl,Aa,vi Aa,⟨fun q a b x y=>by
      rcases Nat.lt_succ_iff_lt_or_eq.1 x with x|rfl
      .exact hq2.out q a b x y
      .rw[hu'] at y;cases y;exact hne⟩⟩
theorem aSg(bs:List (List Nat × Option Rat))(hbl:bs.length<=1099511627776)(sb:Sl)(t:Tr)(h:aA)(vs:List Value)(wb:IsV h sb bs)(w:IsE h vs t):Fn0 T F.q52 [.agg vs.toArray,sb.val] h fun v h'=>uO h' v (jN bs t):=by
 have hvf:=nV wb;have c1:=fun h vs w=>lR t h vs w
 have c2:=fun h wb=>aSf bs hbl sb h wb
 have c3:=fun h vs wb w (x:bB t) (y:iY bs)=>aSe bs hbl y hvf sb t h vs 1 wb w x.1
 have r1:¬bB t->jN bs t=(0,false,40):=zA;have r2:bB t->tL bs≠0->jN bs t=(0,false,tL bs):=fun v x=>by
  by_cases n:eS bs
  .by_cases s:iY bs
   .exact absurd ((if_neg fun z=>z n).trans (if_neg fun z=>z s)) x
   .rw[zC v n s];exact congrArg (fun e=>((0:Rat),false,e)) ((if_neg fun z=>z n).trans (if_pos s):tL bs=1).symm
  .rw[zB v n];exact congrArg (fun e=>((0:Rat),false,e)) (if_pos n:tL bs=41).symm
 have r0:tL bs=0->eS bs/\iY bs:=fun x=>by
  by_cases n:eS bs
  .by_cases s:iY bs
   .exact⟨n,s⟩
   .exact absurd (((if_neg fun z=>z n).trans (if_pos s):tL bs=1).symm.trans x) Ae
  .exact absurd ((if_pos n:tL bs=41).symm.trans x) Ae
 have r4:bB t->tL bs=0->bL (aS bs) t=none->jN bs t=(0,false,0):=fun x y u=>uJ x (r0 y).1 (r0 y).2 u
 have r5:bB t->tL bs=0->∀q,bL (aS bs) t=some q->jN bs t=(q,true,0):=fun x y q u=>uK x (r0 y).1 (r0 y).2 u
 have r6:tL bs=0->iY bs:=fun x=>(r0 x).2
 clear r0;obtain⟨E,hE⟩:=AH (tL bs);obtain⟨R,hR⟩:=AH (jN bs t);obtain⟨V,hV⟩:=AH (bL (aS bs) t);rw[<-hR];simp only[<-hR] at r1 r2 r4 r5;simp only[<-hE] at c2 r2 r4 r5 r6;simp only[<-hV] at c3 r4 r5;clear hR hE hV;obtain⟨⟨op,arg,neg,l,m,name,ks⟩,ht⟩:=AH t;obtain⟨a,b,s,hvs,-⟩:=(ht.symm▸w:IsE h vs (.mk op arg neg l m name ks)).isK;subst hvs;refine f0C ok D.q52 rfl ?_;conv=>whnf
 repeat' first|((first|(show LdN _ _ _ _ _;first|refine LdN.oA 0 rfl rfl ?_|refine LdN.oA 1 rfl rfl ?_)|(show CN _ _ _ _ _ _;first|(refine CN.f rfl (c1 _ _ Ab) (fun v h' hl2 hr=>?_);subst hr)|(refine CN.f rfl (c2 _ (wb.mono Ab)) (fun v h' hl2 hr=>?_);subst hr)|(refine CN.f rfl (c3 _ _ (wb.mono Ac) Al Ab (r6 Aa)) (fun v h' hl2 hr=>?_);obtain⟨n1,a1,b1,bb1,rfl,t1,t2⟩:=hr)|(obtain⟨c,t3,rfl,t4,t5⟩:=t1 rfl;refine CN.f rfl (aTb _ _ _ c t4 t5) (fun v h' hl2 hr=>?_);obtain⟨a2,b2,rfl,hq2⟩:=hr))|((first|apply oI.z|apply cI.z))|intro (_:Nat)|(show Sto _ _ _ _;first|refine Sto.l 0 rfl rfl rfl ?_|refine Sto.l 1 rfl rfl rfl ?_))<;>conv=>whnf)|(show cnd _ _ _;first|(apply aD<;>intro _<;>first|(exfalso;omega)|conv=>whnf)|(refine aI ?_)|(apply aU<;>intro _<;>first|(exfalso;omega)|conv=>whnf)|(refine bO (fun hb=>?_) (fun hb=>?_)<;>(first|cases hb|subst hb)<;>(conv=>whnf)))
 all_goals first
  | (rw[r1 Ab];exact RN.a (uO.err _ _))
  | (rw[r2 Ab Aa];exact RN.a (uO.err _ _))
  | (rw[r4 Ab Aa (t2 rfl)];exact RN.a (uO.err _ _))
  | (rw[r5 Ab Aa c t3];exact RN.a ⟨_,_,rfl,Ab⟩)
end Go.Proofs.Y
/- The value of a form's terms: the document's sum. -/
namespace Go.Vc
open Go Go.Dig
theorem Sto.tl4{A F G tl:Vc.Own}{u:Nat × Obj}{b off:Nat}{vs l:List Value}{T:TypeId}{k:Vc.Own->Prop}(hl:Nat.ble (off+vs.length) l.length=true)(ho:vs.all gT=true)
  (hk:zG vs l off fun l=>k (A++(F++(G++u::(b,.cells l.toArray T (0,0))::tl)))):Sto (A++(F++(G++u::(b,.cells l.toArray T (0,0))::tl))) ⟨b,off,none⟩ vs k:=by
 have:=Sto.tl3 (A:=A) (F:=F) (G:=G++[u]) (tl:=tl) (b:=b) (off:=off) (vs:=vs) (l:=l) (T:=T) (k:=k) hl ho (by simpa[bIt] using hk)
 simpa[bIt] using this
theorem LdN.tl4{h:aA}{A F G tl:Vc.Own}{u:Nat × Obj}{b o m:Nat}{k:Value->Prop}{l:List Value}{T:TypeId}(hl:Nat.ble (o+m) l.length=true)(hk:k (.agg ((l.drop o).take m).toArray)):LdN h (A++(F++(G++u::(b,.cells l.toArray T (0,0))::tl))) ⟨b,o,none⟩ m k:=by
 have:=LdN.tl3 (h:=h) (A:=A) (F:=F) (G:=G++[u]) (tl:=tl) (b:=b) (l:=l) (T:=T) hl hk
 simpa[bIt] using this
end Go.Vc
namespace Go.Proofs.Y
open Go Go.Vc Go.Dig
structure bG1 (p:Pol):Prop where
 fit:∀t∈p,fits t.2
 len:p.length<=200
 key:∀t∈p,t.1.length<=300
 deg:∀t∈p,∀f∈t.1,f.2<=64
theorem aYe{t:Tr}{p:Pol}(h:dM t=.ok p):bB t/\aO t=.ok p/\bG1 p:=by
 have hv:bB t:=Classical.byContradiction fun hn=>by unfold dM at h;rw[if_neg hn] at h;cases h
 have h2:aO t=.ok p:=by unfold dM at h;rw[if_pos hv] at h;exact h
 obtain⟨S,hS,-,g⟩:=kB t 1 hv.1 h2;exact⟨hv,h2,g.good.fit,g.good.len,fun t ht=>bJd (g.len t ht) (bJd hS hv.2),g.good.deg⟩
theorem aYf{q:Rat}(s:Sr 128 q){n:Nat}(hn:n<=64):Sr 8200 (q^n):=by
 have h1:=oY tlb (nu q) n;have h2:=oY tlb q.den n;have b1:n*ln 65536 (nu q)<=64*128:=bJ8 hn s.num;have b2:n*ln 65536 q.den<=64*128:=bJ8 hn s.den;have p:=jA 65536 tlb;refine⟨?_,?_⟩
 .rw[vC];omega
 .rw[bNh];omega
theorem aYg{bs:List (List Nat × Option Rat)}(nb:eS bs)(sb:iY bs){n:List Nat}(hn:fD n){x:Rat}(hx:eN (aS bs) n=some x):jN bs (gA n)=(x,true,0):=
 uK ⟨aAt hn,by unfold gA;rw[szT,fO];omega⟩ nb sb (by unfold gA;rw[bL];exact hx)
theorem aSh{bs:List (List Nat × Option Rat)}(nb:eS bs)(sb:iY bs){n:List Nat}(hn:fD n)(hx:eN (aS bs) n=none):jN bs (gA n)=(0,false,0):=
 uJ ⟨aAt hn,by unfold gA;rw[szT,fO];omega⟩ nb sb (by unfold gA;rw[bL];exact hx)
theorem aYh(h:aA)(a b:Sl)(q:Rat)(hq:eA h a b q)(hf:fits q):Fn0 T F.q21 [.agg #[.bool (sg q),a.val,b.val]] h fun v h'=>∃c d:Sl,v=.agg #[.bool (sg q),c.val,d.val]/\IsQ h' c d q:=by
 have:=sM h (sg q) a b _ _ (lO hq (oK hf));rw[jO] at this;exact this
theorem aK0{α:Type}{l:List α}{i:Nat}{x:α}(h:l[i]?=some x):l.drop i=x::l.drop (i+1):=by
 obtain⟨hi,e⟩:=bIr.1 h;rw[bJo hi,e]
attribute [local irreducible] Vc.Fn FnP
theorem aYi(bs:List (List Nat × Option Rat))(hbl:bs.length<=1099511627776)(nb:eS bs)(smb:iY bs)(sb:Sl)(h:aA)(wb:IsV h sb bs)(s:Sl)(p:Pol)(w:gJ RmW h s p)(bt:bG1 p):
  Fn0 T F.q19 [s.val,sb.val] h fun v h'=>v=.tuple #[.agg #[.bool false,.slice none 0 0,.slice none 0 0],.bool false]\/∃(q:Rat) (a d:Sl),v=.tuple #[.agg #[.bool (sg q),a.val,d.val],.bool true]/\IsQ h' a d q/\xO (aS bs) p 0=some q:=by
 have hvf:=nV wb;have cV:=fun h n (hn:∀y∈n,y<256) wb=>aSg bs hbl sb (gA n) h _ wb (IsE.var hn)
 have vy:=fun n (hn:fD n) x (hx:eN (aS bs) n=some x)=>aYg nb smb hn hx
 have vn:=fun n (hn:fD n) (hx:eN (aS bs) n=none)=>aSh nb smb hn hx
 obtain⟨V,hV⟩:=AH (aS bs);rw[<-hV] at hvf vy vn ⊢;obtain⟨l,e1,r1,t1⟩:=w;have hlen:l.length<=200:=by have:=bt.len;rw[<-e1,bJb] at this;exact this
 have bf:∀x∈l,fits x.q/\x.m.length<=300/\∀f∈x.m,f.2<=64:=fun x hx=>by
  have hm:pq x∈p:=by rw[<-e1];exact bJg hx
  exact⟨bt.fit _ hm,bt.key _ hm,bt.deg _ hm⟩
 have hs:s.l=l.length:=by have:=r1.len;rw[bK] at this;omega
 have hpd:∀(i:Nat) x,l[i]?=some x->p.drop i=(x.m,x.q)::p.drop (i+1):=fun i x hx=>by
  rw[<-e1];exact aK0 (by rw[bKo,hx];rfl)
 have hpe:p.drop l.length=[]:=by rw[<-e1];exact bLk (by rw[bJb];omega)
 have hz:∀h a d,IsQ h a d ((0:Int):Rat)->IsQ h a d 0:=fun h a d w=>w
 have z0:Sr 2460130 0:=(jF gC).mono Ae;clear bt e1;refine f0C ok D.q19 rfl ?_;conv=>whnf
 repeat ((first|apply oI.z|apply cI.z);conv=>whnf)
 intro b4;conv=>whnf
 repeat' ((first|(show CN _ _ _ _ _ _;(refine CN.f rfl (aGa _ 0 Ae Ae) (fun v h' hl hr=>?_);obtain⟨a0,d0,rfl,hq0⟩:=hr))|intro (b6:Nat)|((first|apply oI.z|apply cI.z))|refine Sto.l 0 rfl rfl rfl ?_)<;>conv=>whnf)
 refine LpN.of (fun k ρ hx L=>∃(i:Nat) (J:Vc.Own) (Q:Rat) (a d:Sl),k=l.length-i/\h.le hx/\i<=l.length/\L=J++[(b6,.cells [Value.bool (sg Q),a.val,d.val].toArray 44 (0,0)),(b4,.cells [Value.bool false,.slice none 0 0,.slice none 0 0].toArray 44 (0,0))]/\rd ρ 7=.int .i64 i/\IsQ hx a d Q/\Sr ((i+1)*2460130) Q/\Hq (xO V p 0=xO V (p.drop i) Q)) l.length
  ⟨0,[],0,a0,d0,rfl,Ab,bJe _,rfl,rfl,hz _ _ _ hq0,z0,⟨rfl⟩⟩ ?_
 conv=>whnf
 repeat intro _
 rename_i q2 h2 L2 hI;obtain⟨i,J,Q,a,d,rfl,hle,hi,rfl,e7,hQ,sQ,⟨hq⟩⟩:=hI;conv at e7=>lhs;whnf
 subst e7;have r1x:=r1.mono hle;have wbx:=wb.mono hle;by_cases hil:i=l.length
 .rw[hil,hpe] at hq;conv=>whnf
  repeat' ((first|(show LdN _ _ _ _ _;first|refine LdN.tl (A:=[]) (F:=J) rfl ?_|refine LdN.tl3 (A:=[]) (F:=J) (G:=[_]) rfl ?_)|(show Sto _ _ _ _;refine Sto.tl3 (A:=[]) (F:=J) (G:=[_]) rfl rfl ?_)|((first|apply oI.z|apply cI.z))|(apply aB<;>intro _<;>try (exfalso;omega)))<;>conv=>whnf)
  exact RN.a (R:=fun v h'=>v=.tuple #[.agg #[.bool false,.slice none 0 0,.slice none 0 0],.bool false]\/∃(q:Rat) (a d:Sl),v=.tuple #[.agg #[.bool (sg q),a.val,d.val],.bool true]/\IsQ h' a d q/\xO V p 0=some q) (.inr ⟨Q,a,d,rfl,hQ,hq⟩)
 .obtain⟨x,hx⟩:∃t,l[i]?=some t:=⟨_,bIq Aa⟩
  have hxm:=bIu hx;have wx:RmW h2 x:=UpE.up hle (t1 x hxm);obtain⟨fx,kx,dx⟩:=bf x hxm;have hp:=hpd i x hx;obtain⟨xn,xa,xd,xf,xm,xq⟩:=x;obtain rfl:xn=sg xq:=wx.sg;dsimp only at fx kx dx hp;have c5:=fun h w=>aYh h xa xd xq w fx
  have wq:=wx.q;have wf:=wx.fac.rw;dsimp only at wq wf;have z5:Sr 128 xq:=jF fx;conv=>whnf
  repeat' ((first|(show Idx _ _ _ _ _;refine Idx.el r1x i _ Aa hx (fun ab ao aw=>?_))|(show LdN _ _ _ _ _;(refine LdN.elq aw Ad ?_))|(show CN _ _ _ _ _ _;(refine CN.f rfl (c5 _ (wq.mono Ad)) (fun v h' hl hr=>?_);obtain⟨a8,d8,rfl,hq8⟩:=hr))|intro (bq:Nat)|((first|apply oI.z|apply cI.z))|refine Sto.l 0 rfl rfl rfl ?_|(apply aB<;>intro _<;>try (exfalso;omega)))<;>conv=>whnf)
  refine LpN.of (fun r ρ hx L=>∃(k:Nat) (J2:Vc.Own) (Q2:Rat) (a2 d2:Sl),r=xm.length-k/\h2.le hx/\k<=xm.length/\L=J2++((bq,.cells [Value.bool (sg Q2),a2.val,d2.val].toArray 44 (0,0))::(J++[(b6,.cells [Value.bool (sg Q),a.val,d.val].toArray 44 (0,0)),(b4,.cells [Value.bool false,.slice none 0 0,.slice none 0 0].toArray 44 (0,0))]))/\rd ρ 9=.int .i64 k/\IsQ hx a2 d2 Q2/\Sr (128+k*8200) Q2/\Hq (aCs V xm xq=aCs V (xm.drop k) Q2)) xm.length
   ⟨0,[],xq,a8,d8,rfl,Ab,bJe _,rfl,rfl,hq8,z5,⟨rfl⟩⟩ ?_
  conv=>whnf
  repeat intro _
  rename_i q4 h4 L4 hI;obtain⟨k,J2,Q2,a2,d2,rfl,hle4,hk,rfl,e9,hQ2,sQ2,⟨hq2⟩⟩:=hI;conv at e9=>lhs;whnf
  subst e9;have r1y:=r1x.mono hle4;have wfy:=wf.mono hle4;have wby:=wbx.mono hle4;have hfl:xf.l=xm.length:=by have:=wfy.len;rw[cR] at this;omega
  have hfl2:(El.mk (sg xq) xa xd xf xm xq).f.l=xm.length:=hfl;by_cases hkl:k=xm.length
  .rw[hkl,bMc] at hq2;have hq3:xO V p 0=xO V (p.drop (i+1)) (Q+Q2):=by rw[hq,hp,xO,hq2];rfl
   have hQ4:=hQ.mono hle4;have sQ3:Sr ((i+1+1)*2460130) (Q+Q2):=(aGb sQ sQ2).mono Aa;have cS:=fun h w w'=>aF9 h a d a2 d2 Q Q2 w w' (sQ.mono Aa) (sQ2.mono Aa)
   clear hq hq2 hp;conv=>whnf
   repeat' ((first|(show Idx _ _ _ _ _;refine Idx.el r1y i _ Aa hx (fun ab ao aw=>?_))|(show Ld _ _ _ _;(refine Ld.elf aw Ad ?_))|(show LdN _ _ _ _ _;first|refine LdN.tl3 (A:=[]) (F:=J2) (G:=_::J) rfl ?_|refine LdN.tl (A:=[]) (F:=J2) rfl ?_)|(show CN _ _ _ _ _ _;(refine CN.f rfl (cS _ Ab Ab) (fun v h' hl hr=>?_);obtain⟨a9,d9,rfl,hq9⟩:=hr))|(show Sto _ _ _ _;refine Sto.tl3 (A:=[]) (F:=J2) (G:=_::J) rfl rfl ?_)|((first|apply oI.z|apply cI.z))|refine WN.i64 Aa Aa ?_|(apply aB<;>intro _<;>try (exfalso;omega)))<;>conv=>whnf)
   exact⟨rfl,l.length-(i+1),Aa,i+1,J2++((bq,.cells [Value.bool (sg Q2),a2.val,d2.val].toArray 44 (0,0))::J),Q+Q2,a9,d9,rfl,Ac,Aa,by simp only[bIt,bJ7];rfl,vi Aa,hq9,sQ3,⟨hq3⟩⟩
  .obtain⟨t,ht⟩:∃t,xm[k]?=some t:=⟨_,bIq Aa⟩
   have htd:=aK0 ht;have he:=dx t (bIu ht);obtain⟨x,e⟩:=t;obtain⟨n,hn⟩:=AH (x.map UInt8.toNat);have hn256:∀y∈n,y<256:=fun y hy=>by rw[hn] at hy;obtain⟨z,-,rfl⟩:=List.mem_map.1 hy;exact z.toNat_lt
   have hx8:x=b8 n:=by rw[hn,aWq]
   have htx:(⟨x.toArray⟩:ByteArray)=txt n:=by rw[hx8];rfl
   have hnA:nmA x↔fD n:=by unfold nmA;rw[hn]
   have cN:=fun h=>oN h n hn256
   have cV2:=fun h wb=>cV h n hn256 wb
   dsimp only at he;rw[htd] at hq2;by_cases hnm:fD n
   .cases hf:eN V n with
    | none=>
     simp only[vn n hnm hf] at cV2;replace cV2:∀h,IsV h sb bs->Fn0 T F.q52 [_,sb.val] h fun v h'=>∃a b:Sl,v=.tuple #[.agg #[.bool (sg 0),a.val,b.val],.bool false,.int .i64 0]/\eA h' a b 0:=cV2
     rw[aX hnm] at cN;clear hq hq2 hp vy vn cV hnA;conv=>whnf
     repeat' ((first|(show Idx _ _ _ _ _;first|refine Idx.el r1y i _ Aa hx (fun ab ao aw=>?_)|refine Idx.fac wfy k _ Aa ht (fun bk off k0 k1=>?_))|(show Ld _ _ _ _;first|(refine Ld.elf aw Ad ?_)|refine Ld.o 0 rfl rfl ?_|refine Ld.o 1 rfl rfl ?_)|(show LdN _ _ _ _ _;first|(refine LdN.two (k0 _) (k1 _) ?_;rw[htx])|refine LdN.tl4 (A:=[_,_]) (F:=J2) (G:=_::J) rfl ?_)|(show CN _ _ _ _ _ _;first|(refine CN.f rfl (cV2 _ (wby.mono Ad)) (fun v h' hl hr=>?_);obtain⟨a9,d9,rfl,hq9⟩:=hr)|(refine CN.f rfl (cN _) (fun v h' hl hr=>?_);obtain rfl:=hr))|(show Sto _ _ _ _;first|refine Sto.tl4 (A:=[_,_]) (F:=J2) (G:=_::J) rfl rfl ?_|refine Sto.l 0 rfl rfl rfl ?_)|((first|apply oI.z|apply cI.z))|intro (_:Nat)|(apply aB<;>intro _<;>try (exfalso;omega)))<;>conv=>whnf)
     all_goals exact RN.a (R:=fun v h'=>v=.tuple #[.agg #[.bool false,.slice none 0 0,.slice none 0 0],.bool false]\/∃(q:Rat) (a d:Sl),v=.tuple #[.agg #[.bool (sg q),a.val,d.val],.bool true]/\IsQ h' a d q/\xO V p 0=some q) (Or.inl rfl)
    | some X=>
     simp only[vy n hnm X hf] at cV2;replace cV2:∀h,IsV h sb bs->Fn0 T F.q52 [_,sb.val] h fun v h'=>∃a b:Sl,v=.tuple #[.agg #[.bool (sg X),a.val,b.val],.bool true,.int .i64 0]/\eA h' a b X:=cV2
     have hXf:fits X:=vQ hvf hf;rw[aX hnm] at cN;have hq3:aCs V xm xq=aCs V (xm.drop (k+1)) (Q2*X^e):=by rw[hq2,aCs,if_pos (hnA.2 hnm),<-hn,hf];rfl
     have sp:=aYf (jF hXf) he;have sQ3:Sr (128+(k+1)*8200) (Q2*X^e):=(aL1 sQ2 sp).mono Aa;have cO:=fun h a b w=>aYh h a b X w hXf
     have cW:=fun h a b w=>wO h a b X e e rfl he w (jF hXf)
     have cP:=fun h a b c d w w'=>aAf h a b c d Q2 (X^e) w w' (sQ2.mono Aa) (sp.mono Ae)
     obtain⟨PW,hPW⟩:=AH (X^e);simp only[<-hPW] at cW cP hq3 sQ3;clear hq hq2 hp vy vn cV hnA sp hPW;conv=>whnf
     repeat' ((first|(show Idx _ _ _ _ _;first|refine Idx.el r1y i _ Aa hx (fun ab ao aw=>?_)|refine Idx.fac wfy k _ Aa ht (fun bk off k0 k1=>?_))|(show Ld _ _ _ _;first|(refine Ld.elf aw Ad ?_)|refine Ld.o 0 rfl rfl ?_|refine Ld.o 1 rfl rfl ?_)|(show LdN _ _ _ _ _;first|(refine LdN.two (k0 _) (k1 _) ?_;rw[htx])|refine LdN.tl (A:=[_,_]) (F:=J2) rfl ?_|refine LdN.o 0 rfl rfl ?_)|(show CN _ _ _ _ _ _;first|(refine CN.f rfl (cV2 _ (wby.mono Ad)) (fun v h' hl hr=>?_);obtain⟨a9,d9,rfl,hq9⟩:=hr)|(refine CN.f rfl (cN _) (fun v h' hl hr=>?_);obtain rfl:=hr)|(refine CN.f rfl (cO _ _ _ (by (iterate 30 try first|assumption|refine eA.mono ?_ Ab);first|done|assumption)) (fun v h' hl hr=>?_);obtain⟨a6,d6,rfl,hq6⟩:=hr)|(refine CN.f rfl (cW _ _ _ Ab) (fun v h' hl hr=>?_);obtain⟨a7,d7,rfl,hq7⟩:=hr)|(refine CN.f rfl (cP _ _ _ _ _ Ao Ab) (fun v h' hl hr=>?_);obtain⟨a3,d3,rfl,hq3'⟩:=hr))|(show Sto _ _ _ _;first|refine Sto.tl (A:=[_,_]) (X:=J2) rfl rfl ?_|refine Sto.l 0 rfl rfl rfl ?_)|((first|apply oI.z|apply cI.z))|refine⟨fun _=>aJ.o Ab,?_⟩|refine⟨fun hst=>(by cases (show true=false from hst)),?_⟩|intro (_:Nat)|refine WN.i64 Aa Aa ?_|refine DrN.run Ak ?_|(apply aB<;>intro _<;>try (exfalso;omega)))<;>conv=>whnf)
     all_goals skip
     all_goals exact⟨rfl,xm.length-(k+1),Aa,k+1,_::_::J2,Q2*PW,a3,d3,rfl,Ac,Aa,rfl,vi Aa,Ab,sQ3,⟨hq3⟩⟩
   .rw[aH hnm] at cN;replace cV2:∀h,IsV h sb bs->Fn0 T F.q52 [_,sb.val] h fun v h'=>∃a b:Sl,v=.tuple #[.agg #[.bool (sg _),a.val,b.val],.bool _,.int .i64 _]/\eA h' a b _:=cV2
    obtain⟨⟨X1,X2,X3⟩,hX⟩:=AH (jN bs (gA n));simp only[<-hX] at cV2;clear hq hq2 hp vy vn cV hnA hX;conv=>whnf
    repeat' ((first|(show Idx _ _ _ _ _;first|refine Idx.el r1y i _ Aa hx (fun ab ao aw=>?_)|refine Idx.fac wfy k _ Aa ht (fun bk off k0 k1=>?_))|(show Ld _ _ _ _;first|(refine Ld.elf aw Ad ?_)|refine Ld.o 0 rfl rfl ?_|refine Ld.o 1 rfl rfl ?_)|(show LdN _ _ _ _ _;first|(refine LdN.two (k0 _) (k1 _) ?_;rw[htx])|refine LdN.tl4 (A:=[_,_]) (F:=J2) (G:=_::J) rfl ?_)|(show CN _ _ _ _ _ _;first|(refine CN.f rfl (cV2 _ (wby.mono Ad)) (fun v h' hl hr=>?_);obtain⟨a9,d9,rfl,hq9⟩:=hr)|(refine CN.f rfl (cN _) (fun v h' hl hr=>?_);obtain rfl:=hr))|(show Sto _ _ _ _;first|refine Sto.tl4 (A:=[_,_]) (F:=J2) (G:=_::J) rfl rfl ?_|refine Sto.l 0 rfl rfl rfl ?_)|((first|apply oI.z|apply cI.z))|intro (_:Nat)|(apply aB<;>intro _<;>try (exfalso;omega)))<;>conv=>whnf)
    all_goals exact RN.a (R:=fun v h'=>v=.tuple #[.agg #[.bool false,.slice none 0 0,.slice none 0 0],.bool false]\/∃(q:Rat) (a d:Sl),v=.tuple #[.agg #[.bool (sg q),a.val,d.val],.bool true]/\IsQ h' a d q/\xO V p 0=some q) (Or.inl rfl)
theorem aDl(h:aA)(tb:Tb h)(pw:Pw h)(t:Tr)(vs:List Value)(w:IsE h vs t)(sb:Sl)(bs:List (List Nat × Option Rat))(wb:IsV h sb bs)(hbl:bs.length<=1099511627776):Fn0 T F.q6 [.agg vs.toArray,sb.val] h fun v h'=>v=.bool true:=by
 have c1:=fun h tb wb w=>xW bs hbl sb t h vs tb wb w
 have c2:=fun h tb pw w=>aHt t h vs tb pw w
 obtain⟨p,e,-,hpe,hp⟩:=aKw t;have he:e=0->dM t=.ok p:=fun x=>hpe.elim (fun y=>y.1) fun y=>absurd x (aE8 y.2)
 have c9:=fun h tb pw=>uA h tb pw
 have hv:=nV wb;have f1:=zD (t:=t) hv;obtain⟨⟨A1,A2,A3⟩,hA⟩:=AH (jN bs t);have c3:∀h s,IsV h sb bs->gJ RmW h s p->A2=true->A3=0->e=0->Fn0 T F.q19 [s.val,sb.val] h fun v h'=>v=.tuple #[.agg #[.bool false,.slice none 0 0,.slice none 0 0],.bool false]\/∃(a d:Sl),v=.tuple #[.agg #[.bool (sg A1),a.val,d.val],.bool true]/\IsQ h' a d A1:=fun h s wb w x2 x3 x=>by
  subst x2;subst x3;obtain⟨ht,h1,bt⟩:=aYe (he x);obtain⟨-,nb,smb⟩:=xX (bs:=bs) (t:=t) (by rw[<-hA]);rw[aHv ht nb smb] at hA;refine (aYi bs hbl nb smb sb h wb s p w bt).mono fun v h' _ r=>?_
  rcases r with r|⟨q,a,d,r1,r2,r3⟩
  .exact .inl r
  .obtain rfl:=bBd hv ht h1 (zE hA.symm) r3;exact .inr ⟨a,d,r1,r2⟩
 simp only[<-hA] at c1;rw[<-hA] at f1;replace f1:fits A1:=f1;replace c1:∀h,Tb h->IsV h sb bs->IsE h vs t->Fn0 T F.q17 [.agg vs.toArray,sb.val] h fun v h'=>∃a b:Sl,v=.tuple #[.agg #[.bool (sg A1),a.val,b.val],.bool A2,.int .i64 A3]/\eA h' a b A1:=c1
 have c4:=fun h a b w=>aYh h a b A1 w f1
 have c5:=fun h a b c d w w'=>qY h a b c d A1 A1 w w' ((jF f1).mono Ae) ((jF f1).mono Ae)
 simp only[show eX A1 A1=0 from jY.2 rfl] at c5;obtain⟨S,hS⟩:=AH (sg A1);simp only[<-hS] at c1 c3 c4 c5;obtain⟨r,hr⟩:=AH (dM t);simp only[<-hr] at c2 hp;clear hA hS he hpe hr f1 hv;obtain⟨⟨o1,g1,e1,l1,m1,i1,ks1⟩,ht⟩:=AH t;obtain⟨a1,b1,z1,hvs,-⟩:=(ht.symm▸w:IsE h vs (.mk o1 g1 e1 l1 m1 i1 ks1)).isK;subst hvs;clear ht;refine f0C ok D.q6 rfl ?_;conv=>whnf
 repeat' first|((first|(show LdN _ _ _ _ _;first|refine LdN.oA 0 rfl rfl ?_|refine LdN.oA 1 rfl rfl ?_)|((first|apply oI.z|apply cI.z))|refine⟨fun _=>aJ.o Ab,?_⟩|intro (_:Nat)|refine Sto.l 0 rfl rfl rfl ?_|refine DrN.run Ak ?_)<;>conv=>whnf)|(show CN _ _ _ _ _ _;(first|(refine CN.f rfl (c1 _ Ab (wb.mono Ad) (w.mono Ad)) (fun v h' hl2 hr=>?_);obtain⟨a5,b5,rfl,hq5⟩:=hr)|(refine CN.f rfl (c2 _ Af (pw.mono Ab) (w.mono Ab)) (fun v h' hl hr=>?_);obtain⟨s1,rfl,w1⟩:=hp _ _ hr)|(refine CN.f rfl (c3 _ _ (wb.mono Ac) (w1.mono Ad) rfl Aa Aa) (fun v h' hl hr=>?_);rcases hr with rfl|⟨a9,d9,rfl,hq9⟩)|(refine CN.f rfl (c4 _ _ _ (by (iterate 30 try first|assumption|refine eA.mono ?_ Ab);first|done|assumption)) (fun v h' hl hr=>?_);obtain⟨a6,d6,rfl,hq6⟩:=hr)|(refine CN.f rfl (c5 _ _ _ _ _ Ab Ao) (fun v h' hl4 hr=>?_);subst hr)|(refine CN.f rfl (c9 _ Af (pw.mono Ac)) (fun v h' hl hr=>?_);subst hr))<;>conv=>whnf)|(show cnd _ _ _;first|(apply aD<;>intro _<;>first|(exfalso;omega)|conv=>whnf)|(refine aI ?_)|(refine bO (fun hb=>?_) (fun hb=>?_)<;>(first|cases hb|subst hb)<;>(conv=>whnf)))
 all_goals first|exact RN.a rfl|exact RN.a (congrArg Value.bool (by rw[lF,aX (rfl:(0:Int)=0)]))
end Go.Proofs.Y