/- The program's values of trees. -/
import Derived.Test.YtdccpmlhflpeaaaGreatDoorE68
import Derived.Test.YtdccpmlhflpeaaaGreatDoorPF10
set_option linter.all false
set_option maxHeartbeats 4000000
set_option maxRecDepth 20000
namespace Go.Proofs.Y
open Go Go.Vc Go.Dig
theorem bC3{op arg:Int}(hk:aR op=1)(h1:jP op<=arg)(h2:arg<=eO op):op=4\/op=9/\-32<=arg/\arg<=32\/op=10/\2<=arg/\arg<=8\/op=11/\1<=arg/\arg<=8\/op=12:=by
 unfold aR at hk;unfold jP at h1;unfold eO at h2
 repeat' split at hk
 all_goals first
  | omega
  | (rename_i e _;rcases e with rfl|rfl|rfl|rfl|rfl<;>simp at h1 h2 ⊢<;>omega)
  | (rename_i e;rcases e with rfl|rfl|rfl|rfl|rfl<;>simp at h1 h2 ⊢<;>omega)
theorem bC4{op:Int}(hk:aR op=2):op=5\/op=6\/op=7\/op=8\/op=13\/op=14:=by
 unfold aR at hk
 repeat' split at hk
 all_goals omega
theorem bC5{op:Int}(hk:aR op=3):op=15:=by
 unfold aR at hk
 repeat' split at hk
 all_goals omega
def QC(h:aA)(xs:List Value)(qs:List Rat):Prop:=∀(j:Nat) q,qs[j]?=some q->∃ng,∃a b:Sl,(∀i v,[Value.bool ng,a.val,b.val][i]?=some v->xs[3*j+i]?=some v)/\cR h ng a b (some q)
theorem QC.nil(h:aA):QC h [] []:=fun j q h=>by simp at h
theorem QC.mono{h h':aA}{xs:List Value}{qs:List Rat}(w:QC h xs qs)(hl:h.le h'):QC h' xs qs:=fun j q e=>by
 obtain⟨ng,a,b,h1,h2⟩:=w j q e;exact⟨ng,a,b,h1,h2.mono hl⟩
theorem QC.snoc{h:aA}{xs:List Value}{qs:List Rat}{ng:Bool}{a b:Sl}{q:Rat}(w:QC h xs qs)(hl:xs.length=qs.length*3)(hq:cR h ng a b (some q)):QC h (xs++[.bool ng,a.val,b.val]) (qs++[q]):=fun j r e=>by
 rcases bEp j qs.length with hj|hj
 .rw[bDi hj] at e;obtain⟨n1,a1,b1,h1,h2⟩:=w j r e;refine⟨n1,a1,b1,fun i v hv=>?_,h2⟩
  have hi:i<3:=(bC9.1 hv).1;rw[bDi Aa];exact h1 i v hv
 .rw[bDs hj] at e;have hj0:j=qs.length:=by
   have:=(bC9.1 e).1;simp at this;omega
  subst hj0;simp at e;subst e;refine⟨ng,a,b,fun i v hv=>?_,hq⟩
  rw[bDs Aa,show 3*qs.length+i-xs.length=i by omega]
  exact hv
theorem aE.num{h:aA}{e:TypeId}{v:Value}{n:Nat}{xs:List Value}{F:Vc.Own}{qs:List Rat}(g:aE e 3 v n xs F)(w:QC h xs qs)(hn:0<n):∃(b cap:Nat) (l:List Value),v=.slice (some ⟨b,0,none⟩) n cap/\(b,Obj.cells l.toArray e (0,0))∈F/\QC h l qs:=by
 obtain⟨b,cap,c,h1,h2,h3⟩:=aE.block g hn;refine⟨b,cap,c.toList,h1,by simpa using h2,fun j q e=>?_⟩
 obtain⟨ng,a,d,h4,h5⟩:=w j q e;refine⟨ng,a,d,fun i v hv=>?_,h5⟩
 rw[Array.getElem?_toList];exact h3 _ _ (h4 i v hv)
theorem aO5{vals:List (List Nat × Rat)}{op arg:Int}{ks:List Tr}{j:Nat}{t:Tr}(hk:ks.length<=2)(ht:ks[j]?=some t)(hn:dP vals t=none):aGt op arg (bT vals ks)=none:=by
 match ks,j,ht,hk with
 | [a],0,ht,_=>
  have e:dP vals a=none:=by cases ht;exact hn
  rw[bT,bT];show (dP vals a).bind _=none;rw[e];rfl
 | [a,b],0,ht,_=>
  have e:dP vals a=none:=by cases ht;exact hn
  rw[bT,bT,bT];show (dP vals a).bind _=none;rw[e];rfl
 | [a,b],1,ht,_=>
  have e:dP vals b=none:=by cases ht;exact hn
  rw[bT,bT,bT];show (dP vals a).bind (fun x=>(dP vals b).bind _)=none
  rw[e];cases dP vals a<;>rfl
 | [a],j+1,ht,_=>simp at ht
 | [a,b],j+2,ht,_=>simp at ht
 | [],j,ht,_=>simp at ht
theorem vH{vals:List (List Nat × Rat)}:∀(a b:List Tr),bT vals (a++b)=bT vals a++bT vals b
 | [],b=>by rw[bT];rfl
 | t::a,b=>by rw[bEn,bT,bT,vH a b];rfl
theorem aT5(vals:List (List Nat × Rat))(bm:Nat)(es:Array MapEntry)(clock:Nat):∀t:Tr,∀(h:aA) (vs:List Value) (d:Nat),Tb h->h bm=some (.map es clock)->iH bA3 h es.toList vals->IsE h vs t->okT d t->aZ t->Fn0 T F.q30 [.agg vs.toArray,.map (some bm)] h fun v h'=>VQ h' v (dP vals t):=by
 refine bN fun t ih=>?_
 intro h vs d tb mm me w hok hp;obtain⟨op,arg,neg,l,m,name,ks⟩:=t;obtain⟨a,b,s,rfl,ho,ha,hv,hb,hk⟩:=w.isK;rw[okT] at hok;obtain⟨hd,hnb,hoks⟩:=hok;rw[aZ] at hp;obtain⟨hpo,hpk⟩:=hp;have hks:=hnb.1;have hkl:=hk.len;have fe:=iH.find hb 0 me;have r2:op=2->dP vals (.mk op arg neg l m name ks)=jV vals name:=fun x=>by rw[dP,if_neg Aa,if_pos x]
 have hnum:op=1->cR h neg a b (some (aN neg l m)):=fun x=>by
  have hn:=hnb.2.2.2.2;rw[if_pos x] at hn;exact⟨l,m,hv,(if_pos hn.1).symm⟩
 have r1:op=1->dP vals (.mk op arg neg l m name ks)=some (aN neg l m):=fun x=>by rw[dP,if_pos x]
 have r3:op=3->dP vals (.mk op arg neg l m name ks)=none:=fun x=>by rw[dP,if_neg Aa,if_neg Aa,if_pos x]
 have r4:op≠1->op≠2->op≠3->dP vals (.mk op arg neg l m name ks)=aGt op arg (bT vals ks):=fun x y z=>by rw[dP,if_neg x,if_neg y,if_neg z]
 obtain⟨R,hR⟩:=AB (dP vals (.mk op arg neg l m name ks));obtain⟨N,hN⟩:=AB (aN neg l m);rw[<-hR] at r1 r2 r3 r4 ⊢;rw[<-hN] at r1 hnum;clear hR hN;by_cases o2:op=2
 .replace r2:=r2 o2;clear r1 r3 r4 hnum;rcases fe with ⟨j,x,q,e1,e2,e3,e4,⟨n1,a1,b1,e5,hq⟩,e6⟩|⟨e1,e2,e3⟩
  .rw[e5] at e1;refine f0C ok D.q30 rfl ?_;conv=>whnf
   repeat' ((first|(show LdN _ _ _ _ _;first|refine LdN.oA 0 rfl rfl ?_|refine LdN.oA 1 rfl rfl ?_)|(show Ext _ _ _ _ _ _ _;refine Ext.mapFind (d:=.string) (key:=.string (txt name)) (.inr mm) rfl rfl rfl Ad trivial (.inl ⟨_,_,e1,?_⟩))|((first|apply oI.z|apply cI.z))|intro (_:Nat)|refine Ld.o 1 rfl rfl ?_|(show Sto _ _ _ _;first|refine Sto.l 0 rfl rfl rfl ?_|refine Sto.l 1 rfl rfl rfl ?_)|(apply aD<;>intro _<;>try (exfalso;omega)))<;>conv=>whnf)
   all_goals
    rw[r2,e6];exact RN.a ⟨n1,a1,b1,true,rfl,fun _=>⟨q,rfl,hq⟩,fun x=>by cases x⟩
  .refine f0C ok D.q30 rfl ?_;conv=>whnf
   repeat' ((first|(show LdN _ _ _ _ _;first|refine LdN.oA 0 rfl rfl ?_|refine LdN.oA 1 rfl rfl ?_)|(show Ext _ _ _ _ _ _ _;refine Ext.mapFind (d:=.string) (key:=.string (txt name)) (.inr mm) rfl rfl rfl Ad trivial (.inr ⟨e1,?_⟩))|((first|apply oI.z|apply cI.z))|intro (_:Nat)|refine Ld.o 1 rfl rfl ?_|(show Sto _ _ _ _;first|refine Sto.l 0 rfl rfl rfl ?_|refine Sto.l 1 rfl rfl rfl ?_)|(apply aD<;>intro _<;>try (exfalso;omega)))<;>conv=>whnf)
   all_goals
    rw[r2,e3];exact RN.a ⟨false,⟨none,0,0⟩,⟨none,0,0⟩,false,rfl,fun x=>(by cases x),fun _=>rfl⟩
 clear r2 fe;have o15:op≠15:=Aa;have hk2:op≠1->op≠2->op≠3->1<=ks.length/\ks.length<=2:=fun x y z=>by
  have h:=mN op;have:aR op≠3:=fun e=>o15 (bC5 e)
  have h0:aR op≠0:=fun e=>by
   unfold aR at e
   repeat' split at e
   all_goals omega
  omega
 have hun:ks.length=1->op=4\/op=9/\-32<=arg/\arg<=32:=fun (e:ks.length=1)=>by have:=bC3 (op:=op) (arg:=arg) Aa hnb.2.1 hnb.2.2.1;omega
 have hbi:ks.length=2->op=5\/op=6\/op=7:=fun (e:ks.length=2)=>by have:=bC4 (op:=op) Aa;omega
 have st:op≠1->op≠2->op≠3->∀(j:Nat) t,ks[j]?=some t->dP vals t=none->R=none:=fun x y z j t ht hn=>(r4 x y z).trans (aO5 (hk2 x y z).2 ht hn)
 have fin1:op≠1->op≠2->op≠3->∀q,bT vals ks=[q].map some->R=unQ op arg q:=fun x y z q e=>by rw[r4 x y z,e];rfl
 have fin2:op≠1->op≠2->op≠3->∀p q,bT vals ks=[p,q].map some->R=biQ op p q:=fun x y z p q e=>by rw[r4 x y z,e];rfl
 clear r4;refine f0C ok D.q30 rfl ?_;conv=>whnf
 repeat' ((first|(show LdN _ _ _ _ _;first|refine LdN.oA 0 rfl rfl ?_|refine LdN.oA 1 rfl rfl ?_)|((first|apply oI.z|apply cI.z))|intro (_:Nat)|refine Ld.o 1 rfl rfl ?_|refine Sto.l 0 rfl rfl rfl ?_|(apply aD<;>intro _<;>try (exfalso;omega)))<;>conv=>whnf)
 all_goals try (rw[r1 Ab];exact RN.a ⟨neg,a,b,true,rfl,fun _=>⟨N,rfl,hnum Ab⟩,fun x=>by cases x⟩)
 all_goals try (rw[r3 Ab];exact RN.a ⟨false,⟨none,0,0⟩,⟨none,0,0⟩,false,rfl,fun x=>(by cases x),fun _=>rfl⟩)
 rename_i b2 b4 n1 n2 n3 n4;have hk2:=hk2 Aa Aa Aa;replace st:=st Aa Aa Aa;replace fin1:=fin1 Aa Aa Aa;replace fin2:=fin2 Aa Aa Aa;refine LpN.of (fun r ρ hx L=>∃(j:Nat) (V:Value) (F1:Vc.Own) (xs:List Value) (qs:List Rat),r=ks.length-j/\h.le hx/\j<=ks.length/\rd ρ 77=.int .i64 j/\rd ρ 12=V/\
   L=F1++((b4,.cells [.bool false,.slice none 0 0,.slice none 0 0].toArray Ty.api_Rat (0,0))::(b2,.cells [.int .i64 op,.int .i64 arg,.bool neg,a.val,b.val,.string (txt name),s.val].toArray Ty.api_Expr (0,0))::[])/\aE Ty.api_Rat 3 V j xs F1/\QC hx xs qs/\qs.length=j/\Hq (bT vals (ks.take j)=qs.map some)) ks.length
  ⟨0,_,[],[],[],rfl,aA.lr _,bDw _,rfl,rfl,rfl,aE.nil _ _ _,QC.nil _,rfl,⟨by rw[bFa,bT];rfl⟩⟩ ?_
 conv=>whnf
 repeat intro _
 rename_i r hx L2 hI;obtain⟨j,V,F1,xs,qs,rfl,hle,hj,e77,e12,rfl,gF,hQ,hql,hq⟩:=hI;conv at e77=>lhs;whnf
 subst e77;conv at e12=>lhs;whnf
 subst e12;by_cases hjl:j=ks.length
 .subst hjl;have hq:=hq.out;rw[bDm] at hq;obtain⟨bl,cap,l0,hV,hF,hQ0⟩:=aE.num gF hQ Aa;rw[hV];rcases (by omega:ks.length=1\/ks.length=2) with e1|e1
  .obtain⟨q0,rfl⟩:∃q0,qs=[q0]:=by
    rw[e1] at hql
    match qs,hql with
    | [q0],_=>exact⟨q0,rfl⟩
   obtain⟨ng,a1,b1,w1,w2⟩:=hQ0 0 q0 rfl;have c1:=fun h tb w=>aT3 q0 h tb op arg neg a b s name ng a1 b1 (hun e1) w
   rw[fin1 q0 hq];rw[e1];conv=>whnf
   repeat' first|((first|(show DrN _ _ _ _ _ _;refine DrN.each Al ?_)|(show Idx _ _ _ _ _;refine Idx.of 0 rfl rfl Ad ?_)|(show LdN _ _ _ _ _;first|refine LdN.three (.inr (bDz _ hF)) (w1 0 _ rfl) (w1 1 _ rfl) (w1 2 _ rfl) ?_|refine LdN.tl (A:=F1) (F:=[_]) rfl ?_|refine LdN.tl (A:=F1) (F:=[]) rfl ?_)|(show Sto _ _ _ _;refine Sto.tl (A:=F1) (X:=[]) rfl rfl ?_)|(show CN _ _ _ _ _ _;(refine CN.f rfl (c1 _ Ae Ab) (fun v h' hl hr=>?_);obtain⟨n5,a5,b5,bb5,rfl,u1,u2⟩:=hr))|((first|apply oI.z|apply cI.z))|refine⟨fun _=>aH.o (aA.lr _),?_⟩|refine⟨fun _=>aH.o Ab,?_⟩|refine⟨fun hst=>(by cases (show true=false from hst)),?_⟩|fail)<;>conv=>whnf)|(show cnd _ _ _;first|((first|apply aB|apply aD)<;>intro _<;>first|(exfalso;omega)|conv=>whnf))|(refine sS.mk ?_ ?_<;>(conv=>whnf))
   all_goals exact RN.a ⟨_,_,_,_,rfl,u1,u2⟩
  .obtain⟨q0,q1,rfl⟩:∃q0 q1,qs=[q0,q1]:=by
    rw[e1] at hql
    match qs,hql with
    | [q0,q1],_=>exact⟨q0,q1,rfl⟩
   obtain⟨ng,a1,b1,w1,w2⟩:=hQ0 0 q0 rfl;obtain⟨ng',a2,b2',w3,w4⟩:=hQ0 1 q1 rfl;have c1:=fun h tb w w'=>aO1 q0 q1 h tb op ng a1 b1 ng' a2 b2' (hbi e1) w w'
   rw[fin2 q0 q1 hq];rw[e1];conv=>whnf
   repeat' first|((first|(show DrN _ _ _ _ _ _;refine DrN.run Al ?_)|(show Idx _ _ _ _ _;first|refine Idx.of 0 rfl rfl Ad ?_|refine Idx.of 1 rfl rfl Ad ?_)|(show LdN _ _ _ _ _;first|refine LdN.three (.inr (bDz _ hF)) (w1 0 _ rfl) (w1 1 _ rfl) (w1 2 _ rfl) ?_|refine LdN.three (.inr (bDz _ hF)) (w3 0 _ rfl) (w3 1 _ rfl) (w3 2 _ rfl) ?_|refine LdN.tl (A:=F1) (F:=[]) rfl ?_)|(show Ld _ _ _ _;refine Ld.tl (A:=F1) (F:=[_]) rfl ?_)|(show Sto _ _ _ _;refine Sto.tl (A:=F1) (X:=[]) rfl rfl ?_)|(show CN _ _ _ _ _ _;(refine CN.f rfl (c1 _ Ae Ab Ab) (fun v h' hl hr=>?_);obtain⟨n5,a5,b5,bb5,rfl,u1,u2⟩:=hr))|((first|apply oI.z|apply cI.z))|refine⟨fun _=>aH.o Ab,?_⟩|refine⟨fun hst=>(by cases (show true=false from hst)),?_⟩|fail)<;>conv=>whnf)|(show cnd _ _ _;first|((first|apply aB|apply aD)<;>intro _<;>first|(exfalso;omega)|conv=>whnf))
   all_goals exact RN.a ⟨_,_,_,_,rfl,u1,u2⟩
 .obtain⟨t,ht⟩:∃t,ks[j]?=some t:=⟨_,bC8 Aa⟩
  have c2:=fun h vs tb mm me w=>ih t (aP ht) h vs (d+1) tb mm me w (fC hoks (bDc ht)) (iE hpk (bDc ht))
  have hkx:=hk.mono hle;have stj:=st j t ht;have htk:∀q,dP vals t=some q->Hq (bT vals (ks.take (j+1))=(qs++[q]).map some):=fun q e=>⟨by rw[bD ht,vH,hq.out,bT,bT,e,bDl];rfl⟩
  obtain⟨X,hX⟩:=AB (dP vals t);simp only[<-hX] at c2 stj htk;clear hX hq;have hxl:=gF.1;conv=>whnf
  repeat' first|((first|(show Idx _ _ _ _ _;refine Idx.kid hkx j t Aa ht (fun ad op3 arg3 neg3 a3 b3 name3 s3 hE hld=>?_))|(refine hld _ _ _ Af ?_)|((first|apply oI.z|apply cI.z))|intro (_:Nat)|(show CN _ _ _ _ _ _;(refine CN.f rfl (c2 _ _ Ae (hle _ _ mm) (me.mono hle) Ab) (fun v h' hl2 hr=>?_);obtain⟨n5,a5,b5,bb5,rfl,u1,u2⟩:=hr;have hQ2:=hQ.mono hl2))|(show Sto _ _ _ _;first|refine Sto.tl (A:=_::_::F1) (X:=[]) rfl rfl ?_|refine Sto.l 0 rfl rfl rfl ?_)|(show LdN _ _ _ _ _;first|refine LdN.tl (A:=_::_::F1) (F:=[]) rfl ?_|refine LdN.o 0 rfl rfl ?_)|(show App _ _ _ _ _ _ _ _ _;refine App.growK (A:=[_,_,_]) (F:=F1) (size:=3) (bytes:=56) (z:=[.bool false,.slice none 0 0,.slice none 0 0]) rfl rfl gF ⟨_,0,none⟩ 1 1 [_,_,_] rfl (Has.front _) rfl Ad Aa Aa Ad (fun v' F' g'=>?_))|refine WN.i64 Aa Aa ?_)<;>conv=>whnf)|(show cnd _ _ _;first|(apply aB<;>intro _<;>first|(exfalso;omega)|conv=>whnf)|(refine aJ ?_)|(refine dE (fun hb=>?_) (fun hb=>?_)<;>(first|cases hb|subst hb)<;>(conv=>whnf)))
  all_goals first
   | (rw[stj (u2 rfl)];exact RN.a ⟨false,⟨none,0,0⟩,⟨none,0,0⟩,false,rfl,fun x=>(by cases x),fun _=>rfl⟩)
   | (obtain⟨q,u3,u4⟩:=u1 rfl
      exact⟨rfl,ks.length-(j+1),Aa,j+1,_,_::_::_::F',_,qs++[q],rfl,Ac,Aa,vi Aa,rfl,rfl,((g'.cons _).cons _).cons _,QC.snoc hQ2 Aa u4,by rw[bC6,hql];rfl,htk q u3⟩)
end Go.Proofs.Y
/- Value: the program's side. -/
namespace Go.Vc
open Go Go.Dig
theorem CN.keepX{T:Tab}{f:FuncId}{args:List Value}{h:aA}{k:Value->aA->Vc.Own->Prop}{Fe tl:Vc.Own}{b:Nat}{p:Obj}(hf:T.fn f=true)
  (hk:∀h',h.le h'->h' b=some p->CN T f args h' (Fe++tl) k):CN T f args h (Fe++((b,p)::tl)) k:=by
 have e1:(Fe++(b,p)::tl).eraseIdx Fe.length=Fe++tl:=by rw[bGl (bDx _)];simp
 refine CN.keep (b:=b) (o:=p) Fe.length Ao hf fun h1=>?_
 rw[e1];exact hk _ h1 (by simp[aA.put])
end Go.Vc
namespace Go.Proofs.Y
open Go Go.Vc Go.Dig
theorem MsR.strip{ms:List (List Nat × Rat)}{bs:List (List Nat × Option Rat)}(r:MsR ms (cF bs))(h:jQ bs):ms=cF bs:=r.2 (by rw[vG];exact h.2)
theorem aHw(bs:List (List Nat × Option Rat))(hbl:bs.length<=1099511627776)(sb:Sl)(t:Tr)(h:aA)(vs:List Value)(tb:Tb h)(wb:IsV h sb bs)(w:IsE h vs t)(hp:aZ t):Fn0 T F.q10 [.agg vs.toArray,sb.val] h fun v h'=>aJl h' v (lX bs t):=by
 have c1:=fun h vs tb w=>rB t h vs tb w
 have c2:=fun h n hn=>pL h n hn
 have c3:=fun h tb n a b x w=>bA5 h tb n a b x w
 have c4:=fun h vs bm es clock ms tb mm me w (x:dN t)=>aT5 ms bm es clock t h vs 1 tb mm me w x.1 hp
 have r1:¬dN t->lX bs t=(0,false,40):=aCw;have r2:dN t->¬jQ bs->lX bs t=(0,false,41):=aCx;have r3:dN t->jQ bs->¬jR bs->lX bs t=(0,false,1):=aCy;have r4:∀ms,MsR ms (cF bs)->dN t->jQ bs->jR bs->dP ms t=none->lX bs t=(0,false,0):=fun ms r x y z u=>aCz x y z (by rw[<-r.strip y];exact u)
 have r5:∀ms,MsR ms (cF bs)->dN t->jQ bs->jR bs->∀q,dP ms t=some q->lX bs t=(q,true,0):=fun ms r x y z q u=>aC0 x y z (by rw[<-r.strip y];exact u)
 obtain⟨R,hR⟩:=AB (lX bs t);rw[<-hR] at r1 r2 r3 ⊢;simp only[<-hR] at r4 r5;clear hR;have hsl:=wb.len;obtain⟨⟨op,arg,neg,l,m,name,ks⟩,ht⟩:=AB t;obtain⟨a,b,s,hvs,-⟩:=(ht.symm▸w:IsE h vs (.mk op arg neg l m name ks)).isK;subst hvs;refine f0C ok D.q10 rfl ?_;conv=>whnf
 repeat' ((first|(show Ext _ _ _ _ _ _ _;refine Ext.makeMap fun bm=>?_)|((first|apply oI.z|apply cI.z))|intro (_:Nat))<;>conv=>whnf)
 rename_i b2 b4;refine LpN.of (fun r ρ hx L=>∃(j:Nat) (X:Vc.Own) (es:Array MapEntry) (clock:Nat) (ms:List (List Nat × Rat)),r=bs.length-j/\h.le hx/\j<=bs.length/\rd ρ 21=.int .i64 j/\rd ρ 8=.bool (dec (jQ (bs.take j)))/\rd ρ 9=.bool (dec (jR (bs.take j)))/\
     L=X++((bm,.map es clock)::(b4,.cells [.bool false,.slice none 0 0,.slice none 0 0].toArray Ty.api_Rat (0,0))::(b2,.cells [.int .i64 op,.int .i64 arg,.bool neg,a.val,b.val,.string (txt name),s.val].toArray Ty.api_Expr (0,0))::[])/\iH bA3 hx es.toList ms/\MsR ms (cF (bs.take j))) bs.length
  ⟨0,[],#[],0,[],rfl,aA.lr _,bDw _,rfl,congrArg Value.bool (bA aT2).symm,congrArg Value.bool (bA aT4).symm,rfl,trivial,⟨fun _=>Iff.rfl,fun _=>rfl⟩⟩ ?_
 conv=>whnf
 repeat intro _
 rename_i r hx L2 hI;obtain⟨j,X,es,clock,ms,rfl,hle,hj,e21,e8,e9,rfl,me,mr⟩:=hI;conv at e21=>lhs;whnf
 subst e21;conv at e8=>lhs;whnf
 subst e8;conv at e9=>lhs;whnf
 subst e9;by_cases hjl:j=bs.length
 .subst hjl;rw[bDm] at *;have r4:=r4 ms mr;have r5:=r5 ms mr;have c4:=fun h vs bm es clock tb mm me w x=>c4 h vs bm es clock ms tb mm me w x
  obtain⟨V,hV⟩:=AB (dP ms t);simp only[<-hV] at c4 r4 r5;clear hV;conv=>whnf
  repeat' first|((first|(show LdN _ _ _ _ _;first|refine LdN.tl3 (A:=[]) (F:=X) (G:=[_,_]) rfl ?_|refine LdN.tl3 (A:=[]) (F:=X) (G:=[_]) rfl ?_|refine LdN.tl3 (A:=[_]) (F:=X) (G:=[]) rfl ?_|refine LdN.o 0 rfl rfl ?_)|(show Sto _ _ _ _;first|refine Sto.tl3 (A:=[]) (F:=X) (G:=[_]) rfl rfl ?_|refine Sto.tl3 (A:=[_]) (F:=X) (G:=[]) rfl rfl ?_|refine Sto.l 0 rfl rfl rfl ?_)|(show CN _ _ _ _ _ _;first|(refine CN.f rfl (c1 _ _ Ae Ai) (fun v h' hl2 hr=>?_);subst hr)|(refine CN.keepX (Fe:=X) rfl (fun h' hl2 mm=>?_);refine CN.f rfl (c4 h' _ _ _ _ Ae mm (me.mono Ac) Ai Ab) (fun v h'' hl3 hr=>?_);obtain⟨n1,a1,b1,bb1,rfl,g1,g2⟩:=hr)|(obtain⟨q,t3,t4⟩:=g1 rfl;refine CN.f rfl (bA4 _ Ae _ _ _ q Ab) (fun v h' hl4 hr=>?_);obtain⟨c5,d5,rfl,hq5⟩:=hr))|((first|apply oI.z|apply cI.z))|intro (_:Nat))<;>conv=>whnf)|(show cnd _ _ _;first|(apply aB<;>intro _<;>first|(exfalso;omega)|conv=>whnf)|(refine aJ ?_)|(apply aW<;>intro _<;>first|(exfalso;omega)|conv=>whnf)|(refine dE (fun hb=>?_) (fun hb=>?_)<;>(first|cases hb|subst hb)<;>(conv=>whnf)))
  all_goals first
   | (rw[r1 Ab];exact RN.a (aJl.err _ _))
   | (rw[r2 Ab Ab];exact RN.a (aJl.err _ _))
   | (rw[r3 Ab Ab Ab];exact RN.a (aJl.err _ _))
   | (rw[r4 Ab Ab Ab (g2 rfl)];exact RN.a (aJl.err _ _))
   | (rw[r5 Ab Ab Ab q t3];exact RN.a ⟨_,_,rfl,Ab⟩)
 .obtain⟨⟨n,x⟩,hu⟩:∃x,bs[j]?=some x:=⟨_,bC8 Aa⟩
  have wbx:=wb.mono hle;have htk:=bD hu;have hnb:=wb.bytes hu;have n0:¬jQ (bs.take j)->false=dec (jQ (bs.take (j+1))):=fun x=>by rw[htk];exact (aG fun y=>x (sG.1 y).1).symm
  have n2:¬fE n->false=dec (jQ (bs.take (j+1))):=fun x=>by rw[htk];exact (aG fun y=>x (sG.1 y).2.1).symm
  have s0:¬jR (bs.take j)->false=dec (jR (bs.take (j+1))):=fun x=>by rw[htk];exact (aG fun y=>x (wQ.1 y).1).symm
  have s1:∀e:Int,(e=0↔x.isSome=true)->jR (bs.take j)->eq e 0=dec (jR (bs.take (j+1))):=fun e he y=>by
   rw[htk,pO];exact cY (he.trans ⟨fun z=>wQ.2 ⟨y,z⟩,fun z=>(wQ.1 z).2⟩)
  have c2:=fun h=>c2 h n hnb
  have mst:cF (bs.take (j+1))=cF (bs.take j)++[(n,x.getD 0)]:=by rw[htk,aHu]
  have mnew:=MsR.new (n:=n) (u:=x.getD 0) mr;have mold:=fun i t' (hi:ms[i]?=some (n,t'))=>MsR.old (u:=x.getD 0) mr hi
  rw[<-mst] at mnew;simp only[<-mst] at mold;have fe:=iH.find hnb 0 me;have mem:n∈ms.map (·.1)↔n∈(bs.take j).map (·.1):=by rw[<-vG (bs.take j)];exact mr.1 n
  have nfound:n∈ms.map (·.1)->false=dec (jQ (bs.take (j+1))):=fun x=>by rw[htk];exact (aG fun y=>(sG.1 y).2.2 (mem.1 x)).symm
  have nmiss:n∉ms.map (·.1)->jQ (bs.take j)->fE n->true=dec (jQ (bs.take (j+1))):=fun x y z=>by rw[htk];exact (bA (sG.2 ⟨y,z,fun q=>x (mem.2 q)⟩)).symm
  clear r1 r2 r3 r4 r5 htk mst mem c1 c4;obtain⟨S1,hS1⟩:=AB (dec (jR (bs.take (j+1))));obtain⟨N1,hN1⟩:=AB (dec (jQ (bs.take (j+1))));simp only[<-hS1] at s0 s1;rw[<-hN1] at n0 n2 nfound nmiss;obtain⟨y,hy⟩:=AB (x.getD 0);rcases fe with ⟨i,x',t',e1,e2,e3,e4,⟨ng5,a5,b5,e5,hq5⟩,-⟩|⟨e1,e2,-⟩
  .have e1':=e1;rw[e5] at e1;have nf:=nfound (List.mem_map.2 ⟨_,bDc e3,rfl⟩);rw[bDu] at e1 e1';have e2':es[i]?=some x':=by rw[<-Array.getElem?_toList];exact e2
   conv=>whnf
   repeat' first|((first|(show Idx _ _ _ _ _;refine Idx.valu wbx j n x Aa hu (fun bl off ng a2 b2 hnn hE h1 h2=>?_))|(show LdN _ _ _ _ _;first|refine LdN.hasC [.bool ng,a2.val,b2.val] rfl (h1 _ _ (aA.lr _)) (fun i v hv=>h2 _ _ i v (aA.lr _) hv) ?_|refine LdN.oA 0 rfl rfl ?_|refine LdN.oA 1 rfl rfl ?_)|(show CN _ _ _ _ _ _;first|(refine CN.f rfl (c2 _) (fun v h' hl2 hr=>?_);subst hr)|(refine CN.f rfl (c3 _ Ae _ _ _ x (by (iterate 30 try first|assumption|refine cR.mono ?_ Ab);first|done|assumption)) (fun v h' hl2 hr=>?_);obtain⟨n7,a7,b7,z7,rfl,hq7,he7⟩:=hr))|(show Ext _ _ _ _ _ _ _;first|refine Ext.mapFind (es:=es) (clock:=clock) (d:=.string) (key:=.string (txt n)) (.inl Ao) rfl rfl rfl Ad trivial (.inl ⟨_,_,e1,?_⟩)|(refine Ext.mapSet (d:=.string) (key:=.string (txt n)) (A:=[_,_,_]) (Fe:=X) (G:=[]) (by first|exact .inl rfl|exact .inr rfl) rfl rfl trivial (.inr ⟨i,x',e1',e2',e4,?_⟩)))|((first|apply oI.z|apply cI.z))|intro (_:Nat)|refine WN.i64 Aa Aa ?_|(show Ld _ _ _ _;first|refine Ld.o 0 rfl rfl ?_|refine Ld.o 1 rfl rfl ?_|refine Ld.o 2 rfl rfl ?_)|refine Sto.l 0 rfl rfl rfl ?_)<;>conv=>whnf)|(show cnd _ _ _;first|((first|apply aB|apply aW)<;>intro _<;>first|(exfalso;omega)|conv=>whnf))
   all_goals
    refine⟨rfl,bs.length-(j+1),Aa,j+1,_::_::_::X,_,_,ms.set i (n,x.getD 0),rfl,Ac,Aa,vi Aa,congrArg Value.bool ?_,congrArg Value.bool ?_,rfl,?_,mold i t' e3⟩
    .rw[<-hN1];first|exact nf|exact n0 Ab|exact n2 Ab
    .rw[<-hS1];first|exact s1 _ he7 Ab|exact s0 Ab
    .rw[modify_set e2'];exact iH.set ⟨rfl,hnb,n7,a7,b7,rfl,Ab⟩ (me.mono Ac)
  .conv=>whnf
   repeat' first|((first|(show Idx _ _ _ _ _;refine Idx.valu wbx j n x Aa hu (fun bl off ng a2 b2 hnn hE h1 h2=>?_))|(show LdN _ _ _ _ _;first|refine LdN.hasC [.bool ng,a2.val,b2.val] rfl (h1 _ _ (aA.lr _)) (fun i v hv=>h2 _ _ i v (aA.lr _) hv) ?_|refine LdN.oA 0 rfl rfl ?_|refine LdN.oA 1 rfl rfl ?_)|(show CN _ _ _ _ _ _;first|(refine CN.f rfl (c2 _) (fun v h' hl2 hr=>?_);subst hr)|(refine CN.f rfl (c3 _ Ae _ _ _ x (by (iterate 30 try first|assumption|refine cR.mono ?_ Ab);first|done|assumption)) (fun v h' hl2 hr=>?_);obtain⟨n7,a7,b7,z7,rfl,hq7,he7⟩:=hr))|(show Ext _ _ _ _ _ _ _;first|refine Ext.mapFind (es:=es) (clock:=clock) (d:=.string) (key:=.string (txt n)) (.inl Ao) rfl rfl rfl Ad trivial (.inr ⟨e1,?_⟩)|(refine Ext.mapSet (d:=.string) (key:=.string (txt n)) (A:=[_,_,_]) (Fe:=X) (G:=[]) (by first|exact .inl rfl|exact .inr rfl) rfl rfl trivial (.inl ⟨e1,?_⟩)))|((first|apply oI.z|apply cI.z))|intro (_:Nat)|refine WN.i64 Aa Aa ?_|(show Ld _ _ _ _;first|refine Ld.o 0 rfl rfl ?_|refine Ld.o 1 rfl rfl ?_|refine Ld.o 2 rfl rfl ?_)|refine Sto.l 0 rfl rfl rfl ?_)<;>conv=>whnf)|(show cnd _ _ _;first|((first|apply aB|apply aW)<;>intro _<;>first|(exfalso;omega)|conv=>whnf))
   all_goals
    refine⟨rfl,bs.length-(j+1),Aa,j+1,_::_::_::X,_,_,ms++[(n,x.getD 0)],rfl,Ac,Aa,vi Aa,congrArg Value.bool ?_,congrArg Value.bool ?_,rfl,?_,mnew⟩
    .rw[<-hN1];first|exact nmiss e2 Ab Ab|exact n0 Ab|exact n2 Ab
    .rw[<-hS1];first|exact s1 _ he7 Ab|exact s0 Ab
    .rw[Array.toList_push];exact iH.push ⟨rfl,hnb,n7,a7,b7,rfl,Ab⟩ (me.mono Ac)
theorem aA1{h:aA}{sb:Sl}{bs:List (List Nat × Option Rat)}(wb:IsV h sb bs):∀b∈cF bs,fits b.2:=by
 intro b hb;unfold cF at hb;obtain⟨⟨n,x⟩,hm,rfl⟩:=List.mem_map.1 hb;obtain⟨j,hj,hjx⟩:=List.mem_iff_getElem.1 hm;refine aO2 (x:=x) fun q e=>?_
 subst e;rcases wb.mem with e|⟨bl,off,c,T,fz,e1,e2,e3⟩
 .subst e;simp at hj
 .obtain⟨-,-,ng,a,b,-,w⟩:=tP.get e3 (by rw[bC8 hj,hjx]);exact w.fits
theorem aC1{bs:List (List Nat × Option Rat)}{t:Tr}(hv:∀b∈cF bs,fits b.2):fits (lX bs t).1:=by
 unfold lX
 repeat' split
 all_goals first
  | exact eV
  | (rename_i q e
     have hvt:dN t:=Classical.byContradiction fun x=>by simp_all
     exact aCg hv t 1 hvt.1 q e)
theorem aT6{bs:List (List Nat × Option Rat)}{t:Tr}(h:(lX bs t).2.2=0):dN t/\jQ bs/\jR bs:=by
 by_cases h1:dN t
 .by_cases h2:jQ bs
  .by_cases h3:jR bs
   .exact⟨h1,h2,h3⟩
   .rw[aCy h1 h2 h3] at h;exact absurd h Ad
  .rw[aCx h1 h2] at h;exact absurd h Ad
 .rw[aCw h1] at h;exact absurd h Ad
def bCg:Option Rat->Rat × Bool × Int
 | none=>(0,false,0)
 | some q=>(q,true,0)
theorem aXm{bs:List (List Nat × Option Rat)}{t:Tr}(h:dN t)(n:jQ bs)(s:jR bs):lX bs t=bCg (dP (cF bs) t):=by
 cases e:dP (cF bs) t with
 | none=>rw[aCz h n s e];rfl
 | some q=>rw[aC0 h n s e];rfl
theorem aO6{r:Option Rat}{q:Rat}{e:Int}(h:bCg r=(q,true,e)):r=some q:=by
 cases r with
 | none=>cases h
 | some x=>cases h;rfl
theorem vI{t:Tr}{p:Pol}(h:lM t=.ok p):dN t/\bU t=.ok p:=by
 unfold lM at h
 split at h
 .exact⟨Ab,h⟩
 .cases h
theorem aO7{t:Tr}{n:Nat}(h:lM t=.error n):n≠0:=by
 unfold lM at h
 split at h
 .rename_i hv;exact aTf t (rG hv.1) h
 .cases h;decide
theorem aT7(t:Tr):∃(p:Pol) (e:Nat),(e=0->lM t=.ok p)/\∀h v,bCf h v (lM t)->∃s:Sl,v=.tuple #[s.val,.int .i64 e]/\aHl RmW h s p:=by
 cases hr:lM t with
 | error n=>
  refine⟨[],n,fun x=>absurd x (aO7 hr),fun h v w=>?_⟩
  rcases w with ⟨p,s,e,-⟩|⟨m,e,hv⟩
  .cases e
  .cases e
   exact⟨⟨none,0,0⟩,hv,[],rfl,Rw.nil _ _,fun x hx=>by cases hx⟩
 | ok p=>
  refine⟨p,0,fun _=>rfl,fun h v w=>?_⟩
  rcases w with ⟨p',s,e,hv,w⟩|⟨m,e,hv⟩
  .cases e
   exact⟨s,hv,w⟩
  .cases e
theorem aX8(h:aA)(a b:Sl)(q:Rat)(hq:fP h a b q)(hf:fits q):Fn0 T F.q8 [.agg #[.bool (sg q),a.val,b.val]] h fun v h'=>∃c d:Sl,v=.agg #[.bool (sg q),c.val,d.val]/\IsQ h' c d q:=by
 have:=zD h (sg q) a b _ _ (mD hq (iD hf));rw[jF] at this;exact this
theorem aA2:∀{ts:List Tr},(∀t∈ts,aZ t)->bK ts
 | [],_=>by rw[bK];trivial
 | t::ts,h=>by rw[bK];exact⟨h t (bDe ..),aA2 fun u hu=>h u (bDh _ hu)⟩
theorem aT8{p:Prop}[Decidable p](h:dec p=true):p:=by unfold dec at h;exact of_decide_eq_true h
theorem pZ{q:Rat}(h:fits q):Sr 128 q:=⟨((zE q).1 h).1,((zE q).1 h).2⟩
end Go.Proofs.Y