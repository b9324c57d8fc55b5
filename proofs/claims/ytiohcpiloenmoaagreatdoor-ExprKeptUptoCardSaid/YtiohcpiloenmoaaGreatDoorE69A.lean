/- The program's values of trees. -/
import Derived.Test.YtiohcpiloenmoaaGreatDoorE68
set_option linter.all false
set_option maxHeartbeats 4000000
set_option maxRecDepth 20000
namespace Go.Proofs.Y
open Go Go.Vc Go.Dig
theorem aYy{op arg:Int}(hk:aV op=1)(h1:jO op<=arg)(h2:arg<=fJ op):op=4\/op=9/\-32<=arg/\arg<=32\/op=10/\2<=arg/\arg<=8\/op=11/\1<=arg/\arg<=8\/op=12:=by
 unfold aV at hk;unfold jO at h1;unfold fJ at h2
 repeat' split at hk
 all_goals first
  | omega
  | (rename_i e _;rcases e with rfl|rfl|rfl|rfl|rfl<;>simp at h1 h2 ⊢<;>omega)
  | (rename_i e;rcases e with rfl|rfl|rfl|rfl|rfl<;>simp at h1 h2 ⊢<;>omega)
theorem aYz{op:Int}(hk:aV op=2):op=5\/op=6\/op=7\/op=8\/op=13\/op=14:=by
 unfold aV at hk
 repeat' split at hk
 all_goals omega
theorem aY0{op:Int}(hk:aV op=3):op=15:=by
 unfold aV at hk
 repeat' split at hk
 all_goals omega
theorem aY1{ks:List Tr}(h:(ks.length:Int)=aV 15):∃k0 k1 k2,ks=[k0,k1,k2]:=by
 have h:(ks.length:Int)=3:=h
 match ks,h with
 | [k0,k1,k2],_=>exact⟨k0,k1,k2,rfl⟩
 | [],h=>simp at h
 | [_],h=>simp at h
 | [_,_],h=>simp at h
 | _::_::_::_::us,h=>simp at h;omega
theorem aYa(h:aA)(n:Bool)(a b:Sl)(q:Rat)(tb:Tb h)(w:bL h n a b (some q)):Fn0 T F.q70 [.agg #[.bool n,a.val,b.val]] h fun v _=>v=.tuple #[.int .i64 (bY q),.int .i64 0]:=aXb h n a b (some q) tb w
def QC(h:aA)(xs:List Value)(qs:List Rat):Prop:=∀(j:Nat) q,qs[j]?=some q->∃ng,∃a b:Sl,(∀i v,[Value.bool ng,a.val,b.val][i]?=some v->xs[3*j+i]?=some v)/\bL h ng a b (some q)
theorem QC.nil(h:aA):QC h [] []:=fun j q h=>by simp at h
theorem QC.mono{h h':aA}{xs:List Value}{qs:List Rat}(w:QC h xs qs)(hl:h.le h'):QC h' xs qs:=fun j q e=>by
 obtain⟨ng,a,b,h1,h2⟩:=w j q e;exact⟨ng,a,b,h1,h2.mono hl⟩
theorem QC.snoc{h:aA}{xs:List Value}{qs:List Rat}{ng:Bool}{a b:Sl}{q:Rat}(w:QC h xs qs)(hl:xs.length=qs.length*3)(hq:bL h ng a b (some q)):QC h (xs++[.bool ng,a.val,b.val]) (qs++[q]):=fun j r e=>by
 rcases bAn j qs.length with hj|hj
 .rw[aZe hj] at e;obtain⟨n1,a1,b1,h1,h2⟩:=w j r e;refine⟨n1,a1,b1,fun i v hv=>?_,h2⟩
  have hi:i<3:=(aY5.1 hv).1;rw[aZe Aa];exact h1 i v hv
 .rw[aZo hj] at e;have hj0:j=qs.length:=by
   have:=(aY5.1 e).1;simp at this;omega
  subst hj0;simp at e;subst e;refine⟨ng,a,b,fun i v hv=>?_,hq⟩
  rw[aZo Aa,show 3*qs.length+i-xs.length=i by omega]
  exact hv
theorem aE.num{h:aA}{e:TypeId}{v:Value}{n:Nat}{xs:List Value}{F:Vc.Own}{qs:List Rat}(g:aE e 3 v n xs F)(w:QC h xs qs)(hn:0<n):∃(b cap:Nat) (l:List Value),v=.slice (some ⟨b,0,none⟩) n cap/\(b,Obj.cells l.toArray e (0,0))∈F/\QC h l qs:=by
 obtain⟨b,cap,c,h1,h2,h3⟩:=aE.block g hn;refine⟨b,cap,c.toList,h1,by simpa using h2,fun j q e=>?_⟩
 obtain⟨ng,a,d,h4,h5⟩:=w j q e;refine⟨ng,a,d,fun i v hv=>?_,h5⟩
 rw[Array.getElem?_toList];exact h3 _ _ (h4 i v hv)
theorem aL4{vals:List (List Nat × Rat)}{op arg:Int}{ks:List Tr}{j:Nat}{t:Tr}(hk:ks.length<=2)(ht:ks[j]?=some t)(hn:fM vals t=none):aPo op arg (eZ vals ks)=none:=by
 match ks,j,ht,hk with
 | [a],0,ht,_=>
  have e:fM vals a=none:=by cases ht;exact hn
  rw[eZ,eZ];show (fM vals a).bind _=none;rw[e];rfl
 | [a,b],0,ht,_=>
  have e:fM vals a=none:=by cases ht;exact hn
  rw[eZ,eZ,eZ];show (fM vals a).bind _=none;rw[e];rfl
 | [a,b],1,ht,_=>
  have e:fM vals b=none:=by cases ht;exact hn
  rw[eZ,eZ,eZ];show (fM vals a).bind (fun x=>(fM vals b).bind _)=none
  rw[e];cases fM vals a<;>rfl
 | [a],j+1,ht,_=>simp at ht
 | [a,b],j+2,ht,_=>simp at ht
 | [],j,ht,_=>simp at ht
theorem tF{vals:List (List Nat × Rat)}:∀(a b:List Tr),eZ vals (a++b)=eZ vals a++eZ vals b
 | [],b=>by rw[eZ];rfl
 | t::a,b=>by rw[bAk,eZ,eZ,tF a b];rfl
theorem aQv(vals:List (List Nat × Rat))(bm:Nat)(es:Array MapEntry)(clock:Nat):∀t:Tr,∀(h:aA) (vs:List Value) (d:Nat),Tb h->h bm=some (.map es clock)->fD aWs h es.toList vals->IsE h vs t->okT d t->Fn0 T F.q34 [.agg vs.toArray,.map (some bm)] h fun v h'=>VQ h' v (fM vals t):=by
 refine dX fun t ih=>?_
 intro h vs d tb mm me w hok;obtain⟨op,arg,neg,l,m,name,ks⟩:=t;obtain⟨a,b,s,rfl,ho,ha,hv,hb,hk⟩:=w.isK;rw[okT] at hok;obtain⟨hd,hnb,hoks⟩:=hok;have hks:=hnb.1;have hkl:=hk.len;have fe:=fD.find hb 0 me;have r2:op=2->fM vals (.mk op arg neg l m name ks)=lJ vals name:=fun x=>by rw[fM,if_neg Aa,if_pos x]
 have hnum:op=1->bL h neg a b (some (aK neg l m)):=fun x=>by
  have hn:=hnb.2.2.2.2;rw[if_pos x] at hn;exact⟨l,m,hv,(if_pos hn.1).symm⟩
 have r1:op=1->fM vals (.mk op arg neg l m name ks)=some (aK neg l m):=fun x=>by rw[fM,if_pos x]
 have r3:op=3->fM vals (.mk op arg neg l m name ks)=none:=fun x=>by rw[fM,if_neg Aa,if_neg Aa,if_pos x]
 have r4:op≠1->op≠2->op≠3->fM vals (.mk op arg neg l m name ks)=aPo op arg (eZ vals ks):=fun x y z=>by rw[fM,if_neg x,if_neg y,if_neg z]
 obtain⟨R,hR⟩:=AE (fM vals (.mk op arg neg l m name ks));obtain⟨N,hN⟩:=AE (aK neg l m);rw[<-hR] at r1 r2 r3 r4 ⊢;rw[<-hN] at r1 hnum;clear hR hN;by_cases o2:op=2
 .replace r2:=r2 o2;clear r1 r3 r4 hnum;rcases fe with ⟨j,x,q,e1,e2,e3,e4,⟨n1,a1,b1,e5,hq⟩,e6⟩|⟨e1,e2,e3⟩
  .rw[e5] at e1;refine f0C ok D.q34 rfl ?_;conv=>whnf
   repeat' ((first|(show LdN _ _ _ _ _;first|refine LdN.oA 0 rfl rfl ?_|refine LdN.oA 1 rfl rfl ?_)|(show Ext _ _ _ _ _ _ _;refine Ext.mapFind (d:=.string) (key:=.string (txt name)) (.inr mm) rfl rfl rfl Ag trivial (.inl ⟨_,_,e1,?_⟩))|((first|apply oI.z|apply cI.z))|intro (_:Nat)|refine Ld.o 1 rfl rfl ?_|(show Sto _ _ _ _;first|refine Sto.l 0 rfl rfl rfl ?_|refine Sto.l 1 rfl rfl rfl ?_)|(apply aD<;>intro _<;>try (exfalso;omega)))<;>conv=>whnf)
   all_goals
    rw[r2,e6];exact RN.a ⟨n1,a1,b1,true,rfl,fun _=>⟨q,rfl,hq⟩,fun x=>by cases x⟩
  .refine f0C ok D.q34 rfl ?_;conv=>whnf
   repeat' ((first|(show LdN _ _ _ _ _;first|refine LdN.oA 0 rfl rfl ?_|refine LdN.oA 1 rfl rfl ?_)|(show Ext _ _ _ _ _ _ _;refine Ext.mapFind (d:=.string) (key:=.string (txt name)) (.inr mm) rfl rfl rfl Ag trivial (.inr ⟨e1,?_⟩))|((first|apply oI.z|apply cI.z))|intro (_:Nat)|refine Ld.o 1 rfl rfl ?_|(show Sto _ _ _ _;first|refine Sto.l 0 rfl rfl rfl ?_|refine Sto.l 1 rfl rfl rfl ?_)|(apply aD<;>intro _<;>try (exfalso;omega)))<;>conv=>whnf)
   all_goals
    rw[r2,e3];exact RN.a ⟨false,⟨none,0,0⟩,⟨none,0,0⟩,false,rfl,fun x=>(by cases x),fun _=>rfl⟩
 clear r2 fe;by_cases o15:op=15
 .obtain⟨k0,k1,k2,rfl⟩:=aY1 (by rw[<-o15];exact hks);replace r4:=r4 Aa Aa Aa;rw[eZ,eZ,eZ,eZ] at r4;replace r4:R=(fM vals k0).bind fun c=>if 0<=c then fM vals k1 else fM vals k2:=r4
  have i0:=fun h vs tb mm me w=>ih k0 (bM (j:=0) rfl) h vs (d+1) tb mm me w (kH hoks (j:=0) rfl)
  have i1:=fun h vs tb mm me w=>ih k1 (bM (j:=1) rfl) h vs (d+1) tb mm me w (kH hoks (j:=1) rfl)
  have i2:=fun h vs tb mm me w=>ih k2 (bM (j:=2) rfl) h vs (d+1) tb mm me w (kH hoks (j:=2) rfl)
  have g0:fM vals k0=none->R=none:=fun x=>by rw[r4,x];rfl
  have g1:∀c,fM vals k0=some c->0<=bY c->R=fM vals k1:=fun c x y=>by
   rw[r4,x];exact if_pos (by have:=vL c;rw[Vc.le_true' y] at this;by_cases z:0<=c;exact z;rw[aG z] at this;cases this)
  have g2:∀c,fM vals k0=some c->¬0<=bY c->R=fM vals k2:=fun c x y=>by
   rw[r4,x];exact if_neg fun z=>by have:=vL c;rw[aW z,Vc.le_false' Aa] at this;cases this
  clear r1 r3 r4 hnum ih;obtain⟨V0,h0⟩:=AE (fM vals k0);obtain⟨V1,h1⟩:=AE (fM vals k1);obtain⟨V2,h2⟩:=AE (fM vals k2);simp only[<-h0] at i0 g0 g1 g2;simp only[<-h1] at i1 g1;simp only[<-h2] at i2 g2;clear h0 h1 h2;simp only[aY6,aY9] at hkl;refine f0C ok D.q34 rfl ?_;conv=>whnf
  repeat' first|((first|(show LdN _ _ _ _ _;first|refine LdN.oA 0 rfl rfl ?_|refine LdN.oA 1 rfl rfl ?_)|(show Idx _ _ _ _ _;first|(refine Idx.kid (hk.mono Ad) 0 k0 Aa rfl (fun ad op3 arg3 neg3 a3 b3 name3 s3 hE hld=>?_))|refine Idx.kid (hk.mono Ab) 1 k1 Aa rfl (fun ad op3 arg3 neg3 a3 b3 name3 s3 hE hld=>?_)|refine Idx.kid (hk.mono Ab) 2 k2 Aa rfl (fun ad op3 arg3 neg3 a3 b3 name3 s3 hE hld=>?_))|(refine hld _ _ _ Ad ?_)|((first|apply oI.z|apply cI.z))|intro (_:Nat)|(show CN _ _ _ _ _ _;first|(refine CN.f rfl (i0 _ _ Ae ((Ap:aA.le h _) _ _ mm) (me.mono Ap) Af) (fun v h' hl hr=>?_);obtain⟨n1,a1,b1,bb1,rfl,t1,t2⟩:=hr)|((first|refine CN.f rfl (i1 _ _ Ae ((Ac:aA.le h _) _ _ mm) (me.mono Ac) Af) (fun v h' hl hr=>?_)|refine CN.f rfl (i2 _ _ Ae ((Ac:aA.le h _) _ _ mm) (me.mono Ac) Af) (fun v h' hl hr=>?_));obtain⟨n2,a2,b2,bb2,rfl,u1,u2⟩:=hr)|(obtain⟨c,t3,t4⟩:=t1 rfl;refine CN.f rfl (aYa _ _ _ _ c Ae Ab) (fun v h' hl hr=>?_);subst hr))|(show Ld _ _ _ _;first|refine Ld.o 1 rfl rfl ?_|refine Ld.o 2 rfl rfl ?_)|(show Sto _ _ _ _;first|refine Sto.l 0 rfl rfl rfl ?_|refine Sto.l 1 rfl rfl rfl ?_))<;>conv=>whnf)|(show cnd _ _ _;first|((first|apply bH|apply aD)<;>intro _<;>first|(exfalso;omega)|conv=>whnf)|(refine aI ?_)|(refine bQ (fun hb=>?_) (fun hb=>?_)<;>(first|cases hb|subst hb)<;>(conv=>whnf)))
  all_goals first
   | (rw[g0 (t2 rfl)];exact RN.a ⟨false,⟨none,0,0⟩,⟨none,0,0⟩,false,rfl,fun x=>(by cases x),fun _=>rfl⟩)
   | (rw[g1 c t3 Aa];exact RN.a ⟨n2,a2,b2,bb2,rfl,u1,u2⟩)
   | (rw[g2 c t3 Aa];exact RN.a ⟨n2,a2,b2,bb2,rfl,u1,u2⟩)
 .have hk2:op≠1->op≠2->op≠3->1<=ks.length/\ks.length<=2:=fun x y z=>by
   have h:=cR op;have:aV op≠3:=fun e=>o15 (aY0 e)
   have h0:aV op≠0:=fun e=>by
    unfold aV at e
    repeat' split at e
    all_goals omega
   omega
  have hun:=fun (e:ks.length=1)=>aYy (op:=op) (arg:=arg) Aa hnb.2.1 hnb.2.2.1
  have hbi:=fun (e:ks.length=2)=>aYz (op:=op) Aa
  have st:op≠1->op≠2->op≠3->∀(j:Nat) t,ks[j]?=some t->fM vals t=none->R=none:=fun x y z j t ht hn=>(r4 x y z).trans (aL4 (hk2 x y z).2 ht hn)
  have fin1:op≠1->op≠2->op≠3->∀q,eZ vals ks=[q].map some->R=unQ op arg q:=fun x y z q e=>by rw[r4 x y z,e];rfl
  have fin2:op≠1->op≠2->op≠3->∀p q,eZ vals ks=[p,q].map some->R=biQ op p q:=fun x y z p q e=>by rw[r4 x y z,e];rfl
  clear r4;refine f0C ok D.q34 rfl ?_;conv=>whnf
  repeat' ((first|(show LdN _ _ _ _ _;first|refine LdN.oA 0 rfl rfl ?_|refine LdN.oA 1 rfl rfl ?_)|((first|apply oI.z|apply cI.z))|intro (_:Nat)|refine Ld.o 1 rfl rfl ?_|refine Sto.l 0 rfl rfl rfl ?_|(apply aD<;>intro _<;>try (exfalso;omega)))<;>conv=>whnf)
  all_goals try (rw[r1 Ab];exact RN.a ⟨neg,a,b,true,rfl,fun _=>⟨N,rfl,hnum Ab⟩,fun x=>by cases x⟩)
  all_goals try (rw[r3 Ab];exact RN.a ⟨false,⟨none,0,0⟩,⟨none,0,0⟩,false,rfl,fun x=>(by cases x),fun _=>rfl⟩)
  rename_i b2 b4 n1 n2 n3 n4;have hk2:=hk2 Aa Aa Aa;replace st:=st Aa Aa Aa;replace fin1:=fin1 Aa Aa Aa;replace fin2:=fin2 Aa Aa Aa;refine LpN.of (fun r ρ hx L=>∃(j:Nat) (V:Value) (F1:Vc.Own) (xs:List Value) (qs:List Rat),r=ks.length-j/\h.le hx/\j<=ks.length/\rd ρ 77=.int .i64 j/\rd ρ 12=V/\
    L=F1++((b4,.cells [.bool false,.slice none 0 0,.slice none 0 0].toArray Ty.api_Rat (0,0))::(b2,.cells [.int .i64 op,.int .i64 arg,.bool neg,a.val,b.val,.string (txt name),s.val].toArray Ty.api_Expr (0,0))::[])/\aE Ty.api_Rat 3 V j xs F1/\QC hx xs qs/\qs.length=j/\Hq (eZ vals (ks.take j)=qs.map some)) ks.length
   ⟨0,_,[],[],[],rfl,aA.lr _,aZs _,rfl,rfl,rfl,aE.nil _ _ _,QC.nil _,rfl,⟨by rw[bAt,eZ];rfl⟩⟩ ?_
  conv=>whnf
  repeat intro _
  rename_i r hx L2 hI;obtain⟨j,V,F1,xs,qs,rfl,hle,hj,e77,e12,rfl,gF,hQ,hql,hq⟩:=hI;conv at e77=>lhs;whnf
  subst e77;conv at e12=>lhs;whnf
  subst e12;by_cases hjl:j=ks.length
  .subst hjl;have hq:=hq.out;rw[aZi] at hq;obtain⟨bl,cap,l0,hV,hF,hQ0⟩:=aE.num gF hQ Aa;rw[hV];rcases (by omega:ks.length=1\/ks.length=2) with e1|e1
   .obtain⟨q0,rfl⟩:∃q0,qs=[q0]:=by
     rw[e1] at hql
     match qs,hql with
     | [q0],_=>exact⟨q0,rfl⟩
    obtain⟨ng,a1,b1,w1,w2⟩:=hQ0 0 q0 rfl;have c1:=fun h tb w=>aQt q0 h tb op arg neg a b s name ng a1 b1 (hun e1) w
    rw[fin1 q0 hq];rw[e1];conv=>whnf
    repeat' first|((first|(show DrN _ _ _ _ _ _;refine DrN.each Al ?_)|(show Idx _ _ _ _ _;refine Idx.of 0 rfl rfl Ag ?_)|(show LdN _ _ _ _ _;first|refine LdN.three (.inr (aZv _ hF)) (w1 0 _ rfl) (w1 1 _ rfl) (w1 2 _ rfl) ?_|refine LdN.tl (A:=F1) (F:=[_]) rfl ?_|refine LdN.tl (A:=F1) (F:=[]) rfl ?_)|(show Sto _ _ _ _;refine Sto.tl (A:=F1) (X:=[]) rfl rfl ?_)|(show CN _ _ _ _ _ _;(refine CN.f rfl (c1 _ Ae Ab) (fun v h' hl hr=>?_);obtain⟨n5,a5,b5,bb5,rfl,u1,u2⟩:=hr))|((first|apply oI.z|apply cI.z))|refine⟨fun _=>aF.o (aA.lr _),?_⟩|refine⟨fun _=>aF.o Ab,?_⟩|refine⟨fun hst=>(by cases (show true=false from hst)),?_⟩|fail)<;>conv=>whnf)|(show cnd _ _ _;first|((first|apply aB|apply aD)<;>intro _<;>first|(exfalso;omega)|conv=>whnf))|(refine kM.mk ?_ ?_<;>(conv=>whnf))
    all_goals exact RN.a ⟨_,_,_,_,rfl,u1,u2⟩
   .obtain⟨q0,q1,rfl⟩:∃q0 q1,qs=[q0,q1]:=by
     rw[e1] at hql
     match qs,hql with
     | [q0,q1],_=>exact⟨q0,q1,rfl⟩
    obtain⟨ng,a1,b1,w1,w2⟩:=hQ0 0 q0 rfl;obtain⟨ng',a2,b2',w3,w4⟩:=hQ0 1 q1 rfl;have c1:=fun h tb w w'=>aLw q0 q1 h tb op ng a1 b1 ng' a2 b2' (hbi e1) w w'
    rw[fin2 q0 q1 hq];rw[e1];conv=>whnf
    repeat' first|((first|(show DrN _ _ _ _ _ _;refine DrN.run Al ?_)|(show Idx _ _ _ _ _;first|refine Idx.of 0 rfl rfl Ag ?_|refine Idx.of 1 rfl rfl Ag ?_)|(show LdN _ _ _ _ _;first|refine LdN.three (.inr (aZv _ hF)) (w1 0 _ rfl) (w1 1 _ rfl) (w1 2 _ rfl) ?_|refine LdN.three (.inr (aZv _ hF)) (w3 0 _ rfl) (w3 1 _ rfl) (w3 2 _ rfl) ?_|refine LdN.tl (A:=F1) (F:=[]) rfl ?_)|(show Ld _ _ _ _;refine Ld.tl (A:=F1) (F:=[_]) rfl ?_)|(show Sto _ _ _ _;refine Sto.tl (A:=F1) (X:=[]) rfl rfl ?_)|(show CN _ _ _ _ _ _;(refine CN.f rfl (c1 _ Ae Ab Ab) (fun v h' hl hr=>?_);obtain⟨n5,a5,b5,bb5,rfl,u1,u2⟩:=hr))|((first|apply oI.z|apply cI.z))|refine⟨fun _=>aF.o Ab,?_⟩|refine⟨fun hst=>(by cases (show true=false from hst)),?_⟩|fail)<;>conv=>whnf)|(show cnd _ _ _;first|((first|apply aB|apply aD)<;>intro _<;>first|(exfalso;omega)|conv=>whnf))
    all_goals exact RN.a ⟨_,_,_,_,rfl,u1,u2⟩
  .obtain⟨t,ht⟩:∃t,ks[j]?=some t:=⟨_,aY4 Aa⟩
   have c2:=fun h vs tb mm me w=>ih t (bM ht) h vs (d+1) tb mm me w (dY hoks (aY8 ht))
   have hkx:=hk.mono hle;have stj:=st j t ht;have htk:∀q,fM vals t=some q->Hq (eZ vals (ks.take (j+1))=(qs++[q]).map some):=fun q e=>⟨by rw[bB ht,tF,hq.out,eZ,eZ,e,aZh];rfl⟩
   obtain⟨X,hX⟩:=AE (fM vals t);simp only[<-hX] at c2 stj htk;clear hX hq;have hxl:=gF.1;conv=>whnf
   repeat' first|((first|(show Idx _ _ _ _ _;refine Idx.kid hkx j t Aa ht (fun ad op3 arg3 neg3 a3 b3 name3 s3 hE hld=>?_))|(refine hld _ _ _ Ad ?_)|((first|apply oI.z|apply cI.z))|intro (_:Nat)|(show CN _ _ _ _ _ _;(refine CN.f rfl (c2 _ _ Ae (hle _ _ mm) (me.mono hle) Ab) (fun v h' hl2 hr=>?_);obtain⟨n5,a5,b5,bb5,rfl,u1,u2⟩:=hr;have hQ2:=hQ.mono hl2))|(show Sto _ _ _ _;first|refine Sto.tl (A:=_::_::F1) (X:=[]) rfl rfl ?_|refine Sto.l 0 rfl rfl rfl ?_)|(show LdN _ _ _ _ _;first|refine LdN.tl (A:=_::_::F1) (F:=[]) rfl ?_|refine LdN.o 0 rfl rfl ?_)|(show App _ _ _ _ _ _ _ _ _;refine App.growK (A:=[_,_,_]) (F:=F1) (size:=3) (bytes:=56) (z:=[.bool false,.slice none 0 0,.slice none 0 0]) rfl rfl gF ⟨_,0,none⟩ 1 1 [_,_,_] rfl (Has.front _) rfl Ag Aa Aa Ag (fun v' F' g'=>?_))|refine WN.i64 Aa Aa ?_)<;>conv=>whnf)|(show cnd _ _ _;first|(apply aB<;>intro _<;>first|(exfalso;omega)|conv=>whnf)|(refine aI ?_)|(refine bQ (fun hb=>?_) (fun hb=>?_)<;>(first|cases hb|subst hb)<;>(conv=>whnf)))
   all_goals first
    | (rw[stj (u2 rfl)];exact RN.a ⟨false,⟨none,0,0⟩,⟨none,0,0⟩,false,rfl,fun x=>(by cases x),fun _=>rfl⟩)
    | (obtain⟨q,u3,u4⟩:=u1 rfl
       exact⟨rfl,ks.length-(j+1),Aa,j+1,_,_::_::_::F',_,qs++[q],rfl,Ac,Aa,vi Aa,rfl,rfl,((g'.cons _).cons _).cons _,QC.snoc hQ2 Aa u4,by rw[aY2,hql];rfl,htk q u3⟩)
end Go.Proofs.Y
/- Value: the program's side. -/
namespace Go.Vc
open Go Go.Dig
theorem CN.keepX{T:Tab}{f:FuncId}{args:List Value}{h:aA}{k:Value->aA->Vc.Own->Prop}{Fe tl:Vc.Own}{b:Nat}{p:Obj}(hf:T.fn f=true)
  (hk:∀h',h.le h'->h' b=some p->CN T f args h' (Fe++tl) k):CN T f args h (Fe++((b,p)::tl)) k:=by
 have e1:(Fe++(b,p)::tl).eraseIdx Fe.length=Fe++tl:=by rw[bBj (aZt _)];simp
 refine CN.keep (b:=b) (o:=p) Fe.length Ar hf fun h1=>?_
 rw[e1];exact hk _ h1 AB
end Go.Vc
namespace Go.Proofs.Y
open Go Go.Vc Go.Dig
theorem MsR.strip{ms:List (List Nat × Rat)}{bs:List (List Nat × Option Rat)}(r:MsR ms (iO bs))(h:gM bs):ms=iO bs:=r.2 (by rw[tE];exact h.2)
theorem aQw(bs:List (List Nat × Option Rat))(hbl:bs.length<=1099511627776)(sb:Sl)(t:Tr)(h:aA)(vs:List Value)(tb:Tb h)(wb:IsV h sb bs)(w:IsE h vs t):Fn0 T F.q13 [.agg vs.toArray,sb.val] h fun v h'=>uX h' v (vB bs t):=by
 have c1:=fun h vs tb w=>jB t h vs tb w
 have c2:=fun h n hn=>iN h n hn
 have c3:=fun h tb n a b x w=>aWt h tb n a b x w
 have c4:=fun h vs bm es clock ms tb mm me w (x:aS t)=>aQv ms bm es clock t h vs 1 tb mm me w x.1
 have r1:¬aS t->vB bs t=(0,false,40):=aLx;have r2:aS t->¬gM bs->vB bs t=(0,false,41):=aLy;have r3:aS t->gM bs->¬oM bs->vB bs t=(0,false,1):=aLz;have r4:∀ms,MsR ms (iO bs)->aS t->gM bs->oM bs->fM ms t=none->vB bs t=(0,false,0):=fun ms r x y z u=>aL0 x y z (by rw[<-r.strip y];exact u)
 have r5:∀ms,MsR ms (iO bs)->aS t->gM bs->oM bs->∀q,fM ms t=some q->vB bs t=(q,true,0):=fun ms r x y z q u=>aL1 x y z (by rw[<-r.strip y];exact u)
 obtain⟨R,hR⟩:=AE (vB bs t);rw[<-hR] at r1 r2 r3 ⊢;simp only[<-hR] at r4 r5;clear hR;have hsl:=wb.len;obtain⟨⟨op,arg,neg,l,m,name,ks⟩,ht⟩:=AE t;obtain⟨a,b,s,hvs,-⟩:=(ht.symm▸w:IsE h vs (.mk op arg neg l m name ks)).isK;subst hvs;refine f0C ok D.q13 rfl ?_;conv=>whnf
 repeat' ((first|(show Ext _ _ _ _ _ _ _;refine Ext.makeMap fun bm=>?_)|((first|apply oI.z|apply cI.z))|intro (_:Nat))<;>conv=>whnf)
 rename_i b2 b4;refine LpN.of (fun r ρ hx L=>∃(j:Nat) (X:Vc.Own) (es:Array MapEntry) (clock:Nat) (ms:List (List Nat × Rat)),r=bs.length-j/\h.le hx/\j<=bs.length/\rd ρ 21=.int .i64 j/\rd ρ 8=.bool (dec (gM (bs.take j)))/\rd ρ 9=.bool (dec (oM (bs.take j)))/\
     L=X++((bm,.map es clock)::(b4,.cells [.bool false,.slice none 0 0,.slice none 0 0].toArray Ty.api_Rat (0,0))::(b2,.cells [.int .i64 op,.int .i64 arg,.bool neg,a.val,b.val,.string (txt name),s.val].toArray Ty.api_Expr (0,0))::[])/\fD aWs hx es.toList ms/\MsR ms (iO (bs.take j))) bs.length
  ⟨0,[],#[],0,[],rfl,aA.lr _,aZs _,rfl,congrArg Value.bool (aW aFe).symm,congrArg Value.bool (aW aQu).symm,rfl,trivial,⟨fun _=>Iff.rfl,fun _=>rfl⟩⟩ ?_
 conv=>whnf
 repeat intro _
 rename_i r hx L2 hI;obtain⟨j,X,es,clock,ms,rfl,hle,hj,e21,e8,e9,rfl,me,mr⟩:=hI;conv at e21=>lhs;whnf
 subst e21;conv at e8=>lhs;whnf
 subst e8;conv at e9=>lhs;whnf
 subst e9;by_cases hjl:j=bs.length
 .subst hjl;rw[aZi] at *;have r4:=r4 ms mr;have r5:=r5 ms mr;have c4:=fun h vs bm es clock tb mm me w x=>c4 h vs bm es clock ms tb mm me w x
  obtain⟨V,hV⟩:=AE (fM ms t);simp only[<-hV] at c4 r4 r5;clear hV;conv=>whnf
  repeat' first|((first|(show LdN _ _ _ _ _;first|refine LdN.tl3 (A:=[]) (F:=X) (G:=[_,_]) rfl ?_|refine LdN.tl3 (A:=[]) (F:=X) (G:=[_]) rfl ?_|refine LdN.tl3 (A:=[_]) (F:=X) (G:=[]) rfl ?_|refine LdN.o 0 rfl rfl ?_)|(show Sto _ _ _ _;first|refine Sto.tl3 (A:=[]) (F:=X) (G:=[_]) rfl rfl ?_|refine Sto.tl3 (A:=[_]) (F:=X) (G:=[]) rfl rfl ?_|refine Sto.l 0 rfl rfl rfl ?_)|(show CN _ _ _ _ _ _;first|(refine CN.f rfl (c1 _ _ Ae Af) (fun v h' hl2 hr=>?_);subst hr)|(refine CN.keepX (Fe:=X) rfl (fun h' hl2 mm=>?_);refine CN.f rfl (c4 h' _ _ _ _ Ae mm (me.mono Ac) Af Ab) (fun v h'' hl3 hr=>?_);obtain⟨n1,a1,b1,bb1,rfl,g1,g2⟩:=hr)|(obtain⟨q,t3,t4⟩:=g1 rfl;refine CN.f rfl (aQo _ Ae _ _ _ q Ab) (fun v h' hl4 hr=>?_);obtain⟨c5,d5,rfl,hq5⟩:=hr))|((first|apply oI.z|apply cI.z))|intro (_:Nat))<;>conv=>whnf)|(show cnd _ _ _;first|(apply aB<;>intro _<;>first|(exfalso;omega)|conv=>whnf)|(refine aI ?_)|(apply aN<;>intro _<;>first|(exfalso;omega)|conv=>whnf)|(refine bQ (fun hb=>?_) (fun hb=>?_)<;>(first|cases hb|subst hb)<;>(conv=>whnf)))
  all_goals first
   | (rw[r1 Ab];exact RN.a (uX.err _ _))
   | (rw[r2 Ab Ab];exact RN.a (uX.err _ _))
   | (rw[r3 Ab Ab Ab];exact RN.a (uX.err _ _))
   | (rw[r4 Ab Ab Ab (g2 rfl)];exact RN.a (uX.err _ _))
   | (rw[r5 Ab Ab Ab q t3];exact RN.a ⟨_,_,rfl,Ab⟩)
 .obtain⟨⟨n,x⟩,hu⟩:∃x,bs[j]?=some x:=⟨_,aY4 Aa⟩
  have wbx:=wb.mono hle;have htk:=bB hu;have hnb:=wb.bytes hu;have n0:¬gM (bs.take j)->false=dec (gM (bs.take (j+1))):=fun x=>by rw[htk];exact (aG fun y=>x (iR.1 y).1).symm
  have n2:¬dH n->false=dec (gM (bs.take (j+1))):=fun x=>by rw[htk];exact (aG fun y=>x (iR.1 y).2.1).symm
  have s0:¬oM (bs.take j)->false=dec (oM (bs.take (j+1))):=fun x=>by rw[htk];exact (aG fun y=>x (uI.1 y).1).symm
  have s1:∀e:Int,(e=0↔x.isSome=true)->oM (bs.take j)->eq e 0=dec (oM (bs.take (j+1))):=fun e he y=>by
   rw[htk,jE];exact cA (he.trans ⟨fun z=>uI.2 ⟨y,z⟩,fun z=>(uI.1 z).2⟩)
  have c2:=fun h=>c2 h n hnb
  have mst:iO (bs.take (j+1))=iO (bs.take j)++[(n,x.getD 0)]:=by rw[htk,aFg]
  have mnew:=MsR.new (n:=n) (u:=x.getD 0) mr;have mold:=fun i t' (hi:ms[i]?=some (n,t'))=>MsR.old (u:=x.getD 0) mr hi
  rw[<-mst] at mnew;simp only[<-mst] at mold;have fe:=fD.find hnb 0 me;have mem:n∈ms.map (·.1)↔n∈(bs.take j).map (·.1):=by rw[<-tE (bs.take j)];exact mr.1 n
  have nfound:n∈ms.map (·.1)->false=dec (gM (bs.take (j+1))):=fun x=>by rw[htk];exact (aG fun y=>(iR.1 y).2.2 (mem.1 x)).symm
  have nmiss:n∉ms.map (·.1)->gM (bs.take j)->dH n->true=dec (gM (bs.take (j+1))):=fun x y z=>by rw[htk];exact (aW (iR.2 ⟨y,z,fun q=>x (mem.2 q)⟩)).symm
  clear r1 r2 r3 r4 r5 htk mst mem c1 c4;obtain⟨S1,hS1⟩:=AE (dec (oM (bs.take (j+1))));obtain⟨N1,hN1⟩:=AE (dec (gM (bs.take (j+1))));simp only[<-hS1] at s0 s1;rw[<-hN1] at n0 n2 nfound nmiss;obtain⟨y,hy⟩:=AE (x.getD 0);rcases fe with ⟨i,x',t',e1,e2,e3,e4,⟨ng5,a5,b5,e5,hq5⟩,-⟩|⟨e1,e2,-⟩
  .have e1':=e1;rw[e5] at e1;have nf:=nfound (List.mem_map.2 ⟨_,aY8 e3,rfl⟩);rw[aZq] at e1 e1';have e2':es[i]?=some x':=by rw[<-Array.getElem?_toList];exact e2
   conv=>whnf
   repeat' first|((first|(show Idx _ _ _ _ _;refine Idx.valu wbx j n x Aa hu (fun bl off ng a2 b2 hnn hE h1 h2=>?_))|(show LdN _ _ _ _ _;first|refine LdN.hasC [.bool ng,a2.val,b2.val] rfl (h1 _ _ (aA.lr _)) (fun i v hv=>h2 _ _ i v (aA.lr _) hv) ?_|refine LdN.oA 0 rfl rfl ?_|refine LdN.oA 1 rfl rfl ?_)|(show CN _ _ _ _ _ _;first|(refine CN.f rfl (c2 _) (fun v h' hl2 hr=>?_);subst hr)|(refine CN.f rfl (c3 _ Ae _ _ _ x (by (iterate 30 try first|assumption|refine bL.mono ?_ Ab);first|done|assumption)) (fun v h' hl2 hr=>?_);obtain⟨n7,a7,b7,z7,rfl,hq7,he7⟩:=hr))|(show Ext _ _ _ _ _ _ _;first|refine Ext.mapFind (es:=es) (clock:=clock) (d:=.string) (key:=.string (txt n)) (.inl Ar) rfl rfl rfl Ag trivial (.inl ⟨_,_,e1,?_⟩)|(refine Ext.mapSet (d:=.string) (key:=.string (txt n)) (A:=[_,_,_]) (Fe:=X) (G:=[]) AC rfl rfl trivial (.inr ⟨i,x',e1',e2',e4,?_⟩)))|((first|apply oI.z|apply cI.z))|intro (_:Nat)|refine WN.i64 Aa Aa ?_|(show Ld _ _ _ _;first|refine Ld.o 0 rfl rfl ?_|refine Ld.o 1 rfl rfl ?_|refine Ld.o 2 rfl rfl ?_)|refine Sto.l 0 rfl rfl rfl ?_)<;>conv=>whnf)|(show cnd _ _ _;first|((first|apply aB|apply aN)<;>intro _<;>first|(exfalso;omega)|conv=>whnf))
   all_goals
    refine⟨rfl,bs.length-(j+1),Aa,j+1,_::_::_::X,_,_,ms.set i (n,x.getD 0),rfl,Ac,Aa,vi Aa,congrArg Value.bool ?_,congrArg Value.bool ?_,rfl,?_,mold i t' e3⟩
    .rw[<-hN1];first|exact nf|exact n0 Ab|exact n2 Ab
    .rw[<-hS1];first|exact s1 _ he7 Ab|exact s0 Ab
    .rw[modify_set e2'];exact fD.set ⟨rfl,hnb,n7,a7,b7,rfl,Ab⟩ (me.mono Ac)
  .conv=>whnf
   repeat' first|((first|(show Idx _ _ _ _ _;refine Idx.valu wbx j n x Aa hu (fun bl off ng a2 b2 hnn hE h1 h2=>?_))|(show LdN _ _ _ _ _;first|refine LdN.hasC [.bool ng,a2.val,b2.val] rfl (h1 _ _ (aA.lr _)) (fun i v hv=>h2 _ _ i v (aA.lr _) hv) ?_|refine LdN.oA 0 rfl rfl ?_|refine LdN.oA 1 rfl rfl ?_)|(show CN _ _ _ _ _ _;first|(refine CN.f rfl (c2 _) (fun v h' hl2 hr=>?_);subst hr)|(refine CN.f rfl (c3 _ Ae _ _ _ x (by (iterate 30 try first|assumption|refine bL.mono ?_ Ab);first|done|assumption)) (fun v h' hl2 hr=>?_);obtain⟨n7,a7,b7,z7,rfl,hq7,he7⟩:=hr))|(show Ext _ _ _ _ _ _ _;first|refine Ext.mapFind (es:=es) (clock:=clock) (d:=.string) (key:=.string (txt n)) (.inl Ar) rfl rfl rfl Ag trivial (.inr ⟨e1,?_⟩)|(refine Ext.mapSet (d:=.string) (key:=.string (txt n)) (A:=[_,_,_]) (Fe:=X) (G:=[]) AC rfl rfl trivial (.inl ⟨e1,?_⟩)))|((first|apply oI.z|apply cI.z))|intro (_:Nat)|refine WN.i64 Aa Aa ?_|(show Ld _ _ _ _;first|refine Ld.o 0 rfl rfl ?_|refine Ld.o 1 rfl rfl ?_|refine Ld.o 2 rfl rfl ?_)|refine Sto.l 0 rfl rfl rfl ?_)<;>conv=>whnf)|(show cnd _ _ _;first|((first|apply aB|apply aN)<;>intro _<;>first|(exfalso;omega)|conv=>whnf))
   all_goals
    refine⟨rfl,bs.length-(j+1),Aa,j+1,_::_::_::X,_,_,ms++[(n,x.getD 0)],rfl,Ac,Aa,vi Aa,congrArg Value.bool ?_,congrArg Value.bool ?_,rfl,?_,mnew⟩
    .rw[<-hN1];first|exact nmiss e2 Ab Ab|exact n0 Ab|exact n2 Ab
    .rw[<-hS1];first|exact s1 _ he7 Ab|exact s0 Ab
    .rw[Array.toList_push];exact fD.push ⟨rfl,hnb,n7,a7,b7,rfl,Ab⟩ (me.mono Ac)
end Go.Proofs.Y