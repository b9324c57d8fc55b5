/- The library's merge of two neighbouring runs, where one of them is a single term. -/
import Derived.Test.YtdccpmlhflpeaaaGreatDoorPW5
set_option linter.all false
set_option maxHeartbeats 4000000
set_option maxRecDepth 20000
namespace Go.Vc
theorem aR7(X Y:List El)(e q:El){k:Nat}(hk:k=X.length):
  (X++e::q::Y)[k]?=some e/\(X++e::q::Y)[k+1]?=some q/\((X++e::q::Y).set k q).set (k+1) e=X++q::e::Y:=by
 subst hk;have:=aEe X e [] q Y;rw[bDd,bEh] at this;exact⟨nJ _ _ _,zW _ _ [] _ _,this⟩
theorem xZ(X R Y:List El){c:Nat}(h1:X.length<=c)(h2:c<X.length+R.length):∃q,R[c-X.length]?=some q/\(X++R++Y)[c]?=some q/\q∈R:=by
 have h3:c-X.length<R.length:=Aa;refine⟨R[c-X.length],bC8 h3,?_,bFe h3⟩;rw[bDb,bDs h1,bDi h3,bC8 h3]
structure uQ (e:El) (R:List El) (i j:Nat):Prop where
 lo:∀n x,n<i->R[n]?=some x->leE x e
 hi:∀n x,j<=n->R[n]?=some x->leE e x
theorem uQ.init(e:El)(R:List El):uQ e R 0 R.length:=⟨fun n x h=>absurd h (Nat.not_lt_zero _),fun n x h g=>absurd (bC9.1 g).1 Aa⟩
theorem uQ.up{e q:El}{R:List El}{i j c:Nat}(s:uQ e R i j)(o:dD R)(hq:R[c]?=some q)(h:leE q e):uQ e R (c+1) j:=
 ⟨fun n x hn hx=>xY (aLo o Aa hx hq) h,s.hi⟩
theorem uQ.dn{e q:El}{R:List El}{i j c:Nat}(s:uQ e R i j)(o:dD R)(hq:R[c]?=some q)(h:leE e q):uQ e R i c:=
 ⟨s.lo,fun n x hn hx=>xY h (aLo o hn hq hx)⟩
theorem uQ.ord{e:El}{R:List El}{i:Nat}(s:uQ e R i i)(o:dD R):dD (R.take i++e::R.drop i):=aWd o s.lo s.hi
end Go.Vc
namespace Go.Proofs.Y
open Go Go.Vc Go.Dig
attribute [local irreducible] Vc.Fn FnP
theorem aWj(h:aA)(bp cap N:Nat)(zs:List Value)(A Q B:List El)(e:El)(oQ:dD Q)(hN:N=(A++[e]++Q++B).length)(hb:N<=1099511627776)(a m b:Int)(ha:a=A.length)(hm:m=(A.length+1:Nat))(hbb:b=(A.length+1+Q.length:Nat))(fe:mV h e)(fq:∀x∈Q,mV h x):
  Vc.Fn T F.q255 [.slice (some ⟨bp,0,none⟩) N cap,.int .i64 a,.int .i64 m,.int .i64 b,.func (.func F.q225) #[] #[]] h [cQ bp zs (A++[e]++Q++B)] fun v h' L'=>∃M',dD M'/\M'.Perm ([e]++Q)/\L'=[cQ bp zs (A++M'++B)]:=by
 have c1:=uP;obtain⟨l0,hl0⟩:=AB (A++[e]++Q++B);have hlen:l0.length=N:=by rw[hl0,hN]
 simp only[bC6,bDa,bDd] at hN;have ge:l0[A.length]?=some e:=by
  rw[hl0,bDb,bDb];exact nJ _ _ _
 have gq:∀c,A.length+1<=c->c<A.length+1+Q.length->∃q,Q[c-(A.length+1)]?=some q/\l0[c]?=some q/\q∈Q:=fun c h1 h2=>by
  have:=xZ (A++[e]) Q B (c:=c) Aq Aq;rw[hl0]
  simpa using this
 rw[<-hl0];obtain⟨K,hK⟩:=AB A.length;rw[<-hK] at hN ge gq ha hm hbb;refine f1C ok D.q255 rfl ?_;conv=>whnf
 repeat' ((first|((first|apply oI.z|apply cI.z))|refine WN.i64 Aa Aa ?_|(apply aD<;>intro _<;>try (exfalso;omega)))<;>conv=>whnf)
 refine LpN.of (fun r ρ hx L=>∃i j:Nat,r=j-i/\h.le hx/\L=[cQ bp zs l0]/\rd ρ 10=.int .i64 (K+1+i:Nat)/\rd ρ 11=.int .i64 (K+1+j:Nat)/\i<=j/\j<=Q.length/\uQ e Q i j) Q.length
  ⟨0,Q.length,rfl,aA.lr _,rfl,vi Aa,vi Aa,bDw _,bDx _,uQ.init e Q⟩ ?_
 conv=>whnf
 repeat intro _
 rename_i r hx L2 hI;obtain⟨i,j,rfl,hle,rfl,e10,e11,hij,hj,hS⟩:=hI;conv at e10=>lhs;whnf
 subst e10;conv at e11=>lhs;whnf
 subst e11;by_cases hlt:i<j
 .conv=>whnf
  repeat' ((first|(show cG _ _ _ _;(refine cG.e 1 Ad Aa (fun c hc=>?_);obtain⟨q,hq1,hq2,hq3⟩:=gq c Aa Aa))|(show Idx _ _ _ _ _;first|refine Idx.of c rfl Aa Aa ?_|refine Idx.of K rfl Aa Aa ?_)|(show LdN _ _ _ _ _;first|refine LdN.el 0 rfl hq2 ?_|refine LdN.el 0 rfl ge ?_)|(show CN _ _ _ _ _ _;(refine CN.f rfl (c1 _ q e ((fq q hq3).mono Ab) (fe.mono Ab)) (fun v h' hl hr=>?_);obtain⟨C,hC⟩:=AB (mR q.m e.m);rw[<-hC] at hr;subst hr))|((first|apply oI.z|apply cI.z))|refine⟨fun _=>aH.o Ab,?_⟩|(show WN _ _ _;first|refine WN.i64 Aa Aa ?_|refine WN.u64 Aa Aa ?_)|refine DrN.run Al ?_|(apply aB<;>intro _<;>try (exfalso;omega)))<;>conv=>whnf)
  .exact⟨rfl,j-(c-(K+1)+1),Aa,c-(K+1)+1,j,rfl,Ac,rfl,vi Aa,rfl,Aa,hj,hS.up oQ hq1 (aEd (lA.1 Aa))⟩
  .exact⟨rfl,(c-(K+1))-i,Aa,i,c-(K+1),rfl,Ac,rfl,rfl,vi Aa,Aa,Aa,hS.dn oQ hq1 fun x=>absurd (lA.2 x) Aa⟩
 .obtain rfl:i=j:=Aa;have hO:=hS.ord oQ;conv=>whnf
  repeat' ((first|((first|apply oI.z|apply cI.z))|(apply aB<;>intro _<;>try (exfalso;omega)))<;>conv=>whnf)
  have hl1:l0=A++[]++e::Q.take i++(Q.drop i++B):=by
   rw[hl0];simp only[bDb,bDg,bEn,bEm];rw[<-bDb (List.take i Q),bDo]
  refine LpN.of (fun r ρ h2 L=>∃Q1 Q2:List El,r=Q2.length/\h.le h2/\L=[cQ bp zs (A++Q1++e::Q2++(Q.drop i++B))]/\rd ρ 13=.int .i64 (K+Q1.length:Nat)/\Q1++Q2=Q.take i) (Q.take i).length
   ⟨[],Q.take i,rfl,hle,by rw[hl1],vi (by rw[bDd];omega),rfl⟩ ?_
  conv=>whnf
  repeat intro _
  rename_i r2 h2 L3 hI2;obtain⟨Q1,Q2,rfl,hle2,rfl,e13,hQQ⟩:=hI2;conv at e13=>lhs;whnf
  subst e13;have hQl:=congrArg List.length hQQ;rw[bC6,bDr,bE9 hj] at hQl
  match Q2,hQQ,hQl with
  | [],hQQ,hQl=>
   rw[bDd] at hQl;rw[bDg] at hQQ;have hl2:A++Q1++e::[]++(Q.drop i++B)=A++(Q.take i++e::Q.drop i)++B:=by rw[hQQ];simp[bDb]
   rw[hl2];obtain⟨l1,hl1⟩:=AB (A++(Q.take i++e::Q.drop i)++B);rw[<-hl1];conv=>whnf
   repeat' ((first|((first|apply oI.z|apply cI.z))|refine WN.i64 Aa Aa ?_|(apply aB<;>intro _<;>try (exfalso;omega)))<;>conv=>whnf)
   exact RN.done ⟨_,hO,List.perm_middle.trans (by rw[bDo];exact List.Perm.refl _),by rw[hl1]⟩
  | q::Q2,hQQ,hQl=>
   rw[bDa] at hQl;obtain⟨g1,g2,g3⟩:=aR7 (A++Q1) (Q2++(Q.drop i++B)) e q (k:=K+Q1.length) (by rw[bC6];omega);have hl2:A++Q1++e::(q::Q2)++(Q.drop i++B)=A++Q1++e::q::(Q2++(Q.drop i++B)):=by simp[bDb]
   rw[hl2];obtain⟨l1,hl1⟩:=AB (A++Q1++e::q::(Q2++(Q.drop i++B)));have hlen1:l1.length=N:=by
    rw[hl1,hN];simp only[bC6,bDa,bD3];omega
   rw[<-hl1] at g1 g2 g3 ⊢;obtain⟨M,hM⟩:=AB (K+Q1.length);rw[<-hM] at g1 g2 g3;conv=>whnf
   repeat' ((first|(show Idx _ _ _ _ _;first|refine Idx.of (M+1) rfl Aa Aa ?_|refine Idx.of M rfl Aa Aa ?_)|(show LdN _ _ _ _ _;first|refine LdN.el 0 rfl g1 ?_|refine LdN.el 0 rfl g2 ?_)|(show Sto _ _ _ _;first|refine Sto.el (x:=q) 0 rfl Aa ?_|(refine Sto.el (x:=e) 0 rfl (by rw[bFu];omega) ?_))|((first|apply oI.z|apply cI.z))|refine⟨fun hst=>(by cases (show true=false from hst)),?_⟩|refine WN.i64 Aa Aa ?_|refine DrN.run Al ?_|(apply aB<;>intro _<;>try (exfalso;omega)))<;>conv=>whnf)
   exact⟨rfl,Q2.length,by simp,Q1++[q],Q2,rfl,hle2,by rw[g3];simp[bDb],vi (by rw[bC6,bDa,bDd];omega),by rw[<-hQQ];simp⟩
end Go.Proofs.Y
/- The library's merge of two neighbouring runs: the second a single term. -/
namespace Go.Proofs.Y
open Go Go.Vc Go.Dig
attribute [local irreducible] Vc.Fn FnP
theorem aWk(h:aA)(bp cap N:Nat)(zs:List Value)(A P B:List El)(e:El)(hP2:2<=P.length)(oP:dD P)(hN:N=(A++P++[e]++B).length)(hb:N<=1099511627776)(a m b:Int)(ha:a=A.length)(hm:m=(A.length+P.length:Nat))(hbb:b=(A.length+P.length+1:Nat))(fe:mV h e)(fp:∀x∈P,mV h x):
  Vc.Fn T F.q255 [.slice (some ⟨bp,0,none⟩) N cap,.int .i64 a,.int .i64 m,.int .i64 b,.func (.func F.q225) #[] #[]] h [cQ bp zs (A++P++[e]++B)] fun v h' L'=>∃M',dD M'/\M'.Perm (P++[e])/\L'=[cQ bp zs (A++M'++B)]:=by
 have c1:=uP;obtain⟨l0,hl0⟩:=AB (A++P++[e]++B);have hlen:l0.length=N:=by rw[hl0,hN]
 simp only[bC6,bDa,bDd] at hN;have ge:l0[A.length+P.length]?=some e:=by
  rw[hl0,bDb (A++P),<-bC6];exact nJ _ _ _
 have gp:∀c,A.length<=c->c<A.length+P.length->∃q,P[c-A.length]?=some q/\l0[c]?=some q/\q∈P:=fun c h1 h2=>by
  have:=xZ A P ([e]++B) (c:=c) h1 h2;rw[hl0,bDb (A++P)];exact this
 rw[<-hl0];obtain⟨K,hK⟩:=AB A.length;rw[<-hK] at hN ge gp ha hm hbb;refine f1C ok D.q255 rfl ?_;conv=>whnf
 repeat' ((first|((first|apply oI.z|apply cI.z))|refine WN.i64 Aa Aa ?_|(apply aD<;>intro _<;>try (exfalso;omega)))<;>conv=>whnf)
 refine LpN.of (fun r ρ hx L=>∃i j:Nat,r=j-i/\h.le hx/\L=[cQ bp zs l0]/\rd ρ 14=.int .i64 (K+i:Nat)/\rd ρ 15=.int .i64 (K+j:Nat)/\i<=j/\j<=P.length/\uQ e P i j) P.length
  ⟨0,P.length,rfl,aA.lr _,rfl,vi Aa,vi Aa,bDw _,bDx _,uQ.init e P⟩ ?_
 conv=>whnf
 repeat intro _
 rename_i r hx L2 hI;obtain⟨i,j,rfl,hle,rfl,e14,e15,hij,hj,hS⟩:=hI;conv at e14=>lhs;whnf
 subst e14;conv at e15=>lhs;whnf
 subst e15;by_cases hlt:i<j
 .conv=>whnf
  repeat' first|((first|(show cG _ _ _ _;(refine cG.e 1 Ad Aa (fun c hc=>?_);obtain⟨q,hq1,hq2,hq3⟩:=gp c Aa Aa))|(show Idx _ _ _ _ _;first|refine Idx.of c rfl Aa Aa ?_|refine Idx.of (K+P.length) rfl Aa Aa ?_)|(show LdN _ _ _ _ _;first|refine LdN.el 0 rfl hq2 ?_|refine LdN.el 0 rfl ge ?_)|(show CN _ _ _ _ _ _;(refine CN.f rfl (c1 _ e q (fe.mono Ab) ((fp q hq3).mono Ab)) (fun v h' hl hr=>?_);obtain⟨C,hC⟩:=AB (mR e.m q.m);rw[<-hC] at hr;subst hr))|((first|apply oI.z|apply cI.z))|refine⟨fun _=>aH.o Ab,?_⟩|(show WN _ _ _;first|refine WN.i64 Aa Aa ?_|refine WN.u64 Aa Aa ?_)|refine DrN.run Al ?_)<;>conv=>whnf)|(show cnd _ _ _;first|(apply aB<;>intro _<;>first|(exfalso;omega)|conv=>whnf)|(refine aJ ?_))
  .exact⟨rfl,(c-K)-i,Aa,i,c-K,rfl,Ac,rfl,rfl,vi Aa,Aa,Aa,hS.dn oP hq1 (aEd (lA.1 Aa))⟩
  .exact⟨rfl,j-(c-K+1),Aa,c-K+1,j,rfl,Ac,rfl,vi Aa,rfl,Aa,hj,hS.up oP hq1 fun x=>absurd (lA.2 x) Aa⟩
 .obtain rfl:i=j:=Aa;have hO:=hS.ord oP;conv=>whnf
  repeat' ((first|((first|apply oI.z|apply cI.z))|(apply aB<;>intro _<;>try (exfalso;omega)))<;>conv=>whnf)
  have hl1:l0=A++P.take i++P.drop i++e::[]++[]++B:=by
   rw[hl0,bDb A (P.take i),bDo,bDg]
  refine LpN.of (fun r ρ h2 L=>∃P1 P2:List El,r=P1.length/\h.le h2/\L=[cQ bp zs (A++P.take i++P1++e::P2++[]++B)]/\rd ρ 17=.int .i64 (K+i+P1.length:Nat)/\P1++P2=P.drop i) (P.drop i).length
   ⟨P.drop i,[],rfl,hle,by rw[hl1],vi (by rw[bD3];omega),bDg _⟩ ?_
  conv=>whnf
  repeat intro _
  rename_i r2 h2 L3 hI2;obtain⟨P1,P2,rfl,hle2,rfl,e17,hPP⟩:=hI2;conv at e17=>lhs;whnf
  subst e17;have hPl:=congrArg List.length hPP;rw[bC6,bD3] at hPl;have htl:(P.take i).length=i:=by rw[bDr];omega
  rcases bGk P1 with rfl|⟨P1,y,rfl⟩
  .rw[bDd] at hPl ⊢;rw[bEm] at hPP;have hl2:A++P.take i++[]++e::P2++[]++B=A++(P.take i++e::P.drop i)++B:=by rw[hPP];simp[bDb]
   rw[hl2];obtain⟨l1,hl1⟩:=AB (A++(P.take i++e::P.drop i)++B);rw[<-hl1];conv=>whnf
   repeat' ((first|((first|apply oI.z|apply cI.z))|(apply aB<;>intro _<;>try (exfalso;omega)))<;>conv=>whnf)
   exact RN.done ⟨_,hO,(List.perm_middle.trans (by rw[bDo];exact List.Perm.refl _)).trans (bFo (l₁:=[e])),by rw[hl1]⟩
  .rw[List.concat_eq_append] at hPP hPl ⊢;rw[bC6] at hPl ⊢;have hl1:([y]:List El).length=1:=rfl;rw[hl1] at hPl ⊢;obtain⟨g1,g2,g3⟩:=aGj (A++P.take i) P1 P2 [] B y e (k:=K+i+P1.length) (by rw[bC6,htl];omega);obtain⟨l1,hl1'⟩:=AB (A++P.take i++(P1++[y])++e::P2++[]++B);have hlen1:l1.length=N:=by
    rw[hl1',hN];simp only[bC6,bDa,bDd,htl];omega
   rw[<-hl1'] at g1 g2 g3 ⊢;obtain⟨M,hM⟩:=AB (K+i+P1.length);rw[<-hM] at g1 g2 g3;conv=>whnf
   repeat' ((first|(show Idx _ _ _ _ _;first|refine Idx.of (M+1) rfl Aa Aa ?_|refine Idx.of M rfl Aa Aa ?_)|(show LdN _ _ _ _ _;first|refine LdN.el 0 rfl g1 ?_|refine LdN.el 0 rfl g2 ?_)|(show Sto _ _ _ _;first|refine Sto.el (x:=y) 0 rfl Aa ?_|(refine Sto.el (x:=e) 0 rfl (by rw[bFu];omega) ?_))|((first|apply oI.z|apply cI.z))|refine⟨fun hst=>(by cases (show true=false from hst)),?_⟩|refine WN.i64 Aa Aa ?_|refine DrN.run Al ?_|(apply aB<;>intro _<;>try (exfalso;omega)))<;>conv=>whnf)
   exact⟨rfl,P1.length,Aa,P1,y::P2,rfl,hle2,by rw[g3];rfl,vi Aa,by rw[<-hPP];simp⟩
end Go.Proofs.Y
/- The library's merge of two neighbouring runs. -/
namespace Go.Vc
structure xD (P Q:List El) (K mid s0 r0 s r:Nat):Prop where
 lo:s0<s->∀x y,P[s-K-1]?=some x->Q[mid-s]?=some y->leE x y
 hi:r<r0->∀x y,Q[mid-r-1]?=some x->P[r-K]?=some y->leE x y
theorem xD.init(P Q:List El)(K mid s0 r0:Nat):xD P Q K mid s0 r0 s0 r0:=⟨fun h=>absurd h (Nat.lt_irrefl _),fun h=>absurd h (Nat.lt_irrefl _)⟩
theorem xD.up{P Q:List El}{K mid s0 r0 s r c:Nat}{x y:El}(w:xD P Q K mid s0 r0 s r)(hx:P[c-K]?=some x)(hy:Q[mid-1-c]?=some y)(hl:leE x y):xD P Q K mid s0 r0 (c+1) r:=
 ⟨fun _ x' y' h1 h2=>by
   rw[show c+1-K-1=c-K by omega,hx] at h1
   rw[show mid-(c+1)=mid-1-c by omega,hy] at h2
   cases h1;cases h2;exact hl,w.hi⟩
theorem xD.dn{P Q:List El}{K mid s0 r0 s r c:Nat}{x y:El}(w:xD P Q K mid s0 r0 s r)(hx:P[c-K]?=some x)(hy:Q[mid-1-c]?=some y)(hl:leE y x):xD P Q K mid s0 r0 s c:=
 ⟨w.lo,fun _ x' y' h1 h2=>by
   rw[show mid-c-1=mid-1-c by omega,hy] at h1
   rw[hx] at h2;cases h1;cases h2;exact hl⟩
theorem xD.cut{P Q:List El}{K mid s0 r0 s:Nat}(w:xD P Q K mid s0 r0 s s)(oP:dD P)(oQ:dD Q)(hK:K<=s)(hP:s<=K+P.length)(hm:s<=mid)(hQ:mid-s<=Q.length)(h0:s0=K\/mid-s0=Q.length)(h1:r0=K+P.length\/r0=mid)(hs:s0<=s)(hr:s<=r0):
  ∀x∈P.take (s-K)++Q.take (mid-s),∀y∈P.drop (s-K)++Q.drop (mid-s),leE x y:=by
 refine aZe oP oQ Aa hQ (fun x y g1 g2 g3=>?_) (fun x y g1 g2 g3=>?_)
 .by_cases e:s0<s
  .exact w.lo e x y g2 g3
  .have hs':s0=s:=Aa;rcases h0 with h0|h0
   .omega
   .rw[hs'] at h0;rw[bD5 Aa] at g3;cases g3
 .by_cases e:s<r0
  .exact w.hi e x y g2 g3
  .have hr':r0=s:=Aa;rcases h1 with h1|h1
   .rw[bD5 Aa] at g3;cases g3
   .omega
theorem aLr{a b:List El}(oa:dD a)(ob:dD b)(h:a=[]\/b=[]):dD (a++b):=by
 rcases h with rfl|rfl
 .exact ob
 .rw[bDg];exact oa
end Go.Vc
namespace Go.Proofs.Y
open Go Go.Vc Go.Dig
attribute [local irreducible] Vc.Fn FnP
def bB4(n:Nat):Prop:=∀(h:aA) (bp cap N:Nat) (zs:List Value) (A P Q B:List El),P.length+Q.length<=n->0<P.length->0<Q.length->dD P->dD Q->N=(A++P++Q++B).length->N<=1099511627776->
  ∀(a m b:Int),a=A.length->m=(A.length+P.length:Nat)->b=(A.length+P.length+Q.length:Nat)->(∀x∈P++Q,mV h x)->
  Vc.Fn T F.q255 [.slice (some ⟨bp,0,none⟩) N cap,.int .i64 a,.int .i64 m,.int .i64 b,.func (.func F.q225) #[] #[]] h [cQ bp zs (A++P++Q++B)] fun v h' L'=>∃M',dD M'/\M'.Perm (P++Q)/\L'=[cQ bp zs (A++M'++B)]
theorem aN2(n:Nat)(ih:bB4 n)(h:aA)(bp cap N:Nat)(zs:List Value)(A P Q B:List El)(hn:P.length+Q.length<=n+1)(hP2:2<=P.length)(hQ2:2<=Q.length)(oP:dD P)(oQ:dD Q)(hN:N=(A++P++Q++B).length)(hb:N<=1099511627776)
  (a m b:Int) (ha:a=A.length) (hm:m=(A.length+P.length:Nat)) (hbb:b=(A.length+P.length+Q.length:Nat)) (fw:∀x∈P++Q,mV h x):
  Vc.Fn T F.q255 [.slice (some ⟨bp,0,none⟩) N cap,.int .i64 a,.int .i64 m,.int .i64 b,.func (.func F.q225) #[] #[]] h [cQ bp zs (A++P++Q++B)] fun v h' L'=>∃M',dD M'/\M'.Perm (P++Q)/\L'=[cQ bp zs (A++M'++B)]:=by
 have c1:=uP;obtain⟨l0,hl0⟩:=AB (A++P++Q++B);have hlen:l0.length=N:=by rw[hl0,hN]
 simp only[bC6] at hN;have gp:∀c,A.length<=c->c<A.length+P.length->∃q,P[c-A.length]?=some q/\l0[c]?=some q/\q∈P:=fun c h1 h2=>by
  have:=xZ A P (Q++B) (c:=c) h1 h2;rw[hl0,bDb (A++P)];exact this
 have gq:∀c,A.length+P.length<=c->c<A.length+P.length+Q.length->∃q,Q[c-(A.length+P.length)]?=some q/\l0[c]?=some q/\q∈Q:=fun c h1 h2=>by
  have:=xZ (A++P) Q B (c:=c) (by rw[bC6];exact h1) (by rw[bC6];exact h2);rw[bC6] at this;rw[hl0];exact this
 rw[<-hl0];obtain⟨K,hK⟩:=AB A.length;rw[<-hK] at hN gp gq ha hm hbb;obtain⟨mid,hmid⟩:∃mid:Nat,mid=(K+(K+P.length+Q.length)) / 2:=⟨_,rfl⟩
 have hmid':(mid:Int)=(a+b) / 2:=Aa;have fp:∀x∈P,mV h x:=fun x hx=>fw x (bDz _ hx)
 have fq:∀x∈Q,mV h x:=fun x hx=>fw x (bD0 _ hx)
 refine f1C ok D.q255 rfl ?_;conv=>whnf
 repeat' ((first|(show cG _ _ _ _;refine cG.e 1 Ad Aa (fun cm hcm=>?_))|((first|apply oI.z|apply cI.z))|(show WN _ _ _;first|refine WN.i64 Aa Aa ?_|refine WN.u64 Aa Aa ?_)|(apply aD<;>intro _<;>try (exfalso;omega)))<;>conv=>whnf)
 refine aQ.cut (fun ρ' h' L'=>h'=h/\L'=[cQ bp zs l0]/\∃s r:Nat,rd ρ' 20=.int .i64 s/\rd ρ' 21=.int .i64 r/\(s=K\/mid-s=Q.length)/\(r=K+P.length\/r=mid)/\K<=s/\s<=r/\r<=K+P.length/\r<=mid/\mid-s<=Q.length) ?_ ?_
 .conv=>whnf
  repeat' ((first|((first|apply oI.z|apply cI.z))|refine WN.i64 Aa Aa ?_|(apply aB<;>intro _<;>try (exfalso;omega)))<;>conv=>whnf)
  .exact⟨rfl,rfl,rfl,mid+(K+P.length)-(K+P.length+Q.length),mid,vi Aa,vi Aa,Aa,Aa,Aa,Aa,Aa,Aa,Aa⟩
  .exact⟨rfl,rfl,rfl,K,K+P.length,vi Aa,vi Aa,Aa,Aa,Aa,Aa,Aa,Aa,Aa⟩
 conv=>whnf
 repeat intro _
 rename_i h2 L2 hJ;obtain⟨rfl,rfl,s0,r0,e20,e21,q1,q2,q3,q4,q5,q6,q7⟩:=hJ;conv at e20=>lhs;whnf
 subst e20;conv at e21=>lhs;whnf
 subst e21;conv=>whnf
 repeat' ((first|((first|apply oI.z|apply cI.z))|refine WN.i64 Aa Aa ?_)<;>conv=>whnf)
 refine LpN.of (fun r ρ hx L=>∃s j:Nat,r=j-s/\h2.le hx/\L=[cQ bp zs l0]/\rd ρ 20=.int .i64 s/\rd ρ 21=.int .i64 j/\s0<=s/\s<=j/\j<=r0/\xD P Q K mid s0 r0 s j) (r0-s0)
  ⟨s0,r0,rfl,aA.lr _,rfl,rfl,rfl,bDx _,q4,bDx _,xD.init ..⟩ ?_
 conv=>whnf
 repeat intro _
 rename_i r hx L3 hI;obtain⟨s,j,rfl,hle,rfl,e20,e21,p1,p2,p3,hS⟩:=hI;conv at e20=>lhs;whnf
 subst e20;conv at e21=>lhs;whnf
 subst e21;by_cases hlt:s<j
 .conv=>whnf
  repeat' first|((first|(show cG _ _ _ _;(refine cG.e 1 Ad Aa (fun c hc=>?_);obtain⟨x,hx1,hx2,hx3⟩:=gp c Aa Aa;obtain⟨y,hy1,hy2,hy3⟩:=gq (mid+(K+P.length)-1-c) Aa Aa))|(show Idx _ _ _ _ _;first|refine Idx.of c rfl Aa Aa ?_|refine Idx.of (mid+(K+P.length)-1-c) rfl Aa Aa ?_)|(show LdN _ _ _ _ _;first|refine LdN.el 0 rfl hx2 ?_|refine LdN.el 0 rfl hy2 ?_)|(show CN _ _ _ _ _ _;(refine CN.f rfl (c1 _ y x ((fq y hy3).mono Ab) ((fp x hx3).mono Ab)) (fun v h' hl hr=>?_);obtain⟨C,hC⟩:=AB (mR y.m x.m);rw[<-hC] at hr;subst hr))|((first|apply oI.z|apply cI.z))|refine⟨fun _=>aH.o Ab,?_⟩|(show WN _ _ _;first|refine WN.i64 Aa Aa ?_|refine WN.u64 Aa Aa ?_)|refine DrN.run Al ?_)<;>conv=>whnf)|(show cnd _ _ _;first|(apply aB<;>intro _<;>first|(exfalso;omega)|conv=>whnf)|(refine aJ ?_))
  all_goals rw[show mid+(K+P.length)-1-c-(K+P.length)=mid-1-c by omega] at hy1
  .exact⟨rfl,c-s,Aa,s,c,rfl,Ac,rfl,rfl,vi Aa,Aa,Aa,Aa,hS.dn hx1 hy1 (aEd (lA.1 Aa))⟩
  .exact⟨rfl,j-(c+1),Aa,c+1,j,rfl,Ac,rfl,vi Aa,rfl,Aa,Aa,Aa,hS.up hx1 hy1 fun x=>absurd (lA.2 x) Aa⟩
 obtain rfl:s=j:=Aa;have hC:=hS.cut oP oQ Aa Aa Aa Aa q1 q2 Aa Aa;clear hS gp gq c1;obtain⟨P1,hP1⟩:=AB (P.take (s-K));obtain⟨P2,hP2⟩:=AB (P.drop (s-K));obtain⟨Q1,hQ1⟩:=AB (Q.take (mid-s));obtain⟨Q2,hQ2⟩:=AB (Q.drop (mid-s));have eP:P=P1++P2:=by rw[hP1,hP2,bDo]
 have eQ:Q=Q1++Q2:=by rw[hQ1,hQ2,bDo]
 have lP1:P1.length=s-K:=by rw[hP1,bDr];omega
 have lP2:P2.length=P.length-(s-K):=by rw[hP2,bD3]
 have lQ1:Q1.length=mid-s:=by rw[hQ1,bDr];omega
 have lQ2:Q2.length=Q.length-(mid-s):=by rw[hQ2,bD3]
 rw[<-hP1,<-hP2,<-hQ1,<-hQ2] at hC;have hPl:P.length=P1.length+P2.length:=by rw[eP,bC6]
 have hQl:Q.length=Q1.length+Q2.length:=by rw[eQ,bC6]
 clear hP1 hP2 hQ1 hQ2;have oP1:dD P1:=by rw[eP] at oP;exact (List.pairwise_append.1 oP).1
 have oP2:dD P2:=by rw[eP] at oP;exact (List.pairwise_append.1 oP).2.1
 have oQ1:dD Q1:=by rw[eQ] at oQ;exact (List.pairwise_append.1 oQ).1
 have oQ2:dD Q2:=by rw[eQ] at oQ;exact (List.pairwise_append.1 oQ).2.1
 have fw1:∀x∈P1++Q1,mV h2 x:=fun x hx=>fw x (by rw[eP,eQ];rcases bDf.1 hx with hx|hx<;>simp[hx])
 have fw2:∀x∈P2++Q2,mV h2 x:=fun x hx=>fw x (by rw[eP,eQ];rcases bDf.1 hx with hx|hx<;>simp[hx])
 obtain⟨l1,hl1⟩:=AB (A++P1++Q1++(P2++Q2++B));have rot:∀hx (a m b:Int),a=s->m=(K+P.length:Nat)->b=mid+(K+P.length:Nat)-s->s<K+P.length->0<mid-s->Vc.Fn T F.q266 [.slice (some ⟨bp,0,none⟩) N cap,.int .i64 a,.int .i64 m,.int .i64 b,.func (.func F.q225) #[] #[]] hx [cQ bp zs l0] fun v h' L'=>L'=[cQ bp zs l1]:=fun hx a m b g1 g2 g3 g4 g5=>by
  have:=aN1 hx bp cap N zs (.func (.func F.q225) #[] #[]) (A++P1) P2 Q1 (Q2++B) Aa Aa AA hb a m b (by rw[bC6];omega) (by rw[bC6];omega) (by rw[bC6];omega);have e1:l0=A++P1++P2++Q1++(Q2++B):=by rw[hl0,eP,eQ];simp only[bDb]
  have e2:l1=A++P1++Q1++P2++(Q2++B):=by rw[hl1];simp only[bDb]
  rw[e1,e2];exact this
 have same:s=K+P.length\/mid=s->l0=l1:=fun x=>by
  rw[hl0,hl1,eP,eQ];rcases x with x|x
  .rw[bDn (l:=P2) Aa];simp only[bDb,bDg,bEm]
  .rw[bDn (l:=Q1) Aa];simp only[bDb,bDg,bEm]
 have rec1:∀hx (a m b:Int),h2.le hx->a=K->m=s->b=mid->K<s->s<mid->Vc.Fn T F.q255 [.slice (some ⟨bp,0,none⟩) N cap,.int .i64 a,.int .i64 m,.int .i64 b,.func (.func F.q225) #[] #[]] hx [cQ bp zs l1] fun v h' L'=>∃M',dD M'/\M'.Perm (P1++Q1)/\L'=[cQ bp zs (A++M'++(P2++Q2++B))]:=fun hx a m b hl g1 g2 g3 g4 g5=>by
  rw[hl1];exact ih hx bp cap N zs A P1 Q1 (P2++Q2++B) Aa Aa Aa oP1 oQ1 AA hb a m b Aa Aa Aa fun x hx=>(fw1 x hx).mono hl
 have rec2:∀M1,M1.Perm (P1++Q1)->∀hx (a m b:Int),h2.le hx->a=mid->m=mid+(K+P.length:Nat)-s->b=(K+P.length+Q.length:Nat)->s<K+P.length->mid-s<Q.length->Vc.Fn T F.q255 [.slice (some ⟨bp,0,none⟩) N cap,.int .i64 a,.int .i64 m,.int .i64 b,.func (.func F.q225) #[] #[]] hx [cQ bp zs (A++M1++(P2++Q2++B))] fun v h' L'=>∃M',dD M'/\M'.Perm (P2++Q2)/\L'=[cQ bp zs (A++M1++M'++B)]:=fun M1 hp hx a m b hl g1 g2 g3 g4 g5=>by
  have hpl:=hp.length_eq;rw[bC6] at hpl;have:=ih hx bp cap N zs (A++M1) P2 Q2 B Aa Aa Aa oP2 oQ2 AA hb a m b (by rw[bC6];omega) (by rw[bC6];omega) (by rw[bC6];omega) fun x hx=>(fw2 x hx).mono hl
  rw[<-bDb,<-bDb];exact this
 have fin:∀M1 M2,dD M1->M1.Perm (P1++Q1)->dD M2->M2.Perm (P2++Q2)->dD (M1++M2)/\(M1++M2).Perm (P++Q):=fun M1 M2 o1 p1 o2 p2=>by
  rw[eP,eQ];exact aNx hC o1 o2 p1 p2
 have one1:s=K\/mid=s->dD (P1++Q1):=fun x=>aLr oP1 oQ1 (x.imp (fun e=>bDn Aa) fun e=>bDn Aa)
 have one2:s=K+P.length\/mid-s=Q.length->dD (P2++Q2):=fun x=>aLr oP2 oQ2 (x.imp (fun e=>bDn Aa) fun e=>bDn Aa)
 clear ih fw fp fq fw1 fw2 hC q1 q2;replace same:=Hq.mk same;replace one1:=Hq.mk one1;replace one2:=Hq.mk one2;conv=>whnf
 repeat' ((first|((first|apply oI.z|apply cI.z))|refine WN.i64 Aa Aa ?_|(apply aB<;>intro _<;>try (exfalso;omega)))<;>conv=>whnf)
 refine aQ.cut (fun ρ' h' L'=>h2.le h'/\L'=[cQ bp zs l1]) ?_ ?_
 .conv=>whnf
  repeat' ((first|(show CN _ _ _ _ _ _;refine CN.own 0 rfl rfl (rot _ _ _ _ Aa Aa Aa Aa Aa) (fun v h' La hl hr=>⟨_,hr,?_⟩))|((first|apply oI.z|apply cI.z))|(apply aB<;>intro _<;>try (exfalso;omega)))<;>conv=>whnf)
  all_goals first
   | exact⟨rfl,Ac,rfl⟩
   | exact⟨rfl,Ab,by rw[same.out Aa]⟩
 conv=>whnf
 repeat intro _
 rename_i h3 L3 hJ;obtain⟨hle3,rfl⟩:=hJ;conv=>whnf
 repeat ((first|apply oI.z|apply cI.z);conv=>whnf)
 skip
 refine aQ.cut (fun ρ' h' L'=>∃M1,h2.le h'/\dD M1/\M1.Perm (P1++Q1)/\L'=[cQ bp zs (A++M1++(P2++Q2++B))]) ?_ ?_
 .conv=>whnf
  repeat' ((first|(show CN _ _ _ _ _ _;(refine CN.own 0 rfl rfl (rec1 _ _ _ _ Ab Aa Aa Aa Aa Aa) (fun v h' La hl hr=>?_);obtain⟨M1,o1,p1,rfl⟩:=hr;refine⟨_,rfl,?_⟩))|((first|apply oI.z|apply cI.z))|(apply aB<;>intro _<;>try (exfalso;omega)))<;>conv=>whnf)
  all_goals first
   | exact⟨rfl,M1,Ac,o1,p1,rfl⟩
   | exact⟨rfl,P1++Q1,Ab,one1.out Aa,List.Perm.refl _,by rw[hl1];simp only[bDb]⟩
 conv=>whnf
 repeat intro _
 rename_i h4 L4 hJ;obtain⟨M1,hle4,o1,p1,rfl⟩:=hJ;have rec2:=rec2 M1 p1;obtain⟨l2,hl2⟩:=AB (A++M1++(P2++Q2++B));rw[<-hl2] at rec2 ⊢;conv=>whnf
 repeat' ((first|(show CN _ _ _ _ _ _;(refine CN.own 0 rfl rfl (rec2 _ _ _ _ Ab Aa Aa Aa Aa Aa) (fun v h' La hl hr=>?_);obtain⟨M2,o2,p2,rfl⟩:=hr;refine⟨_,rfl,?_⟩))|((first|apply oI.z|apply cI.z))|(apply aB<;>intro _<;>try (exfalso;omega)))<;>conv=>whnf)
 all_goals first
  | exact RN.done ⟨M1++M2,(fin M1 M2 o1 p1 o2 p2).1,(fin M1 M2 o1 p1 o2 p2).2,by rw[<-bDb];rfl⟩
  | exact RN.done ⟨M1++(P2++Q2),(fin M1 _ o1 p1 (one2.out Aa) (List.Perm.refl _)).1,(fin M1 _ o1 p1 (one2.out Aa) (List.Perm.refl _)).2,by rw[hl2];simp only[bDb]⟩
theorem aLs:∀n,bB4 n
 | 0=>fun h bp cap N zs A P Q B hn hP hQ=>by omega
 | n+1=>fun h bp cap N zs A P Q B hn hP hQ oP oQ hN hb a m b ha hm hbb fw=>by
  match P,hn,hP,oP,hN,hm,hbb,fw with
  | [e],hn,hP,oP,hN,hm,hbb,fw=>exact aWj h bp cap N zs A Q B e oQ hN hb a m b ha hm (by rw[hbb];rfl) (fw e Ao) fun x hx=>fw x (bD0 _ hx)
  | x1::x2::P,hn,hP,oP,hN,hm,hbb,fw=>
   obtain⟨P',hP'⟩:∃P',P'=x1::x2::P:=⟨_,rfl⟩
   have hl:2<=P'.length:=by rw[hP'];simp
   rw[<-hP'] at hn hP oP hN hm hbb fw ⊢
   match Q,hn,hQ,oQ,hN,hbb,fw with
   | [e],hn,hQ,oQ,hN,hbb,fw=>exact aWk h bp cap N zs A P' B e hl oP hN hb a m b ha hm (by rw[hbb];rfl) (fw e Ao) fun x hx=>fw x (bDz _ hx)
   | y1::y2::Q,hn,hQ,oQ,hN,hbb,fw=>exact aN2 n (aLs n) h bp cap N zs A P' (y1::y2::Q) B hn hl Ao oP oQ hN hb a m b ha hm hbb fw
end Go.Proofs.Y
/- The library's stable sort, at terms. -/
namespace Go.Vc
def aEf(bs:Nat)(S:List (List El)):Prop:=∀s∈S,s.length=bs/\dD s
theorem aEf.snoc{bs:Nat}{S:List (List El)}{s:List El}(w:aEf bs S)(h:s.length=bs)(o:dD s):aEf bs (S++[s]):=fun x hx=>by
 rcases bDf.1 hx with hx|hx
 .exact w x hx
 .rw[bDk.1 hx];exact⟨h,o⟩
theorem aR8{A M M' B l:List El}(h:M'.Perm M)(g:(A++M++B).Perm l):(A++M'++B).Perm l:=((h.append_left A).append_right B).trans g
theorem iZ(S:List (List El))(s:List El):(S++[s]).flatten=S.flatten++s:=by simp
end Go.Vc
namespace Go.Proofs.Y
open Go Go.Vc Go.Dig
attribute [local irreducible] Vc.Fn FnP
theorem aN3(h:aA)(bp cap N:Nat)(zs:List Value)(l:List El)(hN:l.length=N)(hb:N<=1099511627776)(fw:∀x∈l,mV h x):
  Vc.Fn T F.q240 [.slice (some ⟨bp,0,none⟩) N cap,.int .i64 N,.func (.func F.q225) #[] #[]] h [cQ bp zs l] fun v h' L'=>∃l',dD l'/\l'.Perm l/\L'=[cQ bp zs l']:=by
 have ins:∀hx (l0 A M B:List El) (a b:Int),h.le hx->l0=A++M++B->l0.Perm l->a=A.length->b=(A.length+M.length:Nat)->
   Vc.Fn T F.q254 [.slice (some ⟨bp,0,none⟩) N cap,.int .i64 a,.int .i64 b,.func (.func F.q225) #[] #[]] hx [cQ bp zs l0] fun v h' L'=>∃M',dD M'/\M'.Perm M/\L'=[cQ bp zs (A++M'++B)]:=fun hx l0 A M B a b hl e p ha hbb=>by
  have pl:=p.length_eq;subst e;exact aJh hx bp cap N zs A M B Aa hb a b ha hbb fun x hx=>(fw x (p.mem_iff.1 (by simp[hx]))).mono hl
 have mer:∀hx (l0 A P Q B:List El) (a m b:Int),h.le hx->l0=A++P++Q++B->l0.Perm l->0<P.length->0<Q.length->dD P->dD Q->a=A.length->m=(A.length+P.length:Nat)->b=(A.length+P.length+Q.length:Nat)->
   Vc.Fn T F.q255 [.slice (some ⟨bp,0,none⟩) N cap,.int .i64 a,.int .i64 m,.int .i64 b,.func (.func F.q225) #[] #[]] hx [cQ bp zs l0] fun v h' L'=>∃M',dD M'/\M'.Perm (P++Q)/\L'=[cQ bp zs (A++M'++B)]:=fun hx l0 A P Q B a m b hl e p h1 h2 o1 o2 ha hm hbb=>by
  have pl:=p.length_eq;subst e;exact aLs _ hx bp cap N zs A P Q B (bDx _) h1 h2 o1 o2 Aa hb a m b ha hm hbb fun x hx=>(fw x (p.mem_iff.1 (by simp only[bDf] at hx ⊢;rcases hx with hx|hx<;>simp[hx]))).mono hl
 refine f1C ok D.q240 rfl ?_;conv=>whnf
 repeat ((first|apply oI.z|apply cI.z);conv=>whnf)
 skip
 refine LpN.of (fun r ρ hx L=>∃(S:List (List El)) (R:List El),r=R.length/\h.le hx/\L=[cQ bp zs (S.flatten++R)]/\rd ρ 7=.int .i64 (S.flatten.length:Nat)/\rd ρ 8=.int .i64 (S.flatten.length+20:Nat)/\aEf 20 S/\(S.flatten++R).Perm l) l.length
  ⟨[],l,rfl,aA.lr _,rfl,rfl,rfl,fun x hx=>(by cases hx),List.Perm.refl _⟩ ?_
 conv=>whnf
 repeat intro _
 rename_i r hx L2 hI;obtain⟨S,R,rfl,hle,rfl,e7,e8,hR,hP⟩:=hI;conv at e7=>lhs;whnf
 subst e7;conv at e8=>lhs;whnf
 subst e8;have hPl:=hP.length_eq;rw[bC6] at hPl;obtain⟨a,ha⟩:=AB S.flatten.length;by_cases h20:20<=R.length
 .have ins:=fun a b=>ins hx _ S.flatten (R.take 20) (R.drop 20) a b hle (by rw[bDb,bDo]) hP
  have htl:(R.take 20).length=20:=by rw[bDr];omega
  have hdl:(R.drop 20).length=R.length-20:=bD3;rw[htl] at ins;obtain⟨l0,hl0⟩:=AB (S.flatten++R);rw[<-hl0] at ins ⊢;rw[<-ha] at ins hPl ⊢;conv=>whnf
  repeat' ((first|(show CN _ _ _ _ _ _;(refine CN.own 0 rfl rfl (ins _ _ Aa Aa) (fun v h' La hl hr=>?_);obtain⟨M1,o1,p1,rfl⟩:=hr;refine⟨_,rfl,?_⟩))|((first|apply oI.z|apply cI.z))|refine WN.i64 Aa Aa ?_|(apply bI<;>intro _<;>try (exfalso;omega)))<;>conv=>whnf)
  have hM:=p1.length_eq;rw[htl] at hM;exact⟨rfl,(R.drop 20).length,Aa,S++[M1],R.drop 20,rfl,Ac,by rw[iZ];rfl,vi (by rw[iZ,bC6];omega),vi (by rw[iZ,bC6];omega),hR.snoc hM o1,by
    rw[iZ];refine List.Perm.trans ?_ (hl0▸hP);rw[hl0,bDb];exact List.Perm.append_left _ ((p1.append_right _).trans (by rw[bDo]))⟩
 have ins:=fun a b=>ins hx _ S.flatten R [] a b hle (by rw[bDg]) hP
 obtain⟨l0,hl0⟩:=AB (S.flatten++R);rw[<-hl0] at ins ⊢;rw[<-ha] at ins hPl ⊢;conv=>whnf
 repeat' ((first|(show CN _ _ _ _ _ _;(refine CN.own 0 rfl rfl (ins _ _ Aa Aa) (fun v h' La hl hr=>?_);obtain⟨R1,o1,p1,rfl⟩:=hr;refine⟨_,rfl,?_⟩))|((first|apply oI.z|apply cI.z))|(apply bI<;>intro _<;>try (exfalso;omega)))<;>conv=>whnf)
 have hle1:=aA.lt hle hl;have hP1:(S.flatten++R1).Perm l:=(p1.append_left _).trans (hl0▸hP);have hR1:=p1.length_eq;rw[bDg];clear ins hP hPl hl0 p1 ha hl;refine LpN.of (fun r ρ hx L=>∃(bs:Nat) (S:List (List El)) (R:List El),r=N-bs/\h.le hx/\L=[cQ bp zs (S.flatten++R)]/\rd ρ 6=.int .i64 (bs:Nat)/\0<bs/\bs<=2*N+40/\aEf bs S/\R.length<bs/\dD R/\(S.flatten++R).Perm l) (N-20)
  ⟨20,S,R1,rfl,hle1,rfl,rfl,Ad,Aa,hR,Aa,o1,hP1⟩ ?_
 clear hle hle1 hR hP1 hR1 o1;conv=>whnf
 repeat intro _
 rename_i r h1 L1 hI;obtain⟨bs,S,R,rfl,hle,rfl,e6,hb0,hb1,hR,hRl,oR,hP⟩:=hI;conv at e6=>lhs;whnf
 subst e6;have hPl:=hP.length_eq;rw[bC6] at hPl;by_cases hlast:N<=bs
 .have hO:dD (S.flatten++R):=by
   match S,hR,hPl with
   | [],hR,hPl=>exact oR
   | [s],hR,hPl=>
    obtain⟨q1,q2⟩:=hR s Ao;have:R=[]:=bDn (by simp at hPl;omega);rw[this];simpa using q2
   | s1::s2::S,hR,hPl=>
    obtain⟨q1,_⟩:=hR s1 Ao;obtain⟨q2,_⟩:=hR s2 Ao;rw[bGd,bGd,bC6,bC6] at hPl;omega
  obtain⟨l0,hl0⟩:=AB (S.flatten++R);rw[<-hl0] at hO hP ⊢;conv=>whnf
  repeat' ((first|((first|apply oI.z|apply cI.z))|(apply aB<;>intro _<;>try (exfalso;omega)))<;>conv=>whnf)
  exact RN.done ⟨l0,hO,hP,rfl⟩
 obtain⟨l0,hl0⟩:=AB (S.flatten++R);rw[<-hl0];conv=>whnf
 repeat' ((first|((first|apply oI.z|apply cI.z))|refine WN.i64 Aa Aa ?_|(apply aB<;>intro _<;>try (exfalso;omega)))<;>conv=>whnf)
 rw[hl0];clear hl0;refine LpN.of (fun r ρ hx L=>∃(Z S:List (List El)),r=S.length/\h.le hx/\L=[cQ bp zs (Z.flatten++S.flatten++R)]/\rd ρ 7=.int .i64 (Z.flatten.length:Nat)/\rd ρ 8=.int .i64 (Z.flatten.length+2*bs:Nat)/\aEf (2*bs) Z/\aEf bs S/\(Z.flatten++S.flatten++R).Perm l) S.length
  ⟨[],S,rfl,hle,rfl,rfl,vi Ao,fun x hx=>(by cases hx),hR,hP⟩ ?_
 clear hPl hP hR hle;conv=>whnf
 repeat intro _
 rename_i r hx L2 hI;obtain⟨Z,S,rfl,hle,rfl,e7,e8,hZ,hR,hP⟩:=hI;conv at e7=>lhs;whnf
 subst e7;conv at e8=>lhs;whnf
 subst e8;have hPl:=hP.length_eq;rw[bC6,bC6] at hPl;obtain⟨a,ha⟩:=AB Z.flatten.length;rw[<-ha] at hPl ⊢
 match S,hR,hP,hPl with
 | s1::s2::S,hR,hP,hPl=>
  obtain⟨q1,q2⟩:=hR s1 Ao;obtain⟨q3,q4⟩:=hR s2 Ao;have hR':aEf bs S:=fun x hx=>hR x (by simp[hx])
  have mer:=fun a m b=>mer hx _ Z.flatten s1 s2 (S.flatten++R) a m b hle (by simp only[bGd,bDb]) hP Aa Aa q2 q4
  rw[bGd,bGd,bC6,bC6] at hPl;rw[<-ha,q1,q3] at mer;rw[q1,q3] at hPl;obtain⟨l0,hl0⟩:=AB (Z.flatten++(s1::s2::S).flatten++R);rw[<-hl0] at mer ⊢;conv=>whnf
  repeat' ((first|(show CN _ _ _ _ _ _;(refine CN.own 0 rfl rfl (mer _ _ _ Aa Aa Aa) (fun v h' La hl hr=>?_);obtain⟨M1,o1,p1,rfl⟩:=hr;refine⟨_,rfl,?_⟩))|((first|apply oI.z|apply cI.z))|refine WN.i64 Aa Aa ?_|(apply bI<;>intro _<;>try (exfalso;omega)))<;>conv=>whnf)
  have hM:=p1.length_eq;rw[bC6] at hM;exact⟨rfl,S.length,by simp only[bDa];omega,Z++[M1],S,rfl,Ac,by rw[iZ,bDb (Z.flatten++M1)];rfl,vi (by rw[iZ,bC6];omega),vi (by rw[iZ,bC6];omega),hZ.snoc Aa o1,hR',by
    rw[iZ,bDb (Z.flatten++M1)];exact aR8 p1 (by simp only[bGd,bDb] at hP ⊢;exact hP)⟩
 | [s],hR,hP,hPl=>
  obtain⟨q1,q2⟩:=hR s Ao;have e1:[s].flatten=s:=by simp
  rw[e1] at hP hPl ⊢;rw[q1] at hPl;by_cases hR0:R=[]
  .subst hR0;rw[bDg] at hP ⊢;rw[bDd] at hPl;obtain⟨l0,hl0⟩:=AB (Z.flatten++s);rw[<-hl0];conv=>whnf
   repeat' first|((first|(apply aQ.go)|((first|apply oI.z|apply cI.z))|refine WN.i64 Aa Aa ?_)<;>conv=>whnf)|(show cnd _ _ _;first|((first|apply aB|apply bI)<;>intro _<;>first|(exfalso;omega)|conv=>whnf))
   exact⟨rfl,N-2*bs,Aa,2*bs,Z,s,rfl,Ab,by rw[hl0],vi Aa,Aa,Aa,hZ,Aa,q2,hP⟩
  .have hR1:0<R.length:=List.length_pos_iff.2 hR0;have mer:=fun a m b=>mer hx _ Z.flatten s R [] a m b hle (by rw[bDg]) hP Aa hR1 q2 oR
   rw[<-ha,q1] at mer;obtain⟨l0,hl0⟩:=AB (Z.flatten++s++R);rw[<-hl0] at mer ⊢;conv=>whnf
   repeat' first|((first|(apply aQ.go)|(show CN _ _ _ _ _ _;(refine CN.own 0 rfl rfl (mer _ _ _ Aa Aa Aa) (fun v h' La hl hr=>?_);obtain⟨M1,o1,p1,rfl⟩:=hr;refine⟨_,rfl,?_⟩))|((first|apply oI.z|apply cI.z))|refine WN.i64 Aa Aa ?_)<;>conv=>whnf)|(show cnd _ _ _;first|((first|apply aB|apply bI)<;>intro _<;>first|(exfalso;omega)|conv=>whnf))
   have hM:=p1.length_eq;rw[bC6] at hM;exact⟨rfl,N-2*bs,Aa,2*bs,Z,M1,rfl,Ac,by rw[bDg];rfl,vi Aa,Aa,Aa,hZ,Aa,o1,(p1.append_left _).trans (by rw[<-bDb];exact hP)⟩
 | [],hR,hP,hPl=>
  have e1:([]:List (List El)).flatten=[]:=rfl;rw[e1,bDg] at hP ⊢;rw[e1,bDd] at hPl;obtain⟨l0,hl0⟩:=AB (Z.flatten++R);rw[<-hl0];conv=>whnf
  repeat' first|((first|(apply aQ.go)|((first|apply oI.z|apply cI.z))|refine WN.i64 Aa Aa ?_)<;>conv=>whnf)|(show cnd _ _ _;first|((first|apply aB|apply bI)<;>intro _<;>first|(exfalso;omega)|conv=>whnf))
  exact⟨rfl,N-2*bs,Aa,2*bs,Z,R,rfl,Ab,by rw[hl0],vi Aa,Aa,Aa,hZ,Aa,oR,hP⟩
theorem aBf(h:aA)(bp cap N:Nat)(zs:List Value)(l:List El)(hN:l.length=N)(hb:N<=1099511627776)(fw:∀x∈l,mV h x):
  Vc.Fn T F.q224 [.slice (some ⟨bp,0,none⟩) N cap,.func (.func F.q225) #[] #[]] h [cQ bp zs l] fun v h' L'=>∃l',dD l'/\l'.Perm l/\L'=[cQ bp zs l']:=by
 have c1:=aN3 h bp cap N zs l hN hb fw;refine f1C ok D.q224 rfl ?_;conv=>whnf
 repeat' ((first|(show CN _ _ _ _ _ _;(refine CN.own 0 rfl rfl c1 (fun v h' La hl hr=>?_);obtain⟨M1,o1,p1,rfl⟩:=hr;refine⟨_,rfl,?_⟩))|((first|apply oI.z|apply cI.z)))<;>conv=>whnf)
 exact RN.done ⟨M1,o1,p1,rfl⟩
end Go.Proofs.Y