/- The library's merge of two neighbouring runs, where one of them is a single term. -/
import Derived.Test.YtieblmbjldlaeaaGreatDoorPW5
set_option linter.all false
set_option maxHeartbeats 4000000
set_option maxRecDepth 20000
namespace Go.Vc
theorem aKt (X Y:List El) (e q:El) {k:Nat} (hk:k=X.length):
  (X++e::q::Y)[k]?=some e∧(X++e::q::Y)[k+1]?=some q∧((X++e::q::Y).set k q).set (k+1) e=X++q::e::Y:=by
 subst hk
 have:=zA X e [] q Y
 rw [aVv,Nat.add_zero] at this
 exact ⟨kC _ _ _,uE _ _ [] _ _,this⟩
theorem sN (X R Y:List El) {c:Nat} (h1:X.length≤c) (h2:c<X.length+R.length):∃q,R[c-X.length]?=some q∧(X++R++Y)[c]?=some q∧q∈R:=by
 have h3:c-X.length<R.length:=by omega
 refine ⟨R[c-X.length],aVq h3,?_,List.getElem_mem h3⟩
 rw [aVt,aWa h1,aV0 h3,aVq h3]
structure qG (e:El) (R:List El) (i j:Nat):Prop where
 lo:∀n x,n<i→R[n]?=some x→leE x e
 hi:∀n x,j≤n→R[n]?=some x→leE e x
theorem qG.init (e:El) (R:List El):qG e R 0 R.length:=⟨fun n x h=>absurd h (Nat.not_lt_zero _),fun n x h g=>absurd (aVr.1 g).1 (by omega)⟩
theorem qG.up {e q:El} {R:List El} {i j c:Nat} (s:qG e R i j) (o:bX R) (hq:R[c]?=some q) (h:leE q e):qG e R (c+1) j:=
 ⟨fun n x hn hx=>qD (aE7 o (by omega) hx hq) h,s.hi⟩
theorem qG.dn {e q:El} {R:List El} {i j c:Nat} (s:qG e R i j) (o:bX R) (hq:R[c]?=some q) (h:leE e q):qG e R i c:=
 ⟨s.lo,fun n x hn hx=>qD h (aE7 o hn hq hx)⟩
theorem qG.ord {e:El} {R:List El} {i:Nat} (s:qG e R i i) (o:bX R):bX (R.take i++e::R.drop i):=aOd o s.lo s.hi
end Go.Vc
namespace Go.Proofs.Y
open Go Go.Vc Go.Dig
attribute [local irreducible] Vc.Fn FnP
theorem aOi (h:aA) (bp cap N:Nat) (zs:List Value) (A Q B:List El) (e:El) (oQ:bX Q) (hN:N=(A++[e]++Q++B).length) (hb:N≤1099511627776) (a m b:Int) (ha:a=A.length) (hm:m=(A.length+1:Nat)) (hbb:b=(A.length+1+Q.length:Nat)) (fe:iC h e) (fq:∀x∈Q,iC h x):
  Vc.Fn T F.q228 [.slice (some ⟨bp,0,none⟩) N cap,.int .i64 a,.int .i64 m,.int .i64 b,.func (.func F.q172) #[] #[]] h [cA bp zs (A++[e]++Q++B)] fun v h' L'=>∃M',bX M'∧M'.Perm ([e]++Q)∧L'=[cA bp zs (A++M'++B)]:=by
 have c1:=qE
 obtain ⟨l0,hl0⟩:∃l0,l0=A++[e]++Q++B:=⟨_,rfl⟩
 have hlen:l0.length=N:=by rw [hl0,hN]
 simp only [aVo,aVs,aVv] at hN
 have ge:l0[A.length]?=some e:=by
  rw [hl0,aVt,aVt];exact kC _ _ _
 have gq:∀c,A.length+1≤c→c<A.length+1+Q.length→∃q,Q[c-(A.length+1)]?=some q∧l0[c]?=some q∧q∈Q:=fun c h1 h2=>by
  have:=sN (A++[e]) Q B (c:=c) (by simp;omega) (by simp;omega)
  rw [hl0]
  simpa using this
 rw [← hl0]
 obtain ⟨K,hK⟩:∃K,K=A.length:=⟨_,rfl⟩
 rw [← hK] at hN ge gq ha hm hbb
 refine f1C ok D.q228 rfl ?_
 conv=>whnf
 repeat' first|((first|((first|apply oI.z|apply cI.z))|refine WN.i64 (by omega) (by omega) ?_) <;> (conv=>whnf))|(apply aE<;>intro _<;>first|(exfalso;omega)|conv=>whnf)
 refine LpN.of (fun r ρ hx L=>∃i j:Nat,r=j-i∧h.le hx∧L=[cA bp zs l0]∧rd ρ 10=.int .i64 (K+1+i:Nat)∧rd ρ 11=.int .i64 (K+1+j:Nat)∧i≤j∧j≤Q.length∧qG e Q i j) Q.length
  ⟨0,Q.length,rfl,aA.lr _,rfl,vi (by omega),vi (by omega),aWe _,aWf _,qG.init e Q⟩ ?_
 conv=>whnf
 repeat intro _
 rename_i r hx L2 hI
 obtain ⟨i,j,rfl,hle,rfl,e10,e11,hij,hj,hS⟩:=hI
 conv at e10=>lhs;whnf
 subst e10
 conv at e11=>lhs;whnf
 subst e11
 by_cases hlt:i<j
 ·conv=>whnf
  repeat' first|((first|(show bR _ _ _ _;(refine bR.e 1 (by decide) (by omega) (fun c hc=>?_);obtain ⟨q,hq1,hq2,hq3⟩:=gq c (by omega) (by omega)))|(show Idx _ _ _ _ _;first|refine Idx.of c rfl (by omega) (by omega) ?_|refine Idx.of K rfl (by omega) (by omega) ?_)|(show LdN _ _ _ _ _;first|refine LdN.el 0 rfl hq2 ?_|refine LdN.el 0 rfl ge ?_)|(show CN _ _ _ _ _ _;(refine CN.f rfl (c1 _ q e ((fq q hq3).mono (by assumption)) (fe.mono (by assumption))) (fun v h' hl hr=>?_);obtain ⟨C,hC⟩:∃C,C=fO q.m e.m:=⟨_,rfl⟩;rw [← hC] at hr;subst hr))|((first|apply oI.z|apply cI.z))|refine ⟨fun _=>aH.o (by assumption),?_⟩|(show WN _ _ _;first|refine WN.i64 (by omega) (by omega) ?_|refine WN.u64 (by omega) (by omega) ?_)|refine DrN.run (by decide +kernel) ?_) <;> (conv=>whnf))|(apply aB<;>intro _<;>first|(exfalso;omega)|conv=>whnf)
  ·exact ⟨rfl,j-(c-(K+1)+1),by omega,c-(K+1)+1,j,rfl,(by (iterate 30 try first|assumption|refine aA.lt ?_ (by assumption));first|done|assumption),rfl,vi (by omega),rfl,by omega,hj,hS.up oQ hq1 (yZ (fV.1 (by omega)))⟩
  ·exact ⟨rfl,(c-(K+1))-i,by omega,i,c-(K+1),rfl,(by (iterate 30 try first|assumption|refine aA.lt ?_ (by assumption));first|done|assumption),rfl,rfl,vi (by omega),by omega,by omega,hS.dn oQ hq1 fun x=>absurd (fV.2 x) (by omega)⟩
 ·obtain rfl:i=j:=by omega
  have hO:=hS.ord oQ
  conv=>whnf
  repeat' first|((first|((first|apply oI.z|apply cI.z))) <;> (conv=>whnf))|(apply aB<;>intro _<;>first|(exfalso;omega)|conv=>whnf)
  have hl1:l0=A++[]++e::Q.take i++(Q.drop i++B):=by
   rw [hl0]
   simp only [aVt,aVy,List.cons_append,List.nil_append]
   rw [← aVt (List.take i Q),aV6]
  refine LpN.of (fun r ρ h2 L=>∃Q1 Q2:List El,r=Q2.length∧h.le h2∧L=[cA bp zs (A++Q1++e::Q2++(Q.drop i++B))]∧rd ρ 13=.int .i64 (K+Q1.length:Nat)∧Q1++Q2=Q.take i) (Q.take i).length
   ⟨[],Q.take i,rfl,hle,by rw [hl1],vi (by rw [aVv];omega),rfl⟩ ?_
  conv=>whnf
  repeat intro _
  rename_i r2 h2 L3 hI2
  obtain ⟨Q1,Q2,rfl,hle2,rfl,e13,hQQ⟩:=hI2
  conv at e13=>lhs;whnf
  subst e13
  have hQl:=congrArg List.length hQQ
  rw [aVo,aV9,Nat.min_eq_left hj] at hQl
  match Q2,hQQ,hQl with
  | [],hQQ,hQl=>
   rw [aVv] at hQl
   rw [aVy] at hQQ
   have hl2:A++Q1++e::[]++(Q.drop i++B)=A++(Q.take i++e::Q.drop i)++B:=by rw [hQQ];simp [aVt]
   rw [hl2]
   obtain ⟨l1,hl1⟩:∃l1,l1=A++(Q.take i++e::Q.drop i)++B:=⟨_,rfl⟩
   rw [← hl1]
   conv=>whnf
   repeat' first|((first|((first|apply oI.z|apply cI.z))|refine WN.i64 (by omega) (by omega) ?_) <;> (conv=>whnf))|(apply aB<;>intro _<;>first|(exfalso;omega)|conv=>whnf)
   exact RN.done ⟨_,hO,List.perm_middle.trans (by rw [aV6];exact List.Perm.refl _),by rw [hl1]⟩
  | q::Q2,hQQ,hQl=>
   rw [aVs] at hQl
   obtain ⟨g1,g2,g3⟩:=aKt (A++Q1) (Q2++(Q.drop i++B)) e q (k:=K+Q1.length) (by rw [aVo];omega)
   have hl2:A++Q1++e::(q::Q2)++(Q.drop i++B)=A++Q1++e::q::(Q2++(Q.drop i++B)):=by simp [aVt]
   rw [hl2]
   obtain ⟨l1,hl1⟩:∃l1,l1=A++Q1++e::q::(Q2++(Q.drop i++B)):=⟨_,rfl⟩
   have hlen1:l1.length=N:=by
    rw [hl1,hN]
    simp only [aVo,aVs,List.length_drop]
    omega
   rw [← hl1] at g1 g2 g3 ⊢
   obtain ⟨M,hM⟩:∃M,M=K+Q1.length:=⟨_,rfl⟩
   rw [← hM] at g1 g2 g3
   conv=>whnf
   repeat' first|((first|(show Idx _ _ _ _ _;first|refine Idx.of (M+1) rfl (by omega) (by omega) ?_|refine Idx.of M rfl (by omega) (by omega) ?_)|(show LdN _ _ _ _ _;first|refine LdN.el 0 rfl g1 ?_|refine LdN.el 0 rfl g2 ?_)|(show Sto _ _ _ _;first|refine Sto.el (x:=q) 0 rfl (by omega) ?_|(refine Sto.el (x:=e) 0 rfl (by rw [List.length_set];omega) ?_))|((first|apply oI.z|apply cI.z))|refine ⟨fun hst=>(by cases (show true=false from hst)),?_⟩|refine WN.i64 (by omega) (by omega) ?_|refine DrN.run (by decide +kernel) ?_) <;> (conv=>whnf))|(apply aB<;>intro _<;>first|(exfalso;omega)|conv=>whnf)
   exact ⟨rfl,Q2.length,by simp,Q1++[q],Q2,rfl,hle2,by rw [g3];simp [aVt],vi (by rw [aVo,aVs,aVv];omega),by rw [← hQQ];simp⟩
end Go.Proofs.Y
/- The library's merge of two neighbouring runs: the second a single term. -/
namespace Go.Proofs.Y
open Go Go.Vc Go.Dig
attribute [local irreducible] Vc.Fn FnP
theorem aOj (h:aA) (bp cap N:Nat) (zs:List Value) (A P B:List El) (e:El) (hP2:2≤P.length) (oP:bX P) (hN:N=(A++P++[e]++B).length) (hb:N≤1099511627776) (a m b:Int) (ha:a=A.length) (hm:m=(A.length+P.length:Nat)) (hbb:b=(A.length+P.length+1:Nat)) (fe:iC h e) (fp:∀x∈P,iC h x):
  Vc.Fn T F.q228 [.slice (some ⟨bp,0,none⟩) N cap,.int .i64 a,.int .i64 m,.int .i64 b,.func (.func F.q172) #[] #[]] h [cA bp zs (A++P++[e]++B)] fun v h' L'=>∃M',bX M'∧M'.Perm (P++[e])∧L'=[cA bp zs (A++M'++B)]:=by
 have c1:=qE
 obtain ⟨l0,hl0⟩:∃l0,l0=A++P++[e]++B:=⟨_,rfl⟩
 have hlen:l0.length=N:=by rw [hl0,hN]
 simp only [aVo,aVs,aVv] at hN
 have ge:l0[A.length+P.length]?=some e:=by
  rw [hl0,aVt (A++P),← aVo];exact kC _ _ _
 have gp:∀c,A.length≤c→c<A.length+P.length→∃q,P[c-A.length]?=some q∧l0[c]?=some q∧q∈P:=fun c h1 h2=>by
  have:=sN A P ([e]++B) (c:=c) h1 h2
  rw [hl0,aVt (A++P)]
  exact this
 rw [← hl0]
 obtain ⟨K,hK⟩:∃K,K=A.length:=⟨_,rfl⟩
 rw [← hK] at hN ge gp ha hm hbb
 refine f1C ok D.q228 rfl ?_
 conv=>whnf
 repeat' first|((first|((first|apply oI.z|apply cI.z))|refine WN.i64 (by omega) (by omega) ?_) <;> (conv=>whnf))|(apply aE<;>intro _<;>first|(exfalso;omega)|conv=>whnf)
 refine LpN.of (fun r ρ hx L=>∃i j:Nat,r=j-i∧h.le hx∧L=[cA bp zs l0]∧rd ρ 14=.int .i64 (K+i:Nat)∧rd ρ 15=.int .i64 (K+j:Nat)∧i≤j∧j≤P.length∧qG e P i j) P.length
  ⟨0,P.length,rfl,aA.lr _,rfl,vi (by omega),vi (by omega),aWe _,aWf _,qG.init e P⟩ ?_
 conv=>whnf
 repeat intro _
 rename_i r hx L2 hI
 obtain ⟨i,j,rfl,hle,rfl,e14,e15,hij,hj,hS⟩:=hI
 conv at e14=>lhs;whnf
 subst e14
 conv at e15=>lhs;whnf
 subst e15
 by_cases hlt:i<j
 ·conv=>whnf
  repeat' first|((first|(show bR _ _ _ _;(refine bR.e 1 (by decide) (by omega) (fun c hc=>?_);obtain ⟨q,hq1,hq2,hq3⟩:=gp c (by omega) (by omega)))|(show Idx _ _ _ _ _;first|refine Idx.of c rfl (by omega) (by omega) ?_|refine Idx.of (K+P.length) rfl (by omega) (by omega) ?_)|(show LdN _ _ _ _ _;first|refine LdN.el 0 rfl hq2 ?_|refine LdN.el 0 rfl ge ?_)|(show CN _ _ _ _ _ _;(refine CN.f rfl (c1 _ e q (fe.mono (by assumption)) ((fp q hq3).mono (by assumption))) (fun v h' hl hr=>?_);obtain ⟨C,hC⟩:∃C,C=fO e.m q.m:=⟨_,rfl⟩;rw [← hC] at hr;subst hr))|((first|apply oI.z|apply cI.z))|refine ⟨fun _=>aH.o (by assumption),?_⟩|(show WN _ _ _;first|refine WN.i64 (by omega) (by omega) ?_|refine WN.u64 (by omega) (by omega) ?_)|refine DrN.run (by decide +kernel) ?_) <;> (conv=>whnf))|(show cnd _ _ _;first|(apply aB<;>intro _<;>first|(exfalso;omega)|conv=>whnf)|(refine aI ?_))
  ·exact ⟨rfl,(c-K)-i,by omega,i,c-K,rfl,(by (iterate 30 try first|assumption|refine aA.lt ?_ (by assumption));first|done|assumption),rfl,rfl,vi (by omega),by omega,by omega,hS.dn oP hq1 (yZ (fV.1 (by omega)))⟩
  ·exact ⟨rfl,j-(c-K+1),by omega,c-K+1,j,rfl,(by (iterate 30 try first|assumption|refine aA.lt ?_ (by assumption));first|done|assumption),rfl,vi (by omega),rfl,by omega,hj,hS.up oP hq1 fun x=>absurd (fV.2 x) (by omega)⟩
 ·obtain rfl:i=j:=by omega
  have hO:=hS.ord oP
  conv=>whnf
  repeat' first|((first|((first|apply oI.z|apply cI.z))) <;> (conv=>whnf))|(apply aB<;>intro _<;>first|(exfalso;omega)|conv=>whnf)
  have hl1:l0=A++P.take i++P.drop i++e::[]++[]++B:=by
   rw [hl0,aVt A (P.take i),aV6,aVy]
  refine LpN.of (fun r ρ h2 L=>∃P1 P2:List El,r=P1.length∧h.le h2∧L=[cA bp zs (A++P.take i++P1++e::P2++[]++B)]∧rd ρ 17=.int .i64 (K+i+P1.length:Nat)∧P1++P2=P.drop i) (P.drop i).length
   ⟨P.drop i,[],rfl,hle,by rw [hl1],vi (by rw [List.length_drop];omega),aVy _⟩ ?_
  conv=>whnf
  repeat intro _
  rename_i r2 h2 L3 hI2
  obtain ⟨P1,P2,rfl,hle2,rfl,e17,hPP⟩:=hI2
  conv at e17=>lhs;whnf
  subst e17
  have hPl:=congrArg List.length hPP
  rw [aVo,List.length_drop] at hPl
  have htl:(P.take i).length=i:=by rw [aV9];omega
  rcases List.eq_nil_or_concat P1 with rfl|⟨P1,y,rfl⟩
  ·rw [aVv] at hPl ⊢
   rw [List.nil_append] at hPP
   have hl2:A++P.take i++[]++e::P2++[]++B=A++(P.take i++e::P.drop i)++B:=by rw [hPP];simp [aVt]
   rw [hl2]
   obtain ⟨l1,hl1⟩:∃l1,l1=A++(P.take i++e::P.drop i)++B:=⟨_,rfl⟩
   rw [← hl1]
   conv=>whnf
   repeat' first|((first|((first|apply oI.z|apply cI.z))) <;> (conv=>whnf))|(apply aB<;>intro _<;>first|(exfalso;omega)|conv=>whnf)
   exact RN.done ⟨_,hO,(List.perm_middle.trans (by rw [aV6];exact List.Perm.refl _)).trans (List.perm_append_comm (l₁:=[e])),by rw [hl1]⟩
  ·rw [List.concat_eq_append] at hPP hPl ⊢
   rw [aVo] at hPl ⊢
   have hl1:([y]:List El).length=1:=rfl
   rw [hl1] at hPl ⊢
   obtain ⟨g1,g2,g3⟩:=aBl (A++P.take i) P1 P2 [] B y e (k:=K+i+P1.length) (by rw [aVo,htl];omega)
   obtain ⟨l1,hl1'⟩:∃l1,l1=A++P.take i++(P1++[y])++e::P2++[]++B:=⟨_,rfl⟩
   have hlen1:l1.length=N:=by
    rw [hl1',hN]
    simp only [aVo,aVs,aVv,htl]
    omega
   rw [← hl1'] at g1 g2 g3 ⊢
   obtain ⟨M,hM⟩:∃M,M=K+i+P1.length:=⟨_,rfl⟩
   rw [← hM] at g1 g2 g3
   conv=>whnf
   repeat' first|((first|(show Idx _ _ _ _ _;first|refine Idx.of (M+1) rfl (by omega) (by omega) ?_|refine Idx.of M rfl (by omega) (by omega) ?_)|(show LdN _ _ _ _ _;first|refine LdN.el 0 rfl g1 ?_|refine LdN.el 0 rfl g2 ?_)|(show Sto _ _ _ _;first|refine Sto.el (x:=y) 0 rfl (by omega) ?_|(refine Sto.el (x:=e) 0 rfl (by rw [List.length_set];omega) ?_))|((first|apply oI.z|apply cI.z))|refine ⟨fun hst=>(by cases (show true=false from hst)),?_⟩|refine WN.i64 (by omega) (by omega) ?_|refine DrN.run (by decide +kernel) ?_) <;> (conv=>whnf))|(apply aB<;>intro _<;>first|(exfalso;omega)|conv=>whnf)
   exact ⟨rfl,P1.length,by omega,P1,y::P2,rfl,hle2,by rw [g3];rfl,vi (by omega),by rw [← hPP];simp⟩
end Go.Proofs.Y
/- The library's merge of two neighbouring runs. -/
namespace Go.Vc
structure rW (P Q:List El) (K mid s0 r0 s r:Nat):Prop where
 lo:s0<s→∀x y,P[s-K-1]?=some x→Q[mid-s]?=some y→leE x y
 hi:r<r0→∀x y,Q[mid-r-1]?=some x→P[r-K]?=some y→leE x y
theorem rW.init (P Q:List El) (K mid s0 r0:Nat):rW P Q K mid s0 r0 s0 r0:=⟨fun h=>absurd h (Nat.lt_irrefl _),fun h=>absurd h (Nat.lt_irrefl _)⟩
theorem rW.up {P Q:List El} {K mid s0 r0 s r c:Nat} {x y:El} (w:rW P Q K mid s0 r0 s r) (hx:P[c-K]?=some x) (hy:Q[mid-1-c]?=some y) (hl:leE x y):rW P Q K mid s0 r0 (c+1) r:=
 ⟨fun _ x' y' h1 h2=>by
   rw [show c+1-K-1=c-K by omega,hx] at h1
   rw [show mid-(c+1)=mid-1-c by omega,hy] at h2
   cases h1;cases h2;exact hl,w.hi⟩
theorem rW.dn {P Q:List El} {K mid s0 r0 s r c:Nat} {x y:El} (w:rW P Q K mid s0 r0 s r) (hx:P[c-K]?=some x) (hy:Q[mid-1-c]?=some y) (hl:leE y x):rW P Q K mid s0 r0 s c:=
 ⟨w.lo,fun _ x' y' h1 h2=>by
   rw [show mid-c-1=mid-1-c by omega,hy] at h1
   rw [hx] at h2
   cases h1;cases h2;exact hl⟩
theorem rW.cut {P Q:List El} {K mid s0 r0 s:Nat} (w:rW P Q K mid s0 r0 s s) (oP:bX P) (oQ:bX Q) (hK:K≤s) (hP:s≤K+P.length) (hm:s≤mid) (hQ:mid-s≤Q.length) (h0:s0=K∨mid-s0=Q.length) (h1:r0=K+P.length∨r0=mid) (hs:s0≤s) (hr:s≤r0):
  ∀x∈P.take (s-K)++Q.take (mid-s),∀y∈P.drop (s-K)++Q.drop (mid-s),leE x y:=by
 refine aQm oP oQ (by omega) hQ (fun x y g1 g2 g3=>?_) (fun x y g1 g2 g3=>?_)
 ·by_cases e:s0<s
  ·exact w.lo e x y g2 g3
  ·have hs':s0=s:=by omega
   rcases h0 with h0|h0
   ·omega
   ·rw [hs'] at h0;rw [List.getElem?_eq_none (by omega)] at g3;cases g3
 ·by_cases e:s<r0
  ·exact w.hi e x y g2 g3
  ·have hr':r0=s:=by omega
   rcases h1 with h1|h1
   ·rw [List.getElem?_eq_none (by omega)] at g3;cases g3
   ·omega
theorem aFa {a b:List El} (oa:bX a) (ob:bX b) (h:a=[]∨b=[]):bX (a++b):=by
 rcases h with rfl|rfl
 ·exact ob
 ·rw [aVy];exact oa
end Go.Vc
namespace Go.Proofs.Y
open Go Go.Vc Go.Dig
attribute [local irreducible] Vc.Fn FnP
def aSj (n:Nat):Prop:=∀(h:aA) (bp cap N:Nat) (zs:List Value) (A P Q B:List El),P.length+Q.length≤n→0<P.length→0<Q.length→bX P→bX Q→N=(A++P++Q++B).length→N≤1099511627776→
  ∀(a m b:Int),a=A.length→m=(A.length+P.length:Nat)→b=(A.length+P.length+Q.length:Nat)→(∀x∈P++Q,iC h x)→
  Vc.Fn T F.q228 [.slice (some ⟨bp,0,none⟩) N cap,.int .i64 a,.int .i64 m,.int .i64 b,.func (.func F.q172) #[] #[]] h [cA bp zs (A++P++Q++B)] fun v h' L'=>∃M',bX M'∧M'.Perm (P++Q)∧L'=[cA bp zs (A++M'++B)]
theorem aHa (n:Nat) (ih:aSj n) (h:aA) (bp cap N:Nat) (zs:List Value) (A P Q B:List El) (hn:P.length+Q.length≤n+1) (hP2:2≤P.length) (hQ2:2≤Q.length) (oP:bX P) (oQ:bX Q) (hN:N=(A++P++Q++B).length) (hb:N≤1099511627776)
  (a m b:Int) (ha:a=A.length) (hm:m=(A.length+P.length:Nat)) (hbb:b=(A.length+P.length+Q.length:Nat)) (fw:∀x∈P++Q,iC h x):
  Vc.Fn T F.q228 [.slice (some ⟨bp,0,none⟩) N cap,.int .i64 a,.int .i64 m,.int .i64 b,.func (.func F.q172) #[] #[]] h [cA bp zs (A++P++Q++B)] fun v h' L'=>∃M',bX M'∧M'.Perm (P++Q)∧L'=[cA bp zs (A++M'++B)]:=by
 have c1:=qE
 obtain ⟨l0,hl0⟩:∃l0,l0=A++P++Q++B:=⟨_,rfl⟩
 have hlen:l0.length=N:=by rw [hl0,hN]
 simp only [aVo] at hN
 have gp:∀c,A.length≤c→c<A.length+P.length→∃q,P[c-A.length]?=some q∧l0[c]?=some q∧q∈P:=fun c h1 h2=>by
  have:=sN A P (Q++B) (c:=c) h1 h2
  rw [hl0,aVt (A++P)]
  exact this
 have gq:∀c,A.length+P.length≤c→c<A.length+P.length+Q.length→∃q,Q[c-(A.length+P.length)]?=some q∧l0[c]?=some q∧q∈Q:=fun c h1 h2=>by
  have:=sN (A++P) Q B (c:=c) (by rw [aVo];exact h1) (by rw [aVo];exact h2)
  rw [aVo] at this
  rw [hl0]
  exact this
 rw [← hl0]
 obtain ⟨K,hK⟩:∃K,K=A.length:=⟨_,rfl⟩
 rw [← hK] at hN gp gq ha hm hbb
 obtain ⟨mid,hmid⟩:∃mid:Nat,mid=(K+(K+P.length+Q.length)) / 2:=⟨_,rfl⟩
 have hmid':(mid:Int)=(a+b) / 2:=by omega
 have fp:∀x∈P,iC h x:=fun x hx=>fw x (List.mem_append_left _ hx)
 have fq:∀x∈Q,iC h x:=fun x hx=>fw x (List.mem_append_right _ hx)
 refine f1C ok D.q228 rfl ?_
 conv=>whnf
 repeat' first|((first|(show bR _ _ _ _;refine bR.e 1 (by decide) (by omega) (fun cm hcm=>?_))|((first|apply oI.z|apply cI.z))|(show WN _ _ _;first|refine WN.i64 (by omega) (by omega) ?_|refine WN.u64 (by omega) (by omega) ?_)) <;> (conv=>whnf))|(apply aE<;>intro _<;>first|(exfalso;omega)|conv=>whnf)
 refine aX.cut (fun ρ' h' L'=>h'=h∧L'=[cA bp zs l0]∧∃s r:Nat,rd ρ' 20=.int .i64 s∧rd ρ' 21=.int .i64 r∧(s=K∨mid-s=Q.length)∧(r=K+P.length∨r=mid)∧K≤s∧s≤r∧r≤K+P.length∧r≤mid∧mid-s≤Q.length) ?_ ?_
 ·conv=>whnf
  repeat' first|((first|((first|apply oI.z|apply cI.z))|refine WN.i64 (by omega) (by omega) ?_) <;> (conv=>whnf))|(apply aB<;>intro _<;>first|(exfalso;omega)|conv=>whnf)
  ·exact ⟨rfl,rfl,rfl,mid+(K+P.length)-(K+P.length+Q.length),mid,vi (by omega),vi (by omega),by omega,by omega,by omega,by omega,by omega,by omega,by omega⟩
  ·exact ⟨rfl,rfl,rfl,K,K+P.length,vi (by omega),vi (by omega),by omega,by omega,by omega,by omega,by omega,by omega,by omega⟩
 conv=>whnf
 repeat intro _
 rename_i h2 L2 hJ
 obtain ⟨rfl,rfl,s0,r0,e20,e21,q1,q2,q3,q4,q5,q6,q7⟩:=hJ
 conv at e20=>lhs;whnf
 subst e20
 conv at e21=>lhs;whnf
 subst e21
 conv=>whnf
 repeat' first|((first|((first|apply oI.z|apply cI.z))|refine WN.i64 (by omega) (by omega) ?_) <;> (conv=>whnf))
 refine LpN.of (fun r ρ hx L=>∃s j:Nat,r=j-s∧h2.le hx∧L=[cA bp zs l0]∧rd ρ 20=.int .i64 s∧rd ρ 21=.int .i64 j∧s0≤s∧s≤j∧j≤r0∧rW P Q K mid s0 r0 s j) (r0-s0)
  ⟨s0,r0,rfl,aA.lr _,rfl,rfl,rfl,aWf _,q4,aWf _,rW.init ..⟩ ?_
 conv=>whnf
 repeat intro _
 rename_i r hx L3 hI
 obtain ⟨s,j,rfl,hle,rfl,e20,e21,p1,p2,p3,hS⟩:=hI
 conv at e20=>lhs;whnf
 subst e20
 conv at e21=>lhs;whnf
 subst e21
 by_cases hlt:s<j
 ·conv=>whnf
  repeat' first|((first|(show bR _ _ _ _;(refine bR.e 1 (by decide) (by omega) (fun c hc=>?_);obtain ⟨x,hx1,hx2,hx3⟩:=gp c (by omega) (by omega);obtain ⟨y,hy1,hy2,hy3⟩:=gq (mid+(K+P.length)-1-c) (by omega) (by omega)))|(show Idx _ _ _ _ _;first|refine Idx.of c rfl (by omega) (by omega) ?_|refine Idx.of (mid+(K+P.length)-1-c) rfl (by omega) (by omega) ?_)|(show LdN _ _ _ _ _;first|refine LdN.el 0 rfl hx2 ?_|refine LdN.el 0 rfl hy2 ?_)|(show CN _ _ _ _ _ _;(refine CN.f rfl (c1 _ y x ((fq y hy3).mono (by assumption)) ((fp x hx3).mono (by assumption))) (fun v h' hl hr=>?_);obtain ⟨C,hC⟩:∃C,C=fO y.m x.m:=⟨_,rfl⟩;rw [← hC] at hr;subst hr))|((first|apply oI.z|apply cI.z))|refine ⟨fun _=>aH.o (by assumption),?_⟩|(show WN _ _ _;first|refine WN.i64 (by omega) (by omega) ?_|refine WN.u64 (by omega) (by omega) ?_)|refine DrN.run (by decide +kernel) ?_) <;> (conv=>whnf))|(show cnd _ _ _;first|(apply aB<;>intro _<;>first|(exfalso;omega)|conv=>whnf)|(refine aI ?_))
  all_goals rw [show mid+(K+P.length)-1-c-(K+P.length)=mid-1-c by omega] at hy1
  ·exact ⟨rfl,c-s,by omega,s,c,rfl,(by (iterate 30 try first|assumption|refine aA.lt ?_ (by assumption));first|done|assumption),rfl,rfl,vi (by omega),by omega,by omega,by omega,hS.dn hx1 hy1 (yZ (fV.1 (by omega)))⟩
  ·exact ⟨rfl,j-(c+1),by omega,c+1,j,rfl,(by (iterate 30 try first|assumption|refine aA.lt ?_ (by assumption));first|done|assumption),rfl,vi (by omega),rfl,by omega,by omega,by omega,hS.up hx1 hy1 fun x=>absurd (fV.2 x) (by omega)⟩
 obtain rfl:s=j:=by omega
 have hC:=hS.cut oP oQ (by omega) (by omega) (by omega) (by omega) q1 q2 (by omega) (by omega)
 clear hS gp gq c1
 obtain ⟨P1,hP1⟩:∃x,x=P.take (s-K):=⟨_,rfl⟩
 obtain ⟨P2,hP2⟩:∃x,x=P.drop (s-K):=⟨_,rfl⟩
 obtain ⟨Q1,hQ1⟩:∃x,x=Q.take (mid-s):=⟨_,rfl⟩
 obtain ⟨Q2,hQ2⟩:∃x,x=Q.drop (mid-s):=⟨_,rfl⟩
 have eP:P=P1++P2:=by rw [hP1,hP2,aV6]
 have eQ:Q=Q1++Q2:=by rw [hQ1,hQ2,aV6]
 have lP1:P1.length=s-K:=by rw [hP1,aV9];omega
 have lP2:P2.length=P.length-(s-K):=by rw [hP2,List.length_drop]
 have lQ1:Q1.length=mid-s:=by rw [hQ1,aV9];omega
 have lQ2:Q2.length=Q.length-(mid-s):=by rw [hQ2,List.length_drop]
 rw [← hP1,← hP2,← hQ1,← hQ2] at hC
 have hPl:P.length=P1.length+P2.length:=by rw [eP,aVo]
 have hQl:Q.length=Q1.length+Q2.length:=by rw [eQ,aVo]
 clear hP1 hP2 hQ1 hQ2
 have oP1:bX P1:=by rw [eP] at oP;exact (List.pairwise_append.1 oP).1
 have oP2:bX P2:=by rw [eP] at oP;exact (List.pairwise_append.1 oP).2.1
 have oQ1:bX Q1:=by rw [eQ] at oQ;exact (List.pairwise_append.1 oQ).1
 have oQ2:bX Q2:=by rw [eQ] at oQ;exact (List.pairwise_append.1 oQ).2.1
 have fw1:∀x∈P1++Q1,iC h2 x:=fun x hx=>fw x (by rw [eP,eQ];rcases aVx.1 hx with hx|hx <;> simp [hx])
 have fw2:∀x∈P2++Q2,iC h2 x:=fun x hx=>fw x (by rw [eP,eQ];rcases aVx.1 hx with hx|hx <;> simp [hx])
 obtain ⟨l1,hl1⟩:∃l1,l1=A++P1++Q1++(P2++Q2++B):=⟨_,rfl⟩
 have rot:∀hx (a m b:Int),a=s→m=(K+P.length:Nat)→b=mid+(K+P.length:Nat)-s→s<K+P.length→0<mid-s→Vc.Fn T F.q247 [.slice (some ⟨bp,0,none⟩) N cap,.int .i64 a,.int .i64 m,.int .i64 b,.func (.func F.q172) #[] #[]] hx [cA bp zs l0] fun v h' L'=>L'=[cA bp zs l1]:=fun hx a m b g1 g2 g3 g4 g5=>by
  have:=aG9 hx bp cap N zs (.func (.func F.q172) #[] #[]) (A++P1) P2 Q1 (Q2++B) (by omega) (by omega) (by simp only [aVo];omega) hb a m b (by rw [aVo];omega) (by rw [aVo];omega) (by rw [aVo];omega)
  have e1:l0=A++P1++P2++Q1++(Q2++B):=by rw [hl0,eP,eQ];simp only [aVt]
  have e2:l1=A++P1++Q1++P2++(Q2++B):=by rw [hl1];simp only [aVt]
  rw [e1,e2];exact this
 have same:s=K+P.length∨mid=s→l0=l1:=fun x=>by
  rw [hl0,hl1,eP,eQ]
  rcases x with x|x
  ·rw [aV5 (l:=P2) (by omega)];simp only [aVt,aVy,List.nil_append]
  ·rw [aV5 (l:=Q1) (by omega)];simp only [aVt,aVy,List.nil_append]
 have rec1:∀hx (a m b:Int),h2.le hx→a=K→m=s→b=mid→K<s→s<mid→Vc.Fn T F.q228 [.slice (some ⟨bp,0,none⟩) N cap,.int .i64 a,.int .i64 m,.int .i64 b,.func (.func F.q172) #[] #[]] hx [cA bp zs l1] fun v h' L'=>∃M',bX M'∧M'.Perm (P1++Q1)∧L'=[cA bp zs (A++M'++(P2++Q2++B))]:=fun hx a m b hl g1 g2 g3 g4 g5=>by
  rw [hl1]
  exact ih hx bp cap N zs A P1 Q1 (P2++Q2++B) (by omega) (by omega) (by omega) oP1 oQ1 (by simp only [aVo];omega) hb a m b (by omega) (by omega) (by omega) fun x hx=>(fw1 x hx).mono hl
 have rec2:∀M1,M1.Perm (P1++Q1)→∀hx (a m b:Int),h2.le hx→a=mid→m=mid+(K+P.length:Nat)-s→b=(K+P.length+Q.length:Nat)→s<K+P.length→mid-s<Q.length→Vc.Fn T F.q228 [.slice (some ⟨bp,0,none⟩) N cap,.int .i64 a,.int .i64 m,.int .i64 b,.func (.func F.q172) #[] #[]] hx [cA bp zs (A++M1++(P2++Q2++B))] fun v h' L'=>∃M',bX M'∧M'.Perm (P2++Q2)∧L'=[cA bp zs (A++M1++M'++B)]:=fun M1 hp hx a m b hl g1 g2 g3 g4 g5=>by
  have hpl:=hp.length_eq
  rw [aVo] at hpl
  have:=ih hx bp cap N zs (A++M1) P2 Q2 B (by omega) (by omega) (by omega) oP2 oQ2 (by simp only [aVo];omega) hb a m b (by rw [aVo];omega) (by rw [aVo];omega) (by rw [aVo];omega) fun x hx=>(fw2 x hx).mono hl
  rw [← aVt,← aVt];exact this
 have fin:∀M1 M2,bX M1→M1.Perm (P1++Q1)→bX M2→M2.Perm (P2++Q2)→bX (M1++M2)∧(M1++M2).Perm (P++Q):=fun M1 M2 o1 p1 o2 p2=>by
  rw [eP,eQ];exact aG5 hC o1 o2 p1 p2
 have one1:s=K∨mid=s→bX (P1++Q1):=fun x=>aFa oP1 oQ1 (x.imp (fun e=>aV5 (by omega)) fun e=>aV5 (by omega))
 have one2:s=K+P.length∨mid-s=Q.length→bX (P2++Q2):=fun x=>aFa oP2 oQ2 (x.imp (fun e=>aV5 (by omega)) fun e=>aV5 (by omega))
 clear ih fw fp fq fw1 fw2 hC q1 q2
 replace same:=Hq.mk same
 replace one1:=Hq.mk one1
 replace one2:=Hq.mk one2
 conv=>whnf
 repeat' first|((first|((first|apply oI.z|apply cI.z))|refine WN.i64 (by omega) (by omega) ?_) <;> (conv=>whnf))|(apply aB<;>intro _<;>first|(exfalso;omega)|conv=>whnf)
 refine aX.cut (fun ρ' h' L'=>h2.le h'∧L'=[cA bp zs l1]) ?_ ?_
 ·conv=>whnf
  repeat' first|((first|(show CN _ _ _ _ _ _;refine CN.own 0 rfl rfl (rot _ _ _ _ (by omega) (by omega) (by omega) (by omega) (by omega)) (fun v h' La hl hr=>⟨_,hr,?_⟩))|((first|apply oI.z|apply cI.z))) <;> (conv=>whnf))|(apply aB<;>intro _<;>first|(exfalso;omega)|conv=>whnf)
  all_goals first
   | exact ⟨rfl,(by (iterate 30 try first|assumption|refine aA.lt ?_ (by assumption));first|done|assumption),rfl⟩
   | exact ⟨rfl,(by assumption),by rw [same.out (by omega)]⟩
 conv=>whnf
 repeat intro _
 rename_i h3 L3 hJ
 obtain ⟨hle3,rfl⟩:=hJ
 conv=>whnf
 repeat ((first|apply oI.z|apply cI.z);conv=>whnf)
 skip
 refine aX.cut (fun ρ' h' L'=>∃M1,h2.le h'∧bX M1∧M1.Perm (P1++Q1)∧L'=[cA bp zs (A++M1++(P2++Q2++B))]) ?_ ?_
 ·conv=>whnf
  repeat' first|((first|(show CN _ _ _ _ _ _;(refine CN.own 0 rfl rfl (rec1 _ _ _ _ (by assumption) (by omega) (by omega) (by omega) (by omega) (by omega)) (fun v h' La hl hr=>?_);obtain ⟨M1,o1,p1,rfl⟩:=hr;refine ⟨_,rfl,?_⟩))|((first|apply oI.z|apply cI.z))) <;> (conv=>whnf))|(apply aB<;>intro _<;>first|(exfalso;omega)|conv=>whnf)
  all_goals first
   | exact ⟨rfl,M1,(by (iterate 30 try first|assumption|refine aA.lt ?_ (by assumption));first|done|assumption),o1,p1,rfl⟩
   | exact ⟨rfl,P1++Q1,(by assumption),one1.out (by omega),List.Perm.refl _,by rw [hl1];simp only [aVt]⟩
 conv=>whnf
 repeat intro _
 rename_i h4 L4 hJ
 obtain ⟨M1,hle4,o1,p1,rfl⟩:=hJ
 have rec2:=rec2 M1 p1
 obtain ⟨l2,hl2⟩:∃l2,l2=A++M1++(P2++Q2++B):=⟨_,rfl⟩
 rw [← hl2] at rec2 ⊢
 conv=>whnf
 repeat' first|((first|(show CN _ _ _ _ _ _;(refine CN.own 0 rfl rfl (rec2 _ _ _ _ (by assumption) (by omega) (by omega) (by omega) (by omega) (by omega)) (fun v h' La hl hr=>?_);obtain ⟨M2,o2,p2,rfl⟩:=hr;refine ⟨_,rfl,?_⟩))|((first|apply oI.z|apply cI.z))) <;> (conv=>whnf))|(apply aB<;>intro _<;>first|(exfalso;omega)|conv=>whnf)
 all_goals first
  | exact RN.done ⟨M1++M2,(fin M1 M2 o1 p1 o2 p2).1,(fin M1 M2 o1 p1 o2 p2).2,by rw [← aVt];rfl⟩
  | exact RN.done ⟨M1++(P2++Q2),(fin M1 _ o1 p1 (one2.out (by omega)) (List.Perm.refl _)).1,(fin M1 _ o1 p1 (one2.out (by omega)) (List.Perm.refl _)).2,by rw [hl2];simp only [aVt]⟩
theorem aFb:∀n,aSj n
 | 0=>fun h bp cap N zs A P Q B hn hP hQ=>by omega
 | n+1=>fun h bp cap N zs A P Q B hn hP hQ oP oQ hN hb a m b ha hm hbb fw=>by
  match P,hn,hP,oP,hN,hm,hbb,fw with
  | [e],hn,hP,oP,hN,hm,hbb,fw=>exact aOi h bp cap N zs A Q B e oQ hN hb a m b ha hm (by rw [hbb];rfl) (fw e (by simp)) fun x hx=>fw x (List.mem_append_right _ hx)
  | x1::x2::P,hn,hP,oP,hN,hm,hbb,fw=>
   obtain ⟨P',hP'⟩:∃P',P'=x1::x2::P:=⟨_,rfl⟩
   have hl:2≤P'.length:=by rw [hP'];simp
   rw [← hP'] at hn hP oP hN hm hbb fw ⊢
   match Q,hn,hQ,oQ,hN,hbb,fw with
   | [e],hn,hQ,oQ,hN,hbb,fw=>exact aOj h bp cap N zs A P' B e hl oP hN hb a m b ha hm (by rw [hbb];rfl) (fw e (by simp)) fun x hx=>fw x (List.mem_append_left _ hx)
   | y1::y2::Q,hn,hQ,oQ,hN,hbb,fw=>exact aHa n (aFb n) h bp cap N zs A P' (y1::y2::Q) B hn hl (by simp) oP oQ hN hb a m b ha hm hbb fw
end Go.Proofs.Y
/- The library's stable sort, at terms. -/
namespace Go.Vc
def zC (bs:Nat) (S:List (List El)):Prop:=∀s∈S,s.length=bs∧bX s
theorem zC.snoc {bs:Nat} {S:List (List El)} {s:List El} (w:zC bs S) (h:s.length=bs) (o:bX s):zC bs (S++[s]):=fun x hx=>by
 rcases aVx.1 hx with hx|hx
 ·exact w x hx
 ·rw [aV2.1 hx];exact ⟨h,o⟩
theorem aKu {A M M' B l:List El} (h:M'.Perm M) (g:(A++M++B).Perm l):(A++M'++B).Perm l:=((h.append_left A).append_right B).trans g
theorem gL (S:List (List El)) (s:List El):(S++[s]).flatten=S.flatten++s:=by simp
end Go.Vc
namespace Go.Proofs.Y
open Go Go.Vc Go.Dig
attribute [local irreducible] Vc.Fn FnP
theorem aHb (h:aA) (bp cap N:Nat) (zs:List Value) (l:List El) (hN:l.length=N) (hb:N≤1099511627776) (fw:∀x∈l,iC h x):
  Vc.Fn T F.q203 [.slice (some ⟨bp,0,none⟩) N cap,.int .i64 N,.func (.func F.q172) #[] #[]] h [cA bp zs l] fun v h' L'=>∃l',bX l'∧l'.Perm l∧L'=[cA bp zs l']:=by
 have ins:∀hx (l0 A M B:List El) (a b:Int),h.le hx→l0=A++M++B→l0.Perm l→a=A.length→b=(A.length+M.length:Nat)→
   Vc.Fn T F.q227 [.slice (some ⟨bp,0,none⟩) N cap,.int .i64 a,.int .i64 b,.func (.func F.q172) #[] #[]] hx [cA bp zs l0] fun v h' L'=>∃M',bX M'∧M'.Perm M∧L'=[cA bp zs (A++M'++B)]:=fun hx l0 A M B a b hl e p ha hbb=>by
  have pl:=p.length_eq
  subst e
  exact aDn hx bp cap N zs A M B (by omega) hb a b ha hbb fun x hx=>(fw x (p.mem_iff.1 (by simp [hx]))).mono hl
 have mer:∀hx (l0 A P Q B:List El) (a m b:Int),h.le hx→l0=A++P++Q++B→l0.Perm l→0<P.length→0<Q.length→bX P→bX Q→a=A.length→m=(A.length+P.length:Nat)→b=(A.length+P.length+Q.length:Nat)→
   Vc.Fn T F.q228 [.slice (some ⟨bp,0,none⟩) N cap,.int .i64 a,.int .i64 m,.int .i64 b,.func (.func F.q172) #[] #[]] hx [cA bp zs l0] fun v h' L'=>∃M',bX M'∧M'.Perm (P++Q)∧L'=[cA bp zs (A++M'++B)]:=fun hx l0 A P Q B a m b hl e p h1 h2 o1 o2 ha hm hbb=>by
  have pl:=p.length_eq
  subst e
  exact aFb _ hx bp cap N zs A P Q B (aWf _) h1 h2 o1 o2 (by omega) hb a m b ha hm hbb fun x hx=>(fw x (p.mem_iff.1 (by simp only [aVx] at hx ⊢;rcases hx with hx|hx <;> simp [hx]))).mono hl
 refine f1C ok D.q203 rfl ?_
 conv=>whnf
 repeat ((first|apply oI.z|apply cI.z);conv=>whnf)
 skip
 refine LpN.of (fun r ρ hx L=>∃(S:List (List El)) (R:List El),r=R.length∧h.le hx∧L=[cA bp zs (S.flatten++R)]∧rd ρ 7=.int .i64 (S.flatten.length:Nat)∧rd ρ 8=.int .i64 (S.flatten.length+20:Nat)∧zC 20 S∧(S.flatten++R).Perm l) l.length
  ⟨[],l,rfl,aA.lr _,rfl,rfl,rfl,fun x hx=>(by cases hx),List.Perm.refl _⟩ ?_
 conv=>whnf
 repeat intro _
 rename_i r hx L2 hI
 obtain ⟨S,R,rfl,hle,rfl,e7,e8,hR,hP⟩:=hI
 conv at e7=>lhs;whnf
 subst e7
 conv at e8=>lhs;whnf
 subst e8
 have hPl:=hP.length_eq
 rw [aVo] at hPl
 obtain ⟨a,ha⟩:∃a,a=S.flatten.length:=⟨_,rfl⟩
 by_cases h20:20≤R.length
 ·have ins:=fun a b=>ins hx _ S.flatten (R.take 20) (R.drop 20) a b hle (by rw [aVt,aV6]) hP
  have htl:(R.take 20).length=20:=by rw [aV9];omega
  have hdl:(R.drop 20).length=R.length-20:=List.length_drop
  rw [htl] at ins
  obtain ⟨l0,hl0⟩:∃l0,l0=S.flatten++R:=⟨_,rfl⟩
  rw [← hl0] at ins ⊢
  rw [← ha] at ins hPl ⊢
  conv=>whnf
  repeat' first|((first|(show CN _ _ _ _ _ _;(refine CN.own 0 rfl rfl (ins _ _ (by omega) (by omega)) (fun v h' La hl hr=>?_);obtain ⟨M1,o1,p1,rfl⟩:=hr;refine ⟨_,rfl,?_⟩))|((first|apply oI.z|apply cI.z))|refine WN.i64 (by omega) (by omega) ?_) <;> (conv=>whnf))|(apply bI<;>intro _<;>first|(exfalso;omega)|conv=>whnf)
  have hM:=p1.length_eq
  rw [htl] at hM
  exact ⟨rfl,(R.drop 20).length,by omega,S++[M1],R.drop 20,rfl,(by (iterate 30 try first|assumption|refine aA.lt ?_ (by assumption));first|done|assumption),by rw [gL];rfl,vi (by rw [gL,aVo];omega),vi (by rw [gL,aVo];omega),hR.snoc hM o1,by
    rw [gL]
    refine List.Perm.trans ?_ (hl0▸hP)
    rw [hl0,aVt]
    exact List.Perm.append_left _ ((p1.append_right _).trans (by rw [aV6]))⟩
 have ins:=fun a b=>ins hx _ S.flatten R [] a b hle (by rw [aVy]) hP
 obtain ⟨l0,hl0⟩:∃l0,l0=S.flatten++R:=⟨_,rfl⟩
 rw [← hl0] at ins ⊢
 rw [← ha] at ins hPl ⊢
 conv=>whnf
 repeat' first|((first|(show CN _ _ _ _ _ _;(refine CN.own 0 rfl rfl (ins _ _ (by omega) (by omega)) (fun v h' La hl hr=>?_);obtain ⟨R1,o1,p1,rfl⟩:=hr;refine ⟨_,rfl,?_⟩))|((first|apply oI.z|apply cI.z))) <;> (conv=>whnf))|(apply bI<;>intro _<;>first|(exfalso;omega)|conv=>whnf)
 have hle1:=aA.lt hle hl
 have hP1:(S.flatten++R1).Perm l:=(p1.append_left _).trans (hl0▸hP)
 have hR1:=p1.length_eq
 rw [aVy]
 clear ins hP hPl hl0 p1 ha hl
 refine LpN.of (fun r ρ hx L=>∃(bs:Nat) (S:List (List El)) (R:List El),r=N-bs∧h.le hx∧L=[cA bp zs (S.flatten++R)]∧rd ρ 6=.int .i64 (bs:Nat)∧0<bs∧bs≤2*N+40∧zC bs S∧R.length<bs∧bX R∧(S.flatten++R).Perm l) (N-20)
  ⟨20,S,R1,rfl,hle1,rfl,rfl,by decide,by omega,hR,by omega,o1,hP1⟩ ?_
 clear hle hle1 hR hP1 hR1 o1
 conv=>whnf
 repeat intro _
 rename_i r h1 L1 hI
 obtain ⟨bs,S,R,rfl,hle,rfl,e6,hb0,hb1,hR,hRl,oR,hP⟩:=hI
 conv at e6=>lhs;whnf
 subst e6
 have hPl:=hP.length_eq
 rw [aVo] at hPl
 by_cases hlast:N≤bs
 ·have hO:bX (S.flatten++R):=by
   match S,hR,hPl with
   | [],hR,hPl=>exact oR
   | [s],hR,hPl=>
    obtain ⟨q1,q2⟩:=hR s (by simp)
    have:R=[]:=aV5 (by simp at hPl;omega)
    rw [this];simpa using q2
   | s1::s2::S,hR,hPl=>
    obtain ⟨q1,_⟩:=hR s1 (by simp)
    obtain ⟨q2,_⟩:=hR s2 (by simp)
    rw [List.flatten_cons,List.flatten_cons,aVo,aVo] at hPl
    omega
  obtain ⟨l0,hl0⟩:∃l0,l0=S.flatten++R:=⟨_,rfl⟩
  rw [← hl0] at hO hP ⊢
  conv=>whnf
  repeat' first|((first|((first|apply oI.z|apply cI.z))) <;> (conv=>whnf))|(apply aB<;>intro _<;>first|(exfalso;omega)|conv=>whnf)
  exact RN.done ⟨l0,hO,hP,rfl⟩
 obtain ⟨l0,hl0⟩:∃l0,l0=S.flatten++R:=⟨_,rfl⟩
 rw [← hl0]
 conv=>whnf
 repeat' first|((first|((first|apply oI.z|apply cI.z))|refine WN.i64 (by omega) (by omega) ?_) <;> (conv=>whnf))|(apply aB<;>intro _<;>first|(exfalso;omega)|conv=>whnf)
 rw [hl0]
 clear hl0
 refine LpN.of (fun r ρ hx L=>∃(Z S:List (List El)),r=S.length∧h.le hx∧L=[cA bp zs (Z.flatten++S.flatten++R)]∧rd ρ 7=.int .i64 (Z.flatten.length:Nat)∧rd ρ 8=.int .i64 (Z.flatten.length+2*bs:Nat)∧zC (2*bs) Z∧zC bs S∧(Z.flatten++S.flatten++R).Perm l) S.length
  ⟨[],S,rfl,hle,rfl,rfl,vi (by simp),fun x hx=>(by cases hx),hR,hP⟩ ?_
 clear hPl hP hR hle
 conv=>whnf
 repeat intro _
 rename_i r hx L2 hI
 obtain ⟨Z,S,rfl,hle,rfl,e7,e8,hZ,hR,hP⟩:=hI
 conv at e7=>lhs;whnf
 subst e7
 conv at e8=>lhs;whnf
 subst e8
 have hPl:=hP.length_eq
 rw [aVo,aVo] at hPl
 obtain ⟨a,ha⟩:∃a,a=Z.flatten.length:=⟨_,rfl⟩
 rw [← ha] at hPl ⊢
 match S,hR,hP,hPl with
 | s1::s2::S,hR,hP,hPl=>
  obtain ⟨q1,q2⟩:=hR s1 (by simp)
  obtain ⟨q3,q4⟩:=hR s2 (by simp)
  have hR':zC bs S:=fun x hx=>hR x (by simp [hx])
  have mer:=fun a m b=>mer hx _ Z.flatten s1 s2 (S.flatten++R) a m b hle (by simp only [List.flatten_cons,aVt]) hP (by omega) (by omega) q2 q4
  rw [List.flatten_cons,List.flatten_cons,aVo,aVo] at hPl
  rw [← ha,q1,q3] at mer
  rw [q1,q3] at hPl
  obtain ⟨l0,hl0⟩:∃l0,l0=Z.flatten++(s1::s2::S).flatten++R:=⟨_,rfl⟩
  rw [← hl0] at mer ⊢
  conv=>whnf
  repeat' first|((first|(show CN _ _ _ _ _ _;(refine CN.own 0 rfl rfl (mer _ _ _ (by omega) (by omega) (by omega)) (fun v h' La hl hr=>?_);obtain ⟨M1,o1,p1,rfl⟩:=hr;refine ⟨_,rfl,?_⟩))|((first|apply oI.z|apply cI.z))|refine WN.i64 (by omega) (by omega) ?_) <;> (conv=>whnf))|(apply bI<;>intro _<;>first|(exfalso;omega)|conv=>whnf)
  have hM:=p1.length_eq
  rw [aVo] at hM
  exact ⟨rfl,S.length,by simp only [aVs];omega,Z++[M1],S,rfl,(by (iterate 30 try first|assumption|refine aA.lt ?_ (by assumption));first|done|assumption),by rw [gL,aVt (Z.flatten++M1)];rfl,vi (by rw [gL,aVo];omega),vi (by rw [gL,aVo];omega),hZ.snoc (by omega) o1,hR',by
    rw [gL,aVt (Z.flatten++M1)]
    exact aKu p1 (by simp only [List.flatten_cons,aVt] at hP ⊢;exact hP)⟩
 | [s],hR,hP,hPl=>
  obtain ⟨q1,q2⟩:=hR s (by simp)
  have e1:[s].flatten=s:=by simp
  rw [e1] at hP hPl ⊢
  rw [q1] at hPl
  by_cases hR0:R=[]
  ·subst hR0
   rw [aVy] at hP ⊢
   rw [aVv] at hPl
   obtain ⟨l0,hl0⟩:∃l0,l0=Z.flatten++s:=⟨_,rfl⟩
   rw [← hl0]
   conv=>whnf
   repeat' first|((first|(apply aX.go)|((first|apply oI.z|apply cI.z))|refine WN.i64 (by omega) (by omega) ?_) <;> (conv=>whnf))|(show cnd _ _ _;first|(apply aB<;>intro _<;>first|(exfalso;omega)|conv=>whnf)|(apply bI<;>intro _<;>first|(exfalso;omega)|conv=>whnf))
   exact ⟨rfl,N-2*bs,by omega,2*bs,Z,s,rfl,(by assumption),by rw [hl0],vi (by omega),by omega,by omega,hZ,by omega,q2,hP⟩
  ·have hR1:0<R.length:=List.length_pos_iff.2 hR0
   have mer:=fun a m b=>mer hx _ Z.flatten s R [] a m b hle (by rw [aVy]) hP (by omega) hR1 q2 oR
   rw [← ha,q1] at mer
   obtain ⟨l0,hl0⟩:∃l0,l0=Z.flatten++s++R:=⟨_,rfl⟩
   rw [← hl0] at mer ⊢
   conv=>whnf
   repeat' first|((first|(apply aX.go)|(show CN _ _ _ _ _ _;(refine CN.own 0 rfl rfl (mer _ _ _ (by omega) (by omega) (by omega)) (fun v h' La hl hr=>?_);obtain ⟨M1,o1,p1,rfl⟩:=hr;refine ⟨_,rfl,?_⟩))|((first|apply oI.z|apply cI.z))|refine WN.i64 (by omega) (by omega) ?_) <;> (conv=>whnf))|(show cnd _ _ _;first|(apply aB<;>intro _<;>first|(exfalso;omega)|conv=>whnf)|(apply bI<;>intro _<;>first|(exfalso;omega)|conv=>whnf))
   have hM:=p1.length_eq
   rw [aVo] at hM
   exact ⟨rfl,N-2*bs,by omega,2*bs,Z,M1,rfl,(by (iterate 30 try first|assumption|refine aA.lt ?_ (by assumption));first|done|assumption),by rw [aVy];rfl,vi (by omega),by omega,by omega,hZ,by omega,o1,(p1.append_left _).trans (by rw [← aVt];exact hP)⟩
 | [],hR,hP,hPl=>
  have e1:([]:List (List El)).flatten=[]:=rfl
  rw [e1,aVy] at hP ⊢
  rw [e1,aVv] at hPl
  obtain ⟨l0,hl0⟩:∃l0,l0=Z.flatten++R:=⟨_,rfl⟩
  rw [← hl0]
  conv=>whnf
  repeat' first|((first|(apply aX.go)|((first|apply oI.z|apply cI.z))|refine WN.i64 (by omega) (by omega) ?_) <;> (conv=>whnf))|(show cnd _ _ _;first|(apply aB<;>intro _<;>first|(exfalso;omega)|conv=>whnf)|(apply bI<;>intro _<;>first|(exfalso;omega)|conv=>whnf))
  exact ⟨rfl,N-2*bs,by omega,2*bs,Z,R,rfl,(by assumption),by rw [hl0],vi (by omega),by omega,by omega,hZ,by omega,oR,hP⟩
theorem vE (h:aA) (bp cap N:Nat) (zs:List Value) (l:List El) (hN:l.length=N) (hb:N≤1099511627776) (fw:∀x∈l,iC h x):
  Vc.Fn T F.q171 [.slice (some ⟨bp,0,none⟩) N cap,.func (.func F.q172) #[] #[]] h [cA bp zs l] fun v h' L'=>∃l',bX l'∧l'.Perm l∧L'=[cA bp zs l']:=by
 have c1:=aHb h bp cap N zs l hN hb fw
 refine f1C ok D.q171 rfl ?_
 conv=>whnf
 repeat' first|((first|(show CN _ _ _ _ _ _;(refine CN.own 0 rfl rfl c1 (fun v h' La hl hr=>?_);obtain ⟨M1,o1,p1,rfl⟩:=hr;refine ⟨_,rfl,?_⟩))|((first|apply oI.z|apply cI.z))) <;> (conv=>whnf))
 exact RN.done ⟨M1,o1,p1,rfl⟩
end Go.Proofs.Y