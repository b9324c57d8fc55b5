/- Contracts of the reference's functions on natural numbers (digits to the base 65536), first part. -/
import Derived.Test.YtdccpmlhflpeaaaGreatDoorRep3
set_option linter.all false
set_option maxHeartbeats 4000000
set_option maxRecDepth 20000
namespace Go.Dig
theorem mK{b:Nat}(l:List Nat)(x:Nat):evl b (l++[x])=evl b l+b^l.length*x:=by
 rw[fS,eD,aU];simp
theorem kT{b x:Nat}{l:List Nat}(h:∀y∈l,y<b)(hx:x<b):∀y∈l++[x],y<b:=fun y hy=>by
 rcases bDf.1 hy with hy|hy
 .exact h y hy
 .simp at hy;omega
theorem aBv{b:Nat}{da db xs:List Nat}{k c s:Nat}(hk:xs.length=k)(hs:s=da.getD k 0+c+db.getD k 0)(h:evl b xs+c*b^k=evl b (da.take k)+evl b (db.take k)):
  evl b (xs++[s%b])+s / b*b^(k+1)=evl b (da.take (k+1))+evl b (db.take (k+1)):=by
 rw[mK,etn da,etn db,hk];have h3:b^k*(s%b)+s / b*b^(k+1)=b^k*s:=by
  rw[bEk,bDj (s / b),bEa,<-bEb,bFv]
 have h4:b^k*s=b^k*da.getD k 0+c*b^k+b^k*db.getD k 0:=by rw[hs,bEb,bEb,bDj c]
 omega
theorem aM2{b:Nat}{da db xs:List Nat}{k c c' r:Nat}(hk:xs.length=k)(hr:r+db.getD k 0+c=da.getD k 0+c'*b)(h:evl b xs+evl b (db.take k)=evl b (da.take k)+c*b^k):
  evl b (xs++[r])+evl b (db.take (k+1))=evl b (da.take (k+1))+c'*b^(k+1):=by
 rw[mK,etn da,etn db,hk];have h4:=congrArg (b^k*·) hr;simp only[bEb] at h4;have h5:b^k*(c'*b)=c'*b^(k+1):=by rw[bEk,bE0]
 have h6:b^k*c=c*b^k:=bDj _ _;omega
end Go.Dig
namespace Go.Proofs.Y
open Go Go.Vc Go.Dig
theorem tlb:2<=65536:=Ad

theorem WN.mul16{x y:Nat}{k:Int->Prop}(hx:x<65536)(hy:y<65536)(hk:∀p:Nat,Hq (p=x*y)->p<=4294836225->k p):WN .u64 ((x:Int)*(y:Int)) k:=by
 have h:x*y<=65535*65535:=bFf Aa Aa;have e:((x*y:Nat):Int)=(x:Int)*(y:Int):=by push_cast;rfl
 rw[<-e];exact WN.u64 (Int.natCast_nonneg _) Aa (hk (x*y) ⟨rfl⟩ Aa)
theorem aIq(h:aA)(s:Sl)(l:List Nat)(hw:Ws .u32 h s l)(hl:∀x∈l,x<65536)(hm:l.length<=4398046511104):
  Fn0 T F.q54 [s.val] h fun v h'=>h'=h/\v=.slice s.a (ln 65536 (evl 65536 l)) s.c:=by
 refine f0C ok D.q54 rfl ?_;have hlen:=hw.len;have hcap:=hw.cap;conv=>whnf
 repeat ((first|apply oI.z|apply cI.z);conv=>whnf)
 skip
 refine LpN.of (fun n ρ h' L=>L=[]/\h'=h/\rd ρ 3=.int .i64 n/\n<=l.length/\∀i,n<=i->i<l.length->l.getD i 0=0) l.length ⟨rfl,rfl,vi Aa,bDx _,fun i h1 h2=>by omega⟩ ?_
 conv=>whnf
 repeat intro _
 rename_i n h1 L1 hI;obtain⟨rfl,rfl,e0,hk,hz⟩:=hI;conv at e0=>lhs;whnf
 subst e0;have fin:(n=0\/l.getD (n-1) 0≠0)->ln 65536 (evl 65536 l)=n:=fun he=>by
  unfold ln;rw[aKj tlb hk hl hz he];simp;omega
 conv=>whnf
 repeat' first|((first|(show Idx _ _ _ _ _;refine Idx.ws hw (n-1) Aa Aa (fun ad hv=>?_))|(show Ld _ _ _ _;refine Ld.of (hv _) ?_)|(show lH _ _ _ _ _ _;refine lH.front (s:=s) n Aa Aa ?_)|((first|apply oI.z|apply cI.z))|refine WN.i64 Aa Aa ?_)<;>conv=>whnf)|(show cnd _ _ _;first|((first|apply aB|apply aD)<;>intro _<;>first|(exfalso;omega)|conv=>whnf))
 .refine⟨rfl,n-1,Aa,rfl,rfl,vi Aa,Aa,fun i h1 h2=>?_⟩
  by_cases hi:n<=i
  .exact hz i hi h2
  .obtain rfl:i=n-1:=Aa;omega
 .exact RN.a ⟨rfl,by rw[fin (.inr Aa)]⟩
 .exact RN.a ⟨rfl,by rw[fin (.inl Aa)]⟩
theorem rV{l:List Nat}(hl:∀x∈l,x<65536):ln 65536 (evl 65536 l)<=l.length/\dg 65536 (evl 65536 l)=l.take (ln 65536 (evl 65536 l)):=by
 have h1:ln 65536 (evl 65536 l)<=l.length:=(aL tlb).2 (iS tlb hl);refine⟨h1,?_⟩;apply bG0
 .simp;unfold ln at *;omega
 .intro i a1 a2;have e1:=fY tlb i (evl 65536 l);simp[bC7,a1] at e1;rw[e1];have a3:i<l.length:=by simp at a2;omega
  have e2:=rT tlb hl i;rw[bHt,<-e2,bD6 a3,eD,bHd,bEl (hl _ (bFe a3))]
theorem nF(h:aA)(s:Sl)(l:List Nat)(hw:Ws .u32 h s l)(hl:∀x∈l,x<65536)(hm:l.length<=4398046511104):
  Fn0 T F.q54 [s.val] h fun v h'=>∃s':Sl,v=s'.val/\aS h' s' (evl 65536 l):=
 (aIq h s l hw hl hm).mono fun v h' _ ⟨e1,e2⟩=>⟨⟨s.a,ln 65536 (evl 65536 l),s.c⟩,e2,by
   rw[e1];unfold aS;rw[(rV hl).2];exact hw.take (rV hl).1⟩

theorem kU(h:aA)(n:Nat)(hn:n<18446744073709551616):Fn0 T F.q24 [.int .u64 n] h fun v h'=>∃s':Sl,v=s'.val/\aS h' s' n:=by
 have hln:ln 65536 n<=4:=(aL tlb).2 Aa;refine f0C ok D.q24 rfl ?_;conv=>whnf
 repeat ((first|apply oI.z|apply cI.z);conv=>whnf)
 skip
 refine LpN.of (fun r ρ h' L=>∃(v:Value) (xs:List Nat),h'=h/\rd ρ 0=.int .u64 r/\rd ρ 3=v/\aE Ty.uint32 1 v xs.length (xs.map (vu .u32)) L/\dg 65536 n=xs++dg 65536 r) n
  ⟨_,[],rfl,rfl,rfl,aE.none,rfl⟩ ?_
 conv=>whnf
 repeat intro _
 rename_i r h1 L1 hI;obtain⟨v,xs,rfl,e0,e1,g,hd⟩:=hI;conv at e0=>lhs;whnf
 subst e0;conv at e1=>lhs;whnf
 subst e1;have hlen:=congrArg List.length hd;rw[bC6] at hlen;have hr:r<18446744073709551616:=by
  have e:=bV tlb n;rw[hd,fS,bV tlb] at e;have:1*r<=65536^xs.length*r:=bDq _ (bFi Ad);omega
 conv=>whnf
 repeat' ((first|(show iQ _ _ _;refine iQ.nn Aa Aa ?_)|(show fM _ _ _ _;refine fM.u64 Aa Aa Aa ?_)|(show App _ _ _ _ _ _ _ _ _;(refine App.push rfl g (r%65536) Aa (by unfold ln at hln;omega) Ad (fun v' L' g'=>?_)))|((first|apply oI.z|apply cI.z))|intro (_:Nat)|refine WN.u32 Aa Aa ?_|(apply aB<;>intro _<;>try (exfalso;omega)))<;>conv=>whnf)
 .rename_i g';refine⟨rfl,r / 65536,Aa,_,xs++[r%65536],rfl,vi Aa,rfl,by rw[bC6];exact g',?_⟩
  rw[hd,gT tlb Aa,bDb];rfl
 .obtain rfl:r=0:=Aa;rw[cM,bDg] at hd;exact RN.grow g fun h' s hle hv w=>⟨s,hv,by unfold aS;rw[hd];exact w⟩

theorem rW(h:aA)(a b:Sl)(m n:Nat)(ha:aS h a m)(hb:aS h b n)(la:ln 65536 m<=1099511627776)(lb:ln 65536 n<=1099511627776):
  Fn0 T F.q48 [a.val,b.val] h fun v h'=>h'=h/\v=.int .i64 (iT m n):=by
 have hal:=ha.len;have hbl:=hb.len;refine f0C ok D.q48 rfl ?_;conv=>whnf
 repeat ((first|apply oI.z|apply cI.z);conv=>whnf)
 have n1:ln 65536 m<ln 65536 n->iT m n=-1:=fun hx=>by have:=qQ tlb hx;simp[iT,this]
 have n2:ln 65536 n<ln 65536 m->iT m n=1:=fun hx=>by have:=qQ tlb hx;simp[iT,show ¬m<n by omega,show m≠n by omega]
 repeat' first|((first|((first|apply oI.z|apply cI.z))|refine WN.i64 Aa Aa ?_)<;>conv=>whnf)|(show cnd _ _ _;first|((first|apply aB|apply aD)<;>intro _<;>first|(exfalso;omega)|conv=>whnf)|(refine aJ ?_))
 .refine LpN.of (fun k ρ h' L=>h'=h/\L=[]/\rd ρ 5=.int .i64 ((k:Int)-1)/\k<=ln 65536 m/\∀j,k<=j->(dg 65536 m).getD j 0=(dg 65536 n).getD j 0) (ln 65536 m) ⟨rfl,rfl,vi Aa,bDx _,fun j hj=>by rw[gE hj,gE (by unfold ln at *;omega)]⟩ ?_
  conv=>whnf
  repeat intro _
  rename_i k h1 L1 hI;obtain⟨rfl,rfl,e0,hk,hz⟩:=hI;conv at e0=>lhs;whnf
  subst e0;have hda:=dgl tlb m (k-1);have hdb:=dgl tlb n (k-1);conv=>whnf
  repeat' first|((first|(show Idx _ _ _ _ _;first|(refine Idx.ws ha (k-1) Aa (by unfold ln at *;omega) (fun ad hv=>?_))|(refine Idx.ws hb (k-1) Aa (by unfold ln at *;omega) (fun ad hv=>?_)))|(show Ld _ _ _ _;(refine Ld.of (by first|exact hv _|(rename_i hv;exact hv _)) ?_))|((first|apply oI.z|apply cI.z))|refine WN.i64 Aa Aa ?_|refine DrN.run Al ?_)<;>conv=>whnf)|(show cnd _ _ _;first|((first|apply aB|apply bI)<;>intro _<;>first|(exfalso;omega)|conv=>whnf))
  .exact RN.a ⟨rfl,vi (by have:=yR tlb (l:=dg 65536 m) (m:=dg 65536 n) (k:=k-1) (by unfold ln at *;omega) (kN tlb m) (by unfold ln at *;omega) (fun j hj=>hz j Aa) Aa;rw[bV tlb,bV tlb] at this;simp[iT,this])⟩
  .exact RN.a ⟨rfl,vi (by have:=yR tlb (l:=dg 65536 n) (m:=dg 65536 m) (k:=k-1) (by unfold ln at *;omega) (kN tlb n) (by unfold ln at *;omega) (fun j hj=>(hz j Aa).symm) Aa;rw[bV tlb,bV tlb] at this;simp[iT,show ¬m<n by omega,show m≠n by omega])⟩
  .refine⟨rfl,k-1,Aa,rfl,rfl,vi Aa,Aa,fun j hj=>?_⟩
   by_cases hjk:k<=j
   .exact hz j hjk
   .obtain rfl:j=k-1:=Aa;omega
  .exact RN.a ⟨rfl,vi (by have:=aPo tlb (yS (l:=dg 65536 m) (m:=dg 65536 n) (by unfold ln at *;omega) (fun j=>hz j Aa));subst this;simp[iT])⟩
 .exact RN.a ⟨rfl,vi (n1 Aa).symm⟩
 .exact RN.a ⟨rfl,vi (n2 Aa).symm⟩

theorem mC(h:aA)(a b:Sl)(m n:Nat)(ha:aS h a m)(hb:aS h b n)(la:ln 65536 m<=17179869184)(lb:ln 65536 n<=17179869184):
  Fn0 T F.q45 [a.val,b.val] h fun v h'=>∃s:Sl,v=s.val/\aS h' s (m*n):=by
 have hal:=ha.len;have hbl:=hb.len;have hma:=aT tlb (n:=m);have hmb:=aT tlb (n:=n);have nil:m*n=0->∃s:Sl,Value.slice none 0 0=s.val/\aS h s (m*n):=fun hx=>⟨⟨none,0,0⟩,rfl,by rw[hx];unfold aS;rw[cM];exact Ws.nil rfl⟩
 refine f0C ok D.q45 rfl ?_;conv=>whnf
 repeat' ((first|(show Mk _ _ _;refine Mk.of (ln 65536 m+ln 65536 n) Aa Aa Aa ?_)|refine⟨bDx _,?_⟩|((first|apply oI.z|apply cI.z))|intro (_:Nat)|refine WN.i64 Aa Aa ?_|(apply aD<;>intro _<;>try (exfalso;omega)))<;>conv=>whnf)
 .exact RN.a (nil (by rw[hma.1 Aa];simp))
 .exact RN.a (nil (by rw[hmb.1 Aa];simp))
 rename_i h1 h2 bo;clear hma hmb nil h1 h2;refine LpN.of (fun r ρ h' L=>∃(k:Nat) (o:List Nat),r=ln 65536 m-k/\h'=h/\L=[(bo,Row .u32 Ty.uint32 o)]/\rd ρ 28=.int .i64 k/\k<=ln 65536 m/\o.length=ln 65536 m+ln 65536 n/\(∀x∈o,x<65536)/\(∀j,k+ln 65536 n<=j->o.getD j 0=0)/\
     Hq (evl 65536 o=evl 65536 ((dg 65536 m).take k)*n)) (ln 65536 m)
  ⟨0,List.replicate (ln 65536 m+ln 65536 n) 0,rfl,rfl,by rw[jD],rfl,Aa,by simp,by simp,fun j _=>pH _ _,⟨by rw[iB _ Ao];simp[aU]⟩⟩ ?_
 conv=>whnf
 repeat intro _
 rename_i r h2 L2 hI;obtain⟨k,o,rfl,rfl,rfl,e0,hk,hol,hoB,hoz,heq⟩:=hI;conv at e0=>lhs;whnf
 subst e0;have hda:=dgl tlb m k;conv=>whnf
 repeat' ((first|(show Idx _ _ _ _ _;(refine Idx.ws ha k Aa (by unfold ln at *;omega) (fun ad hv=>?_)))|(show Ld _ _ _ _;(refine Ld.of (by first|exact hv _|(rename_i hv;exact hv _)) ?_))|((first|apply oI.z|apply cI.z))|(apply aB<;>intro _<;>try (exfalso;omega)))<;>conv=>whnf)
 .refine LpN.of (fun r ρ h' L=>∃(j:Nat) (o:List Nat) (c:Nat),r=ln 65536 n-j/\h'=h2/\L=[(bo,Row .u32 Ty.uint32 o)]/\rd ρ 35=.int .i64 j/\rd ρ 8=.int .u64 c/\j<=ln 65536 n/\o.length=ln 65536 m+ln 65536 n/\(∀x∈o,x<65536)/\(∀i,k+ln 65536 n<=i->o.getD i 0=0)/\c<65536/\
      Hq (evl 65536 o+c*65536^(k+j)=evl 65536 ((dg 65536 m).take k)*n+65536^k*((dg 65536 m).getD k 0*evl 65536 ((dg 65536 n).take j)))) (ln 65536 n)
   ⟨0,o,0,rfl,rfl,rfl,rfl,rfl,Aa,hol,hoB,hoz,Aa,⟨by simp[aU,heq.out]⟩⟩ ?_
  conv=>whnf
  repeat intro _
  rename_i r h3 L3 hI;obtain⟨j,o,c,rfl,rfl,rfl,e0,e1,hj,hol,hoB,hoz,hc,heq⟩:=hI;conv at e0=>lhs;whnf
  subst e0;conv at e1=>lhs;whnf
  subst e1;have hdb:=dgl tlb n j;have hdo:=eM (b:=65536) Aa hoB (k+j);conv=>whnf
  repeat' ((first|(show Idx _ _ _ _ _;first|(refine Idx.ws hb j Aa (by unfold ln at *;omega) (fun ad hv=>?_))|refine Idx.own (k+j) Aa Aa ?_)|(show Ld _ _ _ _;first|(refine Ld.of (by first|exact hv _|(rename_i hv;exact hv _)) ?_)|refine Ld.ws 0 rfl Aa ?_)|(show iQ _ _ _;refine iQ.nn Aa Aa ?_)|(show fM _ _ _ _;refine fM.u64 Aa Aa Aa ?_)|(show WN _ _ _;first|refine WN.mul16 hda hdb (fun p hp hp'=>?_)|refine WN.i64 Aa Aa ?_|refine WN.u64 Aa Aa ?_|refine WN.u32 Aa Aa ?_)|(show Sto _ _ _ _;(rename_i p hp hp';refine Sto.ws 0 rfl ((p+o.getD (k+j) 0+c)%65536) Aa Aa ?_))|((first|apply oI.z|apply cI.z))|(apply aB<;>intro _<;>try (exfalso;omega)))<;>conv=>whnf)
  .rename_i p hp hp';refine⟨rfl,ln 65536 n-(j+1),Aa,j+1,_,(p+o.getD (k+j) 0+c) / 65536,rfl,rfl,rfl,vi Aa,vi Aa,Aa,by simp[hol],aM hoB (bE3 _ Aa),fun i hi=>by rw[cT _ Aa];exact hoz i hi,Aa,⟨?_⟩⟩
   have:=aFp (b:=65536) (p:=k+j) (o:=o) (s:=p+o.getD (k+j) 0+c) (x:=(dg 65536 m).getD k 0) (y:=(dg 65536 n).getD j 0) Aa (by rw[hp.out]) heq.out;rw[show k+(j+1)=k+j+1 by omega,this,etn,bEb,bEb,bEs]
   congr 2
   rw[bEa,bE0 ((dg 65536 m).getD k 0)]
  .obtain rfl:j=ln 65536 n:=Aa;refine Sto.ws 0 rfl c Aa Aa ?_;conv=>whnf
   repeat' ((first|((first|apply oI.z|apply cI.z))|refine WN.i64 Aa Aa ?_)<;>conv=>whnf)
   refine⟨rfl,ln 65536 m-(k+1),Aa,k+1,_,rfl,rfl,rfl,vi Aa,Aa,by simp[hol],aM hoB Aa,fun i hi=>by rw[cT _ Aa];exact hoz i Aa,⟨?_⟩⟩
   have e:=rS (b:=65536) (l:=o) (k:=k+ln 65536 n) c Aa;rw[hoz _ (bDx _),bFc,bEh,bDj _ c,heq.out,eY tlb (bDx _)] at e;rw[e,etn,bEc,bEa]
 .obtain rfl:k=ln 65536 m:=Aa;refine CN.keep 0 rfl rfl fun hle=>?_
  refine CN.f rfl (nF _ ⟨some ⟨bo,0,none⟩,ln 65536 m+ln 65536 n,ln 65536 m+ln 65536 n⟩ o (Ws.row (by simp[hol])) hoB Aa) (fun v h' hl hr=>?_)
  obtain⟨s',rfl,hs⟩:=hr;conv=>whnf
  repeat ((first|apply oI.z|apply cI.z);conv=>whnf)
  refine RN.a ⟨s',rfl,?_⟩;have heq:=heq.out;rw[eY tlb (bDx _)] at heq
  rwa [heq] at hs

theorem xR(k n:Nat):k<ln 65536 n\/(dg 65536 n).getD k 0=0:=by
 rcases bEp k (ln 65536 n) with h|h
 .exact .inl h
 .exact .inr (gE h)
theorem aM3(h:aA)(a b:Sl)(m n:Nat)(ha:aS h a m)(hb:aS h b n)(la:ln 65536 m<=1099511627776)(lb:ln 65536 n<=1099511627776):
  Fn0 T F.q47 [a.val,b.val] h fun v h'=>∃s:Sl,v=s.val/\aS h' s (m+n):=by
 have hal:=ha.len;have hbl:=hb.len;refine f0C ok D.q47 rfl ?_;conv=>whnf
 repeat ((first|apply oI.z|apply cI.z);conv=>whnf)
 refine aQ.cut (fun ρ h' L=>L=[]/\h'=h/\∃(a b:Sl) (m' n':Nat),rd ρ 0=a.val/\rd ρ 1=b.val/\aS h a m'/\aS h b n'/\m'+n'=m+n/\ln 65536 n'<=ln 65536 m'/\ln 65536 m'<=1099511627776) ?_ ?_
 .conv=>whnf
  repeat' ((first|((first|apply oI.z|apply cI.z))|(apply aB<;>intro _<;>try (exfalso;omega)))<;>conv=>whnf)
  .exact⟨rfl,rfl,rfl,b,a,n,m,rfl,rfl,hb,ha,Aa,Aa,Aa⟩
  .exact⟨rfl,rfl,rfl,a,b,m,n,rfl,rfl,ha,hb,Aa,Aa,Aa⟩
 clear ha hb hal hbl;conv=>whnf
 repeat intro _
 rename_i h1 L1 hJ;obtain⟨rfl,rfl,a,b,m',n',e0,e1,ha,hb,hmn,hln,hlm⟩:=hJ;conv at e0=>lhs;whnf
 subst e0;conv at e1=>lhs;whnf
 subst e1;have hal:=ha.len;have hbl:=hb.len;conv=>whnf
 repeat' ((first|(show Mk _ _ _;first|refine Mk.of 0 Aa Aa Aa ?_|refine Mk.of (ln 65536 m'+1) Aa Aa Aa ?_)|refine⟨bDw _,?_⟩|((first|apply oI.z|apply cI.z))|intro (_:Nat)|refine WN.i64 Aa Aa ?_)<;>conv=>whnf)
 refine LpN.of (fun r ρ h' L=>∃(k:Nat) (v:Value) (xs:List Nat) (c:Nat),r=ln 65536 m'-k/\h'=h1/\rd ρ 22=.int .i64 k/\rd ρ 6=.int .u32 c/\rd ρ 5=v/\aE Ty.uint32 1 v k (xs.map (vu .u32)) L/\k<=ln 65536 m'/\xs.length=k/\(∀x∈xs,x<65536)/\c<=1/\
     evl 65536 xs+c*65536^k=evl 65536 ((dg 65536 m').take k)+evl 65536 ((dg 65536 n').take k)) (ln 65536 m')
  ⟨0,_,[],0,rfl,rfl,rfl,rfl,rfl,aE.new 0 rfl,Aa,rfl,by simp,Aa,by simp[aU]⟩ ?_
 conv=>whnf
 repeat intro _
 rename_i r h2 L2 hI;obtain⟨k,v,xs,c,rfl,rfl,e0,e1,e2,g,hk,hol,hoB,hc,heq⟩:=hI;conv at e0=>lhs;whnf
 subst e0;conv at e1=>lhs;whnf
 subst e1;conv at e2=>lhs;whnf
 subst e2;have hda:=dgl tlb m' k;have hdb:=dgl tlb n' k;have hz:=xR k n';conv=>whnf
 repeat' ((first|(apply aQ.go)|(show Idx _ _ _ _ _;first|(refine Idx.ws ha k Aa (by unfold ln at *;omega) (fun ad hv=>?_))|(refine Idx.ws hb k Aa (by unfold ln at *;omega) (fun ad hv=>?_)))|(show Ld _ _ _ _;(refine Ld.of (by first|exact hv _|(rename_i hv;exact hv _)) ?_))|(show iQ _ _ _;refine iQ.nn Aa Aa ?_)|(show fM _ _ _ _;refine fM.u32 Aa Aa Aa ?_)|(show App _ _ _ _ _ _ _ _ _;first|refine App.push rfl g (((dg 65536 m').getD k 0+c+(dg 65536 n').getD k 0)%65536) Aa Aa Ad (fun v' L' g'=>?_)|refine App.push rfl g c Aa Aa Ad (fun v' L' g'=>?_))|((first|apply oI.z|apply cI.z))|intro (_:Nat)|(show WN _ _ _;first|refine WN.i64 Aa Aa ?_|refine WN.u32 Aa Aa ?_)|(apply aB<;>intro _<;>try (exfalso;omega)))<;>conv=>whnf)
 .exact⟨rfl,ln 65536 m'-(k+1),Aa,k+1,_,_,((dg 65536 m').getD k 0+c+(dg 65536 n').getD k 0) / 65536,rfl,rfl,vi Aa,vi Aa,rfl,g',Aa,by simp[hol],kT hoB (bE3 _ Aa),Aa,aBv hol rfl heq⟩
 .exact⟨rfl,ln 65536 m'-(k+1),Aa,k+1,_,_,((dg 65536 m').getD k 0+c+(dg 65536 n').getD k 0) / 65536,rfl,rfl,vi Aa,vi Aa,rfl,g',Aa,by simp[hol],kT hoB (bE3 _ Aa),Aa,aBv hol rfl heq⟩
 all_goals
  obtain rfl:k=ln 65536 m':=Aa;rw[eY tlb (bDx _),eY tlb hln,hmn] at heq
 .have e:evl 65536 (xs++[c])=m+n:=by rw[mK,hol,bDj];exact heq
  refine RN.grow g' fun h' s hle hv w=>⟨s,hv,?_⟩
  unfold aS;rw[<-e,aKp tlb (kT hoB Aa) (.inr ?_)]
  .exact w
  .rw[mK,bC6,hol];have:65536^ln 65536 m'*1<=65536^ln 65536 m'*c:=bD2 _ Aa;simp;omega
 .obtain rfl:c=0:=Aa;rw[bEv,bEh] at heq;refine RN.grow g fun h' s hle hv w=>⟨s,hv,?_⟩
  unfold aS;rw[<-heq,aKp tlb hoB ?_]
  .exact w
  .by_cases h0:ln 65536 m'=0
   .exact .inl Aa
   .refine .inr ?_;rw[heq,hol];have:=iA (n:=m') (k:=ln 65536 m'-1) tlb Aa;omega

theorem aM4(h:aA)(a b:Sl)(m n:Nat)(ha:aS h a m)(hb:aS h b n)(la:ln 65536 m<=1099511627776)(hnm:n<=m):
  Fn0 T F.q49 [a.val,b.val] h fun v h'=>∃s:Sl,v=s.val/\aS h' s (m-n):=by
 have hal:=ha.len;have hbl:=hb.len;have hln:=dH tlb hnm;refine f0C ok D.q49 rfl ?_;conv=>whnf
 repeat' ((first|(show Mk _ _ _;first|refine Mk.of 0 Aa Aa Aa ?_|refine Mk.of (ln 65536 m) Aa Aa Aa ?_)|refine⟨bDw _,?_⟩|((first|apply oI.z|apply cI.z))|intro (_:Nat))<;>conv=>whnf)
 refine LpN.of (fun r ρ h' L=>∃(k:Nat) (v:Value) (xs:List Nat) (c:Nat),r=ln 65536 m-k/\h'=h/\rd ρ 15=.int .i64 k/\rd ρ 6=.int .u32 c/\rd ρ 5=v/\aE Ty.uint32 1 v k (xs.map (vu .u32)) L/\k<=ln 65536 m/\xs.length=k/\(∀x∈xs,x<65536)/\c<=1/\
     evl 65536 xs+evl 65536 ((dg 65536 n).take k)=evl 65536 ((dg 65536 m).take k)+c*65536^k) (ln 65536 m)
  ⟨0,_,[],0,rfl,rfl,rfl,rfl,rfl,aE.new 0 rfl,Aa,rfl,by simp,Aa,by simp[aU]⟩ ?_
 conv=>whnf
 repeat intro _
 rename_i r h2 L2 hI;obtain⟨k,v,xs,c,rfl,rfl,e0,e1,e2,g,hk,hol,hoB,hc,heq⟩:=hI;conv at e0=>lhs;whnf
 subst e0;conv at e1=>lhs;whnf
 subst e1;conv at e2=>lhs;whnf
 subst e2;have hda:=dgl tlb m k;have hdb:=dgl tlb n k;have hz:=xR k n;obtain⟨x,hx⟩:=AB (if (dg 65536 m).getD k 0<c+(dg 65536 n).getD k 0 then (dg 65536 m).getD k 0+65536-(c+(dg 65536 n).getD k 0) else (dg 65536 m).getD k 0-(c+(dg 65536 n).getD k 0))
 conv=>whnf
 repeat' ((first|(apply aQ.go)|(show Idx _ _ _ _ _;first|(refine Idx.ws ha k Aa (by unfold ln at *;omega) (fun ad hv=>?_))|(refine Idx.ws hb k Aa (by unfold ln at *;omega) (fun ad hv=>?_)))|(show Ld _ _ _ _;(refine Ld.of (by first|exact hv _|(rename_i hv;exact hv _)) ?_))|(show App _ _ _ _ _ _ _ _ _;(refine App.push rfl g x (by split at hx<;>omega) Aa Ad (fun v' L' g'=>?_)))|((first|apply oI.z|apply cI.z))|intro (_:Nat)|(show WN _ _ _;first|refine WN.i64 Aa Aa ?_|refine WN.u32 Aa Aa ?_)|(apply aB<;>intro _<;>try (exfalso;omega)))<;>conv=>whnf)
 rotate_right
 .obtain rfl:k=ln 65536 m:=Aa;rw[eY tlb (bDx _),eY tlb hln] at heq;refine CN.grow g rfl fun h' L' s hle hv w=>?_
  rw[hv];refine CN.f rfl (nF _ s xs w hoB Aa) (fun v h' hl hr=>?_)
  obtain⟨s',rfl,hs⟩:=hr;conv=>whnf
  repeat ((first|apply oI.z|apply cI.z);conv=>whnf)
  refine RN.a ⟨s',rfl,?_⟩;have hlt:=iS tlb hoB;rw[hol] at hlt;have:evl 65536 xs=m-n:=by
   match c,hc with
   | 0,_=>omega
   | 1,_=>omega
  rwa [this] at hs
 all_goals
  refine⟨rfl,ln 65536 m-(k+1),Aa,k+1,_,_,(if (dg 65536 m).getD k 0<c+(dg 65536 n).getD k 0 then 1 else 0),rfl,rfl,vi Aa,vi Ay,rfl,g',Aa,by simp[hol],kT hoB (by split at hx<;>omega),by split<;>omega,aM2 (c:=c) hol (by split at hx<;>split<;>omega) heq⟩
end Go.Proofs.Y
/- Contracts of the reference's functions on natural numbers (digits to the base 65536), second part: words, bits, powers, shifts, division by a digit. -/
namespace Go.Dig
theorem nG(m:Nat):ln 4294967296 m=(ln 65536 m+1) / 2:=by
 have key:∀k,ln 4294967296 m<=k↔ln 65536 m<=2*k:=fun k=>by
  rw[aL Ad,aL Ad,bFz]
 have h1:=(key (ln 4294967296 m)).1 (bDx _);have h2:=(key ((ln 65536 m+1) / 2)).2 Aa;omega
theorem word_digit(m k:Nat):m / 4294967296^k%4294967296=m / 65536^(2*k)%65536+65536*(m / 65536^(2*k+1)%65536):=by
 have e1:(4294967296:Nat)^k=65536^(2*k):=by rw[bFz]
 rw[e1,bEk,<-bEu]
 generalize m / 65536^(2*k)=x
 omega
end Go.Dig
namespace Go.Proofs.Y
open Go Go.Vc Go.Dig

theorem qT(h:aA)(s:Sl)(l:List Nat)(hw:Ws .u32 h s l)(hl:∀x∈l,x<4294967296)(hm:l.length<=1099511627776):
  Fn0 T F.q23 [s.val] h fun v h'=>∃s':Sl,v=s'.val/\aS h' s' (evl 4294967296 l):=by
 have hlen:=hw.len;refine f0C ok D.q23 rfl ?_;conv=>whnf
 repeat ((first|apply oI.z|apply cI.z);conv=>whnf)
 skip
 refine LpN.of (fun r ρ h' L=>∃(k:Nat) (v:Value) (xs:List Nat),r=l.length-k/\h'=h/\rd ρ 8=.int .i64 k/\rd ρ 3=v/\aE Ty.uint32 1 v (2*k) (xs.map (vu .u32)) L/\k<=l.length/\xs.length=2*k/\(∀x∈xs,x<65536)/\evl 65536 xs=evl 4294967296 (l.take k)) l.length
  ⟨0,_,[],rfl,rfl,rfl,rfl,aE.none,Aa,rfl,by simp,by simp[aU]⟩ ?_
 conv=>whnf
 repeat intro _
 rename_i r h1 L1 hI;obtain⟨k,v,xs,rfl,rfl,e0,e1,g,hk,hxl,hxB,heq⟩:=hI;conv at e0=>lhs;whnf
 subst e0;conv at e1=>lhs;whnf
 subst e1;have hd:=eM (b:=4294967296) Aa hl k;conv=>whnf
 repeat' ((first|(show Idx _ _ _ _ _;refine Idx.ws hw k Aa Aa (fun ad hv=>?_))|(show Ld _ _ _ _;(refine Ld.of (by first|exact hv _|(rename_i hv;exact hv _)) ?_))|(show iQ _ _ _;refine iQ.nn Aa Aa ?_)|(show fM _ _ _ _;refine fM.u32 Aa Aa Aa ?_)|(show App _ _ _ _ _ _ _ _ _;refine App.push2 rfl g (l.getD k 0%65536) (l.getD k 0 / 65536) Aa Aa Aa Ad (fun v' L' g'=>?_))|((first|apply oI.z|apply cI.z))|intro (_:Nat)|refine WN.i64 Aa Aa ?_|(apply aB<;>intro _<;>try (exfalso;omega)))<;>conv=>whnf)
 .refine⟨rfl,l.length-(k+1),Aa,k+1,v',_,rfl,rfl,vi Aa,rfl,(by rw[show 2*(k+1)=2*k+2 by omega];exact g'),Aa,by simp;omega,?_,?_⟩
  .intro y hy;rcases bDf.1 hy with hy|hy
   .exact hxB y hy
   .rcases bDp.1 hy with rfl|hy
    .omega
    .rcases bDp.1 hy with rfl|hy
     .omega
     .cases hy
  .rw[fS,hxl,heq,etn,bFz]
   congr 1
   simp only[eD,aU];rw[show (65536:Nat)^2=4294967296 by decide,bFc,bEh,bFv]
 .obtain rfl:k=l.length:=Aa;rw[bDm] at heq;refine CN.grow g rfl fun h' L' s hle hv w=>?_
  rw[hv];refine CN.f rfl (nF _ s xs w hxB Aa) (fun v h' hl hr=>?_)
  obtain⟨s',rfl,hs⟩:=hr;conv=>whnf
  repeat ((first|apply oI.z|apply cI.z);conv=>whnf)
  exact RN.a ⟨s',rfl,by rw[<-heq];exact hs⟩

theorem aKv(h:aA)(s:Sl)(m:Nat)(hw:aS h s m)(hm:ln 65536 m<=1099511627776):
  Fn0 T F.q57 [s.val] h fun v h'=>∃s':Sl,v=s'.val/\aI h' s' m:=by
 have hlen:=hw.len;have hh:=nG m;refine f0C ok D.q57 rfl ?_;conv=>whnf
 repeat ((first|apply oI.z|apply cI.z);conv=>whnf)
 skip
 refine LpN.of (fun r ρ h' L=>∃(k:Nat) (v:Value) (xs:List Nat),r=ln 4294967296 m-k/\h'=h/\rd ρ 4=.int .i64 (2*k:Nat)/\rd ρ 3=v/\aE Ty.uint32 1 v k (xs.map (vu .u32)) L/\k<=ln 4294967296 m/\xs=(dg 4294967296 m).take k) (ln 4294967296 m)
  ⟨0,_,[],rfl,rfl,rfl,rfl,aE.none,Aa,by simp⟩ ?_
 conv=>whnf
 repeat intro _
 rename_i r h1 L1 hI;obtain⟨k,v,xs,rfl,rfl,e0,e1,g,hk,hxs⟩:=hI;conv at e0=>lhs;whnf
 subst e0;conv at e1=>lhs;whnf
 subst e1;have hd:=dgl tlb m (2*k);have hd1:=dgl tlb m (2*k+1);have hwd:(dg 4294967296 m).getD k 0=(dg 65536 m).getD (2*k) 0+65536*(dg 65536 m).getD (2*k+1) 0:=by
  rw[fY tlB,fY tlb,fY tlb,word_digit]
 have hz:=xR (2*k+1) m;conv=>whnf
 repeat' ((first|(apply aQ.go)|(show Idx _ _ _ _ _;first|(refine Idx.ws hw (2*k) Aa (by unfold ln at *;omega) (fun ad hv=>?_))|(refine Idx.ws hw (2*k+1) Aa (by unfold ln at *;omega) (fun ad hv=>?_)))|(show Ld _ _ _ _;(refine Ld.of (by first|exact hv _|(rename_i hv;exact hv _)) ?_))|(show App _ _ _ _ _ _ _ _ _;refine App.push rfl g ((dg 4294967296 m).getD k 0) Aa Aa Ad (fun v' L' g'=>?_))|((first|apply oI.z|apply cI.z))|intro (_:Nat)|(show WN _ _ _;first|refine WN.i64 Aa Aa ?_|refine WN.u32 Aa Aa ?_)|(apply aB<;>intro _<;>try (exfalso;omega)))<;>conv=>whnf)
 rotate_right
 .obtain rfl:k=ln 4294967296 m:=Aa;refine RN.grow g fun h' s hle hv w=>⟨s,hv,?_⟩
  unfold aI;rw[hxs] at w;unfold ln at w
  rwa [bDm] at w
 all_goals
  refine⟨rfl,ln 4294967296 m-(k+1),Aa,k+1,v',_,rfl,rfl,vi Aa,rfl,g',Aa,?_⟩;rw[hxs,List.take_succ_eq_append_getElem (by unfold ln at *;omega)];simp[bC7,show k<(dg 4294967296 m).length by unfold ln at *;omega]

end Go.Proofs.Y
/- Contracts of the reference's functions on natural numbers (digits to the base 65536), third part: division by a digit, shifts, what long division calls. -/
namespace Go.Dig
theorem aFy{N k r:Nat}(hr:r<=15):(N / 65536^k%65536+65536*(N / 65536^(k+1)%65536)) / 2^r%65536=N / 2^r / 65536^k%65536:=by
 have e1:N / 65536^(k+1)=N / 65536^k / 65536:=by rw[bEk,bEu]
 rw[e1,show N / 2^r / 65536^k=N / 65536^k / 2^r by rw[bEu,bDj,<-bEu]]
 generalize N / 65536^k=M
 rw[<-Nat.mod_mul];have e2:(65536*65536:Nat)=2^r*(65536*2^(16-r)):=by
  rw[bE0,<-bEs,show r+(16-r)=16 by omega]
 rw[e2,Nat.mod_mul_right_div_self,Nat.mod_mul_right_mod]
end Go.Dig
namespace Go.Proofs.Y
open Go Go.Vc Go.Dig

theorem aP8(h:aA)(a:Sl)(m d:Nat)(ha:aS h a m)(la:ln 65536 m<=17179869184)(hd:d<65536)(h0:0<d):
  Fn0 T F.q101 [a.val,.int .u32 d] h fun v h'=>∃s:Sl,v=.tuple #[s.val,.int .u32 (m%d:Nat)]/\aS h' s (m / d):=by
 have hal:=ha.len;refine f0C ok D.q101 rfl ?_;conv=>whnf
 repeat' ((first|(show Mk _ _ _;refine Mk.of (ln 65536 m) Aa Aa Aa ?_)|refine⟨bDx _,?_⟩|intro (bo:Nat)|((first|apply oI.z|apply cI.z))|refine WN.i64 Aa Aa ?_)<;>conv=>whnf)
 refine LpN.of (fun k ρ h' L=>∃(o:List Nat) (c:Nat),h'=h/\L=[(bo,Row .u32 Ty.uint32 o)]/\rd ρ 8=.int .i64 ((k:Int)-1)/\rd ρ 7=.int .u32 c/\k<=ln 65536 m/\o.length=ln 65536 m/\(∀x∈o,x<65536)/\c<d/\Hq (evl 65536 ((dg 65536 m).drop k)=evl 65536 (o.drop k)*d+c)) (ln 65536 m)
  ⟨List.replicate (ln 65536 m) 0,0,rfl,by rw[jD],vi Aa,rfl,bDx _,by simp,by simp,h0,⟨by rw[bGg (by unfold ln;omega),bGg Ao];simp[aU]⟩⟩ ?_
 conv=>whnf
 repeat intro _
 rename_i k h2 L2 hI;obtain⟨o,c,rfl,rfl,e0,e1,hk,hol,hoB,hc,heq⟩:=hI;conv at e0=>lhs;whnf
 subst e0;conv at e1=>lhs;whnf
 subst e1;have hda:=dgl tlb m (k-1);obtain⟨p,hp⟩:=AB (c*65536);obtain⟨s,hs⟩:=AB ((dg 65536 m).getD (k-1) 0+p);have hq:Hq (s / d<65536):=⟨by
   rw[bEi h0];have:(c+1)*65536<=d*65536:=bDq _ hc;omega⟩
 obtain⟨q,hqd⟩:=AB (s / d);obtain⟨z,hzd⟩:=AB (s%d);have hz:z<d:=by rw[hzd];exact bE3 _ h0
 have hqz:Hq (s=q*d+z):=⟨by rw[hqd,hzd,bDj,bFw]⟩
 have hqB:=hq.out;rw[<-hqd] at hqB;have eq1:((s:Int) / (d:Int))=(q:Int):=by rw[hqd];rfl
 have eq2:((s:Int)%(d:Int))=(z:Int):=by rw[hzd];rfl
 replace hqd:=Hq.mk hqd;replace hzd:=Hq.mk hzd;conv=>whnf
 repeat' ((first|(show WN _ _ _;first|refine WN.u32v p Aa ?_|refine WN.u32v s Aa ?_|refine WN.i64 Aa Aa ?_)|(show Idx _ _ _ _ _;first|(refine Idx.ws ha (k-1) Aa (by unfold ln at *;omega) (fun ad hv=>?_))|refine Idx.own (k-1) Aa Aa ?_)|(show Ld _ _ _ _;(refine Ld.of (by first|exact hv _|(rename_i hv;exact hv _)) ?_))|(show fM _ _ _ _;(refine fM.u32 Aa Aa Aa ?_;rw[eq1]))|(show iQ _ _ _;(refine iQ.nn Aa Aa ?_;rw[eq2]))|(show Sto _ _ _ _;refine Sto.ws 0 rfl q Aa Aa ?_)|((first|apply oI.z|apply cI.z))|(apply bI<;>intro _<;>try (exfalso;omega)))<;>conv=>whnf)
 .obtain⟨k,rfl⟩:∃k',k=k'+1:=⟨k-1,Aa⟩
  have heq:evl 65536 ((dg 65536 m).drop (k+1))=evl 65536 (o.drop (k+1))*d+c:=heq.out;refine⟨rfl,k,Aa,_,z,rfl,rfl,vi Aa,vi Aa,Aa,by simp[hol],aM hoB hqB,hz,⟨?_⟩⟩
  show evl 65536 ((dg 65536 m).drop k)=evl 65536 ((o.set k q).drop k)*d+z
  rw[kQ (k:=k) (l:=dg 65536 m) (by unfold ln at *;omega),kQ (k:=k) (l:=o.set k q) Aq,fD _ Aa,qR,heq,bEc,bEa,bEb];have:=hqz.out;have hs:s=(dg 65536 m).getD k 0+p:=hs;omega
 .obtain rfl:k=0:=Aa;refine CN.keep 0 rfl rfl fun hle=>?_
  refine CN.f rfl (nF _ ⟨some ⟨bo,0,none⟩,ln 65536 m,ln 65536 m⟩ o (Ws.row (by simp[hol])) hoB Aa) (fun v h' hl hr=>?_)
  obtain⟨s',rfl,hs⟩:=hr;conv=>whnf
  repeat ((first|apply oI.z|apply cI.z);conv=>whnf)
  skip
  have heq:=heq.out;rw[bE5,bE5,bV tlb] at heq;have e1:m / d=evl 65536 o:=by rw[heq,bGj,Nat.add_mul_div_right _ _ h0,bEx hc,bDu]
  have e2:m%d=c:=by rw[heq,bDj,Nat.mul_add_mod,bEl hc]
  refine RN.a ⟨s',by rw[e2],?_⟩
  rwa [e1]

theorem CN.trim{h:aA}{L:Own}{k:Value->aA->Own->Prop}{v:Value}{n:Nat}{xs:List Nat}(g:aE Ty.uint32 1 v n (xs.map (vu .u32)) L)(hx:∀x∈xs,x<65536)(hm:xs.length<=4398046511104)
  (hk:∀v' h',h.le h'->aE Ty.uint32 1 v' (ln 65536 (evl 65536 xs)) ((dg 65536 (evl 65536 xs)).map (vu .u32)) L->k v' h' L):CN T F.q54 [v] h L k:=by
 obtain⟨h1,h2⟩:=rV hx;obtain⟨e4,⟨rfl,rfl⟩|⟨i,b,cap,zs,rfl,e2,e3,e5⟩⟩:=g
 .obtain rfl:xs=[]:=by simpa using e4
  refine CN.quiet rfl (aIq h ⟨none,0,0⟩ [] (Ws.nil rfl) hx hm) (hk _ _ (aA.lr _) ?_);rw[aU,nD,cM];exact aE.nil _ _ _
 .have hn:n=xs.length:=by simpa using e4.symm
  refine CN.lend i e2 rfl (fun _=>(aIq _ ⟨some ⟨b,0,none⟩,n,cap⟩ xs (Ws.grown hn e3) hx hm).mono fun v h' _ r=>r.2) fun v' h' hl e=>?_
  rw[e];have e6:(dg 65536 (evl 65536 xs)).map (vu .u32)++((xs.drop (ln 65536 (evl 65536 xs))).map (vu .u32)++zs)=xs.map (vu .u32)++zs:=by
   rw[h2,<-bDb,<-bDl,bDo]
  refine hk _ _ hl ⟨by simp;unfold ln;rfl,.inr ⟨i,b,cap,(xs.drop (ln 65536 (evl 65536 xs))).map (vu .u32)++zs,rfl,?_,Aa,?_⟩⟩
  .rw[e2,e6]
  .rw[e6];exact e5

theorem aBw(h:aA)(a:Sl)(m n:Nat)(ha:aS h a m)(la:ln 65536 m<=17179869184)(hn:n<=549755813888):
  Vc.Fn T F.q102 [a.val,.int .i64 n] h [] fun v _ L'=>aE Ty.uint32 1 v (ln 65536 (m*2^n)) ((dg 65536 (m*2^n)).map (vu .u32)) L':=by
 have hal:=ha.len;have hma:=aT tlb (n:=m);obtain⟨r,hr⟩:=AB (n%16);obtain⟨q,hq⟩:=AB (n / 16);have hr15:r<=15:=Aa;have hpow:Hq (2^n=2^r*65536^q):=⟨by
   rw[show (65536:Nat)=2^16 from rfl,<-bFz,<-bEs];congr 1;omega⟩
 have hcase:(ln 65536 m=0\/n=0)->m*2^n=m:=fun hh=>by
  rcases hh with hh|hh
  .rw[hma.1 hh,bEv]
  .rw[hh,bH1,bFm]
 clear hma;refine f1C ok D.q102 rfl ?_;conv=>whnf
 repeat' first|((first|(show App _ _ _ _ _ _ _ _ _;(refine App.any (s:=.slice _ _ _) rfl (aE.new (z:=.int .u32 0) (kd:=.u32) 0 rfl) ha (by unfold ln at *;omega) Ad (fun v' L' g=>?_)))|(show fM _ _ _ _;refine fM.i64 Aa Aa Aa ?_)|(show Mk _ _ _;first|refine Mk.of q Aa Aa Aa ?_|refine Mk.of (q+ln 65536 m+1) Aa Aa Aa ?_)|refine⟨show q<=q+ln 65536 m+1 by omega,?_⟩|((first|apply oI.z|apply cI.z))|intro (_:Nat)|refine WN.i64 Aa Aa ?_)<;>conv=>whnf)|(show cnd _ _ _;first|((first|apply bI|apply aD)<;>intro _<;>first|(exfalso;omega)|conv=>whnf))
 .rw[hcase (.inl Aa)];refine RN.done ?_
  simpa[ln] using g
 .rw[hcase (.inr Aa)];refine RN.done ?_
  simpa[ln] using g
 clear hcase;refine LpN.of (fun d ρ h' L=>∃(k:Nat) (v:Value) (xs:List Nat) (c:Nat),d=ln 65536 m-k/\h'=h/\rd ρ 31=.int .i64 k/\rd ρ 6=.int .u32 c/\rd ρ 5=v/\aE Ty.uint32 1 v (q+k) (xs.map (vu .u32)) L/\k<=ln 65536 m/\xs.length=q+k/\(∀x∈xs,x<65536)/\c<32768/\Hq (c<2^r)/\
     Hq (evl 65536 xs+c*65536^(q+k)=evl 65536 ((dg 65536 m).take k)*(2^r*65536^q))) (ln 65536 m)
  ⟨0,_,List.replicate q 0,0,rfl,rfl,rfl,rfl,rfl,aE.zero 0 rfl Aa,Aa,by simp,by simp,Aa,⟨bEr r⟩,⟨by rw[iB 65536 (l:=List.replicate q 0) Ao];simp[aU]⟩⟩ ?_
 conv=>whnf
 repeat intro _
 rename_i rr h2 L2 hI;obtain⟨k,v,xs,c,rfl,rfl,e0,e1,e2,g,hk,hol,hoB,hcB,hc,heq⟩:=hI;conv at e0=>lhs;whnf
 subst e0;conv at e1=>lhs;whnf
 subst e1;conv at e2=>lhs;whnf
 subst e2;have hda:=dgl tlb m k;have hpr:Hq (2^r<=32768):=⟨bD8 (n:=2) Aa hr15⟩;conv=>whnf
 repeat' ((first|(show Idx _ _ _ _ _;(refine Idx.ws ha k Aa (by unfold ln at *;omega) (fun ad hv=>?_)))|(show Ld _ _ _ _;(refine Ld.of (by first|exact hv _|(rename_i hv;exact hv _)) ?_))|(show iQ _ _ _;refine iQ.nn Aa Aa ?_)|(show kK _ _ _ _;refine kK.u32p (r:=r) rfl Aa hda hr15 (fun p hp hp'=>?_))|((first|apply oI.z|apply cI.z))|intro (_:Nat)|refine WN.u64 Aa Aa ?_|(apply aB<;>intro _<;>try (exfalso;omega)))<;>conv=>whnf)
 .rename_i hv p hp hp';have hp0:p%2^r=0:=by rw[hp.out];exact Nat.mul_mod_left _ _
  refine kL.orq c p r rfl rfl hc.out hp0 (by show _<4294967296;omega) (by show _<4294967296;omega) rfl (fun _=>?_)
  obtain⟨s,hs⟩:=AB (c+p);rw[<-hs];have hsB:s / 65536<2^r:=by
   rw[bEi Ad,hs,hp.out];have h1:(dg 65536 m).getD k 0*2^r+2^r<=65536*2^r:=by
    have:=bDq (2^r) (show (dg 65536 m).getD k 0+1<=65536 by omega)
    rw[bEc,bGe] at this;exact this
   have:=hc.out;rw[bDj (2^r)];omega
  have hsB2:s / 65536<32768:=bD9 hsB hpr.out;have hsB3:s<4294967296:=Aa;replace hs:=Hq.mk hs;replace hp0:=Hq.mk hp0;conv=>whnf
  repeat' ((first|(show iQ _ _ _;refine iQ.nn Aa Aa ?_)|(show fM _ _ _ _;refine fM.u32 Aa Aa Aa ?_)|(show App _ _ _ _ _ _ _ _ _;refine App.push rfl g (s%65536) Aa Aa Ad (fun v' L' g'=>?_))|((first|apply oI.z|apply cI.z))|intro (_:Nat)|refine WN.i64 Aa Aa ?_)<;>conv=>whnf)
  refine⟨rfl,ln 65536 m-(k+1),Aa,k+1,v',_,s / 65536,rfl,rfl,vi Aa,vi Aa,rfl,g',Aa,by simp;omega,kT hoB (bE3 _ Ad),hsB2,⟨hsB⟩,⟨?_⟩⟩
  rw[mK,hol,etn,bEc,<-heq.out];have e3:65536^(q+k)*(s%65536)+s / 65536*65536^(q+(k+1))=65536^(q+k)*s:=by
   rw[<-bE4,bEk,bDj (s / 65536),bEa,<-bEb,bFv]
  have e4:65536^k*(dg 65536 m).getD k 0*(2^r*65536^q)=65536^(q+k)*p:=by
   rw[hp.out,bEs];ac_rfl
  have e5:65536^(q+k)*s=c*65536^(q+k)+65536^(q+k)*p:=by rw[hs.out,bEb,bDj c]
  rw[e4];omega
 .obtain rfl:k=ln 65536 m:=by omega
  repeat' ((first|(show App _ _ _ _ _ _ _ _ _;refine App.push rfl g c Aa Aa Ad (fun v' L' g'=>?_))|((first|apply oI.z|apply cI.z)))<;>conv=>whnf)
  have e:evl 65536 (xs++[c])=m*2^n:=by
   rw[mK,hol,bDj _ c,heq.out,eY tlb (bDx _),hpow.out]
  refine CN.trim g' (kT hoB Aa) Aq fun v3 h3 hle g3=>?_
  rw[e] at g3;conv=>whnf
  repeat ((first|apply oI.z|apply cI.z);conv=>whnf)
  skip
  exact RN.done g3

theorem FzN.grow{e:TypeId}{kd:IntKind}{P:aA->Own->Prop}{v:Value}{n:Nat}{xs:List Nat}{h:aA}{L:Own}(g:aE e 1 v n (xs.map (vu kd)) L)(hk:∀h' (s:Sl),h.le h'->v=s.val->Ws kd h' s xs->P h' []):FzN P h L:=by
 obtain⟨rfl,rfl,hx⟩|⟨i,b,cap,zs,rfl,h2,h3,h4⟩:=g.out
 .obtain rfl:xs=[]:=by simpa using hx
  exact FzN.dropAll (hk h ⟨none,0,0⟩ (aA.lr _) rfl (Ws.nil rfl))
 .exact FzN.keep i h2 fun hle=>FzN.dropAll (hk _ ⟨some ⟨b,0,none⟩,n,cap⟩ hle rfl (Ws.grown (by simpa using h4.symm) h3))
theorem aM5(h:aA)(a:Sl)(m n:Nat)(ha:aS h a m)(la:ln 65536 m<=17179869184)(hn:n<=549755813888):
  Fn0 T F.q102 [a.val,.int .i64 n] h fun v h'=>∃s:Sl,v=s.val/\aS h' s (m*2^n):=
 Fn0.make (Fn.freeze (aBw h a m n ha la hn) fun v h' L' hl g=>FzN.grow g fun h2 s _ hv w=>⟨rfl,s,hv,w⟩)

theorem aM6(l:List Nat)(x j:Nat):(l++[x]).getD j 0=if j<l.length then l.getD j 0 else if j=l.length then x else 0:=by
 simp only[bC7]
 split
 .rw[bDi Ab]
 .rw[bDs Aa]
  split
  .rename_i h;subst h;simp
  .rw[bD5 Aq];rfl
theorem aM7(h:aA)(a:Sl)(m n:Nat)(ha:aS h a m)(la:ln 65536 m<=17179869184)(hn:n<=549755813888):
  Fn0 T F.q104 [a.val,.int .i64 n] h fun v h'=>∃s:Sl,v=s.val/\aS h' s (m / 2^n):=by
 have hal:=ha.len;obtain⟨r,hr⟩:=AB (n%16);obtain⟨q,hq⟩:=AB (n / 16);have hr15:r<=15:=Aa;have hpow:Hq (2^n=2^r*65536^q):=⟨by
   rw[show (65536:Nat)=2^16 from rfl,<-bFz,<-bEs];congr 1;omega⟩
 have hdig:Hq (∀i,m / 2^r / 65536^(q+i)%65536=(m / 65536^(q+i)%65536+65536*(m / 65536^(q+i+1)%65536)) / 2^r%65536):=⟨fun i=>(aFy hr15).symm⟩
 have hd:∀j,(((dg 65536 m).drop q).getD j 0)=m / 65536^(q+j)%65536:=fun j=>by
  rw[bC7,bF5,<-fY tlb,bC7]
 refine f0C ok D.q104 rfl ?_;conv=>whnf
 repeat' first|((first|(show fM _ _ _ _;refine fM.i64 Aa Aa Aa ?_)|(show lH _ _ _ _ _ _;(refine lH.drop (s:=a) ha q Aa Aa (by unfold ln at *;omega) (fun s' w'=>?_)))|((first|apply oI.z|apply cI.z)))<;>conv=>whnf)|(show cnd _ _ _;first|((first|apply aB|apply bI)<;>intro _<;>first|(exfalso;omega)|conv=>whnf))
 .have:m<65536^q:=(aL tlb).1 Aa;have h0:m / 2^n=0:=by
   rw[hpow.out];refine bEx (bD9 this (Nat.le_mul_of_pos_left _ (bEr r)))
  exact RN.a ⟨⟨none,0,0⟩,rfl,by rw[h0];unfold aS;rw[cM];exact Ws.nil rfl⟩
 obtain⟨dl,hdl⟩:=AB ((dg 65536 m).drop q);rw[<-hdl] at w' hd;have hwl:=w'.len;have hdll:dl.length=ln 65536 m-q:=by rw[hdl];simp[ln]
 have hdB:∀x∈dl,x<65536:=by rw[hdl];exact aUu (kN tlb m)
 have hdB2:=fun i=>eM (b:=65536) Ad hdB i
 repeat' ((first|(show Mk _ _ _;first|refine Mk.of 0 Aa Aa Aa ?_|refine Mk.of (ln 65536 m-q) Aa Aa Aa ?_)|refine⟨bDw _,?_⟩|((first|apply oI.z|apply cI.z))|intro (_:Nat))<;>conv=>whnf)
 replace hd:=Hq.mk hd;refine LpN.of (fun d ρ h' L=>∃(k:Nat) (v:Value) (xs:List Nat),d=ln 65536 m-q-k/\h'=h/\rd ρ 26=.int .i64 k/\rd ρ 5=v/\aE Ty.uint32 1 v k (xs.map (vu .u32)) L/\k<=ln 65536 m-q/\xs.length=k/\(∀x∈xs,x<65536)/\Hq (∀j,j<k->xs.getD j 0=m / 2^r / 65536^(q+j)%65536)) (ln 65536 m-q)
  ⟨0,_,[],rfl,rfl,rfl,rfl,aE.new 0 rfl,Aa,rfl,by simp,⟨fun j hj=>by omega⟩⟩ ?_
 conv=>whnf
 repeat intro _
 rename_i rr h2 L2 hI;obtain⟨k,v,xs,rfl,rfl,e0,e1,g,hk,hol,hoB,heq⟩:=hI;conv at e0=>lhs;whnf
 subst e0;conv at e1=>lhs;whnf
 subst e1;have hda:=hdB2 k;have hdb:=hdB2 (k+1);have hz:k+1<dl.length\/dl.getD (k+1) 0=0:=by
  rcases bEp (k+1) dl.length with hh|hh
  .exact .inl hh
  .exact .inr (gE hh)
 obtain⟨p,hp⟩:=AB (dl.getD (k+1) 0*65536);obtain⟨s,hs⟩:=AB (dl.getD k 0+p);have hval:Hq (s / 2^r%65536=m / 2^r / 65536^(q+k)%65536):=⟨by
   rw[hdig.out,hs,hp,hd.out,hd.out,bDj _ 65536,bE4 q]⟩
 replace hd:=hd.out;clear hd;conv=>whnf
 repeat' ((first|(apply aQ.go)|(show Idx _ _ _ _ _;first|refine Idx.ws w' k Aa Aa (fun ad hv=>?_)|refine Idx.ws w' (k+1) Aa Aa (fun ad hv=>?_))|(show Ld _ _ _ _;(refine Ld.of (by first|exact hv _|(rename_i hv;exact hv _)) ?_))|(show WN _ _ _;first|refine WN.u32v p Aa ?_|refine WN.u32v s Aa ?_|refine WN.i64 Aa Aa ?_)|((first|apply oI.z|apply cI.z))|(apply aB<;>intro _<;>try (exfalso;omega)))<;>conv=>whnf)
 rotate_right
 .obtain rfl:k=ln 65536 m-q:=Aa;refine CN.grow g rfl fun h' L' s hle hv w=>?_
  rw[hv];refine CN.f rfl (nF _ s xs w hoB Aa) (fun v h' hl hr=>?_)
  obtain⟨s',rfl,hs⟩:=hr;conv=>whnf
  repeat ((first|apply oI.z|apply cI.z);conv=>whnf)
  refine RN.a ⟨s',rfl,?_⟩;have e:=sY (b:=65536) tlb (N:=m / 2^r) (l:=xs) (s:=q) (fun i hi=>heq.out i Aa)
  have e2:m / 2^r / 65536^q=m / 2^n:=by rw[bEu,hpow.out]
  rw[e2,bEl] at e
  .rwa [e] at hs
  .rw[hol,hpow.out,bDj,<-bEu];refine bFk (bGv _ _) ?_;rw[bEi (bFi Ad),<-bEs];exact bD9 (cX tlb m) (bD8 Ad Aa)
 all_goals
  repeat' ((first|(show iQ _ _ _;refine iQ.nn Aa Aa ?_)|(show cG _ _ _ _;(refine cG.sym (x:=s) (r:=r) Aa Aa (by show r<=32;omega) (fun zz hzz hzz'=>?_)))|(show App _ _ _ _ _ _ _ _ _;refine App.push rfl g (zz%65536) Aa Aa Ad (fun v' L' g'=>?_))|((first|apply oI.z|apply cI.z))|intro (_:Nat)|(show WN _ _ _;first|refine WN.i64 Aa Aa ?_|refine WN.u64 Aa Aa ?_))<;>conv=>whnf)
  refine⟨rfl,ln 65536 m-q-(k+1),Aa,k+1,v',_,rfl,rfl,vi Aa,rfl,g',Aa,by simp;omega,kT hoB (bE3 _ Ad),⟨fun j hj=>?_⟩⟩
  rw[aM6]
  split
  .exact heq.out j Aa
  .obtain rfl:j=k:=Aa;rw[if_pos Aa,hzz.out];exact hval.out

theorem aU2(h:aA)(u v:Sl)(l:List Nat)(Dv g:Nat)(hu:Ws .u32 h u l)(hlB:∀x∈l,x<65536)(hm:l.length<=17179869184)(hv:aS h v Dv)(lD:ln 65536 Dv<=8589934592)(hg:g<18446744073709551616):
  Fn0 T F.q166 [u.val,v.val,.int .u64 g] h fun v _=>v=.bool (dec (evl 65536 l<Dv*g)):=by
 have lg:ln 65536 g<=4:=(aL tlb).2 Aa;have p1:=cP tlb Dv g;have p2:=(rV hlB).1;have c1:=fun (hh:evl 65536 l<Dv*g)=>xM hh
 have c2:=fun (hh:Dv*g<=evl 65536 l)=>xN hh
 refine f0C ok D.q166 rfl ?_;conv=>whnf
 repeat' ((first|(show CN _ _ _ _ _ _;first|(refine CN.f rfl (kU _ g hg) (fun v h' hl hr=>?_);obtain⟨s',rfl,hs'⟩:=hr)|(refine CN.f rfl (mC _ _ _ Dv g Ak Ab Aa Aa) (fun v h' hl hr=>?_);obtain⟨t',rfl,ht'⟩:=hr)|(refine CN.f rfl (nF _ _ l Ag hlB Aa) (fun v h' hl hr=>?_);obtain⟨z',rfl,hz'⟩:=hr)|(refine CN.quiet rfl (rW _ _ _ _ _ Ab Ag Aa Aa) ?_))|((first|apply oI.z|apply cI.z)))<;>conv=>whnf)
 refine RN.a ?_;by_cases hh:evl 65536 l<Dv*g
 .rw[bA hh,c1 hh]<;>rw[oD Ad]
 .rw[aG hh,lY (c2 Aa).1]
end Go.Proofs.Y
/- Contracts of the reference's functions on natural numbers (digits to the base 65536), fifth part: one digit of long division. -/
namespace Go.Vc
open Go Go.Dig
abbrev qU (kd:IntKind) (T:TypeId) (o:List Nat) (zs:List Value):Obj:=.cells (o.map (vu kd)++zs).toArray T (0,0)
theorem zC{kd:IntKind}{o:List Nat}{zs:List Value}{j:Nat}(hj:j<o.length):(o.map (vu kd)++zs).toArray[j]?=some (.int kd ((o.getD j 0:Nat):Int)):=by
 rw[bD1,bDi (by simpa using hj)];simp[hj,vu,bC7]
theorem Ld.winZ{h:aA}{L:Own}{b i:Nat}{k:Value->Prop}{kd:IntKind}{T:TypeId}{p u:List Nat}{zs:List Value}(n:Nat)(hb:L[n]?=some (b,qU kd T (p++u) zs))(ho:i<u.length)(hk:k (.int kd ((u.getD i 0:Nat):Int))):Ld h L ⟨b,p.length+i,none⟩ k:=
 Ld.o n hb (zC Aq) (by rw[aDo ho];exact hk)
theorem Sto.winZ{L:Own}{b i:Nat}{kd:IntKind}{T:TypeId}{p u:List Nat}{zs:List Value}{v:Int}{k:Own->Prop}(n:Nat)(hb:L[n]?=some (b,qU kd T (p++u) zs))(x:Nat)(hx:v=x)(hl:i<u.length)
  (hk:vL (b,qU kd T (p++u.set i x) zs) L n k):Sto L ⟨b,p.length+i,none⟩ [.int kd v] k:=by
 subst hx;refine Sto.sym n hb Aq rfl ?_;have:((p++u).map (vu kd)++zs).set (p.length+i) (.int kd x)=(p++u.set i x).map (vu kd)++zs:=by
  rw[bHc _ _ Aq,<-aKr,List.map_set];rfl
 rw[this];exact hk
end Go.Vc
namespace Go.Dig
theorem aU3{P top v1 D U dl ul:Nat}(hD:D=dl+P*v1)(hU:U=ul+P*top)(hul:ul<P)(hv:0<v1):U / D<=top / v1:=by
 have hP:0<P:=Aa;rw[bF9 hv];have h1:U / D*D<=U:=Nat.div_mul_le_self _ _;have h2:U / D*(P*v1)<=U / D*D:=by
  refine bD2 _ ?_;rw[hD];exact Nat.le_add_left _ _
 have h3:P*(U / D*v1)<P*(top+1):=by
  rw[bE0,bEb,bFm];omega
 have:=bGm h3;omega
theorem aIr{b:Nat}{w u dd:List Nat}{k e e' G x:Nat}(hk:k<w.length)(hx:x+G*dd.getD k 0+e=u.getD k 0+e'*b)
  (h:evl b (w.take k)+G*evl b (dd.take k)=evl b (u.take k)+e*b^k):
  evl b ((w.set k x).take (k+1))+G*evl b (dd.take (k+1))=evl b (u.take (k+1))+e'*b^(k+1):=by
 rw[jC _ hk,etn dd,etn u,bEb,bEk];have e1:e*b^k=b^k*e:=bDj _ _;have e2:G*(b^k*dd.getD k 0)=b^k*(G*dd.getD k 0):=bE0 _ _ _;have e3:e'*(b^k*b)=b^k*(e'*b):=by rw[bE0]
 have e4:b^k*(x+G*dd.getD k 0+e)=b^k*(u.getD k 0+e'*b):=by rw[hx]
 simp only[bEb] at e4;rw[e1] at h;rw[e2,e3];omega
end Go.Dig
namespace Go.Proofs.Y
open Go Go.Vc Go.Dig

theorem aM8(h:aA)(b cap:Nat)(p u:List Nat)(zs:List Value)(d:Sl)(Dv m:Nat)(hd:aS h d Dv)(hm:ln 65536 Dv=m+1)(la:ln 65536 Dv<=8589934592)(hul:m+2<=u.length)(hpl:p.length<=17179869184)(huB:∀x∈u,x<65536)(hUD:evl 65536 u<Dv*65536)(hcap:m+2<=cap):
  Vc.Fn T F.q103 [.slice (some ⟨b,p.length,none⟩) (m+2) cap,d.val] h [(b,qU .u32 Ty.uint32 (p++u) zs)] fun v h' L'=>∃u':List Nat,L'=[(b,qU .u32 Ty.uint32 (p++u') zs)]/\v=.int .u32 (evl 65536 u / Dv:Nat)/\u'.length=u.length/\(∀x∈u',x<65536)/\evl 65536 u'=evl 65536 u%Dv:=by
 have hdl:=hd.len;have hv1B:=dgl tlb Dv m;have hu0:=eM (b:=65536) Aa huB (m+1);have hu1:=eM (b:=65536) Aa huB m;have hD0:0<Dv:=by
  rcases bE7 Dv with h0|h0
  .rw[h0,nD] at hm;omega
  .exact h0
 have hDB:Dv<65536^(m+1):=by rw[<-hm];exact cX tlb Dv
 have hv1:0<(dg 65536 Dv).getD m 0:=by
  rw[fY tlb,bEl]
  .exact Nat.div_pos (iA tlb Aa) (bFi Ad)
  .rw[bEi (bFi Ad),bDj,<-bEk];exact hDB
 have htop:Hq (evl 65536 (u.drop (m+2))=0):=⟨by
   rw[rT tlb huB];refine bEx (bD9 hUD ?_);rw[bEk 65536 (m+1)];exact bDq _ (bGi hDB)⟩
 have hUt:Hq (evl 65536 u=evl 65536 (u.take (m+2))):=⟨by rw[oG hul,htop.out,bFc,bEh]⟩
 obtain⟨un,hun⟩:=AB (u.getD (m+1) 0);obtain⟨u1,hu1e⟩:=AB (u.getD m 0);obtain⟨v1,hv1e⟩:=AB ((dg 65536 Dv).getD m 0);obtain⟨top,htp⟩:=AB (un*65536+u1);obtain⟨t0,ht0⟩:=AB (un*65536);obtain⟨g0,hg0⟩:=AB (top / v1);obtain⟨q,hq⟩:=AB (evl 65536 u / Dv);obtain⟨U,hU⟩:=AB (evl 65536 u);have hqB:q<65536:=by rw[hq];exact (bEi hD0).2 (by rw[bDj];exact hUD)
 have hqg:q<=g0:=by
  rw[hq,hg0,htp,hun,hu1e,hv1e];refine aU3 (P:=65536^m) (dl:=evl 65536 ((dg 65536 Dv).take m)) (ul:=evl 65536 (u.take m)) ?_ ?_ ?_ hv1
  .rw[<-etn,<-hm];exact (eY tlb (bDx _)).symm
  .rw[hUt.out,aYi]
  .have:=iS tlb (l:=u.take m) fun x hx=>huB x (bEd hx)
   rwa [show (u.take m).length=m by simp;omega] at this
 have hgb:g0<=top:=by rw[hg0];exact bGv _ _
 have eq1:((top:Int) / (v1:Int))=(g0:Int):=by rw[hg0];rfl
 have hlq:∀g,¬(U<Dv*g)->g<=q:=fun g hh=>by
  rw[hq,<-hU,bF9 hD0,bDj];omega
 have hlq2:∀g,U<Dv*g->q<g:=fun g hh=>by
  rw[hq,<-hU,bEi hD0,bDj];exact hh
 have hmod:Hq (q*Dv+U%Dv=U/\U%Dv<Dv):=⟨by rw[hq,<-hU,bDj];exact⟨bFw _ _,bE3 _ hD0⟩⟩
 rw[<-hq];rw[<-hun] at hu0;rw[<-hu1e] at hu1;rw[<-hv1e] at hv1B hv1;replace hg0:=Hq.mk hg0;replace hq:=Hq.mk hq;replace hun:=Hq.mk hun;replace hu1e:=Hq.mk hu1e;replace hv1e:=Hq.mk hv1e;replace hlq:=Hq.mk hlq;replace hlq2:=Hq.mk hlq2;replace hUD:=Hq.mk hUD;replace hDB:=Hq.mk hDB;replace huB:=Hq.mk huB;refine f1C ok D.q103 rfl ?_;conv=>whnf
 repeat' ((first|(show WN _ _ _;first|refine WN.u64w t0 Aa ?_|refine WN.u64w top Aa ?_|refine WN.i64 Aa Aa ?_|refine WN.u64 Aa Aa ?_)|(show fM _ _ _ _;(refine fM.u64 Aa Aa Aa ?_;rw[eq1]))|(show Idx _ _ _ _ _;first|refine Idx.one (m+1) rfl Aa Aa ?_|refine Idx.one m rfl Aa Aa ?_|(refine Idx.ws hd m Aa (by unfold ln at *;omega) (fun ad hv=>?_)))|(show Ld _ _ _ _;first|(refine Ld.winZ 0 rfl Aa ?_;first|rw[<-hun.out]|rw[<-hu1e.out])|(refine Ld.of (by first|exact hv _|(rename_i hv;exact hv _)) ?_;rw[<-hv1e.out]))|((first|apply oI.z|apply cI.z))|refine DrN.run Al ?_)<;>conv=>whnf)
 refine aQ.cut (fun ρ h' L=>∃G:Nat,h'=h/\L=[(b,qU .u32 Ty.uint32 (p++u) zs)]/\rd ρ 7=.int .u64 G/\q<=G/\G<65536) ?_ ?_
 .conv=>whnf
  repeat' ((first|((first|apply oI.z|apply cI.z))|(apply bI<;>intro _<;>try (exfalso;omega)))<;>conv=>whnf)
  .exact⟨rfl,65536-1,rfl,rfl,rfl,Aa,Aa⟩
  .exact⟨rfl,g0,rfl,rfl,rfl,Aa,Aa⟩
 conv=>whnf
 repeat intro _
 rename_i h1 L1 hJ;obtain⟨G,rfl,rfl,e0,hqG,hGb⟩:=hJ;conv at e0=>lhs;whnf
 subst e0;conv=>whnf
 repeat ((first|apply oI.z|apply cI.z);conv=>whnf)
 have hw:∀h':aA,Ws .u32 (h'.put b (qU .u32 Ty.uint32 (p++u) zs)) ⟨some ⟨b,p.length,none⟩,m+2,cap⟩ (u.take (m+2)):=fun h'=>
  ⟨by simp;omega,hcap,fun _=>⟨b,p.length,((p++u).map (vu .u32)++zs).toArray,Ty.uint32,(0,0),rfl,by simp only[aA.put,if_true],fun j hj=>by
    have hj2:j<m+2/\j<u.length:=by simp at hj;omega
    rw[zC Aq,aDo hj2.2];simp[bC7,bFb,hj2.1]⟩⟩
 have htB:∀x∈u.take (m+2),x<65536:=fun x hx=>huB.out x (bEd hx)
 have hdu:aS h1 d Dv:=hd;replace htB:=Hq.mk htB;replace hw:=Hq.mk hw;refine LpN.of (fun r ρ h' L=>h1.le h'/\L=[(b,qU .u32 Ty.uint32 (p++u) zs)]/\rd ρ 7=.int .u64 r/\q<=r/\r<65536) G ⟨aA.lr _,rfl,rfl,hqG,hGb⟩ ?_
 conv=>whnf
 repeat intro _
 rename_i r h2 L2 hI;obtain⟨hle2,rfl,e0,hqr,hrb⟩:=hI;conv at e0=>lhs;whnf
 subst e0;conv=>whnf
 repeat ((first|apply oI.z|apply cI.z);conv=>whnf)
 skip
 refine CN.lend 0 rfl rfl (fun hle3=>aU2 _ ⟨some ⟨b,p.length,none⟩,m+2,cap⟩ d (u.take (m+2)) Dv r (hw.out _) htB.out Aq ((hdu.mono hle2).mono hle3) la Aa) fun v h3 hle3 e=>?_
 rw[e,<-hUt.out,<-hU];clear e;conv=>whnf
 repeat ((first|apply oI.z|apply cI.z);conv=>whnf)
 refine aW (fun hlt=>?_) (fun hge=>?_)
 .have:=hlq2.out _ hlt;conv=>whnf
  repeat' ((first|((first|apply oI.z|apply cI.z))|refine WN.u64 Aa Aa ?_)<;>conv=>whnf)
  exact⟨rfl,r-1,Aa,aA.lt hle2 hle3,rfl,vi Aa,Aa,Aa⟩
 .obtain rfl:r=q:=by have:=hlq.out _ hge;omega
  conv=>whnf
  repeat ((first|apply oI.z|apply cI.z);conv=>whnf)
  skip
  clear hge hqG hqr hqg hlq hlq2 hw htB hv hgb eq1;refine LpN.of (fun t ρ h' L=>∃(k:Nat) (w:List Nat) (e:Nat),t=m+2-k/\h'=h3/\L=[(b,qU .u32 Ty.uint32 (p++w) zs)]/\rd ρ 44=.int .i64 k/\rd ρ 8=.int .i64 (-(e:Int))/\k<=m+2/\w.length=u.length/\(∀x∈w,x<65536)/\e<65536/\Hq (w.drop k=u.drop k)/\Hq (evl 65536 (w.take k)+r*evl 65536 ((dg 65536 Dv).take k)=evl 65536 (u.take k)+e*65536^k)) (m+2)
   ⟨0,u,0,rfl,rfl,rfl,rfl,rfl,Aa,rfl,huB.out,Aa,⟨rfl⟩,⟨by simp[aU]⟩⟩ ?_
  conv=>whnf
  repeat intro _
  rename_i t h4 L4 hI;obtain⟨k,w,e,rfl,rfl,rfl,e0,e1,hk,hwl,hwB,heB,hwd,heq⟩:=hI;conv at e0=>lhs;whnf
  subst e0;conv at e1=>lhs;whnf
  subst e1;have hdk:=dgl tlb Dv k;have hz:=xR k Dv;have huk:=eM (b:=65536) Aa huB.out k;have hwk:Hq (w.getD k 0=u.getD k 0):=⟨fZ hwd.out (bDx _)⟩;have hdd:=(hdu.mono hle2).mono hle3;obtain⟨x,hx⟩:=AB (u.getD k 0);obtain⟨y,hy⟩:=AB ((dg 65536 Dv).getD k 0);rw[<-hx] at huk hwk;rw[<-hy] at hz hdk;replace hx:=Hq.mk hx;replace hy:=Hq.mk hy;have hprod:r*y<=65535*65535:=bFf Aa Aa;obtain⟨P,hP⟩:=AB (r*y);rw[<-hP] at hprod;have hP0:y=0->P=0:=fun h0=>by rw[hP,h0,bFc]
  have hPi:(r:Int)*(y:Int)=(P:Int):=by rw[hP];push_cast;rfl
  replace hP:=Hq.mk hP;conv=>whnf
  repeat' ((first|(apply aQ.go)|(show WN _ _ _;first|refine WN.i64 Aa Aa ?_|refine WN.u32 Aa Aa ?_)|(show Idx _ _ _ _ _;first|refine Idx.one k rfl Aa Aa ?_|(refine Idx.ws hdd k Aa (by unfold ln at *;omega) (fun ad hv=>?_)))|(show Ld _ _ _ _;first|(refine Ld.winZ 0 rfl Aa ?_;rw[hwk.out])|(refine Ld.of (by first|exact hv _|(rename_i hv;exact hv _)) ?_;rw[<-hy.out]))|(show kL _ _ _ _ _;refine kL.mask16 Aa Aa (fun d hd=>?_))|((first|apply oI.z|apply cI.z))|(apply aB<;>intro _<;>try (exfalso;omega)))<;>conv=>whnf)
  rotate_right
  .obtain rfl:k=m+2:=Aa;have hE:=heq.out;rw[eY tlb (show ln 65536 Dv<=m+2 by omega),<-hUt.out,<-hU] at hE
   have hlow:=pI tlb hwB (k:=m+2) Aa;obtain⟨m1,m2⟩:=hmod.out;have e0:e=0:=by
    rcases bE7 e with h0|h0
    .exact h0
    .have h5:1*65536^(m+2)<=e*65536^(m+2):=bDq _ h0;have h6:Dv<65536^(m+2):=bD9 hDB.out (bD8 Ad Aa);omega
   subst e0;refine RN.done ⟨w,rfl,rfl,hwl,hwB,?_⟩;rw[oG (k:=m+2) (l:=w) Aa,hwd.out,htop.out];omega
  all_goals
   rename_i d hd;refine Sto.winZ 0 rfl d rfl Aa ?_;conv=>whnf
   repeat' ((first|(show cG _ _ _ _;refine cG.i16 Ad (fun z hz'=>?_))|((first|apply oI.z|apply cI.z))|refine WN.i64 Aa Aa ?_)<;>conv=>whnf)
   have hdB:d<65536:=Aa;have hze:z<=0/\-65535<=z:=Aa;have hzd:(d:Int)+P+e=x+(-z)*65536:=Aa;obtain⟨e',he'⟩:∃e':Nat,z=-(e':Int):=⟨(-z).toNat,Aa⟩
   subst he';clear hz' hd;refine⟨rfl,m+2-(k+1),Aa,k+1,w.set k d,e',rfl,rfl,rfl,vi Aa,rfl,Aa,by simp[hwl],aM hwB hdB,Aa,⟨bH hwd.out⟩,⟨aIr Aa ?_ heq.out⟩⟩
   rw[<-hx.out,<-hy.out,<-hP.out];omega
end Go.Proofs.Y
/- Contracts of the reference's functions on natural numbers (digits to the base 65536), sixth part: long division, the greatest common divisor. -/
namespace Go.Vc
open Go
theorem aH.keep{h h':aA}{L:Own}{n b:Nat}{o:Obj}(hn:L[n]?=some (b,o))(hle:h.le (h.put b o))(hl:(h.put b o).le h'):aH h L h' (L.eraseIdx n):=fun a v ⟨h1,c,T,fz,h2,h3⟩=>by
 refine⟨h1,c,T,fz,?_,h3⟩;rcases h2 with h2|h2
 .exact .inl (hl _ _ (hle _ _ h2))
 .obtain⟨j,hj,he⟩:=bFh h2;by_cases hjn:j=n
  .subst hjn;rw[bC8 hj,he] at hn;cases hn;exact .inl (hl _ _ (by simp[aA.put]))
  .exact .inr (List.mem_eraseIdx_iff_getElem.2 ⟨j,hj,hjn,he⟩)
end Go.Vc
namespace Go.Dig
theorem aFz{b E D le ld:Nat}(hb:2<=b)(hE:E<b^le)(hD:b^(ld-1)<=D)(h1:1<=ld)(hle:ld<=le):E / b^(le+1-ld)<D:=by
 rw[bEi (bFi Aa)];have e:b^le=b^(ld-1)*b^(le+1-ld):=by rw[<-bEs];congr 1;omega
 rw[e] at hE;exact bD9 hE (bDq _ hD)
theorem aBd{b:Nat}(hb:2<=b){l:List Nat}{k:Nat}(h:∀x∈l,x<b)(hlt:evl b l<b^k):evl b (l.take k)=evl b l:=by
 rcases Nat.le_total l.length k with hk|hk
 .rw[bG3 hk]
 .have e:=oG (b:=b) hk;rw[rT hb h,bEx hlt,bFc,bEh] at e;exact e.symm
end Go.Dig
namespace Go.Proofs.Y
open Go Go.Vc Go.Dig
theorem qV{n:Nat}(h:ln 65536 n=1):(dg 65536 n).getD 0 0=n/\0<n/\n<65536:=by
 obtain⟨x,hx⟩:∃x,dg 65536 n=[x]:=List.length_eq_one_iff.1 h
 have e:=bV tlb n;rw[hx] at e;have e:x=n:=by simpa[eD,aU] using e
 have hlt:=kN tlb n x (by simp[hx]);subst e;refine⟨by rw[hx];rfl,?_,hlt⟩
 rcases bE7 x with h0|h0
 .rw[h0,nD] at h;omega
 .exact h0
theorem aF0{m s:Nat}(hs:s<=15):ln 65536 (m*2^s)<=ln 65536 m+1:=by
 have h1:ln 65536 (2^s)<=1:=(aL tlb).2 (bFk (bD8 Aa hs) Ad);have h2:=cP tlb m (2^s);omega

theorem aBx(h:aA)(a b:Sl)(m n:Nat)(ha:aS h a m)(hb:aS h b n)(la:ln 65536 m<=4294967296)(lb:ln 65536 n<=4294967296)(h0:n≠0):
  Fn0 T F.q56 [a.val,b.val] h fun v h'=>∃q r:Sl,v=.tuple #[q.val,r.val]/\aS h' q (m / n)/\aS h' r (m%n):=by
 have hal:=ha.len;have hbl:=hb.len;have hn1:1<=ln 65536 n:=bE8 fun e=>h0 ((aT tlb).1 e)
 have hd1:=dgl tlb n 0;have hdt:=dgl tlb n (ln 65536 n-1);have htop:0<(dg 65536 n).getD (ln 65536 n-1) 0:=by
  have h1:=aPp h0;rw[fY tlb,bEl]
  .exact Nat.div_pos (iA tlb Aa) (bFi Ad)
  .rw[bEi (bFi Ad),bDj,<-bEk,show (ln 65536 n-1).succ=ln 65536 n by omega];exact cX tlb n
 refine f0C ok D.q56 rfl ?_;conv=>whnf
 repeat ((first|apply oI.z|apply cI.z);conv=>whnf)
 by_cases hlt:m<n
 .repeat' first|((first|(show CN _ _ _ _ _ _;(refine CN.quiet rfl (rW h a b m n ha hb Aa Aa) ?_;rw[xM hlt]))|(show App _ _ _ _ _ _ _ _ _;(refine App.any (s:=.slice _ _ _) rfl (aE.new (z:=.int .u32 0) (kd:=.u32) 0 rfl) ha (by unfold ln at *;omega) Ad (fun v' L' g=>?_)))|((first|apply oI.z|apply cI.z))|intro (_:Nat))<;>conv=>whnf)|(show cnd _ _ _;first|((first|apply aB|apply aD)<;>intro _<;>first|(exfalso;omega)|conv=>whnf))
  refine⟨FzN.grow g fun h' s hle hv w=>⟨rfl,⟨none,0,0⟩,s,by rw[hv]<;>rfl,?_,?_⟩⟩
  .rw[bEx hlt];unfold aS;rw[cM];exact Ws.nil rfl
  .rw[bEl hlt];exact w
 .have hc:=xN (m:=m) (n:=n) Aa;have hmn:=dH tlb (Nat.not_lt.1 hlt);obtain⟨c,hcc⟩:=AB (iT m n);rw[<-hcc] at hc;replace hcc:=Hq.mk hcc
  repeat' first|((first|(show CN _ _ _ _ _ _;(refine CN.quiet rfl (rW h a b m n ha hb Aa Aa) ?_;rw[<-hcc.out]))|(show Idx _ _ _ _ _;(refine Idx.ws hb 0 Aa (by unfold ln at *;omega) (fun ad hv=>?_)))|(show Ld _ _ _ _;(refine Ld.of (by first|exact hv _|(rename_i hv;exact hv _)) ?_))|((first|apply oI.z|apply cI.z)))<;>conv=>whnf)|(show cnd _ _ _;first|((first|apply aB|apply aD)<;>intro _<;>first|(exfalso;omega)|conv=>whnf))
  .obtain⟨e1,e2,e3⟩:=qV (n:=n) Aa;refine CN.f rfl (aP8 _ a m ((dg 65536 n).getD 0 0) ha Aa hd1 Aa) (fun v h' hl hr=>?_)
   obtain⟨q,rfl,hq⟩:=hr;rw[e1] at hq ⊢;have hr:=bE3 m e2;obtain⟨r,hrr⟩:=AB (m%n);rw[<-hrr] at hr ⊢;conv=>whnf
   repeat' ((first|(show CN _ _ _ _ _ _;(refine CN.f rfl (kU _ r Aa) (fun v h' hl hr=>?_);obtain⟨s',rfl,hs'⟩:=hr))|((first|apply oI.z|apply cI.z))|refine WN.u64 Aa Aa ?_)<;>conv=>whnf)
   exact RN.a ⟨q,_,rfl,hq.mono ‹_›,‹_›⟩
  obtain⟨t,ht⟩:=AB ((dg 65536 n).getD (ln 65536 n-1) 0);rw[<-ht] at hdt htop;replace ht:=Hq.mk ht;refine LpN.of (fun r ρ h' L=>∃s:Nat,r=16-s/\h'=h/\L=[]/\rd ρ 8=.int .i64 s/\s<=15) 16 ⟨0,rfl,rfl,rfl,rfl,Aa⟩ ?_
  conv=>whnf
  repeat intro _
  rename_i rr h1 L1 hI;obtain⟨s,rfl,rfl,rfl,e0,hs15⟩:=hI;conv at e0=>lhs;whnf
  subst e0;conv=>whnf
  repeat' ((first|(show Idx _ _ _ _ _;(refine Idx.ws hb (ln 65536 n-1) Aa (by unfold ln at *;omega) (fun ad hv=>?_)))|(show Ld _ _ _ _;(refine Ld.of (by first|exact hv _|(rename_i hv;exact hv _)) ?_;rw[<-ht.out]))|(show kK _ _ _ _;refine kK.u32p (r:=s) rfl Aa hdt hs15 (fun p hp hp'=>?_))|((first|apply oI.z|apply cI.z))|(show WN _ _ _;first|refine WN.i64 Aa Aa ?_|refine WN.u64 Aa Aa ?_)|(apply aB<;>intro _<;>try (exfalso;omega)))<;>conv=>whnf)
  .have hs:s≠15:=fun e=>by
    have:=hp.out;subst e;omega
   exact⟨rfl,16-(s+1),Aa,s+1,rfl,rfl,rfl,vi Aa,Aa⟩
  clear hp hp' hv;refine CN.f rfl (aM5 _ b n s hb Aa Aa) (fun v h2 hle2 hr=>?_)
  obtain⟨dd,rfl,hdd⟩:=hr;have hshl:=aF0 (m:=m) hs15;have hshl2:=aF0 (m:=n) hs15;have hDpos:0<n*2^s:=Nat.mul_pos Aa (bEr s);have hDE:ln 65536 (n*2^s)<=ln 65536 (m*2^s):=dH tlb (bDq _ (Nat.not_lt.1 hlt));have hDl:1<=ln 65536 (n*2^s):=bE8 fun e=>by have:=(aT tlb).1 e;omega
  obtain⟨D,hD⟩:=AB (n*2^s);obtain⟨E,hE⟩:=AB (m*2^s);rw[<-hD] at hdd hDE hDl hDpos hshl2;rw[<-hE] at hDE hshl;have hdl:=hdd.len;replace hD:=Hq.mk hD;have hstart:=Hq.mk (aFz (b:=65536) (E:=E) (D:=D) tlb (cX tlb E) (iA tlb Aa) hDl hDE);conv=>whnf
  repeat ((first|apply oI.z|apply cI.z);conv=>whnf)
  refine CN.make rfl (aBw _ a m s (ha.mono hle2) Aa Aa) (fun v h3 La hle3 hr=>?_)
  rw[<-hE] at hr;replace hE:=Hq.mk hE;conv=>whnf
  repeat' ((first|(show App _ _ _ _ _ _ _ _ _;refine App.push rfl (hr.behind []) 0 rfl Aa Ad (fun v' L' g=>?_))|((first|apply oI.z|apply cI.z))|intro (_:Nat))<;>conv=>whnf)
  obtain⟨o0,ho0⟩:=AB (dg 65536 E++[0]);rw[<-ho0] at g;have ol:o0.length=ln 65536 E+1:=by rw[ho0];simp[ln]
  have oB:∀x∈o0,x<65536:=by rw[ho0];exact kT (kN tlb E) Ad
  have oE:evl 65536 o0=E:=by rw[ho0,mK,bFc,bEh,bV tlb]
  have hs0:evl 65536 (o0.drop (ln 65536 E+1-ln 65536 D))<D:=by rw[rT tlb oB,oE];exact hstart.out
  clear ho0 hstart hr;obtain⟨rfl,hx,-⟩|⟨i,bu,cap,zs,rfl,hLi,hcap,-⟩:=g.out
  .omega
  clear g;have hiL:=(bC9.1 hLi).1;have hset:L'=L'.set i (bu,qU .u32 Ty.uint32 o0 zs):=by
   obtain⟨_,hget⟩:=bC9.1 hLi;conv=>lhs;rw[<-bGa hiL,hget]
  conv=>whnf
  repeat' ((first|(show Mk _ _ _;refine Mk.of (ln 65536 E+1-ln 65536 D) Aa Aa Aa ?_)|refine⟨bDx _,?_⟩|intro (bq:Nat)|((first|apply oI.z|apply cI.z))|refine WN.i64 Aa Aa ?_)<;>conv=>whnf)
  refine LpN.of (fun r ρ h' L=>∃(o qs:List Nat),h3.le h'/\L=(bq,Row .u32 Ty.uint32 qs)::L'.set i (bu,qU .u32 Ty.uint32 o zs)/\rd ρ 13=.int .i64 ((r:Int)-1)/\r<=ln 65536 E+1-ln 65536 D/\o.length=ln 65536 E+1/\(∀x∈o,x<65536)/\qs.length=ln 65536 E+1-ln 65536 D/\(∀x∈qs,x<65536)/\Hq (evl 65536 (o.drop r)<D)/\Hq (evl 65536 (o.drop r)+D*evl 65536 (qs.drop r)=evl 65536 (o0.drop r))/\Hq (o.take r=o0.take r)) (ln 65536 E+1-ln 65536 D)
   ⟨o0,List.replicate (ln 65536 E+1-ln 65536 D) 0,aA.lr _,by rw[jD,<-hset],vi Aa,bDx _,ol,oB,by simp,by simp,⟨hs0⟩,⟨by rw[iB 65536 (l:=(List.replicate (ln 65536 E+1-ln 65536 D) 0).drop _) (fun x hx=>by have:=bE2 hx;simp at this;omega),bFc,bEh]⟩,⟨rfl⟩⟩ ?_
  conv=>whnf
  repeat intro _
  rename_i k h4 L4 hI;obtain⟨o,qs,hle4,rfl,e0,hk,hol,hoB,hql,hqB,hlt',heq,htk⟩:=hI;conv at e0=>lhs;whnf
  subst e0;replace hoB:=Hq.mk hoB;replace hqB:=Hq.mk hqB;replace oB:=Hq.mk oB;by_cases hk0:k=0
  .subst hk0;rw[bE5,bE5,bE5,oE,hE.out,hD.out] at heq;rw[bE5] at hlt';have hlow:=aBd tlb hoB.out (k:=ln 65536 D) (bH0 hlt'.out (cX tlb D));rw[hD.out] at hlt';obtain⟨r1,r2,-⟩:=aKq heq.out hlt'.out;have hlu:ln 65536 (evl 65536 (o.take (ln 65536 D)))<=ln 65536 E+1:=by rw[hlow,<-hol];exact (aL tlb).2 (iS tlb hoB.out)
   conv=>whnf
   repeat' ((first|(show lH _ _ _ _ _ _;(refine lH.front (s:=⟨some ⟨bu,0,none⟩,ln 65536 E+1,cap⟩) (ln 65536 D) Aa (by show ln 65536 D<=cap;omega) ?_))|((first|apply oI.z|apply cI.z))|refine DrN.run Al ?_|(apply bI<;>intro _<;>try (exfalso;omega)))<;>conv=>whnf)
   refine CN.keep 0 rfl rfl fun hle5=>?_
   refine CN.f rfl (nF _ ⟨some ⟨bq,0,none⟩,ln 65536 E+1-ln 65536 D,ln 65536 E+1-ln 65536 D⟩ qs (Ws.row Aa) hqB.out Aa) (fun v h5 hle6 hr=>?_)
   obtain⟨q',rfl,hq'⟩:=hr;refine⟨fun _=>aH.keep (n:=0) rfl hle5 hle6,?_⟩
   conv=>whnf
   repeat ((first|apply oI.z|apply cI.z);conv=>whnf)
   refine CN.keep i (bEy hiL) rfl fun hle7=>?_
   refine CN.f rfl (nF _ ⟨some ⟨bu,0,none⟩,ln 65536 D,cap⟩ (o.take (ln 65536 D)) ⟨by simp;omega,by simp;omega,fun _=>⟨bu,0,(o.map (vu .u32)++zs).toArray,Ty.uint32,(0,0),rfl,by simp only[aA.put,if_true],fun j hj=>by
     have hj2:j<ln 65536 D/\j<o.length:=by simp at hj;omega
     rw[bDu,zC hj2.2];simp[bC7,bFb,hj2.1]⟩⟩ (fun x hx=>hoB.out x (bEd hx)) Aq) (fun v h6 hle8 hr=>?_)
   obtain⟨u',rfl,hu'⟩:=hr;refine⟨fun _=>aH.keep (n:=i) (bEy hiL) hle7 hle8,?_⟩
   conv=>whnf
   repeat ((first|apply oI.z|apply cI.z);conv=>whnf)
   refine CN.f rfl (aM7 _ u' _ s hu' Aa Aa) (fun v h7 hle9 hr=>?_)
   obtain⟨r',rfl,hr'⟩:=hr;rw[hlow,r2] at hr';rw[r1] at hq';refine⟨fun _=>aH.o hle9,?_⟩
   conv=>whnf
   repeat ((first|apply oI.z|apply cI.z);conv=>whnf)
   exact RN.a ⟨q',r',rfl,((hq'.mono hle7).mono hle8).mono hle9,hr'⟩
  .obtain⟨j,rfl⟩:∃j,k=j+1:=⟨k-1,Aa⟩
   obtain⟨p,u,rfl,rfl⟩:∃p u,o=p++u/\p.length=j:=⟨o.take j,o.drop j,(bDo j o).symm,by simp;omega⟩
   have hul:p.length+u.length=ln 65536 E+1:=by simpa using hol
   have huB:∀x∈u,x<65536:=fun x hx=>hoB.out x (bD0 _ hx)
   have hpB:∀x∈p,x<65536:=fun x hx=>hoB.out x (bDz _ hx)
   obtain⟨x,u1,rfl⟩:∃x u1,u=x::u1:=by
    match u,hul with
    | [],h=>simp at h;omega
    | x::u1,_=>exact⟨x,u1,rfl⟩
   have hdr:(p++x::u1).drop (p.length+1)=u1:=by rw[List.drop_append];simp
   rw[hdr] at heq hlt';have hxB:=huB x Ao;have hx0:o0.getD p.length 0=x:=by
    have:=congrArg (fun l=>l.getD p.length 0) htk.out
    simpa[bC7,bFb] using this.symm
   have hE0:=kQ (b:=65536) (l:=o0) (k:=p.length) Aa;rw[hx0] at hE0;have hUD:evl 65536 (x::u1)<D*65536:=by
    rw[eD];have:(evl 65536 u1+1)*65536<=D*65536:=bDq _ hlt'.out;rw[bEc,bDj] at this;omega
   have hUq:=bFw (evl 65536 (x::u1)) D;have hqB':evl 65536 (x::u1) / D<65536:=(bEi hDpos).2 (by rw[bDj];exact hUD);have hrD:=bE3 (evl 65536 (x::u1)) hDpos;obtain⟨q,hq⟩:=AB (evl 65536 (x::u1) / D);obtain⟨r,hr⟩:=AB (evl 65536 (x::u1)%D);rw[<-hq] at hUq hqB';rw[<-hr] at hUq hrD;rw[bDj] at hUq;have hstep:=Hq.mk (aFs heq.out (eD _ _ _) hE0 hUq.symm);replace hUq:=Hq.mk hUq;replace hE0:=Hq.mk hE0;replace hrD:=Hq.mk hrD;have hmm:ln 65536 D=(ln 65536 D-1)+1:=Aa;replace hq:=Hq.mk hq;replace hr:=Hq.mk hr;replace hUD:=Hq.mk hUD;replace hx0:=Hq.mk hx0;replace huB:=Hq.mk huB;replace hpB:=Hq.mk hpB;conv=>whnf
   repeat' ((first|(show lH _ _ _ _ _ _;refine lH.own p.length (p.length+ln 65536 D+1) Aa Aa Aa Aa Aa ?_)|((first|apply oI.z|apply cI.z))|refine WN.i64 Aa Aa ?_|(apply bI<;>intro _<;>try (exfalso;omega)))<;>conv=>whnf)
   rw[show p.length+ln 65536 D+1-p.length=(ln 65536 D-1)+2 by omega]
   refine CN.own (i+1) (by rw[bGc];exact bEy hiL) rfl (aM8 _ bu _ p (x::u1) zs dd D (ln 65536 D-1) ((hdd.mono hle3).mono hle4) hmm Aa Aa Aa huB.out hUD.out Aa) (fun v h5 La5 hle5 hr4=>?_)
   obtain⟨u',e1,e2,hul',huB',hu'e⟩:=hr4;rw[<-hr.out] at hu'e;rw[<-hq.out] at e2;subst e1 e2;refine⟨_,rfl,?_⟩;rw[bFj,List.set_set];conv=>whnf
   repeat' ((first|(show Idx _ _ _ _ _;refine Idx.own p.length Aa Aa ?_)|(show Sto _ _ _ _;refine Sto.ws 0 rfl q Aa Aa ?_)|((first|apply oI.z|apply cI.z))|refine WN.i64 Aa Aa ?_)<;>conv=>whnf)
   refine⟨rfl,p.length,Aa,p++u',qs.set p.length q,aA.lt hle4 hle5,rfl,vi Aa,Aa,by rw[bC6,hul'];exact hul,?_,by simp[hql],aM hqB.out hqB',⟨?_⟩,⟨?_⟩,⟨?_⟩⟩
   .intro y hy;rcases bDf.1 hy with hy|hy
    .exact hpB.out y hy
    .exact huB' y hy
   .rw[bGn,hu'e];exact hrD.out
   .rw[bGn,hu'e,kQ (k:=p.length) (l:=qs.set p.length q) Aq,fD _ Aa,qR];exact hstep.out
   .have:=congrArg (fun l=>l.take p.length) htk.out
    simp only[List.take_take,bE9 (Nat.le_succ p.length)] at this;rw[<-this,bF3,bF3]

theorem aM9(h:aA)(a b:Sl)(m n:Nat)(ha:aS h a m)(hb:aS h b n)(la:ln 65536 m<=4294967296)(lb:ln 65536 n<=4294967296):
  Fn0 T F.q55 [a.val,b.val] h fun v h'=>∃s:Sl,v=s.val/\aS h' s (Nat.gcd m n):=by
 refine f0C ok D.q55 rfl ?_;conv=>whnf
 repeat ((first|apply oI.z|apply cI.z);conv=>whnf)
 refine LpN.of (fun r ρ h' L=>∃(a b:Sl) (m' n':Nat),r=n'/\L=[]/\h.le h'/\rd ρ 0=a.val/\rd ρ 1=b.val/\aS h' a m'/\aS h' b n'/\ln 65536 m'<=4294967296/\ln 65536 n'<=4294967296/\Hq (Nat.gcd m' n'=Nat.gcd m n)) n
  ⟨a,b,m,n,rfl,rfl,aA.lr _,rfl,rfl,ha,hb,la,lb,⟨rfl⟩⟩ ?_
 conv=>whnf
 repeat intro _
 rename_i r h1 L1 hI;obtain⟨a,b,m',n',rfl,rfl,hle,e0,e1,ha,hb,la,lb,hg⟩:=hI;conv at e0=>lhs;whnf
 subst e0;conv at e1=>lhs;whnf
 subst e1;have hbl:=hb.len;have hz:=aT tlb (n:=r);by_cases h0:r=0
 .have:=hz.2 h0;clear hz;conv=>whnf
  repeat' ((first|((first|apply oI.z|apply cI.z))|(apply aB<;>intro _<;>try (exfalso;omega)))<;>conv=>whnf)
  refine RN.a ⟨a,rfl,?_⟩;rw[<-hg.out,h0,Nat.gcd_zero_right];exact ha
 .have:ln 65536 r≠0:=fun e=>h0 (hz.1 e)
  clear hz;have hmod:=bE3 m' (bE8 h0);have hlm:=dH tlb (bGi hmod);conv=>whnf
  repeat' ((first|(show CN _ _ _ _ _ _;(refine CN.f rfl (aBx _ _ _ _ _ Ab Ab Aa Aa Aa) (fun v h' hl hr=>?_);obtain⟨q',r',rfl,hq',hr'⟩:=hr))|((first|apply oI.z|apply cI.z))|(apply aB<;>intro _<;>try (exfalso;omega)))<;>conv=>whnf)
  exact⟨rfl,m'%r,hmod,b,_,r,m'%r,rfl,rfl,aA.lt hle ‹_›,rfl,rfl,hb.mono ‹_›,‹_›,Aa,Aa,⟨by rw[aFt];exact hg.out⟩⟩
end Go.Proofs.Y