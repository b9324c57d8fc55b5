/- Contracts of package word's functions on natural numbers, third part: binary digits, shifts, division by a word. -/
import Derived.Test.YtdccpmlhflpeaaaGreatDoorW2
set_option linter.all false
set_option maxHeartbeats 2000000
set_option maxRecDepth 20000
namespace Go.Proofs.Y
open Go Go.Vc Go.Dig

theorem aDm(j:Nat)(hj:j<256):bl j<256:=by
 have:bl j<=8:=gL.2 Aa;omega

theorem aFr(h:aA)(x:Nat)(hx:x<4294967296):Fn0 T F.q221 [.int .u32 x] h fun v h'=>h'=h/\v=.int .i64 (bl x:Nat):=by
 have b1:65536<=x->bl x=16+bl (x / 65536):=fun hh=>aDj (k:=16) hh
 have b2:256<=x->bl x=8+bl (x / 256):=fun hh=>aDj (k:=8) hh
 have b3:256<=x / 65536->bl (x / 65536)=8+bl (x / 65536 / 256):=fun hh=>aDj (k:=8) hh
 have c:∀y,y<4294967296->bl y<=32:=fun y hy=>gL.2 Aa
 have c1:=c (x / 65536) Aa;have c2:=c (x / 256) Aa;have c3:=c (x / 65536 / 256) Aa;have c4:=c x Aa;refine f0C ok D.q221 rfl ?_;conv=>whnf
 repeat' ((first|(apply aQ.go)|(show cG _ _ _ _;first|refine cG.of 16 Ad Aa ?_|refine cG.of 8 Ad Aa ?_)|(show eB _ _ _;first|(refine eB.tab bl 256 (fun j hj=>⟨by revert j;decide +kernel,aDm j hj⟩) (x / 65536 / 256) Aa Aa ?_)|(refine eB.tab bl 256 (fun j hj=>⟨by revert j;decide +kernel,aDm j hj⟩) (x / 65536) Aa Aa ?_)|(refine eB.tab bl 256 (fun j hj=>⟨by revert j;decide +kernel,aDm j hj⟩) (x / 256) Aa Aa ?_)|(refine eB.tab bl 256 (fun j hj=>⟨by revert j;decide +kernel,aDm j hj⟩) x Aa Aa ?_))|((first|apply oI.z|apply cI.z))|(show WN _ _ _;first|refine WN.i64 Aa Aa ?_|refine WN.u8 Aa Aa ?_)|(apply bI<;>intro _<;>try (exfalso;omega)))<;>conv=>whnf)
 .exact RN.a ⟨rfl,vi (by have:=b1 Aa;have:=b3 Aa;omega)⟩
 .exact RN.a ⟨rfl,vi (by have:=b1 Aa;omega)⟩
 .exact RN.a ⟨rfl,vi (by have:=b2 Aa;omega)⟩
 .exact RN.a ⟨rfl,vi Aa⟩

theorem tV(h:aA)(x:Nat)(hx:x<4294967296):Fn0 T F.q222 [.int .u32 x] h fun v h'=>h'=h/\v=.int .i64 (32-(bl x:Nat):Int):=by
 have c4:bl x<=32:=gL.2 Aa;refine f0C ok D.q222 rfl ?_;conv=>whnf
 repeat' ((first|(show CN _ _ _ _ _ _;(refine CN.f rfl (aFr h x hx) (fun v h' hl hr=>?_);obtain⟨rfl,rfl⟩:=hr))|((first|apply oI.z|apply cI.z))|refine WN.i64 Aa Aa ?_)<;>conv=>whnf)
 exact RN.a ⟨rfl,rfl⟩

theorem aUq(h:aA)(s:Sl)(n:Nat)(hs:aI h s n)(hb:ln 4294967296 n<=1099511627776):Fn0 T F.q192 [s.val] h fun v h'=>h'=h/\v=.int .i64 (bl n:Nat):=by
 have hl:=hs.len;have hz:=aT tlB (n:=n);have hd:=dgl tlB n (ln 4294967296 n-1);have c4:bl ((dg 4294967296 n).getD (ln 4294967296 n-1) 0)<=32:=gL.2 Aa;refine f0C ok D.q192 rfl ?_;conv=>whnf
 repeat ((first|apply oI.z|apply cI.z);conv=>whnf)
 refine aD (fun h1=>?_) (fun h1=>?_)
 .conv=>whnf
  repeat ((first|apply oI.z|apply cI.z);conv=>whnf)
  exact RN.a ⟨rfl,by rw[hz.1 Aa];rfl⟩
 .conv=>whnf
  repeat ((first|apply oI.z|apply cI.z);conv=>whnf)
  have h1:0<ln 4294967296 n:=Aa;have he:=aXw (p:=32) (n:=n) Aa (fun e=>by rw[hz.2 e] at h1;omega)
  rw[show (2:Nat)^32=4294967296 from rfl] at he;clear hz
  repeat' ((first|(show Idx _ _ _ _ _;(refine Idx.ws hs (ln 4294967296 n-1) Aa (by unfold ln at *;omega) (fun ad hv=>?_)))|(show Ld _ _ _ _;(refine Ld.of (by first|exact hv _|(rename_i hv;exact hv _)) ?_))|(show CN _ _ _ _ _ _;(refine CN.f rfl (aFr h _ hd) (fun v h' hl hr=>?_);obtain⟨rfl,rfl⟩:=hr))|((first|apply oI.z|apply cI.z))|refine WN.i64 Aa Aa ?_)<;>conv=>whnf)
  exact RN.a ⟨rfl,vi Aa⟩

def aUr:List Nat:=[0,1,28,2,29,14,24,3,30,22,20,15,25,17,4,8,31,27,13,23,21,19,16,7,26,12,18,6,11,5,10,9]
def Tb(h:aA):Prop:=∃T fz,h Gl.math_bits_deBruijn32tab=some (.cells (aUr.map (vu .u8)).toArray T fz)
theorem Tb.mono{h h':aA}(t:Tb h)(hl:h.le h'):Tb h':=let ⟨T,fz,e⟩:=t;⟨T,fz,hl _ _ e⟩
theorem Ae{p:Prop}(h:p:=by (iterate 30 try first|assumption|refine Tb.mono ?_ (by assumption));first|done|assumption):p:=h
theorem aYg:∀k,k<32->aUr.getD (2^k*125613361%4294967296 / 134217728) 0=k/\2^k*125613361%4294967296 / 134217728<32/\2^k<4294967296:=Ad

theorem bBc(p:Nat):(p:Int)*125613361%4294967296 / 2^27=((p*125613361%4294967296 / 134217728:Nat):Int):=Aa
theorem tA(h:aA)(tb:Tb h)(x:Nat)(hx:x<4294967296)(h0:x≠0):Fn0 T F.q220 [.int .u32 x] h fun v h'=>h'=h/\v=.int .i64 (tw x:Nat):=by
 obtain⟨m,hm⟩:=nE h0;have hk:tw x<32:=by
  rcases bEp (tw x) 32 with hh|hh
  .exact hh
  .have:=bD8 (n:=2) Aa hh;have:2^tw x*1<=2^tw x*(2*m+1):=bD2 _ Aa;omega
 have ha:=aUp hm hx;rw[show (2:Nat)^32=4294967296 from rfl] at ha;obtain⟨t1,t2,t3⟩:=aYg _ hk;obtain⟨Tt,fz,hb⟩:=tb;refine f0C ok D.q220 rfl ?_;conv=>whnf
 repeat ((first|apply oI.z|apply cI.z);conv=>whnf)
 refine aD (fun h1=>by omega) (fun h1=>?_)
 conv=>whnf
 repeat ((first|apply oI.z|apply cI.z);conv=>whnf)
 refine WN.u32m ?_;conv=>whnf
 repeat ((first|apply oI.z|apply cI.z);conv=>whnf)
 refine kL.and x (4294967296-x) rfl Aa hx (by show _<4294967296;omega) rfl ?_;rw[ha]
 generalize hp:2^tw x=p at *
 conv=>whnf
 repeat ((first|apply oI.z|apply cI.z);conv=>whnf)
 refine WN.u32m ?_;conv=>whnf
 repeat ((first|apply oI.z|apply cI.z);conv=>whnf)
 refine cG.of 27 Ad Aa ?_;conv=>whnf
 repeat ((first|apply oI.z|apply cI.z);conv=>whnf)
 refine Idx.own (p*125613361%4294967296 / 134217728) (bBc p) t2 ?_;conv=>whnf
 repeat ((first|apply oI.z|apply cI.z);conv=>whnf)
 refine Ld.of (Has.imm hb (aKn t2)) ?_;rw[t1];conv=>whnf
 repeat ((first|apply oI.z|apply cI.z);conv=>whnf)
 refine WN.i64 Aa Aa ?_;conv=>whnf
 repeat ((first|apply oI.z|apply cI.z);conv=>whnf)
 exact RN.a ⟨rfl,rfl⟩

theorem aKo(h:aA)(tb:Tb h)(s:Sl)(n:Nat)(hs:aI h s n)(hb:ln 4294967296 n<=1099511627776):Fn0 T F.q190 [s.val] h fun v h'=>h'=h/\v=.int .i64 (tw n:Nat):=by
 have hl:=hs.len;refine f0C ok D.q190 rfl ?_;conv=>whnf
 repeat ((first|apply oI.z|apply cI.z);conv=>whnf)
 refine LpN.of (fun r ρ h' L=>∃k:Nat,r=ln 4294967296 n-k/\h'=h/\L=[]/\rd ρ 7=.int .i64 k/\k<=ln 4294967296 n/\∀j,j<k->(dg 4294967296 n).getD j 0=0) (ln 4294967296 n) ⟨0,rfl,rfl,rfl,rfl,Aa,fun j hj=>by omega⟩ ?_
 conv=>whnf
 repeat intro _
 rename_i r h2 L2 hI;obtain⟨k,rfl,rfl,rfl,e0,hk,hz⟩:=hI;conv at e0=>lhs;whnf
 subst e0;have hd:=dgl tlB n k;conv=>whnf
 repeat ((first|apply oI.z|apply cI.z);conv=>whnf)
 refine aB (fun h1=>?_) (fun h1=>?_)
 .conv=>whnf
  repeat ((first|apply oI.z|apply cI.z);conv=>whnf)
  refine Idx.ws hs k Aa (by unfold ln at *;omega) (fun ad hv=>?_)
  conv=>whnf
  repeat ((first|apply oI.z|apply cI.z);conv=>whnf)
  refine Ld.of (hv _) ?_;conv=>whnf
  repeat ((first|apply oI.z|apply cI.z);conv=>whnf)
  refine aJ (aD (fun h2=>?_) (fun h2=>?_))
  .conv=>whnf
   repeat ((first|apply oI.z|apply cI.z);conv=>whnf)
   refine WN.i64 Aa Aa ?_;conv=>whnf
   repeat ((first|apply oI.z|apply cI.z);conv=>whnf)
   refine⟨rfl,ln 4294967296 n-(k+1),Aa,k+1,rfl,rfl,rfl,vi Aa,Aa,fun j hj=>?_⟩
   by_cases hjk:j=k
   .subst hjk;omega
   .exact hz j Aa
  .conv=>whnf
   repeat ((first|apply oI.z|apply cI.z);conv=>whnf)
   have h2':(dg 4294967296 n).getD k 0≠0:=Aa;have ht:tw n=32*k+tw ((dg 4294967296 n).getD k 0):=by
    refine aUo (r:=n / 4294967296^k / 4294967296) ?_ hd h2';have e:=yU tlB hz;have e2:=bFv (n / 4294967296^k) 4294967296;rw[<-fY tlB] at e2;conv=>lhs;rw[e,<-e2]
    rw[bFz]
   have hk2:tw ((dg 4294967296 n).getD k 0)<=31:=by
    rcases bEp (tw ((dg 4294967296 n).getD k 0)) 32 with hh|hh
    .omega
    .have:=Nat.le_of_dvd Aa ((aKm h2').1 hh);omega
   repeat' ((first|(show CN _ _ _ _ _ _;(refine CN.f rfl (tA _ tb _ hd h2') (fun v h' hl hr=>?_);obtain⟨rfl,rfl⟩:=hr))|((first|apply oI.z|apply cI.z))|refine WN.i64 Aa Aa ?_)<;>conv=>whnf)
   exact RN.a ⟨rfl,vi Aa⟩
 .conv=>whnf
  repeat ((first|apply oI.z|apply cI.z);conv=>whnf)
  have h0:n=0:=by
   have e:=yU tlB hz;have hlt:=cX tlB n;rw[show k=ln 4294967296 n by omega,bEx hlt,bFc] at e
   exact e
  exact RN.a ⟨rfl,by subst h0;rfl⟩
end Go.Proofs.Y
/- More rules: shifts by a count that is not written out; more on digits. -/
namespace Go.Vc
open Go Go.Dig

theorem kK.u64p{x r:Nat}{a b:Int}{k:Int->Prop}(ha:a=(x:Nat))(hb:b=(r:Nat))(hx:x<4294967296)(hr:r<=31)(hk:∀p:Nat,Hq (p=x*2^r)->p<9223372036854775808->k p):kK .u64 a b k:=by
 subst ha hb;have h1:2^r<=2^31:=bD8 Aa hr;have h2:x*2^r<=4294967295*2147483648:=bFf Aa h1;refine kK.mk' r (by show r<=64;omega) ?_;have e:((x:Int)*2^r)=((x*2^r:Nat):Int):=by push_cast;rfl
 rw[e,mJ rfl (by show _<2^64;omega)];exact hk _ ⟨rfl⟩ Aa
theorem cG.sym{kd:IntKind}{x r:Nat}{a b:Int}{k:Int->Prop}(ha:a=(x:Nat))(hb:b=(r:Nat))(hr:r<=kd.bits)(hk:∀q:Nat,Hq (q=x / 2^r)->q<=x->k q):cG kd a b k:=by
 subst ha hb;refine cG.of r hr Aa ?_;have e:((x:Int) / 2^r)=((x / 2^r:Nat):Int):=by push_cast;rfl
 rw[e];exact hk _ ⟨rfl⟩ (bGv _ _)
theorem WN.u64e{n:Int}{k:Int->Prop}(hk:∀x:Nat,(x:Int)=n%18446744073709551616->k x):WN .u64 n k:=
 WN.u64m (by rw[<-bF8 (show 0<=n%18446744073709551616 by omega)];exact hk _ (bF8 Aa))
theorem WN.u32e{n:Int}{k:Int->Prop}(hk:∀x:Nat,(x:Int)=n%4294967296->k x):WN .u32 n k:=
 WN.u32m (by rw[<-bF8 (show 0<=n%4294967296 by omega)];exact hk _ (bF8 Aa))
theorem cG.e{kd:IntKind}{a:Int}{k:Int->Prop}(b:Nat)(hb:b<=kd.bits)(ha:0<=a)(hk:∀q:Nat,(q:Int)=a / 2^b->k q):cG kd a (b:Int) k:=by
 refine cG.of b hb ha ?_;have h:0<=a / 2^b:=Int.ediv_nonneg ha (Int.pow_nonneg Aa);rw[<-bF8 h];exact hk _ (bF8 h)
theorem kL.orp{kd:IntKind}{x y:Int}{k:Int->Prop}(a b r:Nat)(ha:x=a)(hb:y=b)(hr:a<2^r)(h0:b%2^r=0)(ha':a<2^kd.bits)(hb':b<2^kd.bits)(hs:kd.signed=false)(hk:a+b<2^kd.bits->k ((a+b:Nat):Int)):kL .or kd x y k:=by
 refine kL.or a b ha hb ha' hb' hs ?_;rw[aDk hr h0];refine hk ?_;rw[<-aDk hr h0];exact Nat.or_lt_two_pow ha' hb'
theorem kL.orq{kd:IntKind}{x y:Int}{k:Int->Prop}(a b r:Nat)(ha:x=a)(hb:y=b)(hr:a<2^r)(h0:b%2^r=0)(ha':a<2^kd.bits)(hb':b<2^kd.bits)(hs:kd.signed=false)(hk:a+b<2^kd.bits->k ((a+b:Nat):Int)):kL .or kd y x k:=by
 refine kL.or b a hb ha hb' ha' hs ?_;rw[Nat.or_comm,aDk hr h0];refine hk ?_;rw[<-aDk hr h0];exact Nat.or_lt_two_pow ha' hb'
end Go.Vc
namespace Go.Dig
theorem kQ{b:Nat}{l:List Nat}{k:Nat}(hk:k<l.length):evl b (l.drop k)=l.getD k 0+b*evl b (l.drop (k+1)):=by
 rw[bD6 hk,eD];simp[bC7,hk]
theorem qR{l:List Nat}{k x:Nat}:(l.set k x).drop (k+1)=l.drop (k+1):=by
 apply bGr;intro i
 simp[bHa];intro h;omega
theorem aUs{x r:Nat}(hr:r<=31):x*2^r%4294967296%2^r=0:=by
 rw[show (4294967296:Nat)=2^r*2^(32-r) by rw[<-bEs,show r+(32-r)=32 by omega],Nat.mod_mul_right_mod]
 exact Nat.mul_mod_left _ _
theorem aPr{x r:Nat}(hx:x<4294967296):x*2^r / 4294967296<2^r:=by
 rw[bEi Aa,bDj];exact Nat.mul_lt_mul_of_pos_left hx (bEr r)
theorem aMw{N k r:Nat}(hr:r<=31):(N / 4294967296^k%4294967296+4294967296*(N / 4294967296^(k+1)%4294967296)) / 2^r%4294967296=N / 2^r / 4294967296^k%4294967296:=by
 have e1:N / 4294967296^(k+1)=N / 4294967296^k / 4294967296:=by rw[bEk,bEu]
 rw[e1,show N / 2^r / 4294967296^k=N / 4294967296^k / 2^r by rw[bEu,bDj,<-bEu]]
 generalize N / 4294967296^k=M
 rw[<-Nat.mod_mul];have e2:(4294967296*4294967296:Nat)=2^r*(4294967296*2^(32-r)):=by
  rw[bE0,<-bEs,show r+(32-r)=32 by omega]
 rw[e2,Nat.mod_mul_right_div_self,Nat.mod_mul_right_mod]
end Go.Dig
/- Contracts of package word's functions on natural numbers, fourth part: shifts, division by a word. -/
namespace Go.Proofs.Y
open Go Go.Vc Go.Dig

theorem aPs(h:aA)(a:Sl)(m n:Nat)(ha:aI h a m)(la:ln 4294967296 m<=17179869184)(hn:n<=549755813888):
  Fn0 T F.q200 [a.val,.int .i64 n] h fun v h'=>∃s:Sl,v=s.val/\aI h' s (m*2^n):=by
 have hal:=ha.len;have hma:=aT tlB (n:=m);obtain⟨r,hr⟩:=AB (n%32);obtain⟨q,hq⟩:=AB (n / 32);have hr31:r<=31:=Aa;have hpow:Hq (2^n=2^r*4294967296^q):=⟨by
   rw[show (4294967296:Nat)=2^32 from rfl,<-bFz,<-bEs];congr 1;omega⟩
 refine f0C ok D.q200 rfl ?_;conv=>whnf
 repeat ((first|apply oI.z|apply cI.z);conv=>whnf)
 refine aD (fun h1=>?_) (fun h1=>?_)
 .conv=>whnf
  repeat ((first|apply oI.z|apply cI.z);conv=>whnf)
  exact RN.a ⟨⟨none,0,0⟩,rfl,by rw[hma.1 Aa,bEv];unfold aI;rw[cM];exact Ws.nil rfl⟩
 clear hma h1;conv=>whnf
 repeat' ((first|(show fM _ _ _ _;refine fM.i64 Aa Aa Aa ?_)|(show iQ _ _ _;refine iQ.nn Aa Aa ?_)|(show Mk _ _ _;refine Mk.of (ln 4294967296 m+q+1) Aa Aa Aa ?_)|refine⟨bDx _,?_⟩|((first|apply oI.z|apply cI.z))|intro (_:Nat)|(show WN _ _ _;first|refine WN.i64 Aa Aa ?_|refine WN.u64 Aa Aa ?_))<;>conv=>whnf)
 rename_i bo;refine LpN.of (fun d ρ h' L=>∃(k:Nat) (o:List Nat),d=ln 4294967296 m-k/\h'=h/\L=[(bo,Row .u32 Ty.uint32 o)]/\rd ρ 27=.int .i64 k/\k<=ln 4294967296 m/\o.length=ln 4294967296 m+q+1/\(∀x∈o,x<4294967296)/\Hq (∀j,q+k<j->o.getD j 0=0)/\Hq (o.getD (q+k) 0<2^r)/\
     Hq (evl 4294967296 o=evl 4294967296 ((dg 4294967296 m).take k)*(2^r*4294967296^q))) (ln 4294967296 m)
  ⟨0,List.replicate (ln 4294967296 m+q+1) 0,rfl,rfl,by rw[jD],rfl,Aa,by simp,by simp,⟨fun j _=>pH _ _⟩,⟨by rw[pH];exact bEr r⟩,⟨by rw[iB _ Ao];simp[aU]⟩⟩ ?_
 conv=>whnf
 repeat intro _
 rename_i rr h2 L2 hI;obtain⟨k,o,rfl,rfl,rfl,e0,hk,hol,hoB,hoz,hot,heq⟩:=hI;conv at e0=>lhs;whnf
 subst e0;have hda:=dgl tlB m k;have hdo:=eM (b:=4294967296) Aa hoB (q+k);conv=>whnf
 repeat' ((first|(show Idx _ _ _ _ _;first|(refine Idx.ws ha k Aa (by unfold ln at *;omega) (fun ad hv=>?_))|refine Idx.own (q+k) Aa Aa ?_)|(show Ld _ _ _ _;first|(refine Ld.of (by first|exact hv _|(rename_i hv;exact hv _)) ?_)|refine Ld.ws 0 rfl Aa ?_)|(show kK _ _ _ _;refine kK.u64p (r:=r) rfl Aa hda hr31 (fun p hp hp'=>?_))|(show WN _ _ _;first|refine WN.u32m ?_|refine WN.i64 Aa Aa ?_|refine WN.u64 Aa Aa ?_)|((first|apply oI.z|apply cI.z))|(apply aB<;>intro _<;>try (exfalso;omega)))<;>conv=>whnf)
 .rename_i hv p hp hp';refine kL.orp (o.getD (q+k) 0) (p%4294967296) r rfl Aa hot.out (by rw[hp.out];exact aUs hr31) hdo (by show _<4294967296;omega) rfl (fun hlt=>?_)
  have hlt:o.getD (q+k) 0+p%4294967296<4294967296:=hlt;conv=>whnf
  repeat' ((first|(show Idx _ _ _ _ _;first|refine Idx.own (q+k) Aa Aa ?_|(refine Idx.own (q+k+1) Aa Aq ?_))|(show Sto _ _ _ _;first|refine Sto.ws (o:=o) 0 rfl (o.getD (q+k) 0+p%4294967296) Aa Aa ?_|(refine Sto.ws 0 rfl (p / 4294967296) Aa Aq ?_))|(show cG _ _ _ _;refine cG.of 32 Ad Aa ?_)|(show WN _ _ _;first|refine WN.u32m ?_|refine WN.i64 Aa Aa ?_)|((first|apply oI.z|apply cI.z)))<;>conv=>whnf)
  refine⟨rfl,ln 4294967296 m-(k+1),Aa,k+1,_,rfl,rfl,rfl,vi Aa,Aa,by simp[hol],aM (aM hoB hlt) Aa,⟨fun j hj=>?_⟩,⟨?_⟩,⟨?_⟩⟩
  .rw[cT _ Aa,cT _ Aa];exact hoz.out j Aa
  .rw[show q+(k+1)=q+k+1 by omega,fD _ Aq,hp.out];exact aPr hda
  .have e1:=rS (b:=4294967296) (l:=o) (k:=q+k) (o.getD (q+k) 0+p%4294967296) Aa;have e2:=rS (b:=4294967296) (l:=o.set (q+k) (o.getD (q+k) 0+p%4294967296)) (k:=q+k+1) (p / 4294967296) Aq;rw[cT _ Aa,hoz.out (q+k+1) Aa,bFc,bEh] at e2;rw[bEb] at e1;have e3:4294967296^(q+k)*p=4294967296^(q+k)*(p%4294967296)+4294967296^(q+k+1)*(p / 4294967296):=by
    rw[bEk,bEa,<-bEb,bFv]
   rw[e2,etn,bEc,<-heq.out];have e4:4294967296^k*(dg 4294967296 m).getD k 0*(2^r*4294967296^q)=4294967296^(q+k)*p:=by
    rw[hp.out,bEs]
    ac_rfl
   rw[e4];omega
 .obtain rfl:k=ln 4294967296 m:=Aa;refine CN.keep 0 rfl rfl fun hle=>?_
  refine CN.f rfl (oF _ ⟨some ⟨bo,0,none⟩,ln 4294967296 m+q+1,ln 4294967296 m+q+1⟩ o (Ws.row (by simp[hol])) hoB Aa) (fun v h' hl hr=>?_)
  obtain⟨s',rfl,hs⟩:=hr;conv=>whnf
  repeat ((first|apply oI.z|apply cI.z);conv=>whnf)
  refine RN.a ⟨s',rfl,?_⟩;have heq:=heq.out;rw[eY tlB (bDx _),<-hpow.out] at heq
  rwa [heq] at hs

theorem aPt(h:aA)(a:Sl)(m n:Nat)(ha:aI h a m)(la:ln 4294967296 m<=17179869184)(hn:n<=549755813888):
  Fn0 T F.q191 [a.val,.int .i64 n] h fun v h'=>∃s:Sl,v=s.val/\aI h' s (m / 2^n):=by
 have hal:=ha.len;obtain⟨r,hr⟩:=AB (n%32);obtain⟨q,hq⟩:=AB (n / 32);have hr31:r<=31:=Aa;have hpow:Hq (2^n=2^r*4294967296^q):=⟨by
   rw[show (4294967296:Nat)=2^32 from rfl,<-bFz,<-bEs];congr 1;omega⟩
 have hdig:Hq (∀i,m / 2^r / 4294967296^(q+i)%4294967296=(m / 4294967296^(q+i)%4294967296+4294967296*(m / 4294967296^(q+i+1)%4294967296)) / 2^r%4294967296):=⟨fun i=>(aMw hr31).symm⟩
 refine f0C ok D.q191 rfl ?_;conv=>whnf
 repeat' ((first|(show fM _ _ _ _;refine fM.i64 Aa Aa Aa ?_)|(show iQ _ _ _;refine iQ.nn Aa Aa ?_)|(show Mk _ _ _;refine Mk.of (ln 4294967296 m-q) Aa Aa Aa ?_)|refine⟨bDx _,?_⟩|((first|apply oI.z|apply cI.z))|intro (_:Nat)|(show WN _ _ _;first|refine WN.i64 Aa Aa ?_|refine WN.u64 Aa Aa ?_)|(apply bI<;>intro _<;>try (exfalso;omega)))<;>conv=>whnf)
 .have:m<4294967296^q:=(aL tlB).1 Aa;have h0:m / 2^n=0:=by
   rw[hpow.out];refine bEx (bD9 this (Nat.le_mul_of_pos_left _ (bEr r)))
  exact RN.a ⟨⟨none,0,0⟩,rfl,by rw[h0];unfold aI;rw[cM];exact Ws.nil rfl⟩
 rename_i bo;refine LpN.of (fun d ρ h' L=>∃(k:Nat) (o:List Nat),d=ln 4294967296 m-q-k/\h'=h/\L=[(bo,Row .u32 Ty.uint32 o)]/\rd ρ 26=.int .i64 k/\k<=ln 4294967296 m-q/\o.length=ln 4294967296 m-q/\(∀x∈o,x<4294967296)/\Hq (∀j,j<k->o.getD j 0=m / 2^r / 4294967296^(q+j)%4294967296)) (ln 4294967296 m-q)
  ⟨0,List.replicate (ln 4294967296 m-q) 0,rfl,rfl,by rw[jD],rfl,Aa,by simp,by simp,⟨fun j hj=>by omega⟩⟩ ?_
 conv=>whnf
 repeat intro _
 rename_i rr h2 L2 hI;obtain⟨k,o,rfl,rfl,rfl,e0,hk,hol,hoB,heq⟩:=hI;conv at e0=>lhs;whnf
 subst e0;have hda:=dgl tlB m (q+k);have hdb:=dgl tlB m (q+k+1);conv=>whnf
 repeat' ((first|(apply aQ.go)|(show Idx _ _ _ _ _;first|(refine Idx.ws ha (q+k) Aa (by unfold ln at *;omega) (fun ad hv=>?_))|(refine Idx.ws ha (q+k+1) Aa (by unfold ln at *;omega) (fun ad hv=>?_)))|(show Ld _ _ _ _;(refine Ld.of (by first|exact hv _|(rename_i hv;exact hv _)) ?_))|(show kK _ _ _ _;refine kK.mk' 32 Ad ?_)|((first|apply oI.z|apply cI.z))|(show WN _ _ _;first|refine WN.i64 Aa Aa ?_|refine WN.u64 Aa Aa ?_)|(apply aB<;>intro _<;>try (exfalso;omega)))<;>conv=>whnf)
 .refine kL.orp ((dg 4294967296 m).getD (q+k) 0) ((dg 4294967296 m).getD (q+k+1) 0*4294967296) 32 rfl (mJ (n:=(dg 4294967296 m).getD (q+k+1) 0*4294967296) rfl (by show _<2^64;omega)) hda (by show _%4294967296=0;omega) (by show _<2^64;omega) (by show _<2^64;omega) rfl (fun _=>?_)
  conv=>whnf
  repeat' ((first|(show cG _ _ _ _;(refine cG.sym (r:=r) rfl Aa (by show r<=64;omega) (fun p hp hp'=>?_)))|(show WN _ _ _;first|refine WN.u32m ?_|refine WN.i64 Aa Aa ?_)|(show Idx _ _ _ _ _;refine Idx.own k Aa Aa ?_)|(show Sto _ _ _ _;(rename_i p hp hp';refine Sto.ws 0 rfl (p%4294967296) Aa Aa ?_))|((first|apply oI.z|apply cI.z)))<;>conv=>whnf)
  rename_i p hp hp';refine⟨rfl,ln 4294967296 m-q-(k+1),Aa,k+1,_,rfl,rfl,rfl,vi Aa,Aa,by simp[hol],aM hoB (bE3 _ Aa),⟨fun j hj=>?_⟩⟩
  by_cases hjk:j=k
  .subst hjk;rw[fD _ Aa,hdig.out,<-fY tlB,<-fY tlB,hp.out,bDj (4294967296)]
  .rw[cT _ Aa];exact heq.out j Aa
 .have hz:(dg 4294967296 m).getD (q+k+1) 0=0:=gE (by unfold ln at *;omega)
  repeat' ((first|(show cG _ _ _ _;(refine cG.sym (r:=r) rfl Aa (by show r<=64;omega) (fun p hp hp'=>?_)))|(show WN _ _ _;first|refine WN.u32m ?_|refine WN.i64 Aa Aa ?_)|(show Idx _ _ _ _ _;refine Idx.own k Aa Aa ?_)|(show Sto _ _ _ _;(rename_i p hp hp';refine Sto.ws 0 rfl (p%4294967296) Aa Aa ?_))|((first|apply oI.z|apply cI.z)))<;>conv=>whnf)
  rename_i p hp hp';refine⟨rfl,ln 4294967296 m-q-(k+1),Aa,k+1,_,rfl,rfl,rfl,vi Aa,Aa,by simp[hol],aM hoB (bE3 _ Aa),⟨fun j hj=>?_⟩⟩
  by_cases hjk:j=k
  .subst hjk;rw[fD _ Aa,hdig.out,<-fY tlB,<-fY tlB,hp.out,hz];simp
  .rw[cT _ Aa];exact heq.out j Aa
 .obtain rfl:k=ln 4294967296 m-q:=Aa;refine CN.keep 0 rfl rfl fun hle=>?_
  refine CN.f rfl (oF _ ⟨some ⟨bo,0,none⟩,ln 4294967296 m-q,ln 4294967296 m-q⟩ o (Ws.row (by simp[hol])) hoB Aa) (fun v h' hl hr=>?_)
  obtain⟨s',rfl,hs⟩:=hr;conv=>whnf
  repeat ((first|apply oI.z|apply cI.z);conv=>whnf)
  refine RN.a ⟨s',rfl,?_⟩;have e:=sY (b:=4294967296) tlB (N:=m / 2^r) (l:=o) (s:=q) (fun i hi=>heq.out i Aa)
  have e2:m / 2^r / 4294967296^q=m / 2^n:=by rw[bEu,<-hpow.out]
  have e3:m / 2^n<4294967296^o.length:=by
   rw[hol,<-e2];have h1:m<4294967296^(ln 4294967296 m-q+q):=by rw[show ln 4294967296 m-q+q=ln 4294967296 m by omega];exact cX tlB m
   rw[bEs,bDj] at h1;exact bFk (Nat.div_le_div_right (bGv _ _)) (Nat.div_lt_of_lt_mul h1)
  rw[e2,bEl e3] at e
  rwa [e] at hs

theorem wS(h:aA)(a:Sl)(m d:Nat)(ha:aI h a m)(la:ln 4294967296 m<=17179869184)(hd:d<4294967296)(h0:0<d):
  Fn0 T F.q201 [a.val,.int .u32 d] h fun v h'=>∃s:Sl,v=.tuple #[s.val,.int .u32 (m%d:Nat)]/\aI h' s (m / d):=by
 have hal:=ha.len;refine f0C ok D.q201 rfl ?_;conv=>whnf
 repeat' ((first|(show Mk _ _ _;refine Mk.of (ln 4294967296 m) Aa Aa Aa ?_)|refine⟨bDx _,?_⟩|((first|apply oI.z|apply cI.z))|intro (_:Nat)|refine WN.i64 Aa Aa ?_)<;>conv=>whnf)
 rename_i bo;refine LpN.of (fun r ρ h' L=>∃(k:Nat) (o:List Nat) (c:Nat),r=k/\h'=h/\L=[(bo,Row .u32 Ty.uint32 o)]/\rd ρ 8=.int .i64 ((k:Int)-1)/\rd ρ 7=.int .u64 c/\k<=ln 4294967296 m/\o.length=ln 4294967296 m/\(∀x∈o,x<4294967296)/\c<d/\
     Hq (evl 4294967296 ((dg 4294967296 m).drop k)=evl 4294967296 (o.drop k)*d+c)) (ln 4294967296 m)
  ⟨ln 4294967296 m,List.replicate (ln 4294967296 m) 0,0,rfl,rfl,by rw[jD],vi Aa,rfl,Aa,by simp,by simp,Aa,⟨by rw[bGg (by unfold ln;omega),bGg Ao];simp[aU]⟩⟩ ?_
 conv=>whnf
 repeat intro _
 rename_i k h2 L2 hI;obtain⟨_,o,c,rfl,rfl,rfl,e0,e1,hk,hol,hoB,hc,heq⟩:=hI;conv at e0=>lhs;whnf
 subst e0;conv at e1=>lhs;whnf
 subst e1;have hda:=dgl tlB m (k-1);conv=>whnf
 repeat' ((first|(show kK _ _ _ _;refine kK.mk' 32 Ad ?_)|(show Idx _ _ _ _ _;(refine Idx.ws ha (k-1) Aa (by unfold ln at *;omega) (fun ad hv=>?_)))|(show Ld _ _ _ _;(refine Ld.of (by first|exact hv _|(rename_i hv;exact hv _)) ?_))|((first|apply oI.z|apply cI.z))|refine WN.u64 Aa Aa ?_|(apply bI<;>intro _<;>try (exfalso;omega)))<;>conv=>whnf)
 .refine kL.orq ((dg 4294967296 m).getD (k-1) 0) (c*4294967296) 32 Aa (mJ (n:=c*4294967296) rfl (by show _<2^64;omega)) hda (by show _%4294967296=0;omega) (by show _<2^64;omega) (by show _<2^64;omega) rfl (fun hlt=>?_)
  obtain⟨s,hs⟩:=AB ((dg 4294967296 m).getD (k-1) 0+c*4294967296);have hlt:(dg 4294967296 m).getD (k-1) 0+c*4294967296<18446744073709551616:=hlt;rw[<-hs];have hq:Hq (s / d<4294967296):=⟨by
    rw[bEi h0];have:(c+1)*4294967296<=d*4294967296:=bDq _ hc;omega⟩
  obtain⟨q,hqd⟩:=AB (s / d);obtain⟨z,hzd⟩:=AB (s%d);have hz:z<d:=by rw[hzd];exact bE3 _ h0
  have hqz:Hq (s=q*d+z):=⟨by rw[hqd,hzd,bDj,bFw]⟩
  have hqB:=hq.out;rw[<-hqd] at hqB;have eq1:((s:Int) / (d:Int))=(q:Int):=by rw[hqd];rfl
  have eq2:((s:Int)%(d:Int))=(z:Int):=by rw[hzd];rfl
  replace hqd:=Hq.mk hqd;replace hzd:=Hq.mk hzd;conv=>whnf
  repeat' ((first|(show WN _ _ _;first|(refine WN.u64m ?_;rw[Int.emod_eq_of_lt Aa Aa])|refine WN.i64 Aa Aa ?_|refine WN.u32 Aa Aa ?_)|(show fM _ _ _ _;(refine fM.u64 Aa Aa Aa ?_;rw[eq1]))|(show iQ _ _ _;(refine iQ.nn Aa Aa ?_;rw[eq2]))|(show Idx _ _ _ _ _;refine Idx.own (k-1) Aa Aa ?_)|(show Sto _ _ _ _;refine Sto.ws 0 rfl q Aa Aa ?_)|((first|apply oI.z|apply cI.z)))<;>conv=>whnf)
  obtain⟨k,rfl⟩:∃k',k=k'+1:=⟨k-1,Aa⟩
  have hs:s=(dg 4294967296 m).getD k 0+c*4294967296:=hs;have heq:evl 4294967296 ((dg 4294967296 m).drop (k+1))=evl 4294967296 (o.drop (k+1))*d+c:=heq.out;refine⟨rfl,k,Aa,k,_,z,rfl,rfl,rfl,vi Aa,vi Aa,Aa,by simp[hol],aM hoB hqB,hz,⟨?_⟩⟩
  show evl 4294967296 ((dg 4294967296 m).drop k)=evl 4294967296 ((o.set k q).drop k)*d+z
  rw[kQ (k:=k) (l:=dg 4294967296 m) (by unfold ln at *;omega),kQ (k:=k) (l:=o.set k q) Aq,fD _ Aa,qR,heq,bEc,bEa,bEb];have:=hqz.out;omega
 .obtain rfl:k=0:=Aa;refine CN.keep 0 rfl rfl fun hle=>?_
  refine CN.f rfl (oF _ ⟨some ⟨bo,0,none⟩,ln 4294967296 m,ln 4294967296 m⟩ o (Ws.row (by simp[hol])) hoB Aa) (fun v h' hl hr=>?_)
  obtain⟨s',rfl,hs⟩:=hr;conv=>whnf
  repeat' ((first|((first|apply oI.z|apply cI.z))|refine WN.u32 Aa Aa ?_)<;>conv=>whnf)
  have heq:=heq.out;rw[bE5,bE5,bV tlB] at heq;have e1:m / d=evl 4294967296 o:=by rw[heq,bGj,Nat.add_mul_div_right _ _ h0,bEx hc,bDu]
  have e2:m%d=c:=by rw[heq,bDj,Nat.mul_add_mod,bEl hc]
  refine RN.a ⟨s',by rw[e2],?_⟩
  rwa [e1]
end Go.Proofs.Y