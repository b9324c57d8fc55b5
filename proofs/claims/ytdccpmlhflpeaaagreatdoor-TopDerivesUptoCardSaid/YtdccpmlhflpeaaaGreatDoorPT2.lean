/- Taylor's formula for polynomial forms: the value at a shifted point by the derivatives' values: plain mathematics. -/
import Derived.Test.YtdccpmlhflpeaaaGreatDoorPG1
set_option linter.all false
namespace Go.Proofs.Y
open Go Go.Vc Go.Dig
def fal:Nat->Nat->Nat
 | _,0=>1
 | j,k+1=>j*fal (j-1) k
theorem yD:∀{j k:Nat},j<k->fal j k=0
 | j,k+1,h=>by
  unfold fal;cases j with
  | zero=>rw[bEv]
  | succ j=>rw[Nat.add_sub_cancel,yD Aa,bFc]
theorem aHx:∀j k:Nat,fal j (k+1)=fal j k*(j-k)
 | j,0=>by unfold fal;unfold fal;rw[bFm,bGe,Nat.sub_zero]
 | j,k+1=>by
  rw[fal,aHx (j-1) k,fal,bEa,show j-1-k=j-(k+1) by omega]
theorem bA6(j k:Nat):fal (j+1) (k+1)=fal j (k+1)+(k+1)*fal j k:=by
 rw[fal,Nat.add_sub_cancel,aHx];by_cases h:j<k
 .rw[yD h,bFc,bEv,bFc]
 .rw[bDj (fal j k),<-bEc]
  congr 1;omega
def sn(f:Nat->Rat):Nat->Rat
 | 0=>0
 | n+1=>sn f n+f n
theorem aA3{f g:Nat->Rat}:∀{n:Nat},(∀k,k<n->f k=g k)->sn f n=sn g n
 | 0,_=>rfl
 | n+1,h=>by rw[sn,sn,aA3 fun k hk=>h k Aa,h n Aa]
theorem aT9(f g:Nat->Rat):∀n,sn (fun k=>f k+g k) n=sn f n+sn g n
 | 0=>(bFs 0).symm
 | n+1=>by
  rw[sn,sn,sn,aT9 f g n];rw[bFl,bFl,<-bFl (sn g n),bHl (sn g n),bFl]
theorem aE4(c:Rat)(f:Nat->Rat):∀n,sn (fun k=>c*f k) n=c*sn f n
 | 0=>(bFn c).symm
 | n+1=>by rw[sn,sn,aE4 c f n,bHx]
theorem yE(f:Nat->Rat):∀n,sn f (n+1)=f 0+sn (fun k=>f (k+1)) n
 | 0=>bHl 0 (f 0)
 | n+1=>by rw[sn,yE f n,sn,bFl]
theorem aE5{f:Nat->Rat}{n:Nat}:∀{m:Nat},(∀k,n<=k->f k=0)->n<=m->sn f m=sn f n
 | 0,_,h=>by rw[show n=0 by omega]
 | m+1,hz,h=>by
  by_cases e:n=m+1
  .rw[e]
  .rw[sn,aE5 hz Aa,hz m Aa,bFs]
section
variable (h:Rat)
def co:Nat->Rat
 | 0=>1
 | k+1=>co k*h / ((k+1:Nat):Rat)
theorem aXn{k:Nat}:((k+1:Nat):Rat)≠0:=fun e=>by
 have:((k+1:Nat):Rat)=((0:Nat):Rat):=e;exact absurd (Rat.natCast_inj.1 this) Aa
theorem bCh(k:Nat):co h (k+1)*((k+1:Nat):Rat)=co h k*h:=by
 rw[co,bHu,bEq,Rat.inv_mul_cancel _ aXn,bF7]
theorem aJ6(a:Rat):∀(j n:Nat),j<n->sn (fun k=>co h k*((fal j k:Nat):Rat)*a^(j-k)) n=(a+h)^j
 | 0,n+1,_=>by
  rw[yE];have e:sn (fun k=>co h (k+1)*((fal 0 (k+1):Nat):Rat)*a^(0-(k+1))) n=0:=by
   rw[aE5 (n:=0) (fun k _=>by rw[yD Aa,show ((0:Nat):Rat)=0 from rfl,bFn,bEz]) (bDw _)];rfl
  rw[e,bFs,bF2,bF2];show 1*((1:Nat):Rat)*1=1;rw[show ((1:Nat):Rat)=1 from rfl,bEt,bEt]
 | j+1,n+1,hn=>by
  have ih:=aJ6 a j n Aa;have ih2:=aJ6 a j (n+1) Aa;rw[yE];have e1:sn (fun k=>co h (k+1)*((fal (j+1) (k+1):Nat):Rat)*a^(j+1-(k+1))) n=sn (fun k=>a*(co h (k+1)*((fal j (k+1):Nat):Rat)*a^(j-(k+1)))) n+sn (fun k=>h*(co h k*((fal j k:Nat):Rat)*a^(j-k))) n:=by
   rw[<-aT9];refine aA3 fun k _=>?_
   rw[bA6,Rat.natCast_add,Rat.natCast_mul,bHx,bHy,show j+1-(k+1)=j-k by omega]
   congr 1
   .by_cases hk:j<k+1
    .rw[yD hk,show ((0:Nat):Rat)=0 from rfl,bFn,bEz,bEz,bFn]
    .rw[show j-k=j-(k+1)+1 by omega,bGb]
     rw[<-bEq,bFp _ a]
   .rw[<-bEq,bCh,bFp (co h k) h,bEq h,bEq h]
  rw[e1,aE4,aE4,ih,<-bFl];have e2:co h 0*((fal (j+1) 0:Nat):Rat)*a^(j+1-0)+a*sn (fun k=>co h (k+1)*((fal j (k+1):Nat):Rat)*a^(j-(k+1))) n=a*(a+h)^j:=by
   rw[<-ih2,yE,bHx]
   congr 1
   show 1*((1:Nat):Rat)*a^(j+1)=a*(1*((1:Nat):Rat)*a^j)
   rw[show ((1:Nat):Rat)=1 from rfl,bEt,bEt,bEt,bGb,bFp]
  rw[e2,<-bHy,bGb,bFp]
end
section
variable (x:List UInt8) (al:List UInt8->Rat) (h:Rat)
def al1(s:List UInt8):Rat:=if s=x then 1 else al s
def alS(s:List UInt8):Rat:=if s=x then al s+h else al s
theorem bA7:∀m:Mon,ph al m=al x^cf m x*ph (al1 x al) m
 | []=>by rw[kB];show (1:Rat)=al x^0*1;rw[bF2,bEt]
 | t::m=>by
  rw[fF,fF,bA7 m,aO];unfold al1;by_cases e:t.1=x
  .rw[if_pos e,if_pos e,rK,bEt,e,uT,bEq]
  .rw[if_neg e,if_neg e,<-bEq,<-bEq,bFp (al t.1^t.2)]
theorem bCi(m:Mon):ph (al1 x al) (dcM x m)=ph (al1 x al) m:=by
 unfold dcM;rw[aLy]
 induction m with
 | nil=>rfl
 | cons t m ih=>
  rw[bEe,fF,fF,ih]
  congr 1
  unfold al1;by_cases e:t.1=x
  .rw[if_pos e,rK,rK]
  .rw[if_neg e,if_neg e]
def dI(f:Mon->Rat):Nat->Mon->Rat
 | 0=>f
 | k+1=>dn x (dI f k)
theorem aJ7(f:Mon->Rat)(i:Nat):∀k,dI x f (i+k)=dI x (dI x f i) k
 | 0=>rfl
 | k+1=>by rw[<-bE4,dI,dI,aJ7 f i k]
theorem aX9:∀(k:Nat) (m:Mon),lR m->dI x (ph al) k m=((fal (cf m x) k:Nat):Rat)*al x^(cf m x-k)*ph (al1 x al) m
 | 0,m,_=>by
  show ph al m=((1:Nat):Rat)*al x^(cf m x-0)*_
  rw[bA7,show ((1:Nat):Rat)=1 from rfl,bEt,Nat.sub_zero]
 | k+1,m,hm=>by
  show ((cf m x:Nat):Rat)*dI x (ph al) k (dcM x m)=_
  rw[aX9 k (dcM x m) (show lR (dcM x m) from (cE _).1),aHh x hm,if_pos rfl,bCi,fal,Rat.natCast_mul,show cf m x-1-k=cf m x-(k+1) by omega]
  rw[<-bEq,<-bEq]
theorem aJ8{n:Nat}{m:Mon}(hm:lR m)(hn:cf m x<n):sn (fun k=>co h k*dI x (ph al) k m) n=ph (alS x al h) m:=by
 have e1:sn (fun k=>co h k*dI x (ph al) k m) n=sn (fun k=>ph (al1 x al) m*(co h k*((fal (cf m x) k:Nat):Rat)*al x^(cf m x-k))) n:=aA3 fun k _=>by
  rw[aX9 x al k m hm,<-bEq,<-bEq,bFp]
 have e2:ph (al1 x (alS x al h)) m=ph (al1 x al) m:=by
  have:al1 x (alS x al h)=al1 x al:=by
   funext s
   unfold al1 alS
   split
   .rfl
   .rfl
  rw[this]
 rw[e1,aE4,aJ6 h (al x) _ n hn,bA7 x (alS x al h),e2,bFp]
 congr 1
 unfold alS;rw[if_pos rfl]
theorem aYa(g:Nat->Mon->Rat)(p:Pol):∀n,sn (fun k=>co h k*sm (g k) p) n=sm (fun m=>sn (fun k=>co h k*g k m) n) p
 | 0=>(aEa p).symm
 | n+1=>by
  rw[sn,aYa g p n,<-zV,<-aD9];rfl
theorem aJ9{p:Pol}(hp:bCb p){n:Nat}(he:∀f,sm (dI x f n) p=0):
  sn (fun k=>co h k*sm (dI x (ph al) k) p) n=sm (ph (alS x al h)) p:=by
 have e2:∀k,n<=k->sm (dI x (ph al) k) p=0:=fun k hk=>by
  have h1:=he (dI x (ph al) (k-n));rw[<-aJ7,show k-n+n=k by omega] at h1
  exact h1
 obtain⟨N,hN,hd⟩:∃N,n<=N/\∀t∈p,cf t.1 x<N:=by
  clear he e2 hp
  induction p with
  | nil=>exact⟨n,bDx _,fun t ht=>by simp at ht⟩
  | cons u p ih=>
   obtain⟨N,h1,h2⟩:=ih;refine⟨N+cf u.1 x+1,Aa,fun t ht=>?_⟩
   rcases bDp.1 ht with rfl|ht
   .omega
   .have:=h2 t ht;omega
 rw[<-aE5 (m:=N) (fun k hk=>by rw[e2 k hk,bFn]) hN,aYa]
 exact dO fun t ht=>aJ8 x al h (hp _ ht) (hd _ ht)
end
end Go.Proofs.Y
/- The atoms of the form of a polynomial tree: plain mathematics. -/
namespace Go.Proofs.Y
open Go Go.Vc Go.Dig
def tQ(Q:List UInt8->Prop)(p:Pol):Prop:=∀t∈p,∀f∈t.1,Q f.1
section
variable {Q:List UInt8->Prop}
theorem aUa{a b:Pol}(ha:tQ Q a)(hb:tQ Q b):tQ Q (tmL a b):=fun t ht=>by
 unfold tmL at ht;obtain⟨x,hx,ht⟩:=List.mem_flatMap.1 ht;obtain⟨y,hy,rfl⟩:=List.mem_map.1 ht;exact aMa (P:=Q) (ha x hx) (hb y hy)
theorem aKa{a b:Pol}(k:Rat)(ha:tQ Q a)(hb:tQ Q b):tQ Q (plL a b k):=fun t ht=>by
 unfold plL at ht;rcases bDf.1 ht with ht|ht
 .exact ha t ht
 .obtain⟨y,hy,rfl⟩:=List.mem_map.1 ht;exact hb y hy
theorem iM{l:Pol}(h:tQ Q l):tQ Q (aV l):=oV (P:=fun m:Mon=>∀f∈m,Q f.1) h
theorem aE6(q:Rat):tQ Q [([],q)]:=fun t ht f hf=>by
 rw[bDk] at ht;subst ht;simp at hf
theorem aMf:tQ Q []:=fun t ht=>by simp at ht
theorem aMg(q:Rat):tQ Q (fO q):=by
 unfold fO
 split
 .exact aMf
 .exact aE6 q
theorem aMh{a:Pol}(h:tQ Q a):∀n:Nat,tQ Q (dW a n)
 | 0=>aE6 1
 | n+1=>iM (aUa (aMh h n) h)
end
mutual
def LfT(Q:List UInt8->Prop):Tr->Prop
 | .mk op arg neg l m name ks=>((op=2\/op=3)->Q (b8 (aK (.mk op arg neg l m name ks))))/\xG Q ks
def xG(Q:List UInt8->Prop):List Tr->Prop
 | []=>True
 | t::ts=>LfT Q t/\xG Q ts
end
theorem aXo{Q:List UInt8->Prop}:∀t:Tr,okG t->aZ t->LfT Q t->tQ Q (unP t):=by
 refine bN fun t ih=>?_
 intro hok hp hq;obtain⟨op,arg,neg,l,m,name,ks⟩:=t;rw[okG] at hok;rw[aZ] at hp;rw[LfT] at hq;obtain⟨hnb,hks⟩:=hok;obtain⟨hop,hpk⟩:=hp;obtain⟨hl,hqk⟩:=hq;have hn1:=hnb.1;by_cases h1:op=1
 .subst h1;rw[vA];exact aMg _
 by_cases h23:op=2\/op=3
 .rw[unP,aEr h1 Aa];intro t ht f hf;rw[bDk] at ht;subst ht;rw[bDk] at hf;subst hf;exact hl h23
 by_cases hone:op=4\/op=9
 .obtain⟨k,rfl⟩:=aEm hn1 (by unfold aR;rcases hone with rfl|rfl<;>rfl);rw[cA] at hks;rw[bK] at hpk;rw[xG] at hqk;have hd:=ih k (aP (j:=0) rfl) hks.1 hpk.1 hqk.1;rcases hone with rfl|rfl
  .rw[iF];exact iM (aKa _ aMf hd)
  .rw[pW Aa];exact aMh hd _
 .obtain⟨k,k',rfl⟩:=aJt hn1 (by unfold aR;rw[if_neg Aa,if_neg Aa,if_pos Aa]);rw[cA,cA] at hks;rw[bK,bK] at hpk;rw[xG,xG] at hqk;have hd:=ih k (aP (j:=0) rfl) hks.1 hpk.1 hqk.1;have hd':=ih k' (aP (j:=1) rfl) hks.2.1 hpk.2.1 hqk.2.1;have h57:op=5\/op=6\/op=7:=Aa;rcases h57 with rfl|rfl|rfl
  .rw[lV];exact iM (aKa _ hd hd')
  .rw[nM];exact iM (aKa _ hd hd')
  .rw[kJ];exact iM (aUa hd hd')
def Bnd(vals:List (List Nat × Rat))(s:List UInt8):Prop:=∃n x,fE n/\s=b8 n/\jV vals n=some x
theorem bA8(vals:List (List Nat × Rat)):∀t:Tr,okG t->aZ t->∀v,dP vals t=some v->LfT (Bnd vals) t:=by
 refine bN fun t ih=>?_
 intro hok hp v hv;obtain⟨op,arg,neg,l,m,name,ks⟩:=t;rw[okG] at hok;rw[aZ] at hp;obtain⟨hnb,hks⟩:=hok;obtain⟨hop,hpk⟩:=hp;have hn1:=hnb.1;rw[LfT];by_cases h1:op=1
 .subst h1;obtain rfl:ks=[]:=bDn (by rw[show aR 1=0 from rfl] at hn1;omega);exact⟨fun h=>by omega,by rw[xG];trivial⟩
 by_cases h2:op=2
 .subst h2;have hnm:=hnb.2.2.2.1;rw[if_pos rfl] at hnm;obtain rfl:ks=[]:=bDn (by rw[show aR 2=0 from rfl] at hn1;omega);rw[dP,if_neg Ad,if_pos rfl] at hv;exact⟨fun _=>⟨name,v,hnm,by rw[aK];rfl,hv⟩,by rw[xG];trivial⟩
 by_cases h3:op=3
 .subst h3;rw[dP,if_neg Ad,if_neg Ad,if_pos rfl] at hv;cases hv
 refine⟨fun h=>by omega,?_⟩
 by_cases hone:op=4\/op=9
 .obtain⟨k,rfl⟩:=aEm hn1 (by unfold aR;rcases hone with rfl|rfl<;>rfl);rw[cA] at hks;rw[bK] at hpk;rw[aGx ⟨h1,h2,h3⟩] at hv;obtain⟨x,hx,-⟩:=Option.bind_eq_some_iff.1 hv;rw[xG,xG];exact⟨ih k (aP (j:=0) rfl) hks.1 hpk.1 x hx,trivial⟩
 .obtain⟨k,k',rfl⟩:=aJt hn1 (by unfold aR;rw[if_neg Aa,if_neg Aa,if_pos Aa]);rw[cA,cA] at hks;rw[bK,bK] at hpk;rw[aGy ⟨h1,h2,h3⟩] at hv;obtain⟨x,hx,hv⟩:=Option.bind_eq_some_iff.1 hv;obtain⟨y,hy,-⟩:=Option.bind_eq_some_iff.1 hv;rw[xG,xG,xG];exact⟨ih k (aP (j:=0) rfl) hks.1 hpk.1 x hx,ih k' (aP (j:=1) rfl) hks.2.1 hpk.2.1 y hy,trivial⟩
end Go.Proofs.Y