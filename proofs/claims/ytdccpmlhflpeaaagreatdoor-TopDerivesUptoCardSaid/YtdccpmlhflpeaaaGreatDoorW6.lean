/- Long division: what a guessed digit is worth. -/
import Derived.Test.YtdccpmlhflpeaaaGreatDoorRepA
set_option linter.all false
set_option maxHeartbeats 4000000
set_option maxRecDepth 40000
namespace Go.Dig

theorem ac1(q P v B:Nat):P*B*(q*v)=q*(P*(v*B)):=by ac_rfl
theorem ac2(P B t:Nat):P*(t*B)=P*B*t:=by ac_rfl
theorem aPu{P top v1 D U dl ul u2 v2:Nat}(hD:D=dl+P*(v1*4294967296+v2))(hU:U=ul+P*(top*4294967296+u2))(hul:ul<P)(hu2:u2<4294967296)(hv:0<v1):U / D<=top / v1:=by
 have hP:0<P:=Aa;rw[bF9 hv];have h1:U / D*D<=U:=Nat.div_mul_le_self _ _;have h2:U / D*(P*(v1*4294967296))<=U / D*D:=by
  refine bD2 _ ?_;rw[hD,bEb];omega
 have h3:U<P*((top+1)*4294967296):=by
  rw[hU];have:ul+P*(top*4294967296+u2)<P*(top*4294967296+u2+1):=by rw[bEb P (top*4294967296+u2) 1];omega
  exact bD9 this (bD2 _ Aa)
 have h4:P*4294967296*(U / D*v1)<P*4294967296*(top+1):=by
  refine bFk (bDv (Nat.le_of_eq ?_) (bDv h2 h1)) (bD9 h3 (Nat.le_of_eq ?_))
  .exact ac1 _ _ _ _
  .exact ac2 _ _ _
 have:=bGm h4;omega
theorem aPv{P top v1 D U dl ul u2 v2 g rest:Nat}(hD:D=dl+P*(v1*4294967296+v2))(hU:U=ul+P*(top*4294967296+u2))(hul:ul<P)(hg:g*v1+rest=top)(h:rest*4294967296+u2<g*v2):U / D<g:=by
 have hP:0<P:=Aa;have h1:top*4294967296+u2<g*(v1*4294967296+v2):=by
  rw[bEb,<-bEa,<-hg,bEc,bE4];exact Nat.add_lt_add_left h _
 have h2:U<g*D:=by
  have a1:U<P*(top*4294967296+u2+1):=by rw[hU,bEb P (top*4294967296+u2) 1];omega
  have a2:P*(top*4294967296+u2+1)<=P*(g*(v1*4294967296+v2)):=bD2 _ h1;have a3:P*(g*(v1*4294967296+v2))<=g*D:=by
   rw[bE0 P g,hD,bEb g];omega
  omega
 have hD0:0<D:=by
  rcases bE7 D with h0|h0
  .rw[h0] at h2;simp at h2
  .exact h0
 exact (bEi hD0).2 h2
theorem aMx{D U g:Nat}(hU:U<D*4294967296)(hg:4294967296<=g):U / D<g:=by
 have hD0:0<D:=by
  rcases bE7 D with h0|h0
  .rw[h0] at hU;simp at hU
  .exact h0
 exact bD9 ((bEi hD0).2 (by rwa [bDj])) hg
theorem aPw{P top v1 D U dl ul u2 v2 g rest:Nat}(hD:D=dl+P*(v1*4294967296+v2))(hdl:dl<P)(hU:U=ul+P*(top*4294967296+u2))(hg:g*v1+rest=top)(hv:0<v1)(hgB:g<4294967296)(h:g*v2<=rest*4294967296+u2):g<=U / D+1:=by
 have hP:0<P:=Aa;have h1:g*(v1*4294967296+v2)<=top*4294967296+u2:=by
  rw[bEb,<-bEa,<-hg,bEc];omega
 have h0:P*4294967296<=D:=by
  rw[hD];have:P*4294967296<=P*(v1*4294967296+v2):=bD2 _ Aa;omega
 have hD0:0<D:=Aa;have h2:g*D<=U+g*P:=by
  have a1:g*D<=g*(P*(v1*4294967296+v2))+g*P:=by
   rw[<-bEb];exact bD2 _ Aa
  have a2:g*(P*(v1*4294967296+v2))<=U:=by
   rw[bE0,hU];exact bDv (bD2 _ h1) Aa
  omega
 have h3:g*P<D:=by
  have:g*P<4294967296*P:=(Nat.mul_lt_mul_right hP).2 hgB;rw[bDj 4294967296 P] at this;omega
 have h4:g*D<U+D:=Aa;have h5:(g-1)*D<=U:=by rw[Nat.sub_mul];omega
 have:=(bF9 hD0).2 h5;omega
theorem aIg{top v1 u1 un g rest:Nat}(hg:g*v1+rest=top)(ht:top=un*4294967296+u1)(hu:u1<4294967296)(hun:un<=v1)(hr:4294967296<=rest):g<4294967296:=by
 rcases bEp g 4294967296 with h|h
 .exact h
 .have:=bDq v1 h;omega
theorem wT{v2 g rest u2:Nat}(hg:g<4294967296)(hv:v2<4294967296)(hr:4294967296<=rest):g*v2<=rest*4294967296+u2:=by
 have h1:g*v2<=4294967296*v2:=bDq _ Aa;have h2:4294967296*v2<=4294967296*rest:=bD2 _ Aa;omega
theorem yV{g v1 rest top:Nat}(h0:0<g)(hg:g*v1+rest=top):(g-1)*v1+(rest+v1)=top:=by
 obtain⟨g,rfl⟩:∃k,g=k+1:=⟨g-1,Aa⟩
 rw[bEc] at hg;simp only[Nat.add_sub_cancel];omega
theorem lZ{U D g q E X:Nat}(hD:0<D)(hq:q=U / D)(h1:q<=g)(h2:g<=q+1)(hE:X+g*D=U+E)(hX:X<E\/E=0):(E=0->g=q/\X=U%D)/\(0<E->g=q+1/\X+D=E+U%D):=by
 have hm:=bFw U D;rw[<-hq] at hm;rw[bDj] at hm;rcases Nat.eq_or_lt_of_le h1 with h|h
 .subst h;constructor
  .rintro rfl;exact⟨rfl,Aa⟩
  .intro h0;rcases hX with hX|hX<;>omega
 .have:g=q+1:=Aa;subst this;rw[bEc,bGe] at hE;refine⟨fun h0=>?_,fun h0=>⟨rfl,Aa⟩⟩
  have:=bE3 U hD;omega
theorem rT{b:Nat}(hb:2<=b){l:List Nat}(h:∀x∈l,x<b)(k:Nat):evl b (l.drop k)=evl b l / b^k:=by
 rcases bEp k l.length with hk|hk
 .have e:=fS b (l.take k) (l.drop k);rw[bDo] at e;have hl:(l.take k).length=k:=by simp;omega
  have hlt:=iS hb (l:=l.take k) fun x hx=>h x (bEd hx)
  rw[hl] at e hlt;rw[e,Nat.add_mul_div_left _ _ (bFi Aa),bEx hlt,bDu]
 .rw[bGg hk,aU,bEx];exact bD9 (iS hb h) (bD8 Aa hk)
theorem fZ{l m:List Nat}{k j:Nat}(h:l.drop k=m.drop k)(hj:k<=j):l.getD j 0=m.getD j 0:=by
 have:=congrArg (fun x=>x.getD (j-k) 0) h
 simpa[bC7,bF5,show k+(j-k)=j by omega] using this
theorem bH{l m:List Nat}{k x:Nat}(h:l.drop k=m.drop k):(l.set k x).drop (k+1)=m.drop (k+1):=by
 rw[qR,<-bG2 (i:=1) (j:=k),h,bG2]
theorem oG{b:Nat}{l:List Nat}{k:Nat}(hk:k<=l.length):evl b l=evl b (l.take k)+b^k*evl b (l.drop k):=by
 have e:=fS b (l.take k) (l.drop k);rw[bDo] at e
 rwa [show (l.take k).length=k by simp;omega] at e
end Go.Dig
/- Long division: the divisor's first digit is made large. -/
namespace Go.Dig

theorem aIh{n:Nat}:1<=bl n↔n≠0:=by
 constructor
 .rintro h rfl;rw[aKk] at h;omega
 .intro h;rw[aDi h];omega
theorem bCm{p n L t s:Nat}(hp:1<=p)(hn:n≠0)(hL:L=ln (2^p) n)(ht:t=(dg (2^p) n).getD (L-1) 0)(hs:s=p-bl t):
  ln (2^p) (n*2^s)=L/\2^(p-1)<=(dg (2^p) (n*2^s)).getD (L-1) 0/\bl t<=p/\1<=bl t/\1<=L:=by
 have hb:2<=2^p:=by have:2^1<=2^p:=bD8 Aa hp;omega
 have hL1:1<=L:=by rw[hL];exact bE8 fun h=>hn ((aT hb).1 h)
 have ht1:bl t<=p:=gL.2 (by rw[ht];exact dgl hb _ _);have hbl:=aXw hp hn;rw[<-hL,<-ht] at hbl;have hne:dg (2^p) n≠[]:=fun h=>hn ((aDf hb).1 h)
 have ht2:1<=bl t:=aIh.2 (by
   have:=aUn hb n hne;rw[bHm] at this;rw[ht,hL];unfold ln;rw[bC7,bC8 (by have:=List.length_pos_iff.2 hne;omega)];exact this)
 have e1:(2^p)^(L-1)*2^(p-1)<=n*2^s:=by
  rw[<-bFz,<-bEs,show p*(L-1)+(p-1)=(bl n-1)+s by omega,bEs]
  exact bDq _ (aPp hn)
 have e2:n*2^s<(2^p)^(L-1)*2^p:=by
  rw[<-bFz,<-bEs,show p*(L-1)+p=bl n+s by omega,bEs]
  exact Nat.mul_lt_mul_of_pos_right (aKl n) (bEr _)
 have hP:0<(2^p)^(L-1):=bFi Aa;refine⟨?_,?_,ht1,ht2,hL1⟩
 .have u:ln (2^p) (n*2^s)<=L:=(aL hb).2 (by
    rw[show L=L-1+1 by omega,bEk];exact e2)
  have l:¬ln (2^p) (n*2^s)<=L-1:=fun h=>by
   have h1:=(aL hb).1 h;have:(2^p)^(L-1)*1<=(2^p)^(L-1)*2^(p-1):=bD2 _ (bEr _);omega
  omega
 .rw[fY hb,bEl ((bEi hP).2 (by rw[bDj (2^p)];exact e2)),bF9 hP,bDj]
  exact e1
theorem aYh{n L t s:Nat}(hn:n≠0)(hL:L=ln 4294967296 n)(ht:t=(dg 4294967296 n).getD (L-1) 0)(hs:s=32-bl t):
  ln 4294967296 (n*2^s)=L/\2147483648<=(dg 4294967296 (n*2^s)).getD (L-1) 0/\bl t<=32/\1<=bl t/\1<=L:=by
 have e:(4294967296:Nat)=2^32:=Ad;rw[e] at hL ht ⊢;have:=bCm (p:=32) Aa hn hL ht hs
 simpa using this
theorem aMy{b m n s la lb:Nat}(hb:2<=b)(hla:m<b^la)(hlb:b^(lb-1)<=n)(h1:1<=lb)(hle:lb<=la):m*2^s / b^(la-lb+1)<n*2^s:=by
 rw[bEi (bFi Aa)];have e:b^la=b^(la-lb+1)*b^(lb-1):=by rw[<-bEs];congr 1;omega
 have h2:m*2^s<b^la*2^s:=Nat.mul_lt_mul_of_pos_right hla (bEr _);have h3:b^la*2^s<=n*2^s*b^(la-lb+1):=by
  rw[e,bDj (b^(la-lb+1)),Nat.mul_right_comm];exact bDq _ (bDq _ hlb)
 omega
theorem aFs{b o0 o1 U D E Q q r x:Nat}(h:o1+D*Q=o0)(hU:U=x+b*o1)(hE:E=x+b*o0)(hq:U=q*D+r):r+D*(q+b*Q)=E:=by
 have h1:D*(q+b*Q)=q*D+b*(D*Q):=by rw[bEb,bDj D q,bE0]
 have h2:b*o0=b*o1+b*(D*Q):=by rw[<-h,bEb]
 rw[h1];omega
theorem aKq{m n s X Q:Nat}(h:X+n*2^s*Q=m*2^s)(hX:X<n*2^s):Q=m / n/\X / 2^s=m%n/\X=m%n*2^s:=by
 have hs:=bEr s;have hn:0<n*2^s:=Aa;have hn0:0<n:=Nat.pos_of_mul_pos_right hn;have e1:Q=m*2^s / (n*2^s):=by rw[<-h,Nat.add_mul_div_left _ _ hn,bEx hX,bDu]
 have e2:X=m*2^s%(n*2^s):=by rw[<-h,bHd,bEl hX]
 rw[Nat.mul_div_mul_right _ _ hs] at e1;rw[Nat.mul_mod_mul_right] at e2;exact⟨e1,by rw[e2,Nat.mul_div_cancel _ hs],e2⟩
theorem aUu{b:Nat}{l:List Nat}{k:Nat}(h:∀x∈l,x<b):∀x∈l.drop k,x<b:=fun x hx=>h x (bE2 hx)
end Go.Dig
/- Contracts of package word's functions on natural numbers, fifth part: one digit of long division. -/
namespace Go.Vc
open Go Go.Dig
theorem aDo{p u:List Nat}{i:Nat}(ho:i<u.length):(p++u).getD (p.length+i) 0=u.getD i 0:=by
 simp[bC7,bDs]
theorem aKr{p u:List Nat}{i x:Nat}:(p++u).set (p.length+i) x=p++u.set i x:=by
 rw[bEo _ _ Aa];congr 2;omega
theorem Ld.win{h:aA}{L:Own}{b i:Nat}{k:Value->Prop}{kd:IntKind}{T:TypeId}{p u:List Nat}(n:Nat)(hb:L[n]?=some (b,Row kd T (p++u)))(ho:i<u.length)(hk:k (.int kd ((u.getD i 0:Nat):Int))):Ld h L ⟨b,p.length+i,none⟩ k:=
 Ld.ws n hb Aq (by rw[aDo ho];exact hk)
theorem Sto.win{L:Own}{b i:Nat}{kd:IntKind}{T:TypeId}{p u:List Nat}{v:Int}{k:Own->Prop}(n:Nat)(hb:L[n]?=some (b,Row kd T (p++u)))(x:Nat)(hx:v=x)(hl:i<u.length)
  (hk:vL (b,Row kd T (p++u.set i x)) L n k):Sto L ⟨b,p.length+i,none⟩ [.int kd v] k:=
 Sto.ws n hb x hx Aq (by rw[aKr];exact hk)
theorem Sto.winE{L:Own}{b i:Nat}{kd:IntKind}{T:TypeId}{p u:List Nat}{v:Int}{k:Own->Prop}(n:Nat)(hb:L[n]?=some (b,Row kd T (p++u)))(hl:i<u.length)
  (hk:∀x:Nat,(x:Int)=v->vL (b,Row kd T (p++u.set i x)) L n k) (h0:0<=v:=by omega):Sto L ⟨b,p.length+i,none⟩ [.int kd v] k:=by
 obtain⟨x,hx⟩:∃x:Nat,(x:Int)=v:=⟨v.toNat,bF8 h0⟩
 exact Sto.win n hb x hx.symm hl (hk x hx)
theorem kK.w32{x:Nat}{k:Int->Prop}(hx:x<4294967296)(hk:k ((x*4294967296:Nat):Int)):kK .u64 (x:Int) 32 k:=by
 refine kK.mk' 32 Ad ?_;have e:((x:Int)*2^32)=((x*4294967296:Nat):Int):=Aa;rw[e,mJ rfl (by show _<2^64;omega)];exact hk
end Go.Vc
namespace Go.Dig
theorem aYi{b:Nat}{l:List Nat}{n:Nat}:evl b (l.take (n+2))=evl b (l.take n)+b^n*(l.getD (n+1) 0*b+l.getD n 0):=by
 rw[etn l (n+1),etn,bE4,bEb,bEk]
 congr 1;rw[bGj,bEa,bDj b]
theorem bCn{b:Nat}{l:List Nat}{n:Nat}:evl b (l.take (n+3))=evl b (l.take n)+b^n*((l.getD (n+1) 0+l.getD (n+2) 0*b)*b+l.getD n 0):=by
 rw[etn l (n+2),aYi,bE4,show b^(n+2)=b^n*(b*b) by rw[bEs,Nat.pow_two],bEa,<-bEb]
 congr 2
 rw[bEc,bEa (l.getD (n+2) 0),bDj (b*b)];omega
theorem bBd{b P dl ul v1 v2 un u1 u2 U D:Nat}(hD:D=dl+P*(v1*b+v2))(hdl:dl<P)(hU:U=ul+P*((u1+un*b)*b+u2))(h:U<D*b)(hv2:v2<b):un<=v1:=by
 have hP:0<P:=Aa;have h1:P*(un*b*b)<=U:=by
  rw[hU];exact bDv (bD2 _ (by rw[bEc];omega)) (Nat.le_add_left _ _)
 have h2:D<=P*(v1*b+v2+1):=by rw[hD,bEb P (v1*b+v2) 1];omega
 have h3:D*b<=P*((v1*b+v2+1)*b):=by rw[<-bEa];exact bDq _ h2
 have h4:P*(un*b*b)<P*((v1*b+v2+1)*b):=Aa;have h5:=bGm h4;have h6:=Nat.lt_of_mul_lt_mul_right h5;have h7:un*b<(v1+1)*b:=by rw[bEc];omega
 have:=Nat.lt_of_mul_lt_mul_right h7;omega
theorem rU{b:Nat}{w u dd:List Nat}{k c bo bo' G s x:Nat}(hk:k<w.length)(hs:s=G*dd.getD k 0+c)(hx:x+s%b+bo=u.getD k 0+bo'*b)
  (h:evl b (w.take k)+G*evl b (dd.take k)=evl b (u.take k)+(c+bo)*b^k):
  evl b ((w.set k x).take (k+1))+G*evl b (dd.take (k+1))=evl b (u.take (k+1))+(s / b+bo')*b^(k+1):=by
 rw[jC _ hk,etn dd,etn u,bEb,bEk];have e1:(c+bo)*b^k=b^k*(c+bo):=bDj _ _;have e2:G*(b^k*dd.getD k 0)=b^k*(G*dd.getD k 0):=bE0 _ _ _;have e3:(s / b+bo')*(b^k*b)=b^k*((s / b+bo')*b):=by rw[bE0]
 rw[e1] at h;rw[e2,e3];have e4:(c+bo)+x+G*dd.getD k 0=u.getD k 0+(s / b+bo')*b:=by
  have:=bFw s b;rw[bDj] at this;rw[bEc];omega
 have e5:b^k*(c+bo+x+G*dd.getD k 0)=b^k*(u.getD k 0+(s / b+bo')*b):=by rw[e4]
 simp only[bEb] at e5;rw[bEb] at h
 skip
 omega
theorem mA{b:Nat}{w u dd:List Nat}{k c bo E G x:Nat}(hk:k<w.length)(hd:dd.length<=k)(hc:c<b)(hx:x+c+bo=u.getD k 0+E*b)
  (h:evl b (w.take k)+G*evl b (dd.take k)=evl b (u.take k)+(c+bo)*b^k):
  evl b ((w.set k x).take (k+1))+G*evl b dd=evl b (u.take (k+1))+E*b^(k+1):=by
 have:=rU (s:=c) (bo':=E) (x:=x) hk (by rw[gE hd];omega) (by rw[bEl hc];exact hx) h
 rwa [bEx hc,bDu,fV (l:=dd) Aa] at this
theorem aDp{Y e M r:Nat}(h:Y+e*M=M+r)(h1:Y<M)(h2:r<M):Y=r:=by
 have:=congrArg (·%M) h
 simpa[Nat.add_mul_mod_self_right,bEl h1,bEl h2] using this
theorem pI{b:Nat}(hb:2<=b){l:List Nat}{k:Nat}(h:∀x∈l,x<b)(hk:k<=l.length):evl b (l.take k)<b^k:=by
 have:=iS hb (l:=l.take k) fun x hx=>h x (bEd hx)
 rwa [show (l.take k).length=k by simp;omega] at this
theorem mB{b:Nat}{l u:List Nat}{k:Nat}(hk:k<=l.length)(hd:l.drop k=u.drop k)(h0:evl b (u.drop k)=0):evl b l=evl b (l.take k):=by
 rw[oG hk,hd,h0,bFc,bEh]
end Go.Dig
namespace Go.Proofs.Y
open Go Go.Vc Go.Dig

theorem aPx(h:aA)(b cap:Nat)(p u:List Nat)(d:Sl)(Dv m:Nat)(hd:aI h d Dv)(hm:ln 4294967296 Dv=m+2)(la:ln 4294967296 Dv<=17179869184)(hv1:2147483648<=((dg 4294967296 Dv).getD (m+1) 0))(hul:m+3<=u.length)(hpl:p.length<=17179869184)(huB:∀x∈u,x<4294967296)(hUD:evl 4294967296 u<Dv*4294967296):
  Vc.Fn T F.q223 [.slice (some ⟨b,p.length,none⟩) (m+3) cap,d.val] h [(b,Row .u32 Ty.uint32 (p++u))] fun v h' L'=>∃u':List Nat,h'=h/\L'=[(b,Row .u32 Ty.uint32 (p++u'))]/\v=.int .u32 (evl 4294967296 u / Dv:Nat)/\u'.length=u.length/\(∀x∈u',x<4294967296)/\evl 4294967296 u'=evl 4294967296 u%Dv:=by
 have hdl:=hd.len;have hv1B:=dgl tlB Dv (m+1);have hv2B:=dgl tlB Dv m;have hu0:=eM (b:=4294967296) Aa huB (m+2);have hu1:=eM (b:=4294967296) Aa huB (m+1);have hu2:=eM (b:=4294967296) Aa huB m;have hDs:Hq (Dv=evl 4294967296 ((dg 4294967296 Dv).take m)+4294967296^m*(((dg 4294967296 Dv).getD (m+1) 0)*4294967296+((dg 4294967296 Dv).getD m 0))):=⟨by rw[<-aYi,<-hm];exact (eY tlB (bDx _)).symm⟩
 have hDB:Dv<4294967296^(m+2):=by rw[<-hm];exact cX tlB Dv
 have hD0:0<Dv:=by
  rcases bE7 Dv with h0|h0
  .rw[h0,nD] at hm;omega
  .exact h0
 have htop:Hq (evl 4294967296 (u.drop (m+3))=0):=⟨by
   rw[rT tlB huB];refine bEx (bD9 hUD ?_);rw[bEk 4294967296 (m+2)];exact bDq _ (bGi hDB)⟩
 have hUt:Hq (evl 4294967296 u=evl 4294967296 (u.take (m+3))):=⟨by rw[oG hul,htop.out,bFc,bEh]⟩
 have hUs:Hq (evl 4294967296 u=evl 4294967296 (u.take m)+4294967296^m*(((u.getD (m+1) 0)+(u.getD (m+2) 0)*4294967296)*4294967296+(u.getD m 0))):=⟨by rw[hUt.out,bCn]⟩
 have hlow:∀{l:List Nat},(∀x∈l,x<4294967296)->m<=l.length->evl 4294967296 (l.take m)<4294967296^m:=fun {l} hl hm=>by
  have:=iS tlB (l:=l.take m) fun x hx=>hl x (bEd hx)
  rwa [show (l.take m).length=m by simp;omega] at this
 have hul2:Hq (evl 4294967296 (u.take m)<4294967296^m):=⟨hlow huB Aa⟩;have hdl2:Hq (evl 4294967296 ((dg 4294967296 Dv).take m)<4294967296^m):=⟨hlow (kN tlB Dv) (by unfold ln at hm;omega)⟩;have hun:(u.getD (m+2) 0)<=((dg 4294967296 Dv).getD (m+1) 0):=bBd hDs.out hdl2.out hUs.out hUD hv2B;obtain⟨q,hq⟩:=AB (evl 4294967296 u / Dv);obtain⟨top,ht⟩:=AB ((u.getD (m+1) 0)+(u.getD (m+2) 0)*4294967296);rw[<-ht] at hUs;obtain⟨g0,hg0⟩:=AB (top / ((dg 4294967296 Dv).getD (m+1) 0));obtain⟨r0,hr0⟩:=AB (top%((dg 4294967296 Dv).getD (m+1) 0));have hq0:q<=g0:=by rw[hq,hg0];exact aPu hDs.out hUs.out hul2.out hu2 Aa
 have hqB:q<4294967296:=by rw[hq];exact (bEi hD0).2 (by rw[bDj];exact hUD)
 have hg0B:g0<=4294967296+1:=by
  rw[hg0];have:top<(4294967296+2)*((dg 4294967296 Dv).getD (m+1) 0):=by
   have:(u.getD (m+2) 0)*4294967296<=((dg 4294967296 Dv).getD (m+1) 0)*4294967296:=bDq _ hun;omega
  have:=(bEi Aa).2 this;omega
 have hr0B:r0<4294967296:=by have:=bE3 top (show 0<((dg 4294967296 Dv).getD (m+1) 0) by omega);omega
 have hgr:Hq (g0*((dg 4294967296 Dv).getD (m+1) 0)+r0=top):=⟨by rw[hg0,hr0,bDj];exact bFw _ _⟩
 have eq1:((top:Int) / (((dg 4294967296 Dv).getD (m+1) 0):Nat))=(g0:Int):=by rw[hg0];rfl
 have eq2:((top:Int)%(((dg 4294967296 Dv).getD (m+1) 0):Nat))=(r0:Int):=by rw[hr0];rfl
 rw[<-hq];replace hq:=Hq.mk hq;replace hg0:=Hq.mk hg0;replace hr0:=Hq.mk hr0;replace hDB:=Hq.mk hDB;replace hUD:=Hq.mk hUD;replace hD0:=Hq.mk hD0;replace hlow:=Hq.mk @hlow;refine f1C ok D.q223 rfl ?_;conv=>whnf
 repeat ((first|apply oI.z|apply cI.z);conv=>whnf)
 repeat' ((first|(show Idx _ _ _ _ _;first|refine Idx.one (m+2) rfl Aa Aa ?_|refine Idx.one (m+1) rfl Aa Aa ?_)|(show Ld _ _ _ _;refine Ld.win 0 rfl Aa ?_)|(show kK _ _ _ _;refine kK.w32 hu0 ?_)|(show WN _ _ _;first|refine WN.i64 Aa Aa ?_|refine WN.u64 Aa Aa ?_)|refine DrN.run Al ?_)<;>conv=>whnf)
 .refine kL.orq (u.getD (m+1) 0) ((u.getD (m+2) 0)*4294967296) 32 rfl rfl hu1 (by show _%4294967296=0;omega) (by show _<2^64;omega) (by show _<2^64;omega) rfl (fun _=>?_)
  rw[<-ht];conv=>whnf
  repeat' ((first|(show Idx _ _ _ _ _;(refine Idx.ws hd (m+1) Aa (by unfold ln at *;omega) (fun ad hv=>?_)))|(show Ld _ _ _ _;(refine Ld.of (by first|exact hv _|(rename_i hv;exact hv _)) ?_))|(show fM _ _ _ _;(refine fM.u64 Aa Aa Aa ?_;rw[eq1]))|(show iQ _ _ _;(refine iQ.nn Aa Aa ?_;rw[eq2]))|((first|apply oI.z|apply cI.z))|(show WN _ _ _;first|refine WN.i64 Aa Aa ?_|refine WN.u64 Aa Aa ?_)|refine DrN.run Al ?_)<;>conv=>whnf)
  refine LpN.of (fun r ρ h' L=>∃(g rest:Nat),r=g/\h'=h/\L=[(b,Row .u32 Ty.uint32 (p++u))]/\rd ρ 7=.int .u64 g/\rd ρ 8=.int .u64 rest/\g<=4294967296+1/\rest<4294967296/\q<=g/\Hq (g*((dg 4294967296 Dv).getD (m+1) 0)+rest=top)) g0
   ⟨g0,r0,rfl,rfl,rfl,rfl,rfl,hg0B,hr0B,hq0,hgr⟩ ?_
  conv=>whnf
  repeat intro _
  rename_i g h2 L2 hI;obtain⟨_,rest,rfl,rfl,rfl,e0,e1,hgB,hrB,hqg,hgr⟩:=hI;conv at e0=>lhs;whnf
  subst e0;conv at e1=>lhs;whnf
  subst e1;have hstop:∀G rest,Hq (G*((dg 4294967296 Dv).getD (m+1) 0)+rest=top)->4294967296<=rest->G<4294967296:=fun G rest h1 h2=>aIg (u1:=(u.getD (m+1) 0)) (un:=(u.getD (m+2) 0)) h1.out Aa hu1 hun h2
  have hle:∀G rest,Hq (G*((dg 4294967296 Dv).getD (m+1) 0)+rest=top)->G<4294967296->Hq (G*((dg 4294967296 Dv).getD m 0)<=rest*4294967296+(u.getD m 0))->G<=q+1:=fun G rest h1 h2 h3=>by
   rw[hq.out];exact aPw hDs.out hdl2.out hUs.out h1.out Aa h2 h3.out
  rcases bEp g 4294967296 with hgl|hgl
  .conv=>whnf
   repeat ((first|apply oI.z|apply cI.z);conv=>whnf)
   repeat' first|((first|(show cG _ _ _ _;refine cG.of 32 Ad Aa ?_)|(show WN _ _ _;first|refine WN.mul32 (x:=g) (y:=((dg 4294967296 Dv).getD m 0)) hgl hv2B (fun pp hp hp'=>?_)|refine WN.i64 Aa Aa ?_|refine WN.u64 Aa Aa ?_)|(show kK _ _ _ _;refine kK.w32 hrB ?_)|(show Idx _ _ _ _ _;first|refine Idx.one m rfl Aa Aa ?_|(refine Idx.ws hd m Aa (by unfold ln at *;omega) (fun ad hv=>?_)))|(show Ld _ _ _ _;first|refine Ld.win 0 rfl Aa ?_|(refine Ld.of (by first|exact hv _|(rename_i hv;exact hv _)) ?_))|refine DrN.run Al ?_)<;>conv=>whnf)|(show cnd _ _ _;first|(apply aD<;>intro _<;>first|(exfalso;omega)|conv=>whnf)|(refine aJ ?_))
   rename_i pp hp hp' _ _;refine kL.orq (u.getD m 0) (rest*4294967296) 32 rfl rfl hu2 (by show _%4294967296=0;omega) (by show _<2^64;omega) (by show _<2^64;omega) rfl (fun _=>?_)
   obtain⟨sm,hsm⟩:=AB ((u.getD m 0)+rest*4294967296);rw[<-hsm];conv=>whnf
   repeat ((first|apply oI.z|apply cI.z);conv=>whnf)
   refine aB (fun hgt=>?_) (fun hng=>?_)
   .have hqg1:q<g:=by rw[hq.out];exact aPv hDs.out hUs.out hul2.out hgr.out (by rw[<-hp.out];omega)
    obtain⟨G,rfl⟩:∃G,g=G+1:=⟨g-1,Aa⟩
    have eG:((G+1:Nat):Int)-1=(G:Int):=Aa;have hgn:Hq (G*((dg 4294967296 Dv).getD (m+1) 0)+(rest+((dg 4294967296 Dv).getD (m+1) 0))=top):=⟨yV (Nat.succ_pos G) hgr.out⟩;clear hgr;conv=>whnf
    repeat' first|((first|(show WN _ _ _;first|(refine WN.u64 Aa Aa ?_;rw[eG])|refine WN.i64 Aa Aa ?_|refine WN.u64 Aa Aa ?_)|(show cG _ _ _ _;refine cG.of 32 Ad Aa ?_)|(show Idx _ _ _ _ _;(refine Idx.ws hd (m+1) Aa (by unfold ln at *;omega) (fun ad hv=>?_)))|(show Ld _ _ _ _;(refine Ld.of (by first|exact hv _|(rename_i hv;exact hv _)) ?_))|((first|apply oI.z|apply cI.z)))<;>conv=>whnf)|(show cnd _ _ _;first|(apply aD<;>intro _<;>first|(exfalso;omega)|conv=>whnf)|(refine aJ ?_))
    .exact⟨rfl,G,Aa,G,rest+((dg 4294967296 Dv).getD (m+1) 0),rfl,rfl,rfl,rfl,vi Aa,Aa,Aa,Aa,hgn⟩
    .have hGB:G<4294967296:=hstop _ _ hgn Aa;have hqG:q<=G:=Aa;have hGq:G<=q+1:=hle _ _ hgn hGB ⟨wT hGB hv2B Aa⟩;refine LpN.of (fun r ρ h' L=>∃(k:Nat) (w:List Nat) (c bo:Nat),r=m+2-k/\h'=h2/\L=[(b,Row .u32 Ty.uint32 (p++w))]/\rd ρ 88=.int .i64 k/\rd ρ 10=.int .u64 c/\rd ρ 9=.int .u64 bo/\k<=m+2/\w.length=u.length/\(∀x∈w,x<4294967296)/\c<4294967296/\bo<=1/\Hq (w.drop k=u.drop k)/\Hq (evl 4294967296 (w.take k)+G*evl 4294967296 ((dg 4294967296 Dv).take k)=evl 4294967296 (u.take k)+(c+bo)*4294967296^k)) (m+2)
      ⟨0,u,0,0,rfl,rfl,rfl,rfl,rfl,rfl,Aa,rfl,huB,Aa,Aa,⟨rfl⟩,⟨by simp[aU]⟩⟩ ?_
     conv=>whnf
     repeat intro _
     rename_i r2 h3 L3 hI;obtain⟨k,w,c,bo,rfl,rfl,rfl,e0,e1,e2,hk,hwl,hwB,hc,hbo,hwd,heq⟩:=hI;conv at e0=>lhs;whnf
     subst e0;conv at e1=>lhs;whnf
     subst e1;conv at e2=>lhs;whnf
     subst e2;have hdk:=dgl tlB Dv k;have hwk:=eM (b:=4294967296) Aa hwB k;obtain⟨xl,hxl⟩:=AB ((w.getD k 0+2*4294967296-c-bo)%4294967296);have hwu:Hq (w.getD k 0=u.getD k 0):=⟨fZ hwd.out (bDx _)⟩;conv=>whnf
     repeat' first|((first|(show Idx _ _ _ _ _;first|(refine Idx.ws hd k Aa (by unfold ln at *;omega) (fun ad hv=>?_))|refine Idx.one k rfl Aa Aa ?_)|(show Ld _ _ _ _;first|(refine Ld.of (by first|exact hv _|(rename_i hv;exact hv _)) ?_)|refine Ld.win 0 rfl Aa ?_)|(show WN _ _ _;first|refine WN.mul32 (x:=G) (y:=(dg 4294967296 Dv).getD k 0) hGB hdk (fun pq hpq hpq'=>?_)|refine WN.u32e (fun _ _=>?_)|refine WN.u64 Aa Aa ?_|refine WN.u64e (fun _ _=>?_)|refine WN.i64 Aa Aa ?_)|(show cG _ _ _ _;first|refine cG.e 32 Ad Aa (fun _ _=>?_)|refine cG.e 63 Ad Aa (fun _ _=>?_))|(show Sto _ _ _ _;first|refine Sto.win 0 rfl xl Aa Aa ?_|refine Sto.winE 0 rfl Aa (fun _ _=>?_))|((first|apply oI.z|apply cI.z)))<;>conv=>whnf)|(show cnd _ _ _;first|((first|apply aB|apply aD)<;>intro _<;>first|(exfalso;omega)|conv=>whnf))
     .refine⟨rfl,m+2-(k+1),Aa,k+1,_,(pq+c) / 4294967296,if w.getD k 0<(pq+c)%4294967296+bo then 1 else 0,rfl,rfl,rfl,vi Aa,vi Aa,vi Ay,Aa,by simp[hwl],aM hwB Aa,Aa,by split<;>omega,⟨bH hwd.out⟩,⟨rU (s:=pq+c) Aa (by rw[hpq.out]) (by rw[<-hwu.out];split<;>omega) heq.out⟩⟩
     .obtain rfl:k=m+2:=Aa;have hE:=mA (x:=xl) (E:=0) Aa (by unfold ln at hm;omega) hc (by rw[<-hwu.out];omega) heq.out;rw[bV tlB,<-hUt.out] at hE;have hfin:=(lZ hD0.out hq.out hqG hGq hE (.inr (bEv _))).1 (bEv _);refine RN.done ⟨w.set (m+2) xl,rfl,rfl,vi (by have:=hfin.1;omega),by simp[hwl],aM hwB Aa,?_⟩
      rw[mB Aq (bH hwd.out) htop.out];exact hfin.2
     .obtain rfl:k=m+2:=Aa;have hE:=mA (x:=xl) (E:=1) Aa (by unfold ln at hm;omega) hc (by rw[<-hwu.out];omega) heq.out;rw[bV tlB,<-hUt.out,bGe] at hE;obtain⟨y,hy⟩:=AB (w.set (m+2) xl);have hyl:y.length=u.length:=by rw[hy];simp[hwl]
      have hyB:∀x∈y,x<4294967296:=by rw[hy];exact aM hwB Aa
      have hyd:Hq (y.drop (m+3)=u.drop (m+3)):=⟨by rw[hy];exact bH hwd.out⟩
      rw[<-hy] at hE;have hpos:0<4294967296^(m+3):=bFi Aa;have hfin:=(lZ hD0.out hq.out hqG hGq hE (.inl (pI tlB hyB Aa))).2 hpos;have hG1:=hfin.1;replace hfin:=Hq.mk hfin.2;rw[<-hy];replace hE:=Hq.mk hE;replace hpos:=Hq.mk hpos;refine LpN.of (fun r ρ h' L=>∃(k:Nat) (z:List Nat) (c:Nat),r=m+2-k/\h'=h3/\L=[(b,Row .u32 Ty.uint32 (p++z))]/\rd ρ 141=.int .i64 k/\rd ρ 10=.int .u64 c/\k<=m+2/\z.length=u.length/\(∀x∈z,x<4294967296)/\c<=1/\Hq (z.drop k=y.drop k)/\Hq (evl 4294967296 (z.take k)+c*4294967296^k=evl 4294967296 (y.take k)+evl 4294967296 ((dg 4294967296 Dv).take k))) (m+2)
       ⟨0,y,0,rfl,rfl,rfl,rfl,rfl,Aa,hyl,hyB,Aa,⟨rfl⟩,⟨by simp[aU]⟩⟩ ?_
      conv=>whnf
      repeat intro _
      rename_i r3 h4 L4 hI;obtain⟨k,z,c,rfl,rfl,rfl,e0,e1,hk,hzl,hzB,hc,hzd,heq⟩:=hI;conv at e0=>lhs;whnf
      subst e0;conv at e1=>lhs;whnf
      subst e1;have hdk:=dgl tlB Dv k;have hzk:=eM (b:=4294967296) Aa hzB k;obtain⟨s3,hs3⟩:=AB (z.getD k 0+c+(dg 4294967296 Dv).getD k 0);obtain⟨x3,hx3⟩:=AB (s3%4294967296);obtain⟨x4,hx4⟩:=AB ((z.getD k 0+c)%4294967296);have hzu:Hq (z.getD k 0=y.getD k 0):=⟨fZ hzd.out (bDx _)⟩;conv=>whnf
      repeat' ((first|(show Idx _ _ _ _ _;first|(refine Idx.ws hd k Aa (by unfold ln at *;omega) (fun ad hv=>?_))|refine Idx.one k rfl Aa Aa ?_)|(show Ld _ _ _ _;first|(refine Ld.of (by first|exact hv _|(rename_i hv;exact hv _)) ?_)|refine Ld.win 0 rfl Aa ?_)|(show cG _ _ _ _;refine cG.e 32 Ad Aa (fun _ _=>?_))|(show WN _ _ _;first|refine WN.u32e (fun _ _=>?_)|refine WN.i64 Aa Aa ?_|refine WN.u64 Aa Aa ?_)|(show Sto _ _ _ _;first|refine Sto.win 0 rfl x3 Aa Aa ?_|refine Sto.win 0 rfl x4 Aa Aa ?_)|((first|apply oI.z|apply cI.z))|(apply aB<;>intro _<;>try (exfalso;omega)))<;>conv=>whnf)
      .refine⟨rfl,m+2-(k+1),Aa,k+1,_,s3 / 4294967296,rfl,rfl,rfl,vi Aa,vi Aa,Aa,by simp[hzl],aM hzB Aa,Aa,⟨bH hzd.out⟩,⟨by rw[hx3];exact kP Aa (by rw[<-hzu.out];exact hs3) heq.out⟩⟩
      .obtain rfl:k=m+2:=Aa;have hz0:(dg 4294967296 Dv).getD (m+2) 0=0:=gE (by unfold ln at hm;omega);have hA:=kP (b:=4294967296) (o:=z) (da:=y) (db:=dg 4294967296 Dv) (k:=m+2) (c:=c) (s:=z.getD (m+2) 0+c) Aa (by rw[<-hzu.out,hz0];rfl) heq.out;rw[fV (l:=dg 4294967296 Dv) (by unfold ln at hm;omega),bV tlB,hfin.out] at hA;rw[<-hx4] at hA;have hB:=aM (k:=m+2) (x:=x4) hzB Aa;have hY:=aDp hA (pI tlB hB Aq) (bD9 (bH0 (bE3 _ hD0.out) hDB.out) (bD8 Aa Aa));refine RN.done ⟨z.set (m+2) x4,rfl,rfl,vi Aa,by simp[hzl],hB,?_⟩
       rw[mB (u:=u) (k:=m+3) Aq ((bH hzd.out).trans hyd.out) htop.out];exact hY
   .obtain⟨G,hG⟩:∃G,G=g:=⟨g,rfl⟩
    subst hG;have hGB:G<4294967296:=hgl;have hqG:q<=G:=hqg;have hGq:G<=q+1:=hle _ _ hgr hGB ⟨by rw[<-hp.out];omega⟩
    conv=>whnf
    repeat ((first|apply oI.z|apply cI.z);conv=>whnf)
    skip
    refine LpN.of (fun r ρ h' L=>∃(k:Nat) (w:List Nat) (c bo:Nat),r=m+2-k/\h'=h2/\L=[(b,Row .u32 Ty.uint32 (p++w))]/\rd ρ 88=.int .i64 k/\rd ρ 10=.int .u64 c/\rd ρ 9=.int .u64 bo/\k<=m+2/\w.length=u.length/\(∀x∈w,x<4294967296)/\c<4294967296/\bo<=1/\Hq (w.drop k=u.drop k)/\Hq (evl 4294967296 (w.take k)+G*evl 4294967296 ((dg 4294967296 Dv).take k)=evl 4294967296 (u.take k)+(c+bo)*4294967296^k)) (m+2)
     ⟨0,u,0,0,rfl,rfl,rfl,rfl,rfl,rfl,Aa,rfl,huB,Aa,Aa,⟨rfl⟩,⟨by simp[aU]⟩⟩ ?_
    conv=>whnf
    repeat intro _
    rename_i r2 h3 L3 hI;obtain⟨k,w,c,bo,rfl,rfl,rfl,e0,e1,e2,hk,hwl,hwB,hc,hbo,hwd,heq⟩:=hI;conv at e0=>lhs;whnf
    subst e0;conv at e1=>lhs;whnf
    subst e1;conv at e2=>lhs;whnf
    subst e2;have hdk:=dgl tlB Dv k;have hwk:=eM (b:=4294967296) Aa hwB k;obtain⟨xl,hxl⟩:=AB ((w.getD k 0+2*4294967296-c-bo)%4294967296);have hwu:Hq (w.getD k 0=u.getD k 0):=⟨fZ hwd.out (bDx _)⟩;conv=>whnf
    repeat' first|((first|(show Idx _ _ _ _ _;first|(refine Idx.ws hd k Aa (by unfold ln at *;omega) (fun ad hv=>?_))|refine Idx.one k rfl Aa Aa ?_)|(show Ld _ _ _ _;first|(refine Ld.of (by first|exact hv _|(rename_i hv;exact hv _)) ?_)|refine Ld.win 0 rfl Aa ?_)|(show WN _ _ _;first|refine WN.mul32 (x:=G) (y:=(dg 4294967296 Dv).getD k 0) hGB hdk (fun pq hpq hpq'=>?_)|refine WN.u32e (fun _ _=>?_)|refine WN.u64 Aa Aa ?_|refine WN.u64e (fun _ _=>?_)|refine WN.i64 Aa Aa ?_)|(show cG _ _ _ _;first|refine cG.e 32 Ad Aa (fun _ _=>?_)|refine cG.e 63 Ad Aa (fun _ _=>?_))|(show Sto _ _ _ _;first|refine Sto.win 0 rfl xl Aa Aa ?_|refine Sto.winE 0 rfl Aa (fun _ _=>?_))|((first|apply oI.z|apply cI.z)))<;>conv=>whnf)|(show cnd _ _ _;first|((first|apply aB|apply aD)<;>intro _<;>first|(exfalso;omega)|conv=>whnf))
    .refine⟨rfl,m+2-(k+1),Aa,k+1,_,(pq+c) / 4294967296,if w.getD k 0<(pq+c)%4294967296+bo then 1 else 0,rfl,rfl,rfl,vi Aa,vi Aa,vi Ay,Aa,by simp[hwl],aM hwB Aa,Aa,by split<;>omega,⟨bH hwd.out⟩,⟨rU (s:=pq+c) Aa (by rw[hpq.out]) (by rw[<-hwu.out];split<;>omega) heq.out⟩⟩
    .obtain rfl:k=m+2:=Aa;have hE:=mA (x:=xl) (E:=0) Aa (by unfold ln at hm;omega) hc (by rw[<-hwu.out];omega) heq.out;rw[bV tlB,<-hUt.out] at hE;have hfin:=(lZ hD0.out hq.out hqG hGq hE (.inr (bEv _))).1 (bEv _);refine RN.done ⟨w.set (m+2) xl,rfl,rfl,vi (by have:=hfin.1;omega),by simp[hwl],aM hwB Aa,?_⟩
     rw[mB Aq (bH hwd.out) htop.out];exact hfin.2
    .obtain rfl:k=m+2:=Aa;have hE:=mA (x:=xl) (E:=1) Aa (by unfold ln at hm;omega) hc (by rw[<-hwu.out];omega) heq.out;rw[bV tlB,<-hUt.out,bGe] at hE;obtain⟨y,hy⟩:=AB (w.set (m+2) xl);have hyl:y.length=u.length:=by rw[hy];simp[hwl]
     have hyB:∀x∈y,x<4294967296:=by rw[hy];exact aM hwB Aa
     have hyd:Hq (y.drop (m+3)=u.drop (m+3)):=⟨by rw[hy];exact bH hwd.out⟩
     rw[<-hy] at hE;have hpos:0<4294967296^(m+3):=bFi Aa;have hfin:=(lZ hD0.out hq.out hqG hGq hE (.inl (pI tlB hyB Aa))).2 hpos;have hG1:=hfin.1;replace hfin:=Hq.mk hfin.2;rw[<-hy];replace hE:=Hq.mk hE;replace hpos:=Hq.mk hpos;refine LpN.of (fun r ρ h' L=>∃(k:Nat) (z:List Nat) (c:Nat),r=m+2-k/\h'=h3/\L=[(b,Row .u32 Ty.uint32 (p++z))]/\rd ρ 141=.int .i64 k/\rd ρ 10=.int .u64 c/\k<=m+2/\z.length=u.length/\(∀x∈z,x<4294967296)/\c<=1/\Hq (z.drop k=y.drop k)/\Hq (evl 4294967296 (z.take k)+c*4294967296^k=evl 4294967296 (y.take k)+evl 4294967296 ((dg 4294967296 Dv).take k))) (m+2)
      ⟨0,y,0,rfl,rfl,rfl,rfl,rfl,Aa,hyl,hyB,Aa,⟨rfl⟩,⟨by simp[aU]⟩⟩ ?_
     conv=>whnf
     repeat intro _
     rename_i r3 h4 L4 hI;obtain⟨k,z,c,rfl,rfl,rfl,e0,e1,hk,hzl,hzB,hc,hzd,heq⟩:=hI;conv at e0=>lhs;whnf
     subst e0;conv at e1=>lhs;whnf
     subst e1;have hdk:=dgl tlB Dv k;have hzk:=eM (b:=4294967296) Aa hzB k;obtain⟨s3,hs3⟩:=AB (z.getD k 0+c+(dg 4294967296 Dv).getD k 0);obtain⟨x3,hx3⟩:=AB (s3%4294967296);obtain⟨x4,hx4⟩:=AB ((z.getD k 0+c)%4294967296);have hzu:Hq (z.getD k 0=y.getD k 0):=⟨fZ hzd.out (bDx _)⟩;conv=>whnf
     repeat' ((first|(show Idx _ _ _ _ _;first|(refine Idx.ws hd k Aa (by unfold ln at *;omega) (fun ad hv=>?_))|refine Idx.one k rfl Aa Aa ?_)|(show Ld _ _ _ _;first|(refine Ld.of (by first|exact hv _|(rename_i hv;exact hv _)) ?_)|refine Ld.win 0 rfl Aa ?_)|(show cG _ _ _ _;refine cG.e 32 Ad Aa (fun _ _=>?_))|(show WN _ _ _;first|refine WN.u32e (fun _ _=>?_)|refine WN.i64 Aa Aa ?_|refine WN.u64 Aa Aa ?_)|(show Sto _ _ _ _;first|refine Sto.win 0 rfl x3 Aa Aa ?_|refine Sto.win 0 rfl x4 Aa Aa ?_)|((first|apply oI.z|apply cI.z))|(apply aB<;>intro _<;>try (exfalso;omega)))<;>conv=>whnf)
     .refine⟨rfl,m+2-(k+1),Aa,k+1,_,s3 / 4294967296,rfl,rfl,rfl,vi Aa,vi Aa,Aa,by simp[hzl],aM hzB Aa,Aa,⟨bH hzd.out⟩,⟨by rw[hx3];exact kP Aa (by rw[<-hzu.out];exact hs3) heq.out⟩⟩
     .obtain rfl:k=m+2:=Aa;have hz0:(dg 4294967296 Dv).getD (m+2) 0=0:=gE (by unfold ln at hm;omega);have hA:=kP (b:=4294967296) (o:=z) (da:=y) (db:=dg 4294967296 Dv) (k:=m+2) (c:=c) (s:=z.getD (m+2) 0+c) Aa (by rw[<-hzu.out,hz0];rfl) heq.out;rw[fV (l:=dg 4294967296 Dv) (by unfold ln at hm;omega),bV tlB,hfin.out] at hA;rw[<-hx4] at hA;have hB:=aM (k:=m+2) (x:=x4) hzB Aa;have hY:=aDp hA (pI tlB hB Aq) (bD9 (bH0 (bE3 _ hD0.out) hDB.out) (bD8 Aa Aa));refine RN.done ⟨z.set (m+2) x4,rfl,rfl,vi Aa,by simp[hzl],hB,?_⟩
      rw[mB (u:=u) (k:=m+3) Aq ((bH hzd.out).trans hyd.out) htop.out];exact hY
  .have hqg1:q<g:=by rw[hq.out];exact aMx hUD.out hgl
   obtain⟨G,rfl⟩:∃G,g=G+1:=⟨g-1,Aa⟩
   have eG:((G+1:Nat):Int)-1=(G:Int):=Aa;have hgn:Hq (G*((dg 4294967296 Dv).getD (m+1) 0)+(rest+((dg 4294967296 Dv).getD (m+1) 0))=top):=⟨yV (Nat.succ_pos G) hgr.out⟩;clear hgr;conv=>whnf
   repeat' first|((first|(show WN _ _ _;first|(refine WN.u64 Aa Aa ?_;rw[eG])|refine WN.i64 Aa Aa ?_|refine WN.u64 Aa Aa ?_)|(show cG _ _ _ _;refine cG.of 32 Ad Aa ?_)|(show Idx _ _ _ _ _;(refine Idx.ws hd (m+1) Aa (by unfold ln at *;omega) (fun ad hv=>?_)))|(show Ld _ _ _ _;(refine Ld.of (by first|exact hv _|(rename_i hv;exact hv _)) ?_))|((first|apply oI.z|apply cI.z))|refine DrN.run Al ?_)<;>conv=>whnf)|(show cnd _ _ _;first|(apply aD<;>intro _<;>first|(exfalso;omega)|conv=>whnf)|(refine aJ ?_))
   .exact⟨rfl,G,Aa,G,rest+((dg 4294967296 Dv).getD (m+1) 0),rfl,rfl,rfl,rfl,vi Aa,Aa,Aa,Aa,hgn⟩
   .have hGB:G<4294967296:=hstop _ _ hgn Aa;have hqG:q<=G:=Aa;have hGq:G<=q+1:=hle _ _ hgn hGB ⟨wT hGB hv2B Aa⟩;refine LpN.of (fun r ρ h' L=>∃(k:Nat) (w:List Nat) (c bo:Nat),r=m+2-k/\h'=h2/\L=[(b,Row .u32 Ty.uint32 (p++w))]/\rd ρ 88=.int .i64 k/\rd ρ 10=.int .u64 c/\rd ρ 9=.int .u64 bo/\k<=m+2/\w.length=u.length/\(∀x∈w,x<4294967296)/\c<4294967296/\bo<=1/\Hq (w.drop k=u.drop k)/\Hq (evl 4294967296 (w.take k)+G*evl 4294967296 ((dg 4294967296 Dv).take k)=evl 4294967296 (u.take k)+(c+bo)*4294967296^k)) (m+2)
     ⟨0,u,0,0,rfl,rfl,rfl,rfl,rfl,rfl,Aa,rfl,huB,Aa,Aa,⟨rfl⟩,⟨by simp[aU]⟩⟩ ?_
    conv=>whnf
    repeat intro _
    rename_i r2 h3 L3 hI;obtain⟨k,w,c,bo,rfl,rfl,rfl,e0,e1,e2,hk,hwl,hwB,hc,hbo,hwd,heq⟩:=hI;conv at e0=>lhs;whnf
    subst e0;conv at e1=>lhs;whnf
    subst e1;conv at e2=>lhs;whnf
    subst e2;have hdk:=dgl tlB Dv k;have hwk:=eM (b:=4294967296) Aa hwB k;obtain⟨xl,hxl⟩:=AB ((w.getD k 0+2*4294967296-c-bo)%4294967296);have hwu:Hq (w.getD k 0=u.getD k 0):=⟨fZ hwd.out (bDx _)⟩;conv=>whnf
    repeat' first|((first|(show Idx _ _ _ _ _;first|(refine Idx.ws hd k Aa (by unfold ln at *;omega) (fun ad hv=>?_))|refine Idx.one k rfl Aa Aa ?_)|(show Ld _ _ _ _;first|(refine Ld.of (by first|exact hv _|(rename_i hv;exact hv _)) ?_)|refine Ld.win 0 rfl Aa ?_)|(show WN _ _ _;first|refine WN.mul32 (x:=G) (y:=(dg 4294967296 Dv).getD k 0) hGB hdk (fun pq hpq hpq'=>?_)|refine WN.u32e (fun _ _=>?_)|refine WN.u64 Aa Aa ?_|refine WN.u64e (fun _ _=>?_)|refine WN.i64 Aa Aa ?_)|(show cG _ _ _ _;first|refine cG.e 32 Ad Aa (fun _ _=>?_)|refine cG.e 63 Ad Aa (fun _ _=>?_))|(show Sto _ _ _ _;first|refine Sto.win 0 rfl xl Aa Aa ?_|refine Sto.winE 0 rfl Aa (fun _ _=>?_))|((first|apply oI.z|apply cI.z)))<;>conv=>whnf)|(show cnd _ _ _;first|((first|apply aB|apply aD)<;>intro _<;>first|(exfalso;omega)|conv=>whnf))
    .refine⟨rfl,m+2-(k+1),Aa,k+1,_,(pq+c) / 4294967296,if w.getD k 0<(pq+c)%4294967296+bo then 1 else 0,rfl,rfl,rfl,vi Aa,vi Aa,vi Ay,Aa,by simp[hwl],aM hwB Aa,Aa,by split<;>omega,⟨bH hwd.out⟩,⟨rU (s:=pq+c) Aa (by rw[hpq.out]) (by rw[<-hwu.out];split<;>omega) heq.out⟩⟩
    .obtain rfl:k=m+2:=Aa;have hE:=mA (x:=xl) (E:=0) Aa (by unfold ln at hm;omega) hc (by rw[<-hwu.out];omega) heq.out;rw[bV tlB,<-hUt.out] at hE;have hfin:=(lZ hD0.out hq.out hqG hGq hE (.inr (bEv _))).1 (bEv _);refine RN.done ⟨w.set (m+2) xl,rfl,rfl,vi (by have:=hfin.1;omega),by simp[hwl],aM hwB Aa,?_⟩
     rw[mB Aq (bH hwd.out) htop.out];exact hfin.2
    .obtain rfl:k=m+2:=Aa;have hE:=mA (x:=xl) (E:=1) Aa (by unfold ln at hm;omega) hc (by rw[<-hwu.out];omega) heq.out;rw[bV tlB,<-hUt.out,bGe] at hE;obtain⟨y,hy⟩:=AB (w.set (m+2) xl);have hyl:y.length=u.length:=by rw[hy];simp[hwl]
     have hyB:∀x∈y,x<4294967296:=by rw[hy];exact aM hwB Aa
     have hyd:Hq (y.drop (m+3)=u.drop (m+3)):=⟨by rw[hy];exact bH hwd.out⟩
     rw[<-hy] at hE;have hpos:0<4294967296^(m+3):=bFi Aa;have hfin:=(lZ hD0.out hq.out hqG hGq hE (.inl (pI tlB hyB Aa))).2 hpos;have hG1:=hfin.1;replace hfin:=Hq.mk hfin.2;rw[<-hy];replace hE:=Hq.mk hE;replace hpos:=Hq.mk hpos;refine LpN.of (fun r ρ h' L=>∃(k:Nat) (z:List Nat) (c:Nat),r=m+2-k/\h'=h3/\L=[(b,Row .u32 Ty.uint32 (p++z))]/\rd ρ 141=.int .i64 k/\rd ρ 10=.int .u64 c/\k<=m+2/\z.length=u.length/\(∀x∈z,x<4294967296)/\c<=1/\Hq (z.drop k=y.drop k)/\Hq (evl 4294967296 (z.take k)+c*4294967296^k=evl 4294967296 (y.take k)+evl 4294967296 ((dg 4294967296 Dv).take k))) (m+2)
      ⟨0,y,0,rfl,rfl,rfl,rfl,rfl,Aa,hyl,hyB,Aa,⟨rfl⟩,⟨by simp[aU]⟩⟩ ?_
     conv=>whnf
     repeat intro _
     rename_i r3 h4 L4 hI;obtain⟨k,z,c,rfl,rfl,rfl,e0,e1,hk,hzl,hzB,hc,hzd,heq⟩:=hI;conv at e0=>lhs;whnf
     subst e0;conv at e1=>lhs;whnf
     subst e1;have hdk:=dgl tlB Dv k;have hzk:=eM (b:=4294967296) Aa hzB k;obtain⟨s3,hs3⟩:=AB (z.getD k 0+c+(dg 4294967296 Dv).getD k 0);obtain⟨x3,hx3⟩:=AB (s3%4294967296);obtain⟨x4,hx4⟩:=AB ((z.getD k 0+c)%4294967296);have hzu:Hq (z.getD k 0=y.getD k 0):=⟨fZ hzd.out (bDx _)⟩;conv=>whnf
     repeat' ((first|(show Idx _ _ _ _ _;first|(refine Idx.ws hd k Aa (by unfold ln at *;omega) (fun ad hv=>?_))|refine Idx.one k rfl Aa Aa ?_)|(show Ld _ _ _ _;first|(refine Ld.of (by first|exact hv _|(rename_i hv;exact hv _)) ?_)|refine Ld.win 0 rfl Aa ?_)|(show cG _ _ _ _;refine cG.e 32 Ad Aa (fun _ _=>?_))|(show WN _ _ _;first|refine WN.u32e (fun _ _=>?_)|refine WN.i64 Aa Aa ?_|refine WN.u64 Aa Aa ?_)|(show Sto _ _ _ _;first|refine Sto.win 0 rfl x3 Aa Aa ?_|refine Sto.win 0 rfl x4 Aa Aa ?_)|((first|apply oI.z|apply cI.z))|(apply aB<;>intro _<;>try (exfalso;omega)))<;>conv=>whnf)
     .refine⟨rfl,m+2-(k+1),Aa,k+1,_,s3 / 4294967296,rfl,rfl,rfl,vi Aa,vi Aa,Aa,by simp[hzl],aM hzB Aa,Aa,⟨bH hzd.out⟩,⟨by rw[hx3];exact kP Aa (by rw[<-hzu.out];exact hs3) heq.out⟩⟩
     .obtain rfl:k=m+2:=Aa;have hz0:(dg 4294967296 Dv).getD (m+2) 0=0:=gE (by unfold ln at hm;omega);have hA:=kP (b:=4294967296) (o:=z) (da:=y) (db:=dg 4294967296 Dv) (k:=m+2) (c:=c) (s:=z.getD (m+2) 0+c) Aa (by rw[<-hzu.out,hz0];rfl) heq.out;rw[fV (l:=dg 4294967296 Dv) (by unfold ln at hm;omega),bV tlB,hfin.out] at hA;rw[<-hx4] at hA;have hB:=aM (k:=m+2) (x:=x4) hzB Aa;have hY:=aDp hA (pI tlB hB Aq) (bD9 (bH0 (bE3 _ hD0.out) hDB.out) (bD8 Aa Aa));refine RN.done ⟨z.set (m+2) x4,rfl,rfl,vi Aa,by simp[hzl],hB,?_⟩
      rw[mB (u:=u) (k:=m+3) Aq ((bH hzd.out).trans hyd.out) htop.out];exact hY
end Go.Proofs.Y
/- Contracts of package word's functions on natural numbers, sixth part: long division, the greatest common divisor. -/
namespace Go.Vc
open Go Go.Dig
theorem lH.own{b c:Nat}{l h:Int}{k:Option Addr->Nat->Nat->Prop}(j e:Nat)(hl:l=j)(hh:h=e)(h1:j<=e)(h2:e<=c)(h3:j<c)(hk:k (some ⟨b,j,none⟩) (e-j) (c-j)):lH (some ⟨b,0,none⟩) l h c 1 k:=
 ⟨j,e,some ⟨b,j,none⟩,e-j,c-j,hl,hh,h1,h2,by rw[if_neg Aa];simp[bB],rfl,rfl,hk⟩
theorem Ext.copyWs{T:Tab}{op:Op}{xs:List Operand}{h:aA}{L:Own}{k:Value->aA->Own->Prop}{dx sx:Operand}{dT sT e:TypeId}{z:List Value}{bytes:Nat}
  (hop:op=.call { callee:=.builtin .copy,args:=#[dx,sx],argTypes:=#[dT,sT] }) (hxs:xs=[dx,sx]) (ht:T.und dT=some (.slice e)) (hi:T.inf e=some (z,bytes)) (hz:z.length=1)
  (n:Nat) {b dLen dCap:Nat} {kd:IntKind} {old l:List Nat} {s:Sl} {ET:TypeId} (hn:L[n]?=some (b,Row kd ET old)) (hfit:dLen<=old.length) (hs:Ws kd h s l) (hl:l.length<=dLen)
  (hk:k (.int .i64 (l.length:Nat)) h (L.set n (b,Row kd ET (l++old.drop l.length)))):
  Ext T op xs [.slice (some ⟨b,0,none⟩) dLen dCap,s.val] h L k:=by
 refine Ext.copy hop hxs ht hi hz n (old:=old.map (vu kd)) hn Aq (l.map (vu kd)) (by rw[hs.len];simp;omega) (fun h0=>?_) (by simp[vu,gC]) ?_
 .obtain⟨b',off,c,T',fz,h1,h2,h3⟩:=hs.mem (by rintro rfl;simp at h0);refine⟨_,h1,fun j hj=>?_⟩
  rw[bB];refine Has.imm h2 ?_;simp at hj;rw[h3 j hj];simp[hj,vu,bC7]
 .have e:(old.map (vu kd)).take 0++l.map (vu kd)++(old.map (vu kd)).drop (0+(l.map (vu kd)).length)=(l++old.drop l.length).map (vu kd):=by simp
  rw[e];simpa only[bDt] using hk
end Go.Vc
namespace Go.Proofs.Y
open Go Go.Vc Go.Dig

theorem xM{m n:Nat}(h:m<n):iT m n=-1:=by simp[iT,h]
theorem xN{m n:Nat}(h:n<=m):0<=iT m n/\iT m n<=1:=by unfold iT;split<;>(try split)<;>omega
theorem aMz{n:Nat}(h:ln 4294967296 n=1):(dg 4294967296 n).getD 0 0=n/\0<n/\n<4294967296:=by
 obtain⟨x,hx⟩:∃x,dg 4294967296 n=[x]:=List.length_eq_one_iff.1 h
 have e:=bV tlB n;rw[hx] at e;have e:x=n:=by simpa[eD,aU] using e
 have hlt:=kN tlB n x (by simp[hx]);subst e;refine⟨by rw[hx];rfl,?_,hlt⟩
 rcases bE7 x with h0|h0
 .rw[h0,nD] at h;omega
 .exact h0
theorem aYj{m s:Nat}(hs:s<=31):ln 4294967296 (m*2^s)<=ln 4294967296 m+1:=by
 have h1:ln 4294967296 (2^s)<=1:=(aL tlB).2 (bFk (bD8 Aa hs) Ad);have h2:=cP tlB m (2^s);omega

theorem aPy(h:aA)(a b:Sl)(m n:Nat)(ha:aI h a m)(hb:aI h b n)(la:ln 4294967296 m<=8589934592)(lb:ln 4294967296 n<=8589934592)(h0:n≠0):
  Fn0 T F.q194 [a.val,b.val] h fun v h'=>∃q r:Sl,v=.tuple #[q.val,r.val]/\aI h' q (m / n)/\aI h' r (m%n):=by
 have hal:=ha.len;have hbl:=hb.len;have hmn:n<=m->ln 4294967296 n<=ln 4294967296 m:=fun hh=>dH tlB hh
 have hn1:1<=ln 4294967296 n:=bE8 fun e=>h0 ((aT tlB).1 e)
 have hd1:=dgl tlB n 0;have hdt:=dgl tlB n (ln 4294967296 n-1);have hlb:ln 4294967296 m<ln 4294967296 n->m<n:=fun hh=>qQ tlB hh
 refine f0C ok D.q194 rfl ?_;conv=>whnf
 repeat ((first|apply oI.z|apply cI.z);conv=>whnf)
 by_cases hlt:m<n
 .refine CN.f rfl (aDl h a b m n ha hb Aa Aa) (fun v h' hl hr=>?_)
  obtain⟨rfl,rfl⟩:=hr;rw[xM hlt];conv=>whnf
  repeat' ((first|((first|apply oI.z|apply cI.z))|(apply aB<;>intro _<;>try (exfalso;omega)))<;>conv=>whnf)
  exact RN.a ⟨⟨none,0,0⟩,a,rfl,by rw[bEx hlt];unfold aI;rw[cM];exact Ws.nil rfl,by rw[bEl hlt];exact ha⟩
 .refine CN.f rfl (aDl h a b m n ha hb Aa Aa) (fun v h' hl hr=>?_)
  obtain⟨rfl,rfl⟩:=hr;have hc:=xN (m:=m) (n:=n) Aa;replace hmn:=hmn Aa;obtain⟨c,hcc⟩:=AB (iT m n);rw[<-hcc] at hc ⊢;clear hcc;conv=>whnf
  repeat' first|((first|(show Idx _ _ _ _ _;first|(refine Idx.ws hb 0 Aa (by unfold ln at *;omega) (fun ad hv=>?_))|(refine Idx.ws hb (ln 4294967296 n-1) Aa (by unfold ln at *;omega) (fun ad hv=>?_)))|(show Ld _ _ _ _;(refine Ld.of (by first|exact hv _|(rename_i hv;exact hv _)) ?_))|((first|apply oI.z|apply cI.z))|refine WN.i64 Aa Aa ?_)<;>conv=>whnf)|(show cnd _ _ _;first|((first|apply aB|apply aD)<;>intro _<;>first|(exfalso;omega)|conv=>whnf))
  .obtain⟨e1,e2,e3⟩:=aMz (n:=n) Aa;refine CN.f rfl (wS _ a m ((dg 4294967296 n).getD 0 0) ha Aa hd1 Aa) (fun v h' hl hr=>?_)
   obtain⟨q,rfl,hq⟩:=hr;rw[e1] at hq ⊢;have hr:=bE3 m e2;obtain⟨r,hrr⟩:=AB (m%n);rw[<-hrr] at hr ⊢;conv=>whnf
   repeat' ((first|(show CN _ _ _ _ _ _;(refine CN.f rfl (gG _ r Aa) (fun v h' hl hr=>?_);obtain⟨s',rfl,hs'⟩:=hr))|((first|apply oI.z|apply cI.z))|refine WN.u64 Aa Aa ?_)<;>conv=>whnf)
   exact RN.a ⟨q,_,rfl,hq.mono ‹_›,‹_›⟩
  .refine CN.f rfl (tV _ _ hdt) (fun v h' hl hr=>?_)
   obtain⟨rfl,rfl⟩:=hr;obtain⟨t,ht⟩:=AB ((dg 4294967296 n).getD (ln 4294967296 n-1) 0);obtain⟨s,hs⟩:=AB (32-bl t);obtain⟨n1,n2,n3,n4,-⟩:=aYh h0 rfl ht hs;rw[<-ht] at hdt ⊢;clear ht;rw[show (32:Int)-(bl t:Nat)=(s:Nat) by omega]
   have hs31:s<=31:=Aa;clear hs n3 n4 hdt hd1;conv=>whnf
   repeat ((first|apply oI.z|apply cI.z);conv=>whnf)
   refine CN.f rfl (aPs _ b n s hb Aa Aa) (fun v h1 hle1 hr=>?_)
   obtain⟨dd,rfl,hdd⟩:=hr;have hshl:=aYj (m:=m) hs31;have hDpos:0<n*2^s:=Nat.mul_pos Aa (bEr s);have hstart:=Hq.mk (aMy (b:=4294967296) (m:=m) (n:=n) (s:=s) (la:=ln 4294967296 m) (lb:=ln 4294967296 n) tlB (cX tlB m) (iA tlB Aa) Aa hmn);obtain⟨D,hD⟩:=AB (n*2^s);obtain⟨E,hE⟩:=AB (m*2^s);rw[<-hD] at hdd n1 n2 hstart hDpos;rw[<-hE] at hstart hshl;replace hD:=Hq.mk hD;have hdl:=hdd.len;conv=>whnf
   repeat' ((first|(show Mk _ _ _;refine Mk.of (ln 4294967296 m+1) Aa Aa Aa ?_)|refine⟨bDx _,?_⟩|intro (bu:Nat)|((first|apply oI.z|apply cI.z))|refine WN.i64 Aa Aa ?_)<;>conv=>whnf)
   rename_i bu;refine CN.f rfl (aPs _ a m s (ha.mono hle1) Aa Aa) (fun v h2 hle2 hr=>?_)
   obtain⟨ee,rfl,hee⟩:=hr;rw[<-hE] at hee;replace hE:=Hq.mk hE;conv=>whnf
   repeat ((first|apply oI.z|apply cI.z);conv=>whnf)
   refine Ext.copyWs rfl rfl rfl rfl rfl 0 (old:=List.replicate (ln 4294967296 m+1) 0) (by rw[jD];rfl) Ao hee (by unfold ln at *;omega) ?_;obtain⟨o0,ho0⟩:=AB (dg 4294967296 E++(List.replicate (ln 4294967296 m+1) 0).drop (dg 4294967296 E).length);rw[<-ho0];have ol:o0.length=ln 4294967296 m+1:=by rw[ho0];simp;unfold ln at *;omega
   have oB:∀x∈o0,x<4294967296:=by
    rw[ho0];intro x hx;rcases bDf.1 hx with hx|hx
    .exact kN tlB _ _ hx
    .have:=bE2 hx;simp at this;omega
   have oE:evl 4294967296 o0=E:=by
    rw[ho0,fS,iB 4294967296 (l:=(List.replicate (ln 4294967296 m+1) 0).drop _) (fun x hx=>by have:=bE2 hx;simp at this;omega),bFc,bEh,bV tlB]
   clear ho0;have hs0:evl 4294967296 (o0.drop (ln 4294967296 m-ln 4294967296 n+1))<D:=by rw[rT tlB oB,oE];exact hstart.out
   clear hstart;conv=>whnf
   repeat' ((first|(show Mk _ _ _;refine Mk.of (ln 4294967296 m-ln 4294967296 n+1) Aa Aa Aa ?_)|refine⟨bDx _,?_⟩|intro (bq:Nat)|((first|apply oI.z|apply cI.z))|refine WN.i64 Aa Aa ?_)<;>conv=>whnf)
   rename_i bq;refine LpN.of (fun r ρ h' L=>∃(o qs:List Nat),h'=h2/\L=[(bq,Row .u32 Ty.uint32 qs),(bu,Row .u32 Ty.uint32 o)]/\rd ρ 12=.int .i64 ((r:Int)-1)/\r<=ln 4294967296 m-ln 4294967296 n+1/\o.length=ln 4294967296 m+1/\(∀x∈o,x<4294967296)/\qs.length=ln 4294967296 m-ln 4294967296 n+1/\(∀x∈qs,x<4294967296)/\Hq (evl 4294967296 (o.drop r)<D)/\Hq (evl 4294967296 (o.drop r)+D*evl 4294967296 (qs.drop r)=evl 4294967296 (o0.drop r))/\o.take r=o0.take r) (ln 4294967296 m-ln 4294967296 n+1)
    ⟨o0,List.replicate (ln 4294967296 m-ln 4294967296 n+1) 0,rfl,by rw[jD];rfl,vi Aa,bDx _,ol,oB,by simp,by simp,⟨hs0⟩,⟨by rw[iB 4294967296 (l:=(List.replicate (ln 4294967296 m-ln 4294967296 n+1) 0).drop _) (fun x hx=>by have:=bE2 hx;simp at this;omega),bFc,bEh]⟩,rfl⟩ ?_
   conv=>whnf
   repeat intro _
   rename_i k h3 L3 hI;obtain⟨o,qs,rfl,rfl,e0,hk,hol,hoB,hql,hqB,hlt',heq,htk⟩:=hI;conv at e0=>lhs;whnf
   subst e0;by_cases hk0:k=0
   .subst hk0;conv=>whnf
    repeat' ((first|((first|apply oI.z|apply cI.z))|(apply bI<;>intro _<;>try (exfalso;omega)))<;>conv=>whnf)
    rw[bE5,bE5,bE5,oE,hE.out,hD.out] at heq;rw[bE5,hD.out] at hlt';obtain⟨r1,r2,-⟩:=aKq heq.out hlt'.out;refine CN.keep 0 rfl rfl fun hle3=>?_
    refine CN.f rfl (oF _ ⟨some ⟨bq,0,none⟩,ln 4294967296 m-ln 4294967296 n+1,ln 4294967296 m-ln 4294967296 n+1⟩ qs (Ws.row Aa) hqB Aa) (fun v h4 hle4 hr=>?_)
    obtain⟨q',rfl,hq'⟩:=hr;conv=>whnf
    repeat ((first|apply oI.z|apply cI.z);conv=>whnf)
    refine CN.keep 0 rfl rfl fun hle5=>?_
    refine CN.f rfl (oF _ ⟨some ⟨bu,0,none⟩,ln 4294967296 m+1,ln 4294967296 m+1⟩ o (Ws.row Aa) hoB Aa) (fun v h6 hle6 hr=>?_)
    obtain⟨u',rfl,hu'⟩:=hr;have hlu:ln 4294967296 (evl 4294967296 o)<=ln 4294967296 m+1:=by rw[<-hol];exact (aL tlB).2 (iS tlB hoB)
    conv=>whnf
    repeat ((first|apply oI.z|apply cI.z);conv=>whnf)
    refine CN.f rfl (aPt _ u' (evl 4294967296 o) s hu' Aa Aa) (fun v h7 hle7 hr=>?_)
    obtain⟨r',rfl,hr'⟩:=hr;rw[r2] at hr';rw[r1] at hq';conv=>whnf
    repeat ((first|apply oI.z|apply cI.z);conv=>whnf)
    exact RN.a ⟨q',r',rfl,((hq'.mono hle5).mono hle6).mono hle7,hr'⟩
   .obtain⟨j,rfl⟩:∃j,k=j+1:=⟨k-1,Aa⟩
    obtain⟨p,u,rfl,rfl⟩:∃p u,o=p++u/\p.length=j:=⟨o.take j,o.drop j,(bDo j o).symm,by simp;omega⟩
    have hul:p.length+u.length=ln 4294967296 m+1:=by simpa using hol
    have huB:∀x∈u,x<4294967296:=fun x hx=>hoB x (bD0 _ hx)
    have hpB:∀x∈p,x<4294967296:=fun x hx=>hoB x (bDz _ hx)
    obtain⟨x,u1,rfl⟩:∃x u1,u=x::u1:=by
     match u,hul with
     | [],h=>simp at h;omega
     | x::u1,_=>exact⟨x,u1,rfl⟩
    have hdr:(p++x::u1).drop (p.length+1)=u1:=by rw[List.drop_append];simp
    rw[hdr] at heq hlt';have hxB:=huB x Ao;have hx0:o0.getD p.length 0=x:=by
     have:=congrArg (fun l=>l.getD p.length 0) htk
     simpa[bC7,bFb] using this.symm
    have hE0:=kQ (b:=4294967296) (l:=o0) (k:=p.length) Aa;rw[hx0] at hE0;have hUD:evl 4294967296 (x::u1)<D*4294967296:=by
     rw[eD];have:(evl 4294967296 u1+1)*4294967296<=D*4294967296:=bDq _ hlt'.out;rw[bEc,bDj] at this;omega
    have hUq:=bFw (evl 4294967296 (x::u1)) D;have hqB':evl 4294967296 (x::u1) / D<4294967296:=(bEi hDpos).2 (by rw[bDj];exact hUD);have hrD:=bE3 (evl 4294967296 (x::u1)) hDpos;obtain⟨q,hq⟩:=AB (evl 4294967296 (x::u1) / D);obtain⟨r,hr⟩:=AB (evl 4294967296 (x::u1)%D);rw[<-hq] at hUq hqB';rw[<-hr] at hUq hrD;rw[bDj] at hUq;have hstep:=Hq.mk (aFs heq.out (eD _ _ _) hE0 hUq.symm);replace hUq:=Hq.mk hUq;replace hE0:=Hq.mk hE0;replace hrD:=Hq.mk hrD;have hmm:ln 4294967296 D=(ln 4294967296 n-2)+2:=Aa;replace hq:=Hq.mk hq;replace hr:=Hq.mk hr;replace hUD:=Hq.mk hUD;replace hx0:=Hq.mk hx0;replace htk:=Hq.mk htk;replace oE:=Hq.mk oE;replace huB:=Hq.mk huB;replace hpB:=Hq.mk hpB;replace hlb:=Hq.mk hlb;replace hc:=Hq.mk hc;replace hs0:=Hq.mk hs0;rw[show ln 4294967296 n-1=(ln 4294967296 n-2)+1 by omega] at n2
    conv=>whnf
    repeat' ((first|(show lH _ _ _ _ _ _;refine lH.own p.length (p.length+ln 4294967296 n+1) Aa Aa Aa Aa Aa ?_)|((first|apply oI.z|apply cI.z))|refine WN.i64 Aa Aa ?_|(apply bI<;>intro _<;>try (exfalso;omega)))<;>conv=>whnf)
    rw[show p.length+ln 4294967296 n+1-p.length=(ln 4294967296 n-2)+3 by omega]
    refine CN.own 1 rfl rfl (aPx _ bu _ p (x::u1) dd D (ln 4294967296 n-2) (hdd.mono hle2) hmm Aa n2 Aa Aa huB.out hUD.out) (fun v h4 La hle4 hr4=>?_)
    obtain⟨u',e1,e2,e3,hul',huB',hu'e⟩:=hr4;rw[<-hr.out] at hu'e;rw[<-hq.out] at e3;subst e1 e2 e3;refine⟨_,rfl,?_⟩;conv=>whnf
    repeat' ((first|(show Idx _ _ _ _ _;refine Idx.own p.length Aa Aa ?_)|(show Sto _ _ _ _;refine Sto.ws 0 rfl q Aa Aa ?_)|((first|apply oI.z|apply cI.z))|refine WN.i64 Aa Aa ?_)<;>conv=>whnf)
    refine⟨rfl,p.length,Aa,p++u',qs.set p.length q,rfl,rfl,vi Aa,Aa,by rw[bC6,hul'];exact hul,?_,by simp[hql],aM hqB hqB',⟨?_⟩,⟨?_⟩,?_⟩
    .intro y hy;rcases bDf.1 hy with hy|hy
     .exact hpB.out y hy
     .exact huB' y hy
    .rw[bGn,hu'e];exact hrD.out
    .rw[bGn,hu'e,kQ (k:=p.length) (l:=qs.set p.length q) Aq,fD _ Aa,qR];exact hstep.out
    .have:=congrArg (fun l=>l.take p.length) htk.out
     simp only[List.take_take,bE9 (Nat.le_succ p.length)] at this;rw[<-this,bF3,bF3]

theorem aFt(m n:Nat):Nat.gcd n (m%n)=Nat.gcd m n:=by rw[Nat.gcd_comm,<-Nat.gcd_rec,Nat.gcd_comm]

theorem aYk(h:aA)(a b:Sl)(m n:Nat)(ha:aI h a m)(hb:aI h b n)(la:ln 4294967296 m<=8589934592)(lb:ln 4294967296 n<=8589934592):
  Fn0 T F.q193 [a.val,b.val] h fun v h'=>∃s:Sl,v=s.val/\aI h' s (Nat.gcd m n):=by
 refine f0C ok D.q193 rfl ?_;conv=>whnf
 repeat ((first|apply oI.z|apply cI.z);conv=>whnf)
 refine LpN.of (fun r ρ h' L=>∃(a b:Sl) (m' n':Nat),r=n'/\L=[]/\h.le h'/\rd ρ 0=a.val/\rd ρ 1=b.val/\aI h' a m'/\aI h' b n'/\ln 4294967296 m'<=8589934592/\ln 4294967296 n'<=8589934592/\Hq (Nat.gcd m' n'=Nat.gcd m n)) n
  ⟨a,b,m,n,rfl,rfl,aA.lr _,rfl,rfl,ha,hb,la,lb,⟨rfl⟩⟩ ?_
 conv=>whnf
 repeat intro _
 rename_i r h1 L1 hI;obtain⟨a,b,m',n',rfl,rfl,hle,e0,e1,ha,hb,la,lb,hg⟩:=hI;conv at e0=>lhs;whnf
 subst e0;conv at e1=>lhs;whnf
 subst e1;have hbl:=hb.len;have hz:=aT tlB (n:=r);by_cases h0:r=0
 .have:=hz.2 h0;clear hz;conv=>whnf
  repeat' ((first|((first|apply oI.z|apply cI.z))|(apply aB<;>intro _<;>try (exfalso;omega)))<;>conv=>whnf)
  refine RN.a ⟨a,rfl,?_⟩;rw[<-hg.out,h0,Nat.gcd_zero_right];exact ha
 .have:ln 4294967296 r≠0:=fun e=>h0 (hz.1 e)
  clear hz;have hmod:=bE3 m' (bE8 h0);have hlm:=dH tlB (bGi hmod);conv=>whnf
  repeat' ((first|(show CN _ _ _ _ _ _;(refine CN.f rfl (aPy _ _ _ _ _ Ab Ab Aa Aa Aa) (fun v h' hl hr=>?_);obtain⟨q',r',rfl,hq',hr'⟩:=hr))|((first|apply oI.z|apply cI.z))|(apply aB<;>intro _<;>try (exfalso;omega)))<;>conv=>whnf)
  exact⟨rfl,m'%r,hmod,b,_,r,m'%r,rfl,rfl,aA.lt hle ‹_›,rfl,rfl,hb.mono ‹_›,‹_›,Aa,Aa,⟨by rw[aFt];exact hg.out⟩⟩
end Go.Proofs.Y