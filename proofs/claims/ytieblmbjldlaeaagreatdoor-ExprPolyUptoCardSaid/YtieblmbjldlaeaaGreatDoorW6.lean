/- Long division: what a guessed digit is worth. -/
import Derived.Test.YtieblmbjldlaeaaGreatDoorRepA
set_option linter.all false
set_option maxHeartbeats 4000000
set_option maxRecDepth 40000
namespace Go.Dig

theorem ac1 (q P v B:Nat):P*B*(q*v)=q*(P*(v*B)):=by ac_rfl
theorem ac2 (P B t:Nat):P*(t*B)=P*B*t:=by ac_rfl
theorem aH9 {P top v1 D U dl ul u2 v2:Nat} (hD:D=dl+P*(v1*4294967296+v2)) (hU:U=ul+P*(top*4294967296+u2)) (hul:ul<P) (hu2:u2<4294967296) (hv:0<v1):U / D≤top / v1:=by
 have hP:0<P:=by omega
 rw [Nat.le_div_iff_mul_le hv]
 have h1:U / D*D≤U:=Nat.div_mul_le_self _ _
 have h2:U / D*(P*(v1*4294967296))≤U / D*D:=by
  refine Nat.mul_le_mul_left _ ?_
  rw [hD,Nat.mul_add];omega
 have h3:U<P*((top+1)*4294967296):=by
  rw [hU]
  have:ul+P*(top*4294967296+u2)<P*(top*4294967296+u2+1):=by rw [Nat.mul_add P (top*4294967296+u2) 1];omega
  exact Nat.lt_of_lt_of_le this (Nat.mul_le_mul_left _ (by omega))
 have h4:P*4294967296*(U / D*v1)<P*4294967296*(top+1):=by
  refine Nat.lt_of_le_of_lt (aWd (Nat.le_of_eq ?_) (aWd h2 h1)) (Nat.lt_of_lt_of_le h3 (Nat.le_of_eq ?_))
  ·exact ac1 _ _ _ _
  ·exact ac2 _ _ _
 have:=Nat.lt_of_mul_lt_mul_left h4
 omega
theorem aIa {P top v1 D U dl ul u2 v2 g rest:Nat} (hD:D=dl+P*(v1*4294967296+v2)) (hU:U=ul+P*(top*4294967296+u2)) (hul:ul<P) (hg:g*v1+rest=top) (h:rest*4294967296+u2<g*v2):U / D<g:=by
 have hP:0<P:=by omega
 have h1:top*4294967296+u2<g*(v1*4294967296+v2):=by
  rw [Nat.mul_add,← Nat.mul_assoc,← hg,Nat.add_mul,Nat.add_assoc];exact Nat.add_lt_add_left h _
 have h2:U<g*D:=by
  have a1:U<P*(top*4294967296+u2+1):=by rw [hU,Nat.mul_add P (top*4294967296+u2) 1];omega
  have a2:P*(top*4294967296+u2+1)≤P*(g*(v1*4294967296+v2)):=Nat.mul_le_mul_left _ h1
  have a3:P*(g*(v1*4294967296+v2))≤g*D:=by
   rw [Nat.mul_left_comm P g,hD,Nat.mul_add g];omega
  omega
 have hD0:0<D:=by
  rcases Nat.eq_zero_or_pos D with h0|h0
  ·rw [h0] at h2;simp at h2
  ·exact h0
 exact (Nat.div_lt_iff_lt_mul hD0).2 h2
theorem aFy {D U g:Nat} (hU:U<D*4294967296) (hg:4294967296≤g):U / D<g:=by
 have hD0:0<D:=by
  rcases Nat.eq_zero_or_pos D with h0|h0
  ·rw [h0] at hU;simp at hU
  ·exact h0
 exact Nat.lt_of_lt_of_le ((Nat.div_lt_iff_lt_mul hD0).2 (by rwa [aV1])) hg
theorem aIb {P top v1 D U dl ul u2 v2 g rest:Nat} (hD:D=dl+P*(v1*4294967296+v2)) (hdl:dl<P) (hU:U=ul+P*(top*4294967296+u2)) (hg:g*v1+rest=top) (hv:0<v1) (hgB:g<4294967296) (h:g*v2≤rest*4294967296+u2):g≤U / D+1:=by
 have hP:0<P:=by omega
 have h1:g*(v1*4294967296+v2)≤top*4294967296+u2:=by
  rw [Nat.mul_add,← Nat.mul_assoc,← hg,Nat.add_mul];omega
 have h0:P*4294967296≤D:=by
  rw [hD]
  have:P*4294967296≤P*(v1*4294967296+v2):=Nat.mul_le_mul_left _ (by omega)
  omega
 have hD0:0<D:=by omega
 have h2:g*D≤U+g*P:=by
  have a1:g*D≤g*(P*(v1*4294967296+v2))+g*P:=by
   rw [← Nat.mul_add];exact Nat.mul_le_mul_left _ (by omega)
  have a2:g*(P*(v1*4294967296+v2))≤U:=by
   rw [Nat.mul_left_comm,hU]
   exact aWd (Nat.mul_le_mul_left _ h1) (by omega)
  omega
 have h3:g*P<D:=by
  have:g*P<4294967296*P:=(Nat.mul_lt_mul_right hP).2 hgB
  rw [aV1 4294967296 P] at this;omega
 have h4:g*D<U+D:=by omega
 have h5:(g-1)*D≤U:=by rw [Nat.sub_mul];omega
 have:=(Nat.le_div_iff_mul_le hD0).2 h5
 omega
theorem aCl {top v1 u1 un g rest:Nat} (hg:g*v1+rest=top) (ht:top=un*4294967296+u1) (hu:u1<4294967296) (hun:un≤v1) (hr:4294967296≤rest):g<4294967296:=by
 rcases Nat.lt_or_ge g 4294967296 with h|h
 ·exact h
 ·have:=aV8 v1 h
  omega
theorem rO {v2 g rest u2:Nat} (hg:g<4294967296) (hv:v2<4294967296) (hr:4294967296≤rest):g*v2≤rest*4294967296+u2:=by
 have h1:g*v2≤4294967296*v2:=aV8 _ (by omega)
 have h2:4294967296*v2≤4294967296*rest:=Nat.mul_le_mul_left _ (by omega)
 omega
theorem tG {g v1 rest top:Nat} (h0:0<g) (hg:g*v1+rest=top):(g-1)*v1+(rest+v1)=top:=by
 obtain ⟨g,rfl⟩:∃k,g=k+1:=⟨g-1,by omega⟩
 rw [Nat.add_mul] at hg;simp only [Nat.add_sub_cancel];omega
theorem iY {U D g q E X:Nat} (hD:0<D) (hq:q=U / D) (h1:q≤g) (h2:g≤q+1) (hE:X+g*D=U+E) (hX:X<E∨E=0):(E=0→g=q∧X=U%D)∧(0<E→g=q+1∧X+D=E+U%D):=by
 have hm:=Nat.div_add_mod U D
 rw [← hq] at hm
 rw [aV1] at hm
 rcases Nat.eq_or_lt_of_le h1 with h|h
 ·subst h
  constructor
  ·rintro rfl;exact ⟨rfl,by omega⟩
  ·intro h0
   rcases hX with hX|hX <;> omega
 ·have:g=q+1:=by omega
  subst this
  rw [Nat.add_mul,Nat.one_mul] at hE
  refine ⟨fun h0=>?_,fun h0=>⟨rfl,by omega⟩⟩
  have:=Nat.mod_lt U hD
  omega
theorem nF {b:Nat} (hb:2≤b) {l:List Nat} (h:∀x∈l,x<b) (k:Nat):evl b (l.drop k)=evl b l / b^k:=by
 rcases Nat.lt_or_ge k l.length with hk|hk
 ·have e:=dR b (l.take k) (l.drop k)
  rw [aV6] at e
  have hl:(l.take k).length=k:=by simp;omega
  have hlt:=gD hb (l:=l.take k) fun x hx=>h x (List.mem_of_mem_take hx)
  rw [hl] at e hlt
  rw [e,Nat.add_mul_div_left _ _ (Nat.pow_pos (by omega)),Nat.div_eq_of_lt hlt,aWc]
 ·rw [List.drop_eq_nil_of_le hk,bF,Nat.div_eq_of_lt]
  exact Nat.lt_of_lt_of_le (gD hb h) (Nat.pow_le_pow_right (by omega) hk)
theorem eE {l m:List Nat} {k j:Nat} (h:l.drop k=m.drop k) (hj:k≤j):l.getD j 0=m.getD j 0:=by
 have:=congrArg (fun x=>x.getD (j-k) 0) h
 simpa [aVp,List.getElem?_drop,show k+(j-k)=j by omega] using this
theorem bL {l m:List Nat} {k x:Nat} (h:l.drop k=m.drop k):(l.set k x).drop (k+1)=m.drop (k+1):=by
 rw [mO,← List.drop_drop (i:=1) (j:=k),h,List.drop_drop]
theorem kR {b:Nat} {l:List Nat} {k:Nat} (hk:k≤l.length):evl b l=evl b (l.take k)+b^k*evl b (l.drop k):=by
 have e:=dR b (l.take k) (l.drop k)
 rw [aV6] at e
 rwa [show (l.take k).length=k by simp;omega] at e
end Go.Dig
/- Long division: the divisor's first digit is made large. -/
namespace Go.Dig

theorem aCm {n:Nat}:1≤bl n↔n≠0:=by
 constructor
 ·rintro h rfl;rw [aDy] at h;omega
 ·intro h;rw [xO h];omega
theorem aTq {p n L t s:Nat} (hp:1≤p) (hn:n≠0) (hL:L=ln (2^p) n) (ht:t=(dg (2^p) n).getD (L-1) 0) (hs:s=p-bl t):
  ln (2^p) (n*2^s)=L∧2^(p-1)≤(dg (2^p) (n*2^s)).getD (L-1) 0∧bl t≤p∧1≤bl t∧1≤L:=by
 have hb:2≤2^p:=by have:2^1≤2^p:=Nat.pow_le_pow_right (by omega) hp;omega
 have hL1:1≤L:=by rw [hL];exact Nat.pos_of_ne_zero fun h=>hn ((aW hb).1 h)
 have ht1:bl t≤p:=eV.2 (by rw [ht];exact dgl hb _ _)
 have hbl:=aO6 hp hn
 rw [← hL,← ht] at hbl
 have hne:dg (2^p) n≠[]:=fun h=>hn ((xL hb).1 h)
 have ht2:1≤bl t:=aCm.2 (by
   have:=aMk hb n hne
   rw [List.getLast_eq_getElem] at this
   rw [ht,hL];unfold ln;rw [aVp,aVq (by have:=List.length_pos_iff.2 hne;omega)]
   exact this)
 have e1:(2^p)^(L-1)*2^(p-1)≤n*2^s:=by
  rw [← Nat.pow_mul,← Nat.pow_add,show p*(L-1)+(p-1)=(bl n-1)+s by omega,Nat.pow_add]
  exact aV8 _ (aH3 hn)
 have e2:n*2^s<(2^p)^(L-1)*2^p:=by
  rw [← Nat.pow_mul,← Nat.pow_add,show p*(L-1)+p=bl n+s by omega,Nat.pow_add]
  exact Nat.mul_lt_mul_of_pos_right (aDz n) (Nat.two_pow_pos _)
 have hP:0<(2^p)^(L-1):=Nat.pow_pos (by omega)
 refine ⟨?_,?_,ht1,ht2,hL1⟩
 ·have u:ln (2^p) (n*2^s)≤L:=(aT hb).2 (by
    rw [show L=L-1+1 by omega,Nat.pow_succ];exact e2)
  have l:¬ln (2^p) (n*2^s)≤L-1:=fun h=>by
   have h1:=(aT hb).1 h
   have:(2^p)^(L-1)*1≤(2^p)^(L-1)*2^(p-1):=Nat.mul_le_mul_left _ (Nat.two_pow_pos _)
   omega
  omega
 ·rw [eD hb,Nat.mod_eq_of_lt ((Nat.div_lt_iff_lt_mul hP).2 (by rw [aV1 (2^p)];exact e2)),Nat.le_div_iff_mul_le hP,aV1]
  exact e1
theorem aPv {n L t s:Nat} (hn:n≠0) (hL:L=ln 4294967296 n) (ht:t=(dg 4294967296 n).getD (L-1) 0) (hs:s=32-bl t):
  ln 4294967296 (n*2^s)=L∧2147483648≤(dg 4294967296 (n*2^s)).getD (L-1) 0∧bl t≤32∧1≤bl t∧1≤L:=by
 have e:(4294967296:Nat)=2^32:=by decide
 rw [e] at hL ht ⊢
 have:=aTq (p:=32) (by omega) hn hL ht hs
 simpa using this
theorem aFz {b m n s la lb:Nat} (hb:2≤b) (hla:m<b^la) (hlb:b^(lb-1)≤n) (h1:1≤lb) (hle:lb≤la):m*2^s / b^(la-lb+1)<n*2^s:=by
 rw [Nat.div_lt_iff_lt_mul (Nat.pow_pos (by omega))]
 have e:b^la=b^(la-lb+1)*b^(lb-1):=by rw [← Nat.pow_add];congr 1;omega
 have h2:m*2^s<b^la*2^s:=Nat.mul_lt_mul_of_pos_right hla (Nat.two_pow_pos _)
 have h3:b^la*2^s≤n*2^s*b^(la-lb+1):=by
  rw [e,aV1 (b^(la-lb+1)),Nat.mul_right_comm]
  exact aV8 _ (aV8 _ hlb)
 omega
theorem aAm {b o0 o1 U D E Q q r x:Nat} (h:o1+D*Q=o0) (hU:U=x+b*o1) (hE:E=x+b*o0) (hq:U=q*D+r):r+D*(q+b*Q)=E:=by
 have h1:D*(q+b*Q)=q*D+b*(D*Q):=by rw [Nat.mul_add,aV1 D q,Nat.mul_left_comm]
 have h2:b*o0=b*o1+b*(D*Q):=by rw [← h,Nat.mul_add]
 rw [h1];omega
theorem aD4 {m n s X Q:Nat} (h:X+n*2^s*Q=m*2^s) (hX:X<n*2^s):Q=m / n∧X / 2^s=m%n∧X=m%n*2^s:=by
 have hs:=Nat.two_pow_pos s
 have hn:0<n*2^s:=by omega
 have hn0:0<n:=Nat.pos_of_mul_pos_right hn
 have e1:Q=m*2^s / (n*2^s):=by rw [← h,Nat.add_mul_div_left _ _ hn,Nat.div_eq_of_lt hX,aWc]
 have e2:X=m*2^s%(n*2^s):=by rw [← h,Nat.add_mul_mod_self_left,Nat.mod_eq_of_lt hX]
 rw [Nat.mul_div_mul_right _ _ hs] at e1
 rw [Nat.mul_mod_mul_right] at e2
 exact ⟨e1,by rw [e2,Nat.mul_div_cancel _ hs],e2⟩
theorem aMq {b:Nat} {l:List Nat} {k:Nat} (h:∀x∈l,x<b):∀x∈l.drop k,x<b:=fun x hx=>h x (List.mem_of_mem_drop hx)
end Go.Dig
/- Contracts of package word's functions on natural numbers, fifth part: one digit of long division. -/
namespace Go.Vc
open Go Go.Dig
theorem xT {p u:List Nat} {i:Nat} (ho:i<u.length):(p++u).getD (p.length+i) 0=u.getD i 0:=by
 simp [aVp,aWa]
theorem aD5 {p u:List Nat} {i x:Nat}:(p++u).set (p.length+i) x=p++u.set i x:=by
 rw [List.set_append_right _ _ (by omega)];congr 2;omega
theorem Ld.win {h:aA} {L:Own} {b i:Nat} {k:Value→Prop} {kd:IntKind} {T:TypeId} {p u:List Nat} (n:Nat) (hb:L[n]?=some (b,Row kd T (p++u))) (ho:i<u.length) (hk:k (.int kd ((u.getD i 0:Nat):Int))):Ld h L ⟨b,p.length+i,none⟩ k:=
 Ld.ws n hb (by simp;omega) (by rw [xT ho];exact hk)
theorem Sto.win {L:Own} {b i:Nat} {kd:IntKind} {T:TypeId} {p u:List Nat} {v:Int} {k:Own→Prop} (n:Nat) (hb:L[n]?=some (b,Row kd T (p++u))) (x:Nat) (hx:v=x) (hl:i<u.length)
  (hk:qQ (b,Row kd T (p++u.set i x)) L n k):Sto L ⟨b,p.length+i,none⟩ [.int kd v] k:=
 Sto.ws n hb x hx (by simp;omega) (by rw [aD5];exact hk)
theorem Sto.winE {L:Own} {b i:Nat} {kd:IntKind} {T:TypeId} {p u:List Nat} {v:Int} {k:Own→Prop} (n:Nat) (hb:L[n]?=some (b,Row kd T (p++u))) (hl:i<u.length)
  (hk:∀x:Nat,(x:Int)=v→qQ (b,Row kd T (p++u.set i x)) L n k) (h0:0≤v:=by omega):Sto L ⟨b,p.length+i,none⟩ [.int kd v] k:=by
 obtain ⟨x,hx⟩:∃x:Nat,(x:Int)=v:=⟨v.toNat,Int.toNat_of_nonneg h0⟩
 exact Sto.win n hb x hx.symm hl (hk x hx)
theorem iF.w32 {x:Nat} {k:Int→Prop} (hx:x<4294967296) (hk:k ((x*4294967296:Nat):Int)):iF .u64 (x:Int) 32 k:=by
 refine iF.mk' 32 (by decide) ?_
 have e:((x:Int)*2^32)=((x*4294967296:Nat):Int):=by omega
 rw [e,jG rfl (by show _<2^64;omega)];exact hk
end Go.Vc
namespace Go.Dig
theorem aPw {b:Nat} {l:List Nat} {n:Nat}:evl b (l.take (n+2))=evl b (l.take n)+b^n*(l.getD (n+1) 0*b+l.getD n 0):=by
 rw [etn l (n+1),etn,Nat.add_assoc,Nat.mul_add,Nat.pow_succ]
 congr 1;rw [Nat.add_comm,Nat.mul_assoc,aV1 b]
theorem aTr {b:Nat} {l:List Nat} {n:Nat}:evl b (l.take (n+3))=evl b (l.take n)+b^n*((l.getD (n+1) 0+l.getD (n+2) 0*b)*b+l.getD n 0):=by
 rw [etn l (n+2),aPw,Nat.add_assoc,show b^(n+2)=b^n*(b*b) by rw [Nat.pow_add,Nat.pow_two],Nat.mul_assoc,← Nat.mul_add]
 congr 2
 rw [Nat.add_mul,Nat.mul_assoc (l.getD (n+2) 0),aV1 (b*b)]
 omega
theorem aRm {b P dl ul v1 v2 un u1 u2 U D:Nat} (hD:D=dl+P*(v1*b+v2)) (hdl:dl<P) (hU:U=ul+P*((u1+un*b)*b+u2)) (h:U<D*b) (hv2:v2<b):un≤v1:=by
 have hP:0<P:=by omega
 have h1:P*(un*b*b)≤U:=by
  rw [hU];exact aWd (Nat.mul_le_mul_left _ (by rw [Nat.add_mul];omega)) (Nat.le_add_left _ _)
 have h2:D≤P*(v1*b+v2+1):=by rw [hD,Nat.mul_add P (v1*b+v2) 1];omega
 have h3:D*b≤P*((v1*b+v2+1)*b):=by rw [← Nat.mul_assoc];exact aV8 _ h2
 have h4:P*(un*b*b)<P*((v1*b+v2+1)*b):=by omega
 have h5:=Nat.lt_of_mul_lt_mul_left h4
 have h6:=Nat.lt_of_mul_lt_mul_right h5
 have h7:un*b<(v1+1)*b:=by rw [Nat.add_mul];omega
 have:=Nat.lt_of_mul_lt_mul_right h7
 omega
theorem nG {b:Nat} {w u dd:List Nat} {k c bo bo' G s x:Nat} (hk:k<w.length) (hs:s=G*dd.getD k 0+c) (hx:x+s%b+bo=u.getD k 0+bo'*b)
  (h:evl b (w.take k)+G*evl b (dd.take k)=evl b (u.take k)+(c+bo)*b^k):
  evl b ((w.set k x).take (k+1))+G*evl b (dd.take (k+1))=evl b (u.take (k+1))+(s / b+bo')*b^(k+1):=by
 rw [gP _ hk,etn dd,etn u,Nat.mul_add,Nat.pow_succ]
 have e1:(c+bo)*b^k=b^k*(c+bo):=aV1 _ _
 have e2:G*(b^k*dd.getD k 0)=b^k*(G*dd.getD k 0):=Nat.mul_left_comm _ _ _
 have e3:(s / b+bo')*(b^k*b)=b^k*((s / b+bo')*b):=by rw [Nat.mul_left_comm]
 rw [e1] at h;rw [e2,e3]
 have e4:(c+bo)+x+G*dd.getD k 0=u.getD k 0+(s / b+bo')*b:=by
  have:=Nat.div_add_mod s b
  rw [aV1] at this
  rw [Nat.add_mul];omega
 have e5:b^k*(c+bo+x+G*dd.getD k 0)=b^k*(u.getD k 0+(s / b+bo')*b):=by rw [e4]
 simp only [Nat.mul_add] at e5
 rw [Nat.mul_add] at h
 skip
 omega
theorem iZ {b:Nat} {w u dd:List Nat} {k c bo E G x:Nat} (hk:k<w.length) (hd:dd.length≤k) (hc:c<b) (hx:x+c+bo=u.getD k 0+E*b)
  (h:evl b (w.take k)+G*evl b (dd.take k)=evl b (u.take k)+(c+bo)*b^k):
  evl b ((w.set k x).take (k+1))+G*evl b dd=evl b (u.take (k+1))+E*b^(k+1):=by
 have:=nG (s:=c) (bo':=E) (x:=x) hk (by rw [eN hd];omega) (by rw [Nat.mod_eq_of_lt hc];exact hx) h
 rwa [Nat.div_eq_of_lt hc,aWc,eB (l:=dd) (by omega)] at this
theorem xU {Y e M r:Nat} (h:Y+e*M=M+r) (h1:Y<M) (h2:r<M):Y=r:=by
 have:=congrArg (·%M) h
 simpa [Nat.add_mul_mod_self_right,Nat.mod_eq_of_lt h1,Nat.mod_eq_of_lt h2] using this
theorem lQ {b:Nat} (hb:2≤b) {l:List Nat} {k:Nat} (h:∀x∈l,x<b) (hk:k≤l.length):evl b (l.take k)<b^k:=by
 have:=gD hb (l:=l.take k) fun x hx=>h x (List.mem_of_mem_take hx)
 rwa [show (l.take k).length=k by simp;omega] at this
theorem jA {b:Nat} {l u:List Nat} {k:Nat} (hk:k≤l.length) (hd:l.drop k=u.drop k) (h0:evl b (u.drop k)=0):evl b l=evl b (l.take k):=by
 rw [kR hk,hd,h0,Nat.mul_zero,Nat.add_zero]
end Go.Dig
namespace Go.Proofs.Y
open Go Go.Vc Go.Dig

theorem aIc (h:aA) (b cap:Nat) (p u:List Nat) (d:Sl) (Dv m:Nat) (hd:aJ h d Dv) (hm:ln 4294967296 Dv=m+2) (la:ln 4294967296 Dv≤17179869184) (hv1:2147483648≤((dg 4294967296 Dv).getD (m+1) 0)) (hul:m+3≤u.length) (hpl:p.length≤17179869184) (huB:∀x∈u,x<4294967296) (hUD:evl 4294967296 u<Dv*4294967296):
  Vc.Fn T F.q202 [.slice (some ⟨b,p.length,none⟩) (m+3) cap,d.val] h [(b,Row .u32 Ty.uint32 (p++u))] fun v h' L'=>∃u':List Nat,h'=h∧L'=[(b,Row .u32 Ty.uint32 (p++u'))]∧v=.int .u32 (evl 4294967296 u / Dv:Nat)∧u'.length=u.length∧(∀x∈u',x<4294967296)∧evl 4294967296 u'=evl 4294967296 u%Dv:=by
 have hdl:=hd.len
 have hv1B:=dgl tlB Dv (m+1)
 have hv2B:=dgl tlB Dv m
 have hu0:=dL (b:=4294967296) (by omega) huB (m+2)
 have hu1:=dL (b:=4294967296) (by omega) huB (m+1)
 have hu2:=dL (b:=4294967296) (by omega) huB m
 have hDs:Hq (Dv=evl 4294967296 ((dg 4294967296 Dv).take m)+4294967296^m*(((dg 4294967296 Dv).getD (m+1) 0)*4294967296+((dg 4294967296 Dv).getD m 0))):=⟨by rw [← aPw,← hm];exact (dP tlB (aWf _)).symm⟩
 have hDB:Dv<4294967296^(m+2):=by rw [← hm];exact bW tlB Dv
 have hD0:0<Dv:=by
  rcases Nat.eq_zero_or_pos Dv with h0|h0
  ·rw [h0,jX] at hm;omega
  ·exact h0
 have htop:Hq (evl 4294967296 (u.drop (m+3))=0):=⟨by
   rw [nF tlB huB]
   refine Nat.div_eq_of_lt (Nat.lt_of_lt_of_le hUD ?_)
   rw [Nat.pow_succ 4294967296 (m+2)];exact aV8 _ (Nat.le_of_lt hDB)⟩
 have hUt:Hq (evl 4294967296 u=evl 4294967296 (u.take (m+3))):=⟨by rw [kR hul,htop.out,Nat.mul_zero,Nat.add_zero]⟩
 have hUs:Hq (evl 4294967296 u=evl 4294967296 (u.take m)+4294967296^m*(((u.getD (m+1) 0)+(u.getD (m+2) 0)*4294967296)*4294967296+(u.getD m 0))):=⟨by rw [hUt.out,aTr]⟩
 have hlow:∀{l:List Nat},(∀x∈l,x<4294967296)→m≤l.length→evl 4294967296 (l.take m)<4294967296^m:=fun {l} hl hm=>by
  have:=gD tlB (l:=l.take m) fun x hx=>hl x (List.mem_of_mem_take hx)
  rwa [show (l.take m).length=m by simp;omega] at this
 have hul2:Hq (evl 4294967296 (u.take m)<4294967296^m):=⟨hlow huB (by omega)⟩
 have hdl2:Hq (evl 4294967296 ((dg 4294967296 Dv).take m)<4294967296^m):=⟨hlow (iU tlB Dv) (by unfold ln at hm;omega)⟩
 have hun:(u.getD (m+2) 0)≤((dg 4294967296 Dv).getD (m+1) 0):=aRm hDs.out hdl2.out hUs.out hUD hv2B
 obtain ⟨q,hq⟩:∃q,q=evl 4294967296 u / Dv:=⟨_,rfl⟩
 obtain ⟨top,ht⟩:∃top,top=(u.getD (m+1) 0)+(u.getD (m+2) 0)*4294967296:=⟨_,rfl⟩
 rw [← ht] at hUs
 obtain ⟨g0,hg0⟩:∃g0,g0=top / ((dg 4294967296 Dv).getD (m+1) 0):=⟨_,rfl⟩
 obtain ⟨r0,hr0⟩:∃r0,r0=top%((dg 4294967296 Dv).getD (m+1) 0):=⟨_,rfl⟩
 have hq0:q≤g0:=by rw [hq,hg0];exact aH9 hDs.out hUs.out hul2.out hu2 (by omega)
 have hqB:q<4294967296:=by rw [hq];exact (Nat.div_lt_iff_lt_mul hD0).2 (by rw [aV1];exact hUD)
 have hg0B:g0≤4294967296+1:=by
  rw [hg0]
  have:top<(4294967296+2)*((dg 4294967296 Dv).getD (m+1) 0):=by
   have:(u.getD (m+2) 0)*4294967296≤((dg 4294967296 Dv).getD (m+1) 0)*4294967296:=aV8 _ hun
   omega
  have:=(Nat.div_lt_iff_lt_mul (by omega)).2 this
  omega
 have hr0B:r0<4294967296:=by have:=Nat.mod_lt top (show 0<((dg 4294967296 Dv).getD (m+1) 0) by omega);omega
 have hgr:Hq (g0*((dg 4294967296 Dv).getD (m+1) 0)+r0=top):=⟨by rw [hg0,hr0,aV1];exact Nat.div_add_mod _ _⟩
 have eq1:((top:Int) / (((dg 4294967296 Dv).getD (m+1) 0):Nat))=(g0:Int):=by rw [hg0];rfl
 have eq2:((top:Int)%(((dg 4294967296 Dv).getD (m+1) 0):Nat))=(r0:Int):=by rw [hr0];rfl
 rw [← hq]
 replace hq:=Hq.mk hq
 replace hg0:=Hq.mk hg0
 replace hr0:=Hq.mk hr0
 replace hDB:=Hq.mk hDB
 replace hUD:=Hq.mk hUD
 replace hD0:=Hq.mk hD0
 replace hlow:=Hq.mk @hlow
 refine f1C ok D.q202 rfl ?_
 conv=>whnf
 repeat ((first|apply oI.z|apply cI.z);conv=>whnf)
 repeat' first|((first|(show Idx _ _ _ _ _;first|refine Idx.one (m+2) rfl (by omega) (by omega) ?_|refine Idx.one (m+1) rfl (by omega) (by omega) ?_)|(show Ld _ _ _ _;refine Ld.win 0 rfl (by omega) ?_)|(show iF _ _ _ _;refine iF.w32 hu0 ?_)|(show WN _ _ _;first|refine WN.i64 (by omega) (by omega) ?_|refine WN.u64 (by omega) (by omega) ?_)|refine DrN.run (by decide +kernel) ?_) <;> (conv=>whnf))
 ·refine iG.orq (u.getD (m+1) 0) ((u.getD (m+2) 0)*4294967296) 32 rfl rfl hu1 (by show _%4294967296=0;omega) (by show _<2^64;omega) (by show _<2^64;omega) rfl (fun _=>?_)
  rw [← ht]
  conv=>whnf
  repeat' first|((first|(show Idx _ _ _ _ _;(refine Idx.ws hd (m+1) (by omega) (by unfold ln at *;omega) (fun ad hv=>?_)))|(show Ld _ _ _ _;(refine Ld.of (by first|exact hv _|(rename_i hv;exact hv _)) ?_))|(show dN _ _ _ _;(refine dN.u64 (by omega) (by omega) (by omega) ?_;rw [eq1]))|(show gA _ _ _;(refine gA.nn (by omega) (by omega) ?_;rw [eq2]))|((first|apply oI.z|apply cI.z))|(show WN _ _ _;first|refine WN.i64 (by omega) (by omega) ?_|refine WN.u64 (by omega) (by omega) ?_)|refine DrN.run (by decide +kernel) ?_) <;> (conv=>whnf))
  refine LpN.of (fun r ρ h' L=>∃(g rest:Nat),r=g∧h'=h∧L=[(b,Row .u32 Ty.uint32 (p++u))]∧rd ρ 7=.int .u64 g∧rd ρ 8=.int .u64 rest∧g≤4294967296+1∧rest<4294967296∧q≤g∧Hq (g*((dg 4294967296 Dv).getD (m+1) 0)+rest=top)) g0
   ⟨g0,r0,rfl,rfl,rfl,rfl,rfl,hg0B,hr0B,hq0,hgr⟩ ?_
  conv=>whnf
  repeat intro _
  rename_i g h2 L2 hI
  obtain ⟨_,rest,rfl,rfl,rfl,e0,e1,hgB,hrB,hqg,hgr⟩:=hI
  conv at e0=>lhs;whnf
  subst e0
  conv at e1=>lhs;whnf
  subst e1
  have hstop:∀G rest,Hq (G*((dg 4294967296 Dv).getD (m+1) 0)+rest=top)→4294967296≤rest→G<4294967296:=fun G rest h1 h2=>aCl (u1:=(u.getD (m+1) 0)) (un:=(u.getD (m+2) 0)) h1.out (by omega) hu1 hun h2
  have hle:∀G rest,Hq (G*((dg 4294967296 Dv).getD (m+1) 0)+rest=top)→G<4294967296→Hq (G*((dg 4294967296 Dv).getD m 0)≤rest*4294967296+(u.getD m 0))→G≤q+1:=fun G rest h1 h2 h3=>by
   rw [hq.out];exact aIb hDs.out hdl2.out hUs.out h1.out (by omega) h2 h3.out
  rcases Nat.lt_or_ge g 4294967296 with hgl|hgl
  ·conv=>whnf
   repeat ((first|apply oI.z|apply cI.z);conv=>whnf)
   repeat' first|((first|(show bR _ _ _ _;refine bR.of 32 (by decide) (by omega) ?_)|(show WN _ _ _;first|refine WN.mul32 (x:=g) (y:=((dg 4294967296 Dv).getD m 0)) hgl hv2B (fun pp hp hp'=>?_)|refine WN.i64 (by omega) (by omega) ?_|refine WN.u64 (by omega) (by omega) ?_)|(show iF _ _ _ _;refine iF.w32 hrB ?_)|(show Idx _ _ _ _ _;first|refine Idx.one m rfl (by omega) (by omega) ?_|(refine Idx.ws hd m (by omega) (by unfold ln at *;omega) (fun ad hv=>?_)))|(show Ld _ _ _ _;first|refine Ld.win 0 rfl (by omega) ?_|(refine Ld.of (by first|exact hv _|(rename_i hv;exact hv _)) ?_))|refine DrN.run (by decide +kernel) ?_) <;> (conv=>whnf))|(show cnd _ _ _;first|(apply aE<;>intro _<;>first|(exfalso;omega)|conv=>whnf)|(refine aI ?_))
   rename_i pp hp hp' _ _
   refine iG.orq (u.getD m 0) (rest*4294967296) 32 rfl rfl hu2 (by show _%4294967296=0;omega) (by show _<2^64;omega) (by show _<2^64;omega) rfl (fun _=>?_)
   obtain ⟨sm,hsm⟩:∃sm,sm=(u.getD m 0)+rest*4294967296:=⟨_,rfl⟩
   rw [← hsm]
   conv=>whnf
   repeat ((first|apply oI.z|apply cI.z);conv=>whnf)
   refine aB (fun hgt=>?_) (fun hng=>?_)
   ·have hqg1:q<g:=by rw [hq.out];exact aIa hDs.out hUs.out hul2.out hgr.out (by rw [← hp.out];omega)
    obtain ⟨G,rfl⟩:∃G,g=G+1:=⟨g-1,by omega⟩
    have eG:((G+1:Nat):Int)-1=(G:Int):=by omega
    have hgn:Hq (G*((dg 4294967296 Dv).getD (m+1) 0)+(rest+((dg 4294967296 Dv).getD (m+1) 0))=top):=⟨tG (Nat.succ_pos G) hgr.out⟩
    clear hgr
    conv=>whnf
    repeat' first|((first|(show WN _ _ _;first|(refine WN.u64 (by omega) (by omega) ?_;rw [eG])|refine WN.i64 (by omega) (by omega) ?_|refine WN.u64 (by omega) (by omega) ?_)|(show bR _ _ _ _;refine bR.of 32 (by decide) (by omega) ?_)|(show Idx _ _ _ _ _;(refine Idx.ws hd (m+1) (by omega) (by unfold ln at *;omega) (fun ad hv=>?_)))|(show Ld _ _ _ _;(refine Ld.of (by first|exact hv _|(rename_i hv;exact hv _)) ?_))|((first|apply oI.z|apply cI.z))) <;> (conv=>whnf))|(show cnd _ _ _;first|(apply aE<;>intro _<;>first|(exfalso;omega)|conv=>whnf)|(refine aI ?_))
    ·exact ⟨rfl,G,by omega,G,rest+((dg 4294967296 Dv).getD (m+1) 0),rfl,rfl,rfl,rfl,vi (by omega),by omega,by omega,by omega,hgn⟩
    ·have hGB:G<4294967296:=hstop _ _ hgn (by omega)
     have hqG:q≤G:=by omega
     have hGq:G≤q+1:=hle _ _ hgn hGB ⟨rO hGB hv2B (by omega)⟩
     refine LpN.of (fun r ρ h' L=>∃(k:Nat) (w:List Nat) (c bo:Nat),r=m+2-k∧h'=h2∧L=[(b,Row .u32 Ty.uint32 (p++w))]∧rd ρ 88=.int .i64 k∧rd ρ 10=.int .u64 c∧rd ρ 9=.int .u64 bo∧k≤m+2∧w.length=u.length∧(∀x∈w,x<4294967296)∧c<4294967296∧bo≤1∧Hq (w.drop k=u.drop k)∧Hq (evl 4294967296 (w.take k)+G*evl 4294967296 ((dg 4294967296 Dv).take k)=evl 4294967296 (u.take k)+(c+bo)*4294967296^k)) (m+2)
      ⟨0,u,0,0,rfl,rfl,rfl,rfl,rfl,rfl,by omega,rfl,huB,by omega,by omega,⟨rfl⟩,⟨by simp [bF]⟩⟩ ?_
     conv=>whnf
     repeat intro _
     rename_i r2 h3 L3 hI
     obtain ⟨k,w,c,bo,rfl,rfl,rfl,e0,e1,e2,hk,hwl,hwB,hc,hbo,hwd,heq⟩:=hI
     conv at e0=>lhs;whnf
     subst e0
     conv at e1=>lhs;whnf
     subst e1
     conv at e2=>lhs;whnf
     subst e2
     have hdk:=dgl tlB Dv k
     have hwk:=dL (b:=4294967296) (by omega) hwB k
     obtain ⟨xl,hxl⟩:∃xl,xl=(w.getD k 0+2*4294967296-c-bo)%4294967296:=⟨_,rfl⟩
     have hwu:Hq (w.getD k 0=u.getD k 0):=⟨eE hwd.out (aWf _)⟩
     conv=>whnf
     repeat' first|((first|(show Idx _ _ _ _ _;first|(refine Idx.ws hd k (by omega) (by unfold ln at *;omega) (fun ad hv=>?_))|refine Idx.one k rfl (by omega) (by omega) ?_)|(show Ld _ _ _ _;first|(refine Ld.of (by first|exact hv _|(rename_i hv;exact hv _)) ?_)|refine Ld.win 0 rfl (by omega) ?_)|(show WN _ _ _;first|refine WN.mul32 (x:=G) (y:=(dg 4294967296 Dv).getD k 0) hGB hdk (fun pq hpq hpq'=>?_)|refine WN.u32e (fun _ _=>?_)|refine WN.u64 (by omega) (by omega) ?_|refine WN.u64e (fun _ _=>?_)|refine WN.i64 (by omega) (by omega) ?_)|(show bR _ _ _ _;first|refine bR.e 32 (by decide) (by omega) (fun _ _=>?_)|refine bR.e 63 (by decide) (by omega) (fun _ _=>?_))|(show Sto _ _ _ _;first|refine Sto.win 0 rfl xl (by omega) (by omega) ?_|refine Sto.winE 0 rfl (by omega) (fun _ _=>?_))|((first|apply oI.z|apply cI.z))) <;> (conv=>whnf))|(show cnd _ _ _;first|(apply aB<;>intro _<;>first|(exfalso;omega)|conv=>whnf)|(apply aE<;>intro _<;>first|(exfalso;omega)|conv=>whnf))
     ·refine ⟨rfl,m+2-(k+1),by omega,k+1,_,(pq+c) / 4294967296,if w.getD k 0<(pq+c)%4294967296+bo then 1 else 0,rfl,rfl,rfl,vi (by omega),vi (by omega),vi (by split <;> omega),by omega,by simp [hwl],aP hwB (by omega),by omega,by split <;> omega,⟨bL hwd.out⟩,⟨nG (s:=pq+c) (by omega) (by rw [hpq.out]) (by rw [← hwu.out];split <;> omega) heq.out⟩⟩
     ·obtain rfl:k=m+2:=by omega
      have hE:=iZ (x:=xl) (E:=0) (by omega) (by unfold ln at hm;omega) hc (by rw [← hwu.out];omega) heq.out
      rw [bO tlB,← hUt.out] at hE
      have hfin:=(iY hD0.out hq.out hqG hGq hE (.inr (Nat.zero_mul _))).1 (Nat.zero_mul _)
      refine RN.done ⟨w.set (m+2) xl,rfl,rfl,vi (by have:=hfin.1;omega),by simp [hwl],aP hwB (by omega),?_⟩
      rw [jA (by simp;omega) (bL hwd.out) htop.out]
      exact hfin.2
     ·obtain rfl:k=m+2:=by omega
      have hE:=iZ (x:=xl) (E:=1) (by omega) (by unfold ln at hm;omega) hc (by rw [← hwu.out];omega) heq.out
      rw [bO tlB,← hUt.out,Nat.one_mul] at hE
      obtain ⟨y,hy⟩:∃y,y=w.set (m+2) xl:=⟨_,rfl⟩
      have hyl:y.length=u.length:=by rw [hy];simp [hwl]
      have hyB:∀x∈y,x<4294967296:=by rw [hy];exact aP hwB (by omega)
      have hyd:Hq (y.drop (m+3)=u.drop (m+3)):=⟨by rw [hy];exact bL hwd.out⟩
      rw [← hy] at hE
      have hpos:0<4294967296^(m+3):=Nat.pow_pos (by omega)
      have hfin:=(iY hD0.out hq.out hqG hGq hE (.inl (lQ tlB hyB (by omega)))).2 hpos
      have hG1:=hfin.1
      replace hfin:=Hq.mk hfin.2
      rw [← hy]
      replace hE:=Hq.mk hE
      replace hpos:=Hq.mk hpos
      refine LpN.of (fun r ρ h' L=>∃(k:Nat) (z:List Nat) (c:Nat),r=m+2-k∧h'=h3∧L=[(b,Row .u32 Ty.uint32 (p++z))]∧rd ρ 141=.int .i64 k∧rd ρ 10=.int .u64 c∧k≤m+2∧z.length=u.length∧(∀x∈z,x<4294967296)∧c≤1∧Hq (z.drop k=y.drop k)∧Hq (evl 4294967296 (z.take k)+c*4294967296^k=evl 4294967296 (y.take k)+evl 4294967296 ((dg 4294967296 Dv).take k))) (m+2)
       ⟨0,y,0,rfl,rfl,rfl,rfl,rfl,by omega,hyl,hyB,by omega,⟨rfl⟩,⟨by simp [bF]⟩⟩ ?_
      conv=>whnf
      repeat intro _
      rename_i r3 h4 L4 hI
      obtain ⟨k,z,c,rfl,rfl,rfl,e0,e1,hk,hzl,hzB,hc,hzd,heq⟩:=hI
      conv at e0=>lhs;whnf
      subst e0
      conv at e1=>lhs;whnf
      subst e1
      have hdk:=dgl tlB Dv k
      have hzk:=dL (b:=4294967296) (by omega) hzB k
      obtain ⟨s3,hs3⟩:∃s3,s3=z.getD k 0+c+(dg 4294967296 Dv).getD k 0:=⟨_,rfl⟩
      obtain ⟨x3,hx3⟩:∃x3,x3=s3%4294967296:=⟨_,rfl⟩
      obtain ⟨x4,hx4⟩:∃x4,x4=(z.getD k 0+c)%4294967296:=⟨_,rfl⟩
      have hzu:Hq (z.getD k 0=y.getD k 0):=⟨eE hzd.out (aWf _)⟩
      conv=>whnf
      repeat' first|((first|(show Idx _ _ _ _ _;first|(refine Idx.ws hd k (by omega) (by unfold ln at *;omega) (fun ad hv=>?_))|refine Idx.one k rfl (by omega) (by omega) ?_)|(show Ld _ _ _ _;first|(refine Ld.of (by first|exact hv _|(rename_i hv;exact hv _)) ?_)|refine Ld.win 0 rfl (by omega) ?_)|(show bR _ _ _ _;refine bR.e 32 (by decide) (by omega) (fun _ _=>?_))|(show WN _ _ _;first|refine WN.u32e (fun _ _=>?_)|refine WN.i64 (by omega) (by omega) ?_|refine WN.u64 (by omega) (by omega) ?_)|(show Sto _ _ _ _;first|refine Sto.win 0 rfl x3 (by omega) (by omega) ?_|refine Sto.win 0 rfl x4 (by omega) (by omega) ?_)|((first|apply oI.z|apply cI.z))) <;> (conv=>whnf))|(apply aB<;>intro _<;>first|(exfalso;omega)|conv=>whnf)
      ·refine ⟨rfl,m+2-(k+1),by omega,k+1,_,s3 / 4294967296,rfl,rfl,rfl,vi (by omega),vi (by omega),by omega,by simp [hzl],aP hzB (by omega),by omega,⟨bL hzd.out⟩,⟨by rw [hx3];exact iI (by omega) (by rw [← hzu.out];exact hs3) heq.out⟩⟩
      ·obtain rfl:k=m+2:=by omega
       have hz0:(dg 4294967296 Dv).getD (m+2) 0=0:=eN (by unfold ln at hm;omega)
       have hA:=iI (b:=4294967296) (o:=z) (da:=y) (db:=dg 4294967296 Dv) (k:=m+2) (c:=c) (s:=z.getD (m+2) 0+c) (by omega) (by rw [← hzu.out,hz0];rfl) heq.out
       rw [eB (l:=dg 4294967296 Dv) (by unfold ln at hm;omega),bO tlB,hfin.out] at hA
       rw [← hx4] at hA
       have hB:=aP (k:=m+2) (x:=x4) hzB (by omega)
       have hY:=xU hA (lQ tlB hB (by simp;omega)) (Nat.lt_of_lt_of_le (Nat.lt_trans (Nat.mod_lt _ hD0.out) hDB.out) (Nat.pow_le_pow_right (by omega) (by omega)))
       refine RN.done ⟨z.set (m+2) x4,rfl,rfl,vi (by omega),by simp [hzl],hB,?_⟩
       rw [jA (u:=u) (k:=m+3) (by simp;omega) ((bL hzd.out).trans hyd.out) htop.out]
       exact hY
   ·obtain ⟨G,hG⟩:∃G,G=g:=⟨g,rfl⟩
    subst hG
    have hGB:G<4294967296:=hgl
    have hqG:q≤G:=hqg
    have hGq:G≤q+1:=hle _ _ hgr hGB ⟨by rw [← hp.out];omega⟩
    conv=>whnf
    repeat ((first|apply oI.z|apply cI.z);conv=>whnf)
    skip
    refine LpN.of (fun r ρ h' L=>∃(k:Nat) (w:List Nat) (c bo:Nat),r=m+2-k∧h'=h2∧L=[(b,Row .u32 Ty.uint32 (p++w))]∧rd ρ 88=.int .i64 k∧rd ρ 10=.int .u64 c∧rd ρ 9=.int .u64 bo∧k≤m+2∧w.length=u.length∧(∀x∈w,x<4294967296)∧c<4294967296∧bo≤1∧Hq (w.drop k=u.drop k)∧Hq (evl 4294967296 (w.take k)+G*evl 4294967296 ((dg 4294967296 Dv).take k)=evl 4294967296 (u.take k)+(c+bo)*4294967296^k)) (m+2)
     ⟨0,u,0,0,rfl,rfl,rfl,rfl,rfl,rfl,by omega,rfl,huB,by omega,by omega,⟨rfl⟩,⟨by simp [bF]⟩⟩ ?_
    conv=>whnf
    repeat intro _
    rename_i r2 h3 L3 hI
    obtain ⟨k,w,c,bo,rfl,rfl,rfl,e0,e1,e2,hk,hwl,hwB,hc,hbo,hwd,heq⟩:=hI
    conv at e0=>lhs;whnf
    subst e0
    conv at e1=>lhs;whnf
    subst e1
    conv at e2=>lhs;whnf
    subst e2
    have hdk:=dgl tlB Dv k
    have hwk:=dL (b:=4294967296) (by omega) hwB k
    obtain ⟨xl,hxl⟩:∃xl,xl=(w.getD k 0+2*4294967296-c-bo)%4294967296:=⟨_,rfl⟩
    have hwu:Hq (w.getD k 0=u.getD k 0):=⟨eE hwd.out (aWf _)⟩
    conv=>whnf
    repeat' first|((first|(show Idx _ _ _ _ _;first|(refine Idx.ws hd k (by omega) (by unfold ln at *;omega) (fun ad hv=>?_))|refine Idx.one k rfl (by omega) (by omega) ?_)|(show Ld _ _ _ _;first|(refine Ld.of (by first|exact hv _|(rename_i hv;exact hv _)) ?_)|refine Ld.win 0 rfl (by omega) ?_)|(show WN _ _ _;first|refine WN.mul32 (x:=G) (y:=(dg 4294967296 Dv).getD k 0) hGB hdk (fun pq hpq hpq'=>?_)|refine WN.u32e (fun _ _=>?_)|refine WN.u64 (by omega) (by omega) ?_|refine WN.u64e (fun _ _=>?_)|refine WN.i64 (by omega) (by omega) ?_)|(show bR _ _ _ _;first|refine bR.e 32 (by decide) (by omega) (fun _ _=>?_)|refine bR.e 63 (by decide) (by omega) (fun _ _=>?_))|(show Sto _ _ _ _;first|refine Sto.win 0 rfl xl (by omega) (by omega) ?_|refine Sto.winE 0 rfl (by omega) (fun _ _=>?_))|((first|apply oI.z|apply cI.z))) <;> (conv=>whnf))|(show cnd _ _ _;first|(apply aB<;>intro _<;>first|(exfalso;omega)|conv=>whnf)|(apply aE<;>intro _<;>first|(exfalso;omega)|conv=>whnf))
    ·refine ⟨rfl,m+2-(k+1),by omega,k+1,_,(pq+c) / 4294967296,if w.getD k 0<(pq+c)%4294967296+bo then 1 else 0,rfl,rfl,rfl,vi (by omega),vi (by omega),vi (by split <;> omega),by omega,by simp [hwl],aP hwB (by omega),by omega,by split <;> omega,⟨bL hwd.out⟩,⟨nG (s:=pq+c) (by omega) (by rw [hpq.out]) (by rw [← hwu.out];split <;> omega) heq.out⟩⟩
    ·obtain rfl:k=m+2:=by omega
     have hE:=iZ (x:=xl) (E:=0) (by omega) (by unfold ln at hm;omega) hc (by rw [← hwu.out];omega) heq.out
     rw [bO tlB,← hUt.out] at hE
     have hfin:=(iY hD0.out hq.out hqG hGq hE (.inr (Nat.zero_mul _))).1 (Nat.zero_mul _)
     refine RN.done ⟨w.set (m+2) xl,rfl,rfl,vi (by have:=hfin.1;omega),by simp [hwl],aP hwB (by omega),?_⟩
     rw [jA (by simp;omega) (bL hwd.out) htop.out]
     exact hfin.2
    ·obtain rfl:k=m+2:=by omega
     have hE:=iZ (x:=xl) (E:=1) (by omega) (by unfold ln at hm;omega) hc (by rw [← hwu.out];omega) heq.out
     rw [bO tlB,← hUt.out,Nat.one_mul] at hE
     obtain ⟨y,hy⟩:∃y,y=w.set (m+2) xl:=⟨_,rfl⟩
     have hyl:y.length=u.length:=by rw [hy];simp [hwl]
     have hyB:∀x∈y,x<4294967296:=by rw [hy];exact aP hwB (by omega)
     have hyd:Hq (y.drop (m+3)=u.drop (m+3)):=⟨by rw [hy];exact bL hwd.out⟩
     rw [← hy] at hE
     have hpos:0<4294967296^(m+3):=Nat.pow_pos (by omega)
     have hfin:=(iY hD0.out hq.out hqG hGq hE (.inl (lQ tlB hyB (by omega)))).2 hpos
     have hG1:=hfin.1
     replace hfin:=Hq.mk hfin.2
     rw [← hy]
     replace hE:=Hq.mk hE
     replace hpos:=Hq.mk hpos
     refine LpN.of (fun r ρ h' L=>∃(k:Nat) (z:List Nat) (c:Nat),r=m+2-k∧h'=h3∧L=[(b,Row .u32 Ty.uint32 (p++z))]∧rd ρ 141=.int .i64 k∧rd ρ 10=.int .u64 c∧k≤m+2∧z.length=u.length∧(∀x∈z,x<4294967296)∧c≤1∧Hq (z.drop k=y.drop k)∧Hq (evl 4294967296 (z.take k)+c*4294967296^k=evl 4294967296 (y.take k)+evl 4294967296 ((dg 4294967296 Dv).take k))) (m+2)
      ⟨0,y,0,rfl,rfl,rfl,rfl,rfl,by omega,hyl,hyB,by omega,⟨rfl⟩,⟨by simp [bF]⟩⟩ ?_
     conv=>whnf
     repeat intro _
     rename_i r3 h4 L4 hI
     obtain ⟨k,z,c,rfl,rfl,rfl,e0,e1,hk,hzl,hzB,hc,hzd,heq⟩:=hI
     conv at e0=>lhs;whnf
     subst e0
     conv at e1=>lhs;whnf
     subst e1
     have hdk:=dgl tlB Dv k
     have hzk:=dL (b:=4294967296) (by omega) hzB k
     obtain ⟨s3,hs3⟩:∃s3,s3=z.getD k 0+c+(dg 4294967296 Dv).getD k 0:=⟨_,rfl⟩
     obtain ⟨x3,hx3⟩:∃x3,x3=s3%4294967296:=⟨_,rfl⟩
     obtain ⟨x4,hx4⟩:∃x4,x4=(z.getD k 0+c)%4294967296:=⟨_,rfl⟩
     have hzu:Hq (z.getD k 0=y.getD k 0):=⟨eE hzd.out (aWf _)⟩
     conv=>whnf
     repeat' first|((first|(show Idx _ _ _ _ _;first|(refine Idx.ws hd k (by omega) (by unfold ln at *;omega) (fun ad hv=>?_))|refine Idx.one k rfl (by omega) (by omega) ?_)|(show Ld _ _ _ _;first|(refine Ld.of (by first|exact hv _|(rename_i hv;exact hv _)) ?_)|refine Ld.win 0 rfl (by omega) ?_)|(show bR _ _ _ _;refine bR.e 32 (by decide) (by omega) (fun _ _=>?_))|(show WN _ _ _;first|refine WN.u32e (fun _ _=>?_)|refine WN.i64 (by omega) (by omega) ?_|refine WN.u64 (by omega) (by omega) ?_)|(show Sto _ _ _ _;first|refine Sto.win 0 rfl x3 (by omega) (by omega) ?_|refine Sto.win 0 rfl x4 (by omega) (by omega) ?_)|((first|apply oI.z|apply cI.z))) <;> (conv=>whnf))|(apply aB<;>intro _<;>first|(exfalso;omega)|conv=>whnf)
     ·refine ⟨rfl,m+2-(k+1),by omega,k+1,_,s3 / 4294967296,rfl,rfl,rfl,vi (by omega),vi (by omega),by omega,by simp [hzl],aP hzB (by omega),by omega,⟨bL hzd.out⟩,⟨by rw [hx3];exact iI (by omega) (by rw [← hzu.out];exact hs3) heq.out⟩⟩
     ·obtain rfl:k=m+2:=by omega
      have hz0:(dg 4294967296 Dv).getD (m+2) 0=0:=eN (by unfold ln at hm;omega)
      have hA:=iI (b:=4294967296) (o:=z) (da:=y) (db:=dg 4294967296 Dv) (k:=m+2) (c:=c) (s:=z.getD (m+2) 0+c) (by omega) (by rw [← hzu.out,hz0];rfl) heq.out
      rw [eB (l:=dg 4294967296 Dv) (by unfold ln at hm;omega),bO tlB,hfin.out] at hA
      rw [← hx4] at hA
      have hB:=aP (k:=m+2) (x:=x4) hzB (by omega)
      have hY:=xU hA (lQ tlB hB (by simp;omega)) (Nat.lt_of_lt_of_le (Nat.lt_trans (Nat.mod_lt _ hD0.out) hDB.out) (Nat.pow_le_pow_right (by omega) (by omega)))
      refine RN.done ⟨z.set (m+2) x4,rfl,rfl,vi (by omega),by simp [hzl],hB,?_⟩
      rw [jA (u:=u) (k:=m+3) (by simp;omega) ((bL hzd.out).trans hyd.out) htop.out]
      exact hY
  ·have hqg1:q<g:=by rw [hq.out];exact aFy hUD.out hgl
   obtain ⟨G,rfl⟩:∃G,g=G+1:=⟨g-1,by omega⟩
   have eG:((G+1:Nat):Int)-1=(G:Int):=by omega
   have hgn:Hq (G*((dg 4294967296 Dv).getD (m+1) 0)+(rest+((dg 4294967296 Dv).getD (m+1) 0))=top):=⟨tG (Nat.succ_pos G) hgr.out⟩
   clear hgr
   conv=>whnf
   repeat' first|((first|(show WN _ _ _;first|(refine WN.u64 (by omega) (by omega) ?_;rw [eG])|refine WN.i64 (by omega) (by omega) ?_|refine WN.u64 (by omega) (by omega) ?_)|(show bR _ _ _ _;refine bR.of 32 (by decide) (by omega) ?_)|(show Idx _ _ _ _ _;(refine Idx.ws hd (m+1) (by omega) (by unfold ln at *;omega) (fun ad hv=>?_)))|(show Ld _ _ _ _;(refine Ld.of (by first|exact hv _|(rename_i hv;exact hv _)) ?_))|((first|apply oI.z|apply cI.z))|refine DrN.run (by decide +kernel) ?_) <;> (conv=>whnf))|(show cnd _ _ _;first|(apply aE<;>intro _<;>first|(exfalso;omega)|conv=>whnf)|(refine aI ?_))
   ·exact ⟨rfl,G,by omega,G,rest+((dg 4294967296 Dv).getD (m+1) 0),rfl,rfl,rfl,rfl,vi (by omega),by omega,by omega,by omega,hgn⟩
   ·have hGB:G<4294967296:=hstop _ _ hgn (by omega)
    have hqG:q≤G:=by omega
    have hGq:G≤q+1:=hle _ _ hgn hGB ⟨rO hGB hv2B (by omega)⟩
    refine LpN.of (fun r ρ h' L=>∃(k:Nat) (w:List Nat) (c bo:Nat),r=m+2-k∧h'=h2∧L=[(b,Row .u32 Ty.uint32 (p++w))]∧rd ρ 88=.int .i64 k∧rd ρ 10=.int .u64 c∧rd ρ 9=.int .u64 bo∧k≤m+2∧w.length=u.length∧(∀x∈w,x<4294967296)∧c<4294967296∧bo≤1∧Hq (w.drop k=u.drop k)∧Hq (evl 4294967296 (w.take k)+G*evl 4294967296 ((dg 4294967296 Dv).take k)=evl 4294967296 (u.take k)+(c+bo)*4294967296^k)) (m+2)
     ⟨0,u,0,0,rfl,rfl,rfl,rfl,rfl,rfl,by omega,rfl,huB,by omega,by omega,⟨rfl⟩,⟨by simp [bF]⟩⟩ ?_
    conv=>whnf
    repeat intro _
    rename_i r2 h3 L3 hI
    obtain ⟨k,w,c,bo,rfl,rfl,rfl,e0,e1,e2,hk,hwl,hwB,hc,hbo,hwd,heq⟩:=hI
    conv at e0=>lhs;whnf
    subst e0
    conv at e1=>lhs;whnf
    subst e1
    conv at e2=>lhs;whnf
    subst e2
    have hdk:=dgl tlB Dv k
    have hwk:=dL (b:=4294967296) (by omega) hwB k
    obtain ⟨xl,hxl⟩:∃xl,xl=(w.getD k 0+2*4294967296-c-bo)%4294967296:=⟨_,rfl⟩
    have hwu:Hq (w.getD k 0=u.getD k 0):=⟨eE hwd.out (aWf _)⟩
    conv=>whnf
    repeat' first|((first|(show Idx _ _ _ _ _;first|(refine Idx.ws hd k (by omega) (by unfold ln at *;omega) (fun ad hv=>?_))|refine Idx.one k rfl (by omega) (by omega) ?_)|(show Ld _ _ _ _;first|(refine Ld.of (by first|exact hv _|(rename_i hv;exact hv _)) ?_)|refine Ld.win 0 rfl (by omega) ?_)|(show WN _ _ _;first|refine WN.mul32 (x:=G) (y:=(dg 4294967296 Dv).getD k 0) hGB hdk (fun pq hpq hpq'=>?_)|refine WN.u32e (fun _ _=>?_)|refine WN.u64 (by omega) (by omega) ?_|refine WN.u64e (fun _ _=>?_)|refine WN.i64 (by omega) (by omega) ?_)|(show bR _ _ _ _;first|refine bR.e 32 (by decide) (by omega) (fun _ _=>?_)|refine bR.e 63 (by decide) (by omega) (fun _ _=>?_))|(show Sto _ _ _ _;first|refine Sto.win 0 rfl xl (by omega) (by omega) ?_|refine Sto.winE 0 rfl (by omega) (fun _ _=>?_))|((first|apply oI.z|apply cI.z))) <;> (conv=>whnf))|(show cnd _ _ _;first|(apply aB<;>intro _<;>first|(exfalso;omega)|conv=>whnf)|(apply aE<;>intro _<;>first|(exfalso;omega)|conv=>whnf))
    ·refine ⟨rfl,m+2-(k+1),by omega,k+1,_,(pq+c) / 4294967296,if w.getD k 0<(pq+c)%4294967296+bo then 1 else 0,rfl,rfl,rfl,vi (by omega),vi (by omega),vi (by split <;> omega),by omega,by simp [hwl],aP hwB (by omega),by omega,by split <;> omega,⟨bL hwd.out⟩,⟨nG (s:=pq+c) (by omega) (by rw [hpq.out]) (by rw [← hwu.out];split <;> omega) heq.out⟩⟩
    ·obtain rfl:k=m+2:=by omega
     have hE:=iZ (x:=xl) (E:=0) (by omega) (by unfold ln at hm;omega) hc (by rw [← hwu.out];omega) heq.out
     rw [bO tlB,← hUt.out] at hE
     have hfin:=(iY hD0.out hq.out hqG hGq hE (.inr (Nat.zero_mul _))).1 (Nat.zero_mul _)
     refine RN.done ⟨w.set (m+2) xl,rfl,rfl,vi (by have:=hfin.1;omega),by simp [hwl],aP hwB (by omega),?_⟩
     rw [jA (by simp;omega) (bL hwd.out) htop.out]
     exact hfin.2
    ·obtain rfl:k=m+2:=by omega
     have hE:=iZ (x:=xl) (E:=1) (by omega) (by unfold ln at hm;omega) hc (by rw [← hwu.out];omega) heq.out
     rw [bO tlB,← hUt.out,Nat.one_mul] at hE
     obtain ⟨y,hy⟩:∃y,y=w.set (m+2) xl:=⟨_,rfl⟩
     have hyl:y.length=u.length:=by rw [hy];simp [hwl]
     have hyB:∀x∈y,x<4294967296:=by rw [hy];exact aP hwB (by omega)
     have hyd:Hq (y.drop (m+3)=u.drop (m+3)):=⟨by rw [hy];exact bL hwd.out⟩
     rw [← hy] at hE
     have hpos:0<4294967296^(m+3):=Nat.pow_pos (by omega)
     have hfin:=(iY hD0.out hq.out hqG hGq hE (.inl (lQ tlB hyB (by omega)))).2 hpos
     have hG1:=hfin.1
     replace hfin:=Hq.mk hfin.2
     rw [← hy]
     replace hE:=Hq.mk hE
     replace hpos:=Hq.mk hpos
     refine LpN.of (fun r ρ h' L=>∃(k:Nat) (z:List Nat) (c:Nat),r=m+2-k∧h'=h3∧L=[(b,Row .u32 Ty.uint32 (p++z))]∧rd ρ 141=.int .i64 k∧rd ρ 10=.int .u64 c∧k≤m+2∧z.length=u.length∧(∀x∈z,x<4294967296)∧c≤1∧Hq (z.drop k=y.drop k)∧Hq (evl 4294967296 (z.take k)+c*4294967296^k=evl 4294967296 (y.take k)+evl 4294967296 ((dg 4294967296 Dv).take k))) (m+2)
      ⟨0,y,0,rfl,rfl,rfl,rfl,rfl,by omega,hyl,hyB,by omega,⟨rfl⟩,⟨by simp [bF]⟩⟩ ?_
     conv=>whnf
     repeat intro _
     rename_i r3 h4 L4 hI
     obtain ⟨k,z,c,rfl,rfl,rfl,e0,e1,hk,hzl,hzB,hc,hzd,heq⟩:=hI
     conv at e0=>lhs;whnf
     subst e0
     conv at e1=>lhs;whnf
     subst e1
     have hdk:=dgl tlB Dv k
     have hzk:=dL (b:=4294967296) (by omega) hzB k
     obtain ⟨s3,hs3⟩:∃s3,s3=z.getD k 0+c+(dg 4294967296 Dv).getD k 0:=⟨_,rfl⟩
     obtain ⟨x3,hx3⟩:∃x3,x3=s3%4294967296:=⟨_,rfl⟩
     obtain ⟨x4,hx4⟩:∃x4,x4=(z.getD k 0+c)%4294967296:=⟨_,rfl⟩
     have hzu:Hq (z.getD k 0=y.getD k 0):=⟨eE hzd.out (aWf _)⟩
     conv=>whnf
     repeat' first|((first|(show Idx _ _ _ _ _;first|(refine Idx.ws hd k (by omega) (by unfold ln at *;omega) (fun ad hv=>?_))|refine Idx.one k rfl (by omega) (by omega) ?_)|(show Ld _ _ _ _;first|(refine Ld.of (by first|exact hv _|(rename_i hv;exact hv _)) ?_)|refine Ld.win 0 rfl (by omega) ?_)|(show bR _ _ _ _;refine bR.e 32 (by decide) (by omega) (fun _ _=>?_))|(show WN _ _ _;first|refine WN.u32e (fun _ _=>?_)|refine WN.i64 (by omega) (by omega) ?_|refine WN.u64 (by omega) (by omega) ?_)|(show Sto _ _ _ _;first|refine Sto.win 0 rfl x3 (by omega) (by omega) ?_|refine Sto.win 0 rfl x4 (by omega) (by omega) ?_)|((first|apply oI.z|apply cI.z))) <;> (conv=>whnf))|(apply aB<;>intro _<;>first|(exfalso;omega)|conv=>whnf)
     ·refine ⟨rfl,m+2-(k+1),by omega,k+1,_,s3 / 4294967296,rfl,rfl,rfl,vi (by omega),vi (by omega),by omega,by simp [hzl],aP hzB (by omega),by omega,⟨bL hzd.out⟩,⟨by rw [hx3];exact iI (by omega) (by rw [← hzu.out];exact hs3) heq.out⟩⟩
     ·obtain rfl:k=m+2:=by omega
      have hz0:(dg 4294967296 Dv).getD (m+2) 0=0:=eN (by unfold ln at hm;omega)
      have hA:=iI (b:=4294967296) (o:=z) (da:=y) (db:=dg 4294967296 Dv) (k:=m+2) (c:=c) (s:=z.getD (m+2) 0+c) (by omega) (by rw [← hzu.out,hz0];rfl) heq.out
      rw [eB (l:=dg 4294967296 Dv) (by unfold ln at hm;omega),bO tlB,hfin.out] at hA
      rw [← hx4] at hA
      have hB:=aP (k:=m+2) (x:=x4) hzB (by omega)
      have hY:=xU hA (lQ tlB hB (by simp;omega)) (Nat.lt_of_lt_of_le (Nat.lt_trans (Nat.mod_lt _ hD0.out) hDB.out) (Nat.pow_le_pow_right (by omega) (by omega)))
      refine RN.done ⟨z.set (m+2) x4,rfl,rfl,vi (by omega),by simp [hzl],hB,?_⟩
      rw [jA (u:=u) (k:=m+3) (by simp;omega) ((bL hzd.out).trans hyd.out) htop.out]
      exact hY
end Go.Proofs.Y
/- Contracts of package word's functions on natural numbers, sixth part: long division, the greatest common divisor. -/
namespace Go.Vc
open Go Go.Dig
theorem gM.own {b c:Nat} {l h:Int} {k:Option Addr→Nat→Nat→Prop} (j e:Nat) (hl:l=j) (hh:h=e) (h1:j≤e) (h2:e≤c) (h3:j<c) (hk:k (some ⟨b,j,none⟩) (e-j) (c-j)):gM (some ⟨b,0,none⟩) l h c 1 k:=
 ⟨j,e,some ⟨b,j,none⟩,e-j,c-j,hl,hh,h1,h2,by rw [if_neg (by omega)];simp [bD],rfl,rfl,hk⟩
theorem Ext.copyWs {T:Tab} {op:Op} {xs:List Operand} {h:aA} {L:Own} {k:Value→aA→Own→Prop} {dx sx:Operand} {dT sT e:TypeId} {z:List Value} {bytes:Nat}
  (hop:op=.call { callee:=.builtin .copy,args:=#[dx,sx],argTypes:=#[dT,sT] }) (hxs:xs=[dx,sx]) (ht:T.und dT=some (.slice e)) (hi:T.inf e=some (z,bytes)) (hz:z.length=1)
  (n:Nat) {b dLen dCap:Nat} {kd:IntKind} {old l:List Nat} {s:Sl} {ET:TypeId} (hn:L[n]?=some (b,Row kd ET old)) (hfit:dLen≤old.length) (hs:Ws kd h s l) (hl:l.length≤dLen)
  (hk:k (.int .i64 (l.length:Nat)) h (L.set n (b,Row kd ET (l++old.drop l.length)))):
  Ext T op xs [.slice (some ⟨b,0,none⟩) dLen dCap,s.val] h L k:=by
 refine Ext.copy hop hxs ht hi hz n (old:=old.map (vu kd)) hn (by simp;omega) (l.map (vu kd)) (by rw [hs.len];simp;omega) (fun h0=>?_) (by simp [vu,eK]) ?_
 ·obtain ⟨b',off,c,T',fz,h1,h2,h3⟩:=hs.mem (by rintro rfl;simp at h0)
  refine ⟨_,h1,fun j hj=>?_⟩
  rw [bD]
  refine Has.imm h2 ?_
  simp at hj
  rw [h3 j hj];simp [hj,vu,aVp]
 ·have e:(old.map (vu kd)).take 0++l.map (vu kd)++(old.map (vu kd)).drop (0+(l.map (vu kd)).length)=(l++old.drop l.length).map (vu kd):=by simp
  rw [e];simpa only [aWb] using hk
end Go.Vc
namespace Go.Proofs.Y
open Go Go.Vc Go.Dig

theorem sD {m n:Nat} (h:m<n):gE m n=-1:=by simp [gE,h]
theorem sE {m n:Nat} (h:n≤m):0≤gE m n∧gE m n≤1:=by unfold gE;split <;> (try split) <;> omega
theorem aF0 {n:Nat} (h:ln 4294967296 n=1):(dg 4294967296 n).getD 0 0=n∧0<n∧n<4294967296:=by
 obtain ⟨x,hx⟩:∃x,dg 4294967296 n=[x]:=List.length_eq_one_iff.1 h
 have e:=bO tlB n
 rw [hx] at e
 have e:x=n:=by simpa [dG,bF] using e
 have hlt:=iU tlB n x (by simp [hx])
 subst e
 refine ⟨by rw [hx];rfl,?_,hlt⟩
 rcases Nat.eq_zero_or_pos x with h0|h0
 ·rw [h0,jX] at h;omega
 ·exact h0
theorem aPx {m s:Nat} (hs:s≤31):ln 4294967296 (m*2^s)≤ln 4294967296 m+1:=by
 have h1:ln 4294967296 (2^s)≤1:=(aT tlB).2 (Nat.lt_of_le_of_lt (Nat.pow_le_pow_right (by omega) hs) (by decide))
 have h2:=bV tlB m (2^s)
 omega

theorem aId (h:aA) (a b:Sl) (m n:Nat) (ha:aJ h a m) (hb:aJ h b n) (la:ln 4294967296 m≤8589934592) (lb:ln 4294967296 n≤8589934592) (h0:n≠0):
  Fn0 T F.q168 [a.val,b.val] h fun v h'=>∃q r:Sl,v=.tuple #[q.val,r.val]∧aJ h' q (m / n)∧aJ h' r (m%n):=by
 have hal:=ha.len
 have hbl:=hb.len
 have hmn:n≤m→ln 4294967296 n≤ln 4294967296 m:=fun hh=>cO tlB hh
 have hn1:1≤ln 4294967296 n:=Nat.pos_of_ne_zero fun e=>h0 ((aW tlB).1 e)
 have hd1:=dgl tlB n 0
 have hdt:=dgl tlB n (ln 4294967296 n-1)
 have hlb:ln 4294967296 m<ln 4294967296 n→m<n:=fun hh=>mN tlB hh
 refine f0C ok D.q168 rfl ?_
 conv=>whnf
 repeat ((first|apply oI.z|apply cI.z);conv=>whnf)
 by_cases hlt:m<n
 ·refine CN.f rfl (aCk h a b m n ha hb (by omega) (by omega)) (fun v h' hl hr=>?_)
  obtain ⟨rfl,rfl⟩:=hr
  rw [sD hlt]
  conv=>whnf
  repeat' first|((first|((first|apply oI.z|apply cI.z))) <;> (conv=>whnf))|(apply aB<;>intro _<;>first|(exfalso;omega)|conv=>whnf)
  exact RN.a ⟨⟨none,0,0⟩,a,rfl,by rw [Nat.div_eq_of_lt hlt];unfold aJ;rw [bS];exact Ws.nil rfl,by rw [Nat.mod_eq_of_lt hlt];exact ha⟩
 ·refine CN.f rfl (aCk h a b m n ha hb (by omega) (by omega)) (fun v h' hl hr=>?_)
  obtain ⟨rfl,rfl⟩:=hr
  have hc:=sE (m:=m) (n:=n) (by omega)
  replace hmn:=hmn (by omega)
  obtain ⟨c,hcc⟩:∃c,c=gE m n:=⟨_,rfl⟩
  rw [← hcc] at hc ⊢
  clear hcc
  conv=>whnf
  repeat' first|((first|(show Idx _ _ _ _ _;first|(refine Idx.ws hb 0 (by omega) (by unfold ln at *;omega) (fun ad hv=>?_))|(refine Idx.ws hb (ln 4294967296 n-1) (by omega) (by unfold ln at *;omega) (fun ad hv=>?_)))|(show Ld _ _ _ _;(refine Ld.of (by first|exact hv _|(rename_i hv;exact hv _)) ?_))|((first|apply oI.z|apply cI.z))|refine WN.i64 (by omega) (by omega) ?_) <;> (conv=>whnf))|(show cnd _ _ _;first|(apply aB<;>intro _<;>first|(exfalso;omega)|conv=>whnf)|(apply aE<;>intro _<;>first|(exfalso;omega)|conv=>whnf))
  ·obtain ⟨e1,e2,e3⟩:=aF0 (n:=n) (by omega)
   refine CN.f rfl (rN _ a m ((dg 4294967296 n).getD 0 0) ha (by omega) hd1 (by omega)) (fun v h' hl hr=>?_)
   obtain ⟨q,rfl,hq⟩:=hr
   rw [e1] at hq ⊢
   have hr:=Nat.mod_lt m e2
   obtain ⟨r,hrr⟩:∃r,r=m%n:=⟨_,rfl⟩
   rw [← hrr] at hr ⊢
   conv=>whnf
   repeat' first|((first|(show CN _ _ _ _ _ _;(refine CN.f rfl (eO _ r (by omega)) (fun v h' hl hr=>?_);obtain ⟨s',rfl,hs'⟩:=hr))|((first|apply oI.z|apply cI.z))|refine WN.u64 (by omega) (by omega) ?_) <;> (conv=>whnf))
   exact RN.a ⟨q,_,rfl,hq.mono ‹_›,‹_›⟩
  ·refine CN.f rfl (pF _ _ hdt) (fun v h' hl hr=>?_)
   obtain ⟨rfl,rfl⟩:=hr
   obtain ⟨t,ht⟩:∃t,t=(dg 4294967296 n).getD (ln 4294967296 n-1) 0:=⟨_,rfl⟩
   obtain ⟨s,hs⟩:∃s,s=32-bl t:=⟨_,rfl⟩
   obtain ⟨n1,n2,n3,n4,-⟩:=aPv h0 rfl ht hs
   rw [← ht] at hdt ⊢
   clear ht
   rw [show (32:Int)-(bl t:Nat)=(s:Nat) by omega]
   have hs31:s≤31:=by omega
   clear hs n3 n4 hdt hd1
   conv=>whnf
   repeat ((first|apply oI.z|apply cI.z);conv=>whnf)
   refine CN.f rfl (aH7 _ b n s hb (by omega) (by omega)) (fun v h1 hle1 hr=>?_)
   obtain ⟨dd,rfl,hdd⟩:=hr
   have hshl:=aPx (m:=m) hs31
   have hDpos:0<n*2^s:=Nat.mul_pos (by omega) (Nat.two_pow_pos s)
   have hstart:=Hq.mk (aFz (b:=4294967296) (m:=m) (n:=n) (s:=s) (la:=ln 4294967296 m) (lb:=ln 4294967296 n) tlB (bW tlB m) (fF tlB (by omega)) (by omega) hmn)
   obtain ⟨D,hD⟩:∃D,D=n*2^s:=⟨_,rfl⟩
   obtain ⟨E,hE⟩:∃E,E=m*2^s:=⟨_,rfl⟩
   rw [← hD] at hdd n1 n2 hstart hDpos
   rw [← hE] at hstart hshl
   replace hD:=Hq.mk hD
   have hdl:=hdd.len
   conv=>whnf
   repeat' first|((first|(show Mk _ _ _;refine Mk.of (ln 4294967296 m+1) (by omega) (by omega) (by omega) ?_)|refine ⟨aWf _,?_⟩|intro (bu:Nat)|((first|apply oI.z|apply cI.z))|refine WN.i64 (by omega) (by omega) ?_) <;> (conv=>whnf))
   rename_i bu
   refine CN.f rfl (aH7 _ a m s (ha.mono hle1) (by omega) (by omega)) (fun v h2 hle2 hr=>?_)
   obtain ⟨ee,rfl,hee⟩:=hr
   rw [← hE] at hee
   replace hE:=Hq.mk hE
   conv=>whnf
   repeat ((first|apply oI.z|apply cI.z);conv=>whnf)
   refine Ext.copyWs rfl rfl rfl rfl rfl 0 (old:=List.replicate (ln 4294967296 m+1) 0) (by rw [gQ];rfl) (by simp) hee (by unfold ln at *;omega) ?_
   obtain ⟨o0,ho0⟩:∃o0,o0=dg 4294967296 E++(List.replicate (ln 4294967296 m+1) 0).drop (dg 4294967296 E).length:=⟨_,rfl⟩
   rw [← ho0]
   have ol:o0.length=ln 4294967296 m+1:=by rw [ho0];simp;unfold ln at *;omega
   have oB:∀x∈o0,x<4294967296:=by
    rw [ho0];intro x hx
    rcases aVx.1 hx with hx|hx
    ·exact iU tlB _ _ hx
    ·have:=List.mem_of_mem_drop hx;simp at this;omega
   have oE:evl 4294967296 o0=E:=by
    rw [ho0,dR,eU 4294967296 (l:=(List.replicate (ln 4294967296 m+1) 0).drop _) (fun x hx=>by have:=List.mem_of_mem_drop hx;simp at this;omega),Nat.mul_zero,Nat.add_zero,bO tlB]
   clear ho0
   have hs0:evl 4294967296 (o0.drop (ln 4294967296 m-ln 4294967296 n+1))<D:=by rw [nF tlB oB,oE];exact hstart.out
   clear hstart
   conv=>whnf
   repeat' first|((first|(show Mk _ _ _;refine Mk.of (ln 4294967296 m-ln 4294967296 n+1) (by omega) (by omega) (by omega) ?_)|refine ⟨aWf _,?_⟩|intro (bq:Nat)|((first|apply oI.z|apply cI.z))|refine WN.i64 (by omega) (by omega) ?_) <;> (conv=>whnf))
   rename_i bq
   refine LpN.of (fun r ρ h' L=>∃(o qs:List Nat),h'=h2∧L=[(bq,Row .u32 Ty.uint32 qs),(bu,Row .u32 Ty.uint32 o)]∧rd ρ 12=.int .i64 ((r:Int)-1)∧r≤ln 4294967296 m-ln 4294967296 n+1∧o.length=ln 4294967296 m+1∧(∀x∈o,x<4294967296)∧qs.length=ln 4294967296 m-ln 4294967296 n+1∧(∀x∈qs,x<4294967296)∧Hq (evl 4294967296 (o.drop r)<D)∧Hq (evl 4294967296 (o.drop r)+D*evl 4294967296 (qs.drop r)=evl 4294967296 (o0.drop r))∧o.take r=o0.take r) (ln 4294967296 m-ln 4294967296 n+1)
    ⟨o0,List.replicate (ln 4294967296 m-ln 4294967296 n+1) 0,rfl,by rw [gQ];rfl,vi (by omega),aWf _,ol,oB,by simp,by simp,⟨hs0⟩,⟨by rw [eU 4294967296 (l:=(List.replicate (ln 4294967296 m-ln 4294967296 n+1) 0).drop _) (fun x hx=>by have:=List.mem_of_mem_drop hx;simp at this;omega),Nat.mul_zero,Nat.add_zero]⟩,rfl⟩ ?_
   conv=>whnf
   repeat intro _
   rename_i k h3 L3 hI
   obtain ⟨o,qs,rfl,rfl,e0,hk,hol,hoB,hql,hqB,hlt',heq,htk⟩:=hI
   conv at e0=>lhs;whnf
   subst e0
   by_cases hk0:k=0
   ·subst hk0
    conv=>whnf
    repeat' first|((first|((first|apply oI.z|apply cI.z))) <;> (conv=>whnf))|(apply bI<;>intro _<;>first|(exfalso;omega)|conv=>whnf)
    rw [List.drop_zero,List.drop_zero,List.drop_zero,oE,hE.out,hD.out] at heq
    rw [List.drop_zero,hD.out] at hlt'
    obtain ⟨r1,r2,-⟩:=aD4 heq.out hlt'.out
    refine CN.keep 0 rfl rfl fun hle3=>?_
    refine CN.f rfl (kQ _ ⟨some ⟨bq,0,none⟩,ln 4294967296 m-ln 4294967296 n+1,ln 4294967296 m-ln 4294967296 n+1⟩ qs (Ws.row (by omega)) hqB (by omega)) (fun v h4 hle4 hr=>?_)
    obtain ⟨q',rfl,hq'⟩:=hr
    conv=>whnf
    repeat ((first|apply oI.z|apply cI.z);conv=>whnf)
    refine CN.keep 0 rfl rfl fun hle5=>?_
    refine CN.f rfl (kQ _ ⟨some ⟨bu,0,none⟩,ln 4294967296 m+1,ln 4294967296 m+1⟩ o (Ws.row (by omega)) hoB (by omega)) (fun v h6 hle6 hr=>?_)
    obtain ⟨u',rfl,hu'⟩:=hr
    have hlu:ln 4294967296 (evl 4294967296 o)≤ln 4294967296 m+1:=by rw [← hol];exact (aT tlB).2 (gD tlB hoB)
    conv=>whnf
    repeat ((first|apply oI.z|apply cI.z);conv=>whnf)
    refine CN.f rfl (aH8 _ u' (evl 4294967296 o) s hu' (by omega) (by omega)) (fun v h7 hle7 hr=>?_)
    obtain ⟨r',rfl,hr'⟩:=hr
    rw [r2] at hr'
    rw [r1] at hq'
    conv=>whnf
    repeat ((first|apply oI.z|apply cI.z);conv=>whnf)
    exact RN.a ⟨q',r',rfl,((hq'.mono hle5).mono hle6).mono hle7,hr'⟩
   ·obtain ⟨j,rfl⟩:∃j,k=j+1:=⟨k-1,by omega⟩
    obtain ⟨p,u,rfl,rfl⟩:∃p u,o=p++u∧p.length=j:=⟨o.take j,o.drop j,(aV6 j o).symm,by simp;omega⟩
    have hul:p.length+u.length=ln 4294967296 m+1:=by simpa using hol
    have huB:∀x∈u,x<4294967296:=fun x hx=>hoB x (List.mem_append_right _ hx)
    have hpB:∀x∈p,x<4294967296:=fun x hx=>hoB x (List.mem_append_left _ hx)
    obtain ⟨x,u1,rfl⟩:∃x u1,u=x::u1:=by
     match u,hul with
     | [],h=>simp at h;omega
     | x::u1,_=>exact ⟨x,u1,rfl⟩
    have hdr:(p++x::u1).drop (p.length+1)=u1:=by rw [List.drop_append];simp
    rw [hdr] at heq hlt'
    have hxB:=huB x (by simp)
    have hx0:o0.getD p.length 0=x:=by
     have:=congrArg (fun l=>l.getD p.length 0) htk
     simpa [aVp,List.getElem?_take] using this.symm
    have hE0:=iJ (b:=4294967296) (l:=o0) (k:=p.length) (by omega)
    rw [hx0] at hE0
    have hUD:evl 4294967296 (x::u1)<D*4294967296:=by
     rw [dG]
     have:(evl 4294967296 u1+1)*4294967296≤D*4294967296:=aV8 _ hlt'.out
     rw [Nat.add_mul,aV1] at this;omega
    have hUq:=Nat.div_add_mod (evl 4294967296 (x::u1)) D
    have hqB':evl 4294967296 (x::u1) / D<4294967296:=(Nat.div_lt_iff_lt_mul hDpos).2 (by rw [aV1];exact hUD)
    have hrD:=Nat.mod_lt (evl 4294967296 (x::u1)) hDpos
    obtain ⟨q,hq⟩:∃q,q=evl 4294967296 (x::u1) / D:=⟨_,rfl⟩
    obtain ⟨r,hr⟩:∃r,r=evl 4294967296 (x::u1)%D:=⟨_,rfl⟩
    rw [← hq] at hUq hqB'
    rw [← hr] at hUq hrD
    rw [aV1] at hUq
    have hstep:=Hq.mk (aAm heq.out (dG _ _ _) hE0 hUq.symm)
    replace hUq:=Hq.mk hUq
    replace hE0:=Hq.mk hE0
    replace hrD:=Hq.mk hrD
    have hmm:ln 4294967296 D=(ln 4294967296 n-2)+2:=by omega
    replace hq:=Hq.mk hq
    replace hr:=Hq.mk hr
    replace hUD:=Hq.mk hUD
    replace hx0:=Hq.mk hx0
    replace htk:=Hq.mk htk
    replace oE:=Hq.mk oE
    replace huB:=Hq.mk huB
    replace hpB:=Hq.mk hpB
    replace hlb:=Hq.mk hlb
    replace hc:=Hq.mk hc
    replace hs0:=Hq.mk hs0
    rw [show ln 4294967296 n-1=(ln 4294967296 n-2)+1 by omega] at n2
    conv=>whnf
    repeat' first|((first|(show gM _ _ _ _ _ _;refine gM.own p.length (p.length+ln 4294967296 n+1) (by omega) (by omega) (by omega) (by omega) (by omega) ?_)|((first|apply oI.z|apply cI.z))|refine WN.i64 (by omega) (by omega) ?_) <;> (conv=>whnf))|(apply bI<;>intro _<;>first|(exfalso;omega)|conv=>whnf)
    rw [show p.length+ln 4294967296 n+1-p.length=(ln 4294967296 n-2)+3 by omega]
    refine CN.own 1 rfl rfl (aIc _ bu _ p (x::u1) dd D (ln 4294967296 n-2) (hdd.mono hle2) hmm (by omega) n2 (by omega) (by omega) huB.out hUD.out) (fun v h4 La hle4 hr4=>?_)
    obtain ⟨u',e1,e2,e3,hul',huB',hu'e⟩:=hr4
    rw [← hr.out] at hu'e
    rw [← hq.out] at e3
    subst e1 e2 e3
    refine ⟨_,rfl,?_⟩
    conv=>whnf
    repeat' first|((first|(show Idx _ _ _ _ _;refine Idx.own p.length (by omega) (by omega) ?_)|(show Sto _ _ _ _;refine Sto.ws 0 rfl q (by omega) (by omega) ?_)|((first|apply oI.z|apply cI.z))|refine WN.i64 (by omega) (by omega) ?_) <;> (conv=>whnf))
    refine ⟨rfl,p.length,by omega,p++u',qs.set p.length q,rfl,rfl,vi (by omega),by omega,by rw [aVo,hul'];exact hul,?_,by simp [hql],aP hqB hqB',⟨?_⟩,⟨?_⟩,?_⟩
    ·intro y hy
     rcases aVx.1 hy with hy|hy
     ·exact hpB.out y hy
     ·exact huB' y hy
    ·rw [List.drop_left,hu'e];exact hrD.out
    ·rw [List.drop_left,hu'e,iJ (k:=p.length) (l:=qs.set p.length q) (by simp;omega),dS _ (by omega),mO];exact hstep.out
    ·have:=congrArg (fun l=>l.take p.length) htk.out
     simp only [List.take_take,Nat.min_eq_left (Nat.le_succ p.length)] at this
     rw [← this,List.take_left,List.take_left]

theorem aAn (m n:Nat):Nat.gcd n (m%n)=Nat.gcd m n:=by rw [Nat.gcd_comm,← Nat.gcd_rec,Nat.gcd_comm]

theorem aPy (h:aA) (a b:Sl) (m n:Nat) (ha:aJ h a m) (hb:aJ h b n) (la:ln 4294967296 m≤8589934592) (lb:ln 4294967296 n≤8589934592):
  Fn0 T F.q167 [a.val,b.val] h fun v h'=>∃s:Sl,v=s.val∧aJ h' s (Nat.gcd m n):=by
 refine f0C ok D.q167 rfl ?_
 conv=>whnf
 repeat ((first|apply oI.z|apply cI.z);conv=>whnf)
 refine LpN.of (fun r ρ h' L=>∃(a b:Sl) (m' n':Nat),r=n'∧L=[]∧h.le h'∧rd ρ 0=a.val∧rd ρ 1=b.val∧aJ h' a m'∧aJ h' b n'∧ln 4294967296 m'≤8589934592∧ln 4294967296 n'≤8589934592∧Hq (Nat.gcd m' n'=Nat.gcd m n)) n
  ⟨a,b,m,n,rfl,rfl,aA.lr _,rfl,rfl,ha,hb,la,lb,⟨rfl⟩⟩ ?_
 conv=>whnf
 repeat intro _
 rename_i r h1 L1 hI
 obtain ⟨a,b,m',n',rfl,rfl,hle,e0,e1,ha,hb,la,lb,hg⟩:=hI
 conv at e0=>lhs;whnf
 subst e0
 conv at e1=>lhs;whnf
 subst e1
 have hbl:=hb.len
 have hz:=aW tlB (n:=r)
 by_cases h0:r=0
 ·have:=hz.2 h0
  clear hz
  conv=>whnf
  repeat' first|((first|((first|apply oI.z|apply cI.z))) <;> (conv=>whnf))|(apply aB<;>intro _<;>first|(exfalso;omega)|conv=>whnf)
  refine RN.a ⟨a,rfl,?_⟩
  rw [← hg.out,h0,Nat.gcd_zero_right];exact ha
 ·have:ln 4294967296 r≠0:=fun e=>h0 (hz.1 e)
  clear hz
  have hmod:=Nat.mod_lt m' (Nat.pos_of_ne_zero h0)
  have hlm:=cO tlB (Nat.le_of_lt hmod)
  conv=>whnf
  repeat' first|((first|(show CN _ _ _ _ _ _;(refine CN.f rfl (aId _ _ _ _ _ (by assumption) (by assumption) (by omega) (by omega) (by omega)) (fun v h' hl hr=>?_);obtain ⟨q',r',rfl,hq',hr'⟩:=hr))|((first|apply oI.z|apply cI.z))) <;> (conv=>whnf))|(apply aB<;>intro _<;>first|(exfalso;omega)|conv=>whnf)
  exact ⟨rfl,m'%r,hmod,b,_,r,m'%r,rfl,rfl,aA.lt hle ‹_›,rfl,rfl,hb.mono ‹_›,‹_›,by omega,by omega,⟨by rw [aAn];exact hg.out⟩⟩
end Go.Proofs.Y