/- Digits of natural numbers to a base: plain mathematics, no program. -/
import Derived.Test.YtdccpmlhflpeaaaGreatDoorVcDef
set_option linter.all false
namespace Go.Dig

def evl(b:Nat):List Nat->Nat
 | []=>0
 | x::l=>x+b*evl b l

def dgF(b:Nat):Nat->Nat->List Nat
 | 0,_=>[]
 | f+1,n=>if n=0 then [] else n%b::dgF b f (n / b)
def dg(b n:Nat):List Nat:=dgF b n n

theorem vU{b n:Nat}(hb:2<=b)(hn:n≠0):n / b<n:=Nat.div_lt_self Aa Aa

theorem aPn{b:Nat}(hb:2<=b):∀(f g n:Nat),n<=f->n<=g->dgF b f n=dgF b g n
 | 0,0,_,_,_=>rfl
 | 0,g+1,n,h,_=>by
  have:n=0:=Aa;simp[dgF,this]
 | f+1,0,n,_,h=>by
  have:n=0:=Aa;simp[dgF,this]
 | f+1,g+1,n,h1,h2=>by
  simp only[dgF]
  split
  .rfl
  .rename_i hn;have:=vU hb hn;rw[aPn hb f g (n / b) Aa Aa]

theorem cM(b:Nat):dg b 0=[]:=rfl
theorem gT{b n:Nat}(hb:2<=b)(hn:n≠0):dg b n=n%b::dg b (n / b):=by
 unfold dg;cases n with
 | zero=>exact (hn rfl).elim
 | succ m=>
  simp only[dgF,if_neg hn];have:=vU hb hn;rw[aPn hb m ((m+1) / b) _ Aa (bDx _)]

theorem bV{b:Nat}(hb:2<=b)(n:Nat):evl b (dg b n)=n:=by
 induction n using Nat.strongRecOn with
 | _ n ih=>
  by_cases hn:n=0
  .subst hn;rfl
  .rw[gT hb hn,evl,ih _ (vU hb hn)];exact bFv n b

theorem kN{b:Nat}(hb:2<=b)(n:Nat):∀x∈dg b n,x<b:=by
 induction n using Nat.strongRecOn with
 | _ n ih=>
  by_cases hn:n=0
  .subst hn;intro x hx;simp[cM] at hx
  .rw[gT hb hn];intro x hx;rcases bDp.1 hx with rfl|hx
   .exact bE3 _ Aa
   .exact ih _ (vU hb hn) x hx

theorem aDf{b n:Nat}(hb:2<=b):dg b n=[]↔n=0:=by
 constructor
 .intro h;have:=bV hb n;rw[h] at this;exact this.symm
 .rintro rfl;rfl

theorem fS(b:Nat):∀(l m:List Nat),evl b (l++m)=evl b l+b^l.length*evl b m
 | [],m=>by simp[evl]
 | x::l,m=>by
  simp only[bEn,evl,fS b l m,bDa,bEk];rw[bEb,<-bEa,bDj b (b^l.length)];omega

theorem iS{b:Nat}(hb:2<=b):∀{l:List Nat},(∀x∈l,x<b)->evl b l<b^l.length
 | [],_=>by simp[evl]
 | x::l,h=>by
  have h0:=h x Ao;have ih:=iS hb (l:=l) (fun y hy=>h y (by simp[hy]))
  simp only[evl,bDa,bEk];have:b*(evl b l+1)<=b*b^l.length:=bD2 _ ih;rw[bDj (b^l.length) b];rw[bEb,bFm] at this;omega

theorem aDg{b:Nat}(hb:2<=b):∀{l:List Nat},(∀x∈l,x<b)->(∀h:l≠[],l.getLast h≠0)->dg b (evl b l)=l
 | [],_,_=>rfl
 | x::l,h,hl=>by
  have h0:=h x Ao;have hne:evl b (x::l)≠0:=by
   intro he;simp only[evl] at he;have h1:x=0:=Aa;have h2:evl b l=0:=by
    rcases bE7 (evl b l) with h|h
    .exact h
    .have:b*1<=b*evl b l:=bD2 _ h;omega
   cases l with
   | nil=>exact hl Ao (by simpa using h1)
   | cons y l=>
    have ih:=aDg hb (l:=y::l) (fun z hz=>h z (by simp[hz])) (fun hh=>by have:=hl Ao;rwa [List.getLast_cons hh] at this)
    rw[h2] at ih;simp[cM] at ih
  rw[gT hb hne];have e1:evl b (x::l)%b=x:=by
   simp only[evl,bHd];exact bEl h0
  have e2:evl b (x::l) / b=evl b l:=by
   simp only[evl];rw[Nat.add_mul_div_left _ _ Aa,bEx h0,bDu]
  rw[e1,e2]
  congr 1
  cases l with
  | nil=>rfl
  | cons y l=>exact aDg hb (fun z hz=>h z (by simp[hz])) (fun hh=>by have:=hl Ao;rwa [List.getLast_cons hh] at this)

theorem aUn{b:Nat}(hb:2<=b)(n:Nat):∀h:dg b n≠[],(dg b n).getLast h≠0:=by
 induction n using Nat.strongRecOn with
 | _ n ih=>
  intro h;have hn:n≠0:=fun e=>h ((aDf hb).2 e)
  have hlt:=vU hb hn;have e:=gT hb hn;by_cases hq:n / b=0
  .have:dg b n=[n%b]:=by rw[e,hq];rfl
   simp only[this,List.getLast_singleton];have h2:=bFv n b;rw[hq] at h2;omega
  .have hne:dg b (n / b)≠[]:=fun e=>hq ((aDf hb).1 e)
   have:=ih _ hlt hne;simp only[e];rw[List.getLast_cons hne];exact this

def ln(b n:Nat):Nat:=(dg b n).length
theorem nD(b:Nat):ln b 0=0:=rfl
theorem aT{b n:Nat}(hb:2<=b):ln b n=0↔n=0:=by rw[ln,bD7,aDf hb]
theorem aIe{b n:Nat}(hb:2<=b)(hn:n≠0):ln b n=ln b (n / b)+1:=by unfold ln;rw[gT hb hn];simp
theorem cX{b:Nat}(hb:2<=b)(n:Nat):n<b^ln b n:=by
 have:=iS hb (kN hb n)
 rwa [bV hb] at this
theorem aL{b:Nat}(hb:2<=b):∀{k n:Nat},ln b n<=k↔n<b^k
 | 0,n=>by rw[Nat.le_zero,aT hb];simp
 | k+1,n=>by
  by_cases hn:n=0
  .subst hn;simp[nD];exact bFi Aa
  .rw[aIe hb hn,Nat.add_le_add_iff_right,aL hb,bEk,bEi Aa]
theorem iA{b n k:Nat}(hb:2<=b)(h:k<ln b n):b^k<=n:=by
 rcases bEp n (b^k) with h'|h'
 .have:=(aL hb).2 h';omega
 .exact h'
theorem dH{b m n:Nat}(hb:2<=b)(h:m<=n):ln b m<=ln b n:=(aL hb).2 (bFk h (cX hb n))
theorem aDh{b:Nat}(hb:2<=b)(m n:Nat):ln b (m+n)<=max (ln b m) (ln b n)+1:=by
 rw[aL hb,bEk];have h1:=bD9 (cX hb m) (bD8 Aa (bGu (ln b m) (ln b n)));have h2:=bD9 (cX hb n) (bD8 Aa (bGh (ln b m) (ln b n)));have:b^max (ln b m) (ln b n)*2<=b^max (ln b m) (ln b n)*b:=bD2 _ hb;omega
theorem cP{b:Nat}(hb:2<=b)(m n:Nat):ln b (m*n)<=ln b m+ln b n:=by
 rw[aL hb,bEs];by_cases hn:n=0
 .subst hn;simp;exact Nat.mul_pos (bFi Aa) (bFi Aa)
 .exact Nat.mul_lt_mul_of_lt_of_le (cX hb m) (bGi (cX hb n)) (bFi Aa)

def trim(l:List Nat):List Nat:=(l.reverse.dropWhile (· == 0)).reverse
theorem iB(b:Nat):∀{l:List Nat},(∀x∈l,x=0)->evl b l=0
 | [],_=>rfl
 | x::l,h=>by simp only[evl];rw[h x Ao,iB b (fun y hy=>h y (by simp[hy]))];simp
theorem aKj{b:Nat}(hb:2<=b){l:List Nat}{k:Nat}(hk:k<=l.length)(hl:∀x∈l,x<b)(hz:∀i,k<=i->i<l.length->l.getD i 0=0)(he:k=0\/l.getD (k-1) 0≠0):dg b (evl b l)=l.take k:=by
 have e:evl b l=evl b (l.take k):=by
  conv=>lhs;rw[<-bDo k l]
  rw[fS,iB b (l:=l.drop k)]
  .simp
  .intro x hx;obtain⟨i,hi,rfl⟩:=bFh hx;simp only[bD3] at hi;have:=hz (k+i) Aa Aa;rw[List.getElem_drop]
   simpa[bC7,show k+i<l.length by omega] using this
 rw[e];refine aDg hb (fun x hx=>hl x (bEd hx)) fun h=>?_
 rcases he with rfl|he
 .simp at h
 .have hk0:k≠0:=by rintro rfl;simp at h
  rw[bHm];simp only[bDr,bE9 hk,bHt]
  simpa[bC7,show k-1<l.length by omega] using he

theorem nO{b:Nat}{l:List Nat}{k:Nat}(hk:k<l.length):evl b (l.take (k+1))=evl b (l.take k)+b^k*l.getD k 0:=by
 rw[List.take_succ_eq_append_getElem hk,fS];simp[evl,bDr,bE9 (bGi hk),bC7,hk]

theorem eM{b:Nat}(hb:0<b){l:List Nat}(h:∀x∈l,x<b)(i:Nat):l.getD i 0<b:=by
 rw[bC7];rcases bEp i l.length with hi|hi
 .simp[hi];exact h _ (bFe hi)
 .simp[bD5 hi,hb]


theorem rS{b:Nat}:∀{l:List Nat} {k:Nat} (x:Nat),k<l.length->evl b (l.set k x)+b^k*l.getD k 0=evl b l+b^k*x
 | [],k,x,h=>by simp at h
 | y::l,0,x,h=>by simp[evl];omega
 | y::l,k+1,x,h=>by
  have ih:=rS (b:=b) (l:=l) (k:=k) x (by simpa using h);simp only[bFj,evl,bGy,bEk];have e:∀z,b^k*b*z=b*(b^k*z):=fun z=>by rw[bDj (b^k) b,bEa]
  rw[e,e];have:=congrArg (b*·) ih;simp only[bEb] at this;omega
theorem jC{b:Nat}{l:List Nat}{k:Nat}(x:Nat)(hk:k<l.length):evl b ((l.set k x).take (k+1))=evl b (l.take k)+b^k*x:=by
 rw[nO (by simpa using hk)];simp[List.take_set_of_le,bC7,hk]
theorem aM{b:Nat}{l:List Nat}{k x:Nat}(h:∀y∈l,y<b)(hx:x<b):∀y∈l.set k x,y<b:=fun y hy=>by
 rcases bHe hy with h'|rfl
 .exact h y h'
 .exact hx
theorem fD{l:List Nat}{k:Nat}(x:Nat)(hk:k<l.length):(l.set k x).getD k 0=x:=by simp[bC7,hk]
theorem cT{l:List Nat}{k j:Nat}(x:Nat)(h:k≠j):(l.set k x).getD j 0=l.getD j 0:=by simp[bC7,List.getElem?_set_ne h]
theorem fV{b:Nat}{l:List Nat}{k:Nat}(h:l.length<=k):evl b (l.take k)=evl b l:=by rw[bG3 h]

theorem etn{b:Nat}(l:List Nat)(k:Nat):evl b (l.take (k+1))=evl b (l.take k)+b^k*l.getD k 0:=by
 rcases bEp k l.length with h|h
 .exact nO h
 .rw[bG3 Aa,bG3 h,bC7,bD5 h];simp
theorem gE{l:List Nat}{k:Nat}(h:l.length<=k):l.getD k 0=0:=by rw[bC7,bD5 h];rfl

theorem yR{b:Nat}(hb:2<=b):∀{l m:List Nat} {k:Nat},l.length=m.length->(∀x∈l,x<b)->k<l.length->(∀j,k<j->l.getD j 0=m.getD j 0)->l.getD k 0<m.getD k 0->evl b l<evl b m
 | [],_,_,_,_,h,_,_=>by simp at h
 | x::l,[],_,h,_,_,_,_=>by simp at h
 | x::l,y::m,0,hl,hx,_,he,hlt=>by
  simp only[bHg] at hlt;have:l=m:=by
   apply bG0 (by simpa using hl)
   intro i h1 h2;have:=he (i+1) Aa
   simpa[bC7,h1,h2] using this
  subst this;simp only[evl];omega
 | x::l,y::m,k+1,hl,hx,hk,he,hlt=>by
  have ih:=yR hb (l:=l) (m:=m) (k:=k) (by simpa using hl) (fun z hz=>hx z (by simp[hz])) (by simpa using hk) (fun j hj=>by simpa using he (j+1) Aa) (by simpa using hlt)
  have h0:=hx x Ao;simp only[evl];have:b*(evl b l+1)<=b*evl b m:=bD2 _ ih;rw[bEb,bFm] at this;omega
theorem yS{l m:List Nat}(hl:l.length=m.length)(he:∀j,l.getD j 0=m.getD j 0):l=m:=by
 apply bG0 hl
 intro i h1 h2;have:=he i
 simpa[bC7,h1,h2] using this
theorem aPo{b m n:Nat}(hb:2<=b)(h:dg b m=dg b n):m=n:=by
 have:=bV hb m;rw[h,bV hb] at this;exact this.symm
theorem qQ{b m n:Nat}(hb:2<=b)(h:ln b m<ln b n):m<n:=bD9 (cX hb m) (iA hb h)
theorem dgl{b:Nat}(hb:2<=b)(n k:Nat):(dg b n).getD k 0<b:=eM Aa (kN hb n) k
theorem eY{b n k:Nat}(hb:2<=b)(h:ln b n<=k):evl b ((dg b n).take k)=n:=by rw[fV h,bV hb]

def iT(m n:Nat):Int:=if m<n then -1 else if m=n then 0 else 1

/-! ### steps of the loops -/
theorem kP{b:Nat}{da db o:List Nat}{k c s:Nat}(hk:k<o.length)(hs:s=da.getD k 0+c+db.getD k 0)(h:evl b (o.take k)+c*b^k=evl b (da.take k)+evl b (db.take k)):
  evl b ((o.set k (s%b)).take (k+1))+s / b*b^(k+1)=evl b (da.take (k+1))+evl b (db.take (k+1)):=by
 rw[jC _ hk,etn da,etn db];have h2:=bFv s b;have h3:b^k*(s%b)+s / b*b^(k+1)=b^k*s:=by
  conv=>rhs;rw[<-h2]
  rw[bEb,bEk,bDj (s / b),bEa]
 have h4:b^k*s=b^k*da.getD k 0+c*b^k+b^k*db.getD k 0:=by rw[hs,bEb,bEb,bDj c]
 omega
theorem aFo{b:Nat}{da db o:List Nat}{k c c' r:Nat}(hk:k<o.length)(hr:r+db.getD k 0+c=da.getD k 0+c'*b)(h:evl b (o.take k)+evl b (db.take k)=evl b (da.take k)+c*b^k):
  evl b ((o.set k r).take (k+1))+evl b (db.take (k+1))=evl b (da.take (k+1))+c'*b^(k+1):=by
 rw[jC _ hk,etn da,etn db];have h4:=congrArg (b^k*·) hr;simp only[bEb] at h4;have h5:b^k*(c'*b)=c'*b^(k+1):=by rw[bEk,<-bEa,bDj (b^k) c',bEa]
 have h6:b^k*c=c*b^k:=bDj _ _;omega
theorem aFp{b p:Nat}{o:List Nat}{x y c s X A:Nat}(hp:p<o.length)(hs:s=x*y+o.getD p 0+c)(h:evl b o+c*b^p=X+A):
  evl b (o.set p (s%b))+s / b*b^(p+1)=X+(A+b^p*(x*y)):=by
 have h1:=rS (b:=b) (s%b) hp;have h2:=bFv s b;have h3:b^p*(s%b)+s / b*b^(p+1)=b^p*s:=by
  conv=>rhs;rw[<-h2]
  rw[bEb,bEk,bDj (s / b),bEa]
 have h4:b^p*s=b^p*(x*y)+b^p*o.getD p 0+c*b^p:=by rw[hs,bEb,bEb,bDj c]
 omega
theorem pH(m j:Nat):(List.replicate m 0).getD j 0=0:=by
 rw[bC7,List.getElem?_replicate];split<;>rfl
theorem aU(b:Nat):evl b []=0:=rfl
theorem eD(b x:Nat)(l:List Nat):evl b (x::l)=x+b*evl b l:=rfl
theorem jW(b:Nat)(hb:2<=b):ln b 1=1:=by rw[aIe hb Aa,bEx Aa,nD]
attribute [irreducible] dg dgF evl
end Go.Dig
/- Binary digits and shifts of natural numbers: plain mathematics, no program. -/
namespace Go.Dig

def bl(n:Nat):Nat:=if n=0 then 0 else Nat.log2 n+1
theorem aKk:bl 0=0:=rfl
theorem aDi{n:Nat}(h:n≠0):bl n=Nat.log2 n+1:=by simp[bl,h]
theorem gL{n k:Nat}:bl n<=k↔n<2^k:=by
 by_cases h:n=0
 .subst h;simp[aKk,bEr]
 .rw[aDi h,Nat.succ_le_iff,Nat.log2_lt h]
theorem aMv{n k:Nat}(h1:2^k<=n)(h2:n<2^(k+1)):bl n=k+1:=by
 have a:=gL.2 h2;have b:¬bl n<=k:=fun h=>by have:=gL.1 h;omega
 omega
theorem aKl(n:Nat):n<2^bl n:=gL.1 (bDx _)
theorem aPp{n:Nat}(h:n≠0):2^(bl n-1)<=n:=by
 rcases bEp n (2^(bl n-1)) with h'|h'
 .have:=gL.2 h';rw[aDi h] at this;omega
 .exact h'
theorem aDj{n k:Nat}(h:2^k<=n):bl n=k+bl (n / 2^k):=by
 have hn:n≠0:=by have:=bEr k;omega
 have hd:n / 2^k≠0:=by
  have:=Nat.div_pos h (bEr k);omega
 have h1:=aKl (n / 2^k);have h2:=aPp hd;have hb:bl (n / 2^k)=(bl (n / 2^k)-1)+1:=by rw[aDi hd];omega
 have e1:n<2^(k+bl (n / 2^k)):=by
  rw[bEs,bDj];exact (bEi (bEr k)).1 h1
 have e2:2^(k+(bl (n / 2^k)-1))<=n:=by
  rw[bEs,bDj];exact (bF9 (bEr k)).1 h2
 have:=aMv (k:=k+(bl (n / 2^k)-1)) e2 (by rw[show k+(bl (n / 2^k)-1)+1=k+bl (n / 2^k) by omega];exact e1)
 omega
theorem aXw{p n:Nat}(hp:1<=p)(hn:n≠0):bl n=p*(ln (2^p) n-1)+bl ((dg (2^p) n).getD (ln (2^p) n-1) 0):=by
 have hb:2<=2^p:=by have:2^1<=2^p:=bD8 Aa hp;omega
 induction n using Nat.strongRecOn with
 | _ n ih=>
  by_cases hq:n / 2^p=0
  .have e:dg (2^p) n=[n%2^p]:=by rw[gT hb hn,hq,cM]
   have hl:ln (2^p) n=1:=by unfold ln;rw[e];rfl
   have hlt:n<2^p:=by
    rcases bEp n (2^p) with h|h
    .exact h
    .have:=Nat.div_pos h Aa;omega
   rw[hl,e];simp[bEl hlt]
  .have h1:=ih _ (vU hb hn) hq;have h2:=aIe hb hn;have h3:ln (2^p) (n / 2^p)≠0:=fun h=>hq ((aT hb).1 h)
   have hge:2^p<=n:=by
    rcases bEp n (2^p) with h|h
    .exact (hq (bEx h)).elim
    .exact h
   rw[aDj hge,h1,h2];have e:(dg (2^p) n).getD (ln (2^p) (n / 2^p)+1-1) 0=(dg (2^p) (n / 2^p)).getD (ln (2^p) (n / 2^p)-1) 0:=by
    rw[gT hb hn,show ln (2^p) (n / 2^p)+1-1=(ln (2^p) (n / 2^p)-1)+1 by omega,bGy]
   rw[e];have:p*(ln (2^p) (n / 2^p)+1-1)=p*(ln (2^p) (n / 2^p)-1)+p:=by
    rw[show ln (2^p) (n / 2^p)+1-1=(ln (2^p) (n / 2^p)-1)+1 by omega,bEb,bFm]
   omega

theorem fY{b:Nat}(hb:2<=b):∀(k n:Nat),(dg b n).getD k 0=n / b^k%b
 | 0,n=>by
  by_cases hn:n=0
  .subst hn;simp[cM]
  .rw[gT hb hn];simp
 | k+1,n=>by
  by_cases hn:n=0
  .subst hn;simp[cM]
  .rw[gT hb hn,bGy,fY hb k,bEu,bEk,bDj b]
theorem sY{b:Nat}(hb:2<=b){N:Nat}:∀{l:List Nat} {s:Nat},(∀i,i<l.length->l.getD i 0=N / b^(s+i)%b)->evl b l=N / b^s%b^l.length
 | [],s,_=>by rw[aU];simp[Nat.mod_one]
 | x::l,s,h=>by
  have h0:=h 0 Ao;have ih:=sY hb (N:=N) (l:=l) (s:=s+1) (fun i hi=>by have:=h (i+1) (by simpa using hi);rw[bGy] at this;rw[this];congr 3;omega)
  simp only[bHg,bEh] at h0;have e:b^(l.length+1)=b*b^l.length:=by rw[bEk,bDj]
  rw[eD,ih,h0,bDa,e,Nat.mod_mul,bEk,bEu]

def twF:Nat->Nat->Nat
 | 0,_=>0
 | f+1,n=>if n%2=1 then 0 else twF f (n / 2)+1
def tw(n:Nat):Nat:=if n=0 then 0 else twF n n
theorem aFq:∀(f n:Nat),n<=f->n≠0->∃m,n=2^twF f n*(2*m+1)
 | 0,n,h,h0=>by omega
 | f+1,n,h,h0=>by
  simp only[twF]
  split
  .rename_i ho;exact⟨n / 2,Aa⟩
  .rename_i ho;obtain⟨m,hm⟩:=aFq f (n / 2) Aa Aa;refine⟨m,?_⟩;rw[bEk,bDj _ 2,bEa,<-hm];omega
theorem nE{n:Nat}(h:n≠0):∃m,n=2^tw n*(2*m+1):=by
 unfold tw;rw[if_neg h];exact aFq n n (bDx _) h
theorem yT:∀{a b m m':Nat},2^a*(2*m+1)=2^b*(2*m'+1)->a=b/\m=m'
 | 0,0,m,m',h=>by simp at h;exact⟨rfl,Aa⟩
 | 0,b+1,m,m',h=>by
  rw[bEk,bDj _ 2,bEa] at h;simp at h;omega
 | a+1,0,m,m',h=>by
  rw[bEk,bDj _ 2,bEa] at h;simp at h;omega
 | a+1,b+1,m,m',h=>by
  rw[bEk,bEk,bDj _ 2,bDj _ 2,bEa,bEa] at h;have:=yT (a:=a) (b:=b) (m:=m) (m':=m') Aa;exact⟨Aa,this.2⟩
theorem aBu{n k m:Nat}(h:n=2^k*(2*m+1)):tw n=k:=by
 have hn:n≠0:=by rw[h];exact bHn (by have:=bEr k;omega) Aa
 obtain⟨m',h'⟩:=nE hn;exact (yT (h'.symm.trans h)).1
theorem aKm{n k:Nat}(h:n≠0):k<=tw n↔2^k ∣ n:=by
 obtain⟨m,hm⟩:=nE h;constructor
 .intro hk;rw[hm,show tw n=k+(tw n-k) by omega,bEs,bEa]
  exact Nat.dvd_mul_right _ _
 .rintro⟨q,hq⟩
  rcases bEp (tw n) k with hlt|hge
  .exfalso
   have hq0:q≠0:=fun e=>by subst e;simp at hq;exact h hq
   obtain⟨m',hm'⟩:=nE hq0;have:n=2^(k+tw q)*(2*m'+1):=by rw[bEs,bEa,<-hm',<-hq]
   have:=aBu this;omega
  .exact hge

theorem aUo{n k w r:Nat}(h:n=2^(32*k)*(w+2^32*r))(hw:w<2^32)(h0:w≠0):tw n=32*k+tw w:=by
 obtain⟨m,hm⟩:=nE h0;have hk:tw w<32:=by
  rcases bEp (tw w) 32 with hh|hh
  .exact hh
  .have:=bD8 (n:=2) Aa hh;have:2^tw w*1<=2^tw w*(2*m+1):=bD2 _ Aa;omega
 refine aBu (m:=m+2^(31-tw w)*r) ?_;have e:(2:Nat)^32=2^tw w*(2*2^(31-tw w)):=by
  rw[<-Nat.pow_succ',<-bEs];congr 1;omega
 rw[h,bEs,bEa]
 congr 1
 conv=>lhs;rw[e];lhs;rw[hm]
 rw[bEa,<-bEb]
 congr 1
 rw[bEa];omega
theorem yU{b n:Nat}(hb:2<=b):∀{k:Nat},(∀j,j<k->(dg b n).getD j 0=0)->n=b^k*(n / b^k)
 | 0,_=>by simp
 | k+1,h=>by
  have ih:=yU hb (k:=k) (fun j hj=>h j Aa)
  have h1:=h k Aa;rw[fY hb] at h1;have h2:=bFv (n / b^k) b;rw[h1,bDu,bEu,<-bEk] at h2;conv=>lhs;rw[ih,<-h2]
  rw[bEk,bEa]

theorem aUp{x k m:Nat}(hx:x=2^k*(2*m+1))(hlt:x<2^32):x &&& (2^32-x)=2^k:=by
 have hk:k<32:=by
  rcases bEp k 32 with h|h
  .exact h
  .have:=bD8 (n:=2) Aa h;have:2^k*1<=2^k*(2*m+1):=bD2 _ Aa;omega
 have hm:m<2^(31-k):=by
  have e:(2:Nat)^32=2^k*(2*2^(31-k)):=by
   rw[<-Nat.pow_succ',<-bEs];congr 1;omega
  rw[hx,e] at hlt;have:=bGm hlt;omega
 have e2:2^32-x=2^k*(2*(2^(31-k)-(m+1))+1):=by
  have e:(2:Nat)^32=2^k*(2*2^(31-k)):=by
   rw[<-Nat.pow_succ',<-bEs];congr 1;omega
  rw[hx,e,<-Nat.mul_sub]
  congr 1
  omega
 rw[e2,hx];apply Nat.eq_of_testBit_eq;intro i;rw[Nat.testBit_and,Nat.testBit_two_pow_mul,Nat.testBit_two_pow_mul,bHi];rcases bEp i k with h|h
 .simp[Nat.not_le.2 h,show k≠i by omega]
 .obtain⟨j,rfl⟩:=Nat.exists_eq_add_of_le h;simp only[Nat.le_add_right,decide_true,Bool.true_and,bEw];cases j with
  | zero=>simp
  | succ j=>
   rw[Nat.testBit_succ,Nat.testBit_succ];rw[show (2*m+1) / 2=m by omega,show (2*(2^(31-k)-(m+1))+1) / 2=2^(31-k)-(m+1) by omega,Nat.testBit_two_pow_sub_succ hm]
   have:k≠k+(j+1):=Aa;simp only[this,decide_false];cases m.testBit j<;>simp

theorem aDk{x y r:Nat}(hx:x<2^r)(hy:y%2^r=0):x ||| y=x+y:=by
 have:y=2^r*(y / 2^r):=by have:=bFv y (2^r);omega
 rw[this,Nat.or_comm,<-Nat.two_pow_add_eq_or_of_lt hx,bGj]
end Go.Dig