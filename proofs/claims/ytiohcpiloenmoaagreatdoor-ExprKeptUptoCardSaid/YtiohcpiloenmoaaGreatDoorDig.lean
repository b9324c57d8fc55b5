/- Digits of natural numbers to a base: plain mathematics, no program. -/
import Derived.Test.YtiohcpiloenmoaaGreatDoorVcDef
set_option linter.all false
namespace Go.Dig

def evl(b:Nat):List Nat->Nat
 | []=>0
 | x::l=>x+b*evl b l

def dgF(b:Nat):Nat->Nat->List Nat
 | 0,_=>[]
 | f+1,n=>if n=0 then [] else n%b::dgF b f (n / b)
def dg(b n:Nat):List Nat:=dgF b n n

theorem tQ{b n:Nat}(hb:2<=b)(hn:n≠0):n / b<n:=Nat.div_lt_self Aa Aa

theorem aMh{b:Nat}(hb:2<=b):∀(f g n:Nat),n<=f->n<=g->dgF b f n=dgF b g n
 | 0,0,_,_,_=>rfl
 | 0,g+1,n,h,_=>by
  have:n=0:=Aa;simp[dgF,this]
 | f+1,0,n,_,h=>by
  have:n=0:=Aa;simp[dgF,this]
 | f+1,g+1,n,h1,h2=>by
  simp only[dgF]
  split
  .rfl
  .rename_i hn;have:=tQ hb hn;rw[aMh hb f g (n / b) Aa Aa]

theorem cH(b:Nat):dg b 0=[]:=rfl
theorem gJ{b n:Nat}(hb:2<=b)(hn:n≠0):dg b n=n%b::dg b (n / b):=by
 unfold dg;cases n with
 | zero=>exact (hn rfl).elim
 | succ m=>
  simp only[dgF,if_neg hn];have:=tQ hb hn;rw[aMh hb m ((m+1) / b) _ Aa (aZt _)]

theorem bS{b:Nat}(hb:2<=b)(n:Nat):evl b (dg b n)=n:=by
 induction n using Nat.strongRecOn with
 | _ n ih=>
  by_cases hn:n=0
  .subst hn;rfl
  .rw[gJ hb hn,evl,ih _ (tQ hb hn)];exact bBp n b

theorem jZ{b:Nat}(hb:2<=b)(n:Nat):∀x∈dg b n,x<b:=by
 induction n using Nat.strongRecOn with
 | _ n ih=>
  by_cases hn:n=0
  .subst hn;intro x hx;simp[cH] at hx
  .rw[gJ hb hn];intro x hx;rcases aZl.1 hx with rfl|hx
   .exact bAw _ Aa
   .exact ih _ (tQ hb hn) x hx

theorem aBa{b n:Nat}(hb:2<=b):dg b n=[]↔n=0:=by
 constructor
 .intro h;have:=bS hb n;rw[h] at this;exact this.symm
 .rintro rfl;rfl

theorem fS(b:Nat):∀(l m:List Nat),evl b (l++m)=evl b l+b^l.length*evl b m
 | [],m=>by simp[evl]
 | x::l,m=>by
  simp only[bAk,evl,fS b l m,aY6,bAl];rw[aZ7,<-aZ6,aZf b (b^l.length)];omega

theorem iM{b:Nat}(hb:2<=b):∀{l:List Nat},(∀x∈l,x<b)->evl b l<b^l.length
 | [],_=>by simp[evl]
 | x::l,h=>by
  have h0:=h x Ar;have ih:=iM hb (l:=l) (fun y hy=>h y (by simp[hy]))
  simp only[evl,aY6,bAl];have:b*(evl b l+1)<=b*b^l.length:=aZy _ ih;rw[aZf (b^l.length) b];rw[aZ7,bBk] at this;omega

theorem aBb{b:Nat}(hb:2<=b):∀{l:List Nat},(∀x∈l,x<b)->(∀h:l≠[],l.getLast h≠0)->dg b (evl b l)=l
 | [],_,_=>rfl
 | x::l,h,hl=>by
  have h0:=h x Ar;have hne:evl b (x::l)≠0:=by
   intro he;simp only[evl] at he;have h1:x=0:=Aa;have h2:evl b l=0:=by
    rcases bAx (evl b l) with h|h
    .exact h
    .have:b*1<=b*evl b l:=aZy _ h;omega
   cases l with
   | nil=>exact hl Ar (by simpa using h1)
   | cons y l=>
    have ih:=aBb hb (l:=y::l) (fun z hz=>h z (by simp[hz])) (fun hh=>by have:=hl Ar;rwa [List.getLast_cons hh] at this)
    rw[h2] at ih;simp[cH] at ih
  rw[gJ hb hne];have e1:evl b (x::l)%b=x:=by
   simp only[evl,bCz];exact bAm h0
  have e2:evl b (x::l) / b=evl b l:=by
   simp only[evl];rw[Nat.add_mul_div_left _ _ Aa,bAu h0,aZq]
  rw[e1,e2]
  congr 1
  cases l with
  | nil=>rfl
  | cons y l=>exact aBb hb (fun z hz=>h z (by simp[hz])) (fun hh=>by have:=hl Ar;rwa [List.getLast_cons hh] at this)

theorem aQ5{b:Nat}(hb:2<=b)(n:Nat):∀h:dg b n≠[],(dg b n).getLast h≠0:=by
 induction n using Nat.strongRecOn with
 | _ n ih=>
  intro h;have hn:n≠0:=fun e=>h ((aBa hb).2 e)
  have hlt:=tQ hb hn;have e:=gJ hb hn;by_cases hq:n / b=0
  .have:dg b n=[n%b]:=by rw[e,hq];rfl
   simp only[this,List.getLast_singleton];have h2:=bBp n b;rw[hq] at h2;omega
  .have hne:dg b (n / b)≠[]:=fun e=>hq ((aBa hb).1 e)
   have:=ih _ hlt hne;simp only[e];rw[List.getLast_cons hne];exact this

def ln(b n:Nat):Nat:=(dg b n).length
theorem jU(b:Nat):ln b 0=0:=rfl
theorem aT{b n:Nat}(hb:2<=b):ln b n=0↔n=0:=by rw[ln,aZ3,aBa hb]
theorem aFu{b n:Nat}(hb:2<=b)(hn:n≠0):ln b n=ln b (n / b)+1:=by unfold ln;rw[gJ hb hn];simp
theorem cZ{b:Nat}(hb:2<=b)(n:Nat):n<b^ln b n:=by
 have:=iM hb (jZ hb n)
 rwa [bS hb] at this
theorem aQ{b:Nat}(hb:2<=b):∀{k n:Nat},ln b n<=k↔n<b^k
 | 0,n=>by rw[Nat.le_zero,aT hb];simp
 | k+1,n=>by
  by_cases hn:n=0
  .subst hn;simp[jU];exact bA9 Aa
  .rw[aFu hb hn,Nat.add_le_add_iff_right,aQ hb,bAl,bAf Aa]
theorem gX{b n k:Nat}(hb:2<=b)(h:k<ln b n):b^k<=n:=by
 rcases bAn n (b^k) with h'|h'
 .have:=(aQ hb).2 h';omega
 .exact h'
theorem dG{b m n:Nat}(hb:2<=b)(h:m<=n):ln b m<=ln b n:=(aQ hb).2 (bBh h (cZ hb n))
theorem wI{b:Nat}(hb:2<=b)(m n:Nat):ln b (m+n)<=max (ln b m) (ln b n)+1:=by
 rw[aQ hb,bAl];have h1:=aZ5 (cZ hb m) (aZ4 Aa (Nat.le_max_left (ln b m) (ln b n)));have h2:=aZ5 (cZ hb n) (aZ4 Aa (Nat.le_max_right (ln b m) (ln b n)));have:b^max (ln b m) (ln b n)*2<=b^max (ln b m) (ln b n)*b:=aZy _ hb;omega
theorem dE{b:Nat}(hb:2<=b)(m n:Nat):ln b (m*n)<=ln b m+ln b n:=by
 rw[aQ hb,bAq];by_cases hn:n=0
 .subst hn;simp;exact Nat.mul_pos (bA9 Aa) (bA9 Aa)
 .exact Nat.mul_lt_mul_of_lt_of_le (cZ hb m) (bBy (cZ hb n)) (bA9 Aa)

def trim(l:List Nat):List Nat:=(l.reverse.dropWhile (· == 0)).reverse
theorem gY(b:Nat):∀{l:List Nat},(∀x∈l,x=0)->evl b l=0
 | [],_=>rfl
 | x::l,h=>by simp only[evl];rw[h x Ar,gY b (fun y hy=>h y (by simp[hy]))];simp
theorem aHh{b:Nat}(hb:2<=b){l:List Nat}{k:Nat}(hk:k<=l.length)(hl:∀x∈l,x<b)(hz:∀i,k<=i->i<l.length->l.getD i 0=0)(he:k=0\/l.getD (k-1) 0≠0):dg b (evl b l)=l.take k:=by
 have e:evl b l=evl b (l.take k):=by
  conv=>lhs;rw[<-aZk k l]
  rw[fS,gY b (l:=l.drop k)]
  .simp
  .intro x hx;obtain⟨i,hi,rfl⟩:=bBe hx;simp only[aZz] at hi;have:=hz (k+i) Aa Aa;rw[List.getElem_drop]
   simpa[aY3,show k+i<l.length by omega] using this
 rw[e];refine aBb hb (fun x hx=>hl x (aZ9 hx)) fun h=>?_
 rcases he with rfl|he
 .simp at h
 .have hk0:k≠0:=by rintro rfl;simp at h
  rw[bC6];simp only[aZn,bAz hk,bDa]
  simpa[aY3,show k-1<l.length by omega] using he

theorem mI{b:Nat}{l:List Nat}{k:Nat}(hk:k<l.length):evl b (l.take (k+1))=evl b (l.take k)+b^k*l.getD k 0:=by
 rw[List.take_succ_eq_append_getElem hk,fS];simp[evl,aZn,bAz (bBy hk),aY3,hk]

theorem eJ{b:Nat}(hb:0<b){l:List Nat}(h:∀x∈l,x<b)(i:Nat):l.getD i 0<b:=by
 rw[aY3];rcases bAn i l.length with hi|hi
 .simp[hi];exact h _ (bBb hi)
 .simp[aZ1 hi,hb]


theorem qB{b:Nat}:∀{l:List Nat} {k:Nat} (x:Nat),k<l.length->evl b (l.set k x)+b^k*l.getD k 0=evl b l+b^k*x
 | [],k,x,h=>by simp at h
 | y::l,0,x,h=>by simp[evl];omega
 | y::l,k+1,x,h=>by
  have ih:=qB (b:=b) (l:=l) (k:=k) x (by simpa using h);simp only[bBc,evl,bB7,bAl];have e:∀z,b^k*b*z=b*(b^k*z):=fun z=>by rw[aZf (b^k) b,aZ6]
  rw[e,e];have:=congrArg (b*·) ih;simp only[aZ7] at this;omega
theorem iV{b:Nat}{l:List Nat}{k:Nat}(x:Nat)(hk:k<l.length):evl b ((l.set k x).take (k+1))=evl b (l.take k)+b^k*x:=by
 rw[mI (by simpa using hk)];simp[List.take_set_of_le,aY3,hk]
theorem aP{b:Nat}{l:List Nat}{k x:Nat}(h:∀y∈l,y<b)(hx:x<b):∀y∈l.set k x,y<b:=fun y hy=>by
 rcases bC0 hy with h'|rfl
 .exact h y h'
 .exact hx
theorem fB{l:List Nat}{k:Nat}(x:Nat)(hk:k<l.length):(l.set k x).getD k 0=x:=by simp[aY3,hk]
theorem cO{l:List Nat}{k j:Nat}(x:Nat)(h:k≠j):(l.set k x).getD j 0=l.getD j 0:=by simp[aY3,List.getElem?_set_ne h]
theorem fT{b:Nat}{l:List Nat}{k:Nat}(h:l.length<=k):evl b (l.take k)=evl b l:=by rw[bCo h]

theorem etn{b:Nat}(l:List Nat)(k:Nat):evl b (l.take (k+1))=evl b (l.take k)+b^k*l.getD k 0:=by
 rcases bAn k l.length with h|h
 .exact mI h
 .rw[bCo Aa,bCo h,aY3,aZ1 h];simp
theorem fZ{l:List Nat}{k:Nat}(h:l.length<=k):l.getD k 0=0:=by rw[aY3,aZ1 h];rfl

theorem wJ{b:Nat}(hb:2<=b):∀{l m:List Nat} {k:Nat},l.length=m.length->(∀x∈l,x<b)->k<l.length->(∀j,k<j->l.getD j 0=m.getD j 0)->l.getD k 0<m.getD k 0->evl b l<evl b m
 | [],_,_,_,_,h,_,_=>by simp at h
 | x::l,[],_,h,_,_,_,_=>by simp at h
 | x::l,y::m,0,hl,hx,_,he,hlt=>by
  simp only[bC1] at hlt;have:l=m:=by
   apply bCn (by simpa using hl)
   intro i h1 h2;have:=he (i+1) Aa
   simpa[aY3,h1,h2] using this
  subst this;simp only[evl];omega
 | x::l,y::m,k+1,hl,hx,hk,he,hlt=>by
  have ih:=wJ hb (l:=l) (m:=m) (k:=k) (by simpa using hl) (fun z hz=>hx z (by simp[hz])) (by simpa using hk) (fun j hj=>by simpa using he (j+1) Aa) (by simpa using hlt)
  have h0:=hx x Ar;simp only[evl];have:b*(evl b l+1)<=b*evl b m:=aZy _ ih;rw[aZ7,bBk] at this;omega
theorem wL{l m:List Nat}(hl:l.length=m.length)(he:∀j,l.getD j 0=m.getD j 0):l=m:=by
 apply bCn hl
 intro i h1 h2;have:=he i
 simpa[aY3,h1,h2] using this
theorem aMi{b m n:Nat}(hb:2<=b)(h:dg b m=dg b n):m=n:=by
 have:=bS hb m;rw[h,bS hb] at this;exact this.symm
theorem pB{b m n:Nat}(hb:2<=b)(h:ln b m<ln b n):m<n:=aZ5 (cZ hb m) (gX hb h)
theorem dgl{b:Nat}(hb:2<=b)(n k:Nat):(dg b n).getD k 0<b:=eJ Aa (jZ hb n) k
theorem eV{b n k:Nat}(hb:2<=b)(h:ln b n<=k):evl b ((dg b n).take k)=n:=by rw[fT h,bS hb]

def gS(m n:Nat):Int:=if m<n then -1 else if m=n then 0 else 1

/-! ### steps of the loops -/
theorem kA{b:Nat}{da db o:List Nat}{k c s:Nat}(hk:k<o.length)(hs:s=da.getD k 0+c+db.getD k 0)(h:evl b (o.take k)+c*b^k=evl b (da.take k)+evl b (db.take k)):
  evl b ((o.set k (s%b)).take (k+1))+s / b*b^(k+1)=evl b (da.take (k+1))+evl b (db.take (k+1)):=by
 rw[iV _ hk,etn da,etn db];have h2:=bBp s b;have h3:b^k*(s%b)+s / b*b^(k+1)=b^k*s:=by
  conv=>rhs;rw[<-h2]
  rw[aZ7,bAl,aZf (s / b),aZ6]
 have h4:b^k*s=b^k*da.getD k 0+c*b^k+b^k*db.getD k 0:=by rw[hs,aZ7,aZ7,aZf c]
 omega
theorem aDd{b:Nat}{da db o:List Nat}{k c c' r:Nat}(hk:k<o.length)(hr:r+db.getD k 0+c=da.getD k 0+c'*b)(h:evl b (o.take k)+evl b (db.take k)=evl b (da.take k)+c*b^k):
  evl b ((o.set k r).take (k+1))+evl b (db.take (k+1))=evl b (da.take (k+1))+c'*b^(k+1):=by
 rw[iV _ hk,etn da,etn db];have h4:=congrArg (b^k*·) hr;simp only[aZ7] at h4;have h5:b^k*(c'*b)=c'*b^(k+1):=by rw[bAl,<-aZ6,aZf (b^k) c',aZ6]
 have h6:b^k*c=c*b^k:=aZf _ _;omega
theorem aDe{b p:Nat}{o:List Nat}{x y c s X A:Nat}(hp:p<o.length)(hs:s=x*y+o.getD p 0+c)(h:evl b o+c*b^p=X+A):
  evl b (o.set p (s%b))+s / b*b^(p+1)=X+(A+b^p*(x*y)):=by
 have h1:=qB (b:=b) (s%b) hp;have h2:=bBp s b;have h3:b^p*(s%b)+s / b*b^(p+1)=b^p*s:=by
  conv=>rhs;rw[<-h2]
  rw[aZ7,bAl,aZf (s / b),aZ6]
 have h4:b^p*s=b^p*(x*y)+b^p*o.getD p 0+c*b^p:=by rw[hs,aZ7,aZ7,aZf c]
 omega
theorem nT(m j:Nat):(List.replicate m 0).getD j 0=0:=by
 rw[aY3,List.getElem?_replicate];split<;>rfl
theorem bD(b:Nat):evl b []=0:=rfl
theorem eW(b x:Nat)(l:List Nat):evl b (x::l)=x+b*evl b l:=rfl
theorem mJ(b:Nat)(hb:2<=b):ln b 1=1:=by rw[aFu hb Aa,bAu Aa,jU]
attribute [irreducible] dg dgF evl
end Go.Dig
/- Binary digits and shifts of natural numbers: plain mathematics, no program. -/
namespace Go.Dig

def bl(n:Nat):Nat:=if n=0 then 0 else Nat.log2 n+1
theorem aHi:bl 0=0:=rfl
theorem aBc{n:Nat}(h:n≠0):bl n=Nat.log2 n+1:=by simp[bl,h]
theorem fH{n k:Nat}:bl n<=k↔n<2^k:=by
 by_cases h:n=0
 .subst h;simp[aHi,bAp]
 .rw[aBc h,Nat.succ_le_iff,Nat.log2_lt h]
theorem aJj{n k:Nat}(h1:2^k<=n)(h2:n<2^(k+1)):bl n=k+1:=by
 have a:=fH.2 h2;have b:¬bl n<=k:=fun h=>by have:=fH.1 h;omega
 omega
theorem aHj(n:Nat):n<2^bl n:=fH.1 (aZt _)
theorem aMj{n:Nat}(h:n≠0):2^(bl n-1)<=n:=by
 rcases bAn n (2^(bl n-1)) with h'|h'
 .have:=fH.2 h';rw[aBc h] at this;omega
 .exact h'
theorem aBd{n k:Nat}(h:2^k<=n):bl n=k+bl (n / 2^k):=by
 have hn:n≠0:=by have:=bAp k;omega
 have hd:n / 2^k≠0:=by
  have:=Nat.div_pos h (bAp k);omega
 have h1:=aHj (n / 2^k);have h2:=aMj hd;have hb:bl (n / 2^k)=(bl (n / 2^k)-1)+1:=by rw[aBc hd];omega
 have e1:n<2^(k+bl (n / 2^k)):=by
  rw[bAq,aZf];exact (bAf (bAp k)).1 h1
 have e2:2^(k+(bl (n / 2^k)-1))<=n:=by
  rw[bAq,aZf];exact (bA8 (bAp k)).1 h2
 have:=aJj (k:=k+(bl (n / 2^k)-1)) e2 (by rw[show k+(bl (n / 2^k)-1)+1=k+bl (n / 2^k) by omega];exact e1)
 omega
theorem aUe{p n:Nat}(hp:1<=p)(hn:n≠0):bl n=p*(ln (2^p) n-1)+bl ((dg (2^p) n).getD (ln (2^p) n-1) 0):=by
 have hb:2<=2^p:=by have:2^1<=2^p:=aZ4 Aa hp;omega
 induction n using Nat.strongRecOn with
 | _ n ih=>
  by_cases hq:n / 2^p=0
  .have e:dg (2^p) n=[n%2^p]:=by rw[gJ hb hn,hq,cH]
   have hl:ln (2^p) n=1:=by unfold ln;rw[e];rfl
   have hlt:n<2^p:=by
    rcases bAn n (2^p) with h|h
    .exact h
    .have:=Nat.div_pos h Aa;omega
   rw[hl,e];simp[bAm hlt]
  .have h1:=ih _ (tQ hb hn) hq;have h2:=aFu hb hn;have h3:ln (2^p) (n / 2^p)≠0:=fun h=>hq ((aT hb).1 h)
   have hge:2^p<=n:=by
    rcases bAn n (2^p) with h|h
    .exact (hq (bAu h)).elim
    .exact h
   rw[aBd hge,h1,h2];have e:(dg (2^p) n).getD (ln (2^p) (n / 2^p)+1-1) 0=(dg (2^p) (n / 2^p)).getD (ln (2^p) (n / 2^p)-1) 0:=by
    rw[gJ hb hn,show ln (2^p) (n / 2^p)+1-1=(ln (2^p) (n / 2^p)-1)+1 by omega,bB7]
   rw[e];have:p*(ln (2^p) (n / 2^p)+1-1)=p*(ln (2^p) (n / 2^p)-1)+p:=by
    rw[show ln (2^p) (n / 2^p)+1-1=(ln (2^p) (n / 2^p)-1)+1 by omega,aZ7,bBk]
   omega

theorem iH{b:Nat}(hb:2<=b):∀(k n:Nat),(dg b n).getD k 0=n / b^k%b
 | 0,n=>by
  by_cases hn:n=0
  .subst hn;simp[cH]
  .rw[gJ hb hn];simp
 | k+1,n=>by
  by_cases hn:n=0
  .subst hn;simp[cH]
  .rw[gJ hb hn,bB7,iH hb k,bAv,bAl,aZf b]
theorem rE{b:Nat}(hb:2<=b){N:Nat}:∀{l:List Nat} {s:Nat},(∀i,i<l.length->l.getD i 0=N / b^(s+i)%b)->evl b l=N / b^s%b^l.length
 | [],s,_=>by rw[bD];simp[Nat.mod_one]
 | x::l,s,h=>by
  have h0:=h 0 Ar;have ih:=rE hb (N:=N) (l:=l) (s:=s+1) (fun i hi=>by have:=h (i+1) (by simpa using hi);rw[bB7] at this;rw[this];congr 3;omega)
  simp only[bC1,bAg] at h0;have e:b^(l.length+1)=b*b^l.length:=by rw[bAl,aZf]
  rw[eW,ih,h0,aY6,e,Nat.mod_mul,bAl,bAv]

def twF:Nat->Nat->Nat
 | 0,_=>0
 | f+1,n=>if n%2=1 then 0 else twF f (n / 2)+1
def tw(n:Nat):Nat:=if n=0 then 0 else twF n n
theorem aDf:∀(f n:Nat),n<=f->n≠0->∃m,n=2^twF f n*(2*m+1)
 | 0,n,h,h0=>by omega
 | f+1,n,h,h0=>by
  simp only[twF]
  split
  .rename_i ho;exact⟨n / 2,Aa⟩
  .rename_i ho;obtain⟨m,hm⟩:=aDf f (n / 2) Aa Aa;refine⟨m,?_⟩;rw[bAl,aZf _ 2,aZ6,<-hm];omega
theorem lX{n:Nat}(h:n≠0):∃m,n=2^tw n*(2*m+1):=by
 unfold tw;rw[if_neg h];exact aDf n n (aZt _) h
theorem wM:∀{a b m m':Nat},2^a*(2*m+1)=2^b*(2*m'+1)->a=b/\m=m'
 | 0,0,m,m',h=>by simp at h;exact⟨rfl,Aa⟩
 | 0,b+1,m,m',h=>by
  rw[bAl,aZf _ 2,aZ6] at h;simp at h;omega
 | a+1,0,m,m',h=>by
  rw[bAl,aZf _ 2,aZ6] at h;simp at h;omega
 | a+1,b+1,m,m',h=>by
  rw[bAl,bAl,aZf _ 2,aZf _ 2,aZ6,aZ6] at h;have:=wM (a:=a) (b:=b) (m:=m) (m':=m') Aa;exact⟨Aa,this.2⟩
theorem zP{n k m:Nat}(h:n=2^k*(2*m+1)):tw n=k:=by
 have hn:n≠0:=by rw[h];exact bCt (by have:=bAp k;omega) Aa
 obtain⟨m',h'⟩:=lX hn;exact (wM (h'.symm.trans h)).1
theorem aHk{n k:Nat}(h:n≠0):k<=tw n↔2^k ∣ n:=by
 obtain⟨m,hm⟩:=lX h;constructor
 .intro hk;rw[hm,show tw n=k+(tw n-k) by omega,bAq,aZ6]
  exact Nat.dvd_mul_right _ _
 .rintro⟨q,hq⟩
  rcases bAn (tw n) k with hlt|hge
  .exfalso
   have hq0:q≠0:=fun e=>by subst e;simp at hq;exact h hq
   obtain⟨m',hm'⟩:=lX hq0;have:n=2^(k+tw q)*(2*m'+1):=by rw[bAq,aZ6,<-hm',<-hq]
   have:=zP this;omega
  .exact hge

theorem aQ6{n k w r:Nat}(h:n=2^(32*k)*(w+2^32*r))(hw:w<2^32)(h0:w≠0):tw n=32*k+tw w:=by
 obtain⟨m,hm⟩:=lX h0;have hk:tw w<32:=by
  rcases bAn (tw w) 32 with hh|hh
  .exact hh
  .have:=aZ4 (n:=2) Aa hh;have:2^tw w*1<=2^tw w*(2*m+1):=aZy _ Aa;omega
 refine zP (m:=m+2^(31-tw w)*r) ?_;have e:(2:Nat)^32=2^tw w*(2*2^(31-tw w)):=by
  rw[<-bCk,<-bAq];congr 1;omega
 rw[h,bAq,aZ6]
 congr 1
 conv=>lhs;rw[e];lhs;rw[hm]
 rw[aZ6,<-aZ7]
 congr 1
 rw[aZ6];omega
theorem wO{b n:Nat}(hb:2<=b):∀{k:Nat},(∀j,j<k->(dg b n).getD j 0=0)->n=b^k*(n / b^k)
 | 0,_=>by simp
 | k+1,h=>by
  have ih:=wO hb (k:=k) (fun j hj=>h j Aa)
  have h1:=h k Aa;rw[iH hb] at h1;have h2:=bBp (n / b^k) b;rw[h1,aZq,bAv,<-bAl] at h2;conv=>lhs;rw[ih,<-h2]
  rw[bAl,aZ6]

theorem aQ7{x k m:Nat}(hx:x=2^k*(2*m+1))(hlt:x<2^32):x &&& (2^32-x)=2^k:=by
 have hk:k<32:=by
  rcases bAn k 32 with h|h
  .exact h
  .have:=aZ4 (n:=2) Aa h;have:2^k*1<=2^k*(2*m+1):=aZy _ Aa;omega
 have hm:m<2^(31-k):=by
  have e:(2:Nat)^32=2^k*(2*2^(31-k)):=by
   rw[<-bCk,<-bAq];congr 1;omega
  rw[hx,e] at hlt;have:=bCc hlt;omega
 have e2:2^32-x=2^k*(2*(2^(31-k)-(m+1))+1):=by
  have e:(2:Nat)^32=2^k*(2*2^(31-k)):=by
   rw[<-bCk,<-bAq];congr 1;omega
  rw[hx,e,<-Nat.mul_sub]
  congr 1
  omega
 rw[e2,hx];apply Nat.eq_of_testBit_eq;intro i;rw[Nat.testBit_and,Nat.testBit_two_pow_mul,Nat.testBit_two_pow_mul,bC2];rcases bAn i k with h|h
 .simp[Nat.not_le.2 h,show k≠i by omega]
 .obtain⟨j,rfl⟩:=Nat.exists_eq_add_of_le h;simp only[Nat.le_add_right,decide_true,Bool.true_and,bAo];cases j with
  | zero=>simp
  | succ j=>
   rw[Nat.testBit_succ,Nat.testBit_succ];rw[show (2*m+1) / 2=m by omega,show (2*(2^(31-k)-(m+1))+1) / 2=2^(31-k)-(m+1) by omega,Nat.testBit_two_pow_sub_succ hm]
   have:k≠k+(j+1):=Aa;simp only[this,decide_false];cases m.testBit j<;>simp

theorem aBe{x y r:Nat}(hx:x<2^r)(hy:y%2^r=0):x ||| y=x+y:=by
 have:y=2^r*(y / 2^r):=by have:=bBp y (2^r);omega
 rw[this,Nat.or_comm,<-Nat.two_pow_add_eq_or_of_lt hx,bCu]
end Go.Dig