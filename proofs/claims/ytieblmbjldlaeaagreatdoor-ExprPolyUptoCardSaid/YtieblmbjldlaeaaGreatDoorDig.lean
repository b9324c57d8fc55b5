/- Digits of natural numbers to a base: plain mathematics, no program. -/
import Derived.Test.YtieblmbjldlaeaaGreatDoorVcDef
set_option linter.all false
namespace Go.Dig

def evl (b:Nat):List Nat→Nat
 | []=>0
 | x::l=>x+b*evl b l

def dgF (b:Nat):Nat→Nat→List Nat
 | 0,_=>[]
 | f+1,n=>if n=0 then [] else n%b::dgF b f (n / b)
def dg (b n:Nat):List Nat:=dgF b n n

theorem qX {b n:Nat} (hb:2≤b) (hn:n≠0):n / b<n:=Nat.div_lt_self (by omega) (by omega)

theorem aH1 {b:Nat} (hb:2≤b):∀(f g n:Nat),n≤f→n≤g→dgF b f n=dgF b g n
 | 0,0,_,_,_=>rfl
 | 0,g+1,n,h,_=>by
  have:n=0:=by omega
  simp [dgF,this]
 | f+1,0,n,_,h=>by
  have:n=0:=by omega
  simp [dgF,this]
 | f+1,g+1,n,h1,h2=>by
  simp only [dgF]
  split
  ·rfl
  ·rename_i hn
   have:=qX hb hn
   rw [aH1 hb f g (n / b) (by omega) (by omega)]

theorem bS (b:Nat):dg b 0=[]:=rfl
theorem eX {b n:Nat} (hb:2≤b) (hn:n≠0):dg b n=n%b::dg b (n / b):=by
 unfold dg
 cases n with
 | zero=>exact (hn rfl).elim
 | succ m=>
  simp only [dgF,if_neg hn]
  have:=qX hb hn
  rw [aH1 hb m ((m+1) / b) _ (by omega) (aWf _)]

theorem bO {b:Nat} (hb:2≤b) (n:Nat):evl b (dg b n)=n:=by
 induction n using Nat.strongRecOn with
 | _ n ih=>
  by_cases hn:n=0
  ·subst hn;rfl
  ·rw [eX hb hn,evl,ih _ (qX hb hn)]
   exact Nat.mod_add_div n b

theorem iU {b:Nat} (hb:2≤b) (n:Nat):∀x∈dg b n,x<b:=by
 induction n using Nat.strongRecOn with
 | _ n ih=>
  by_cases hn:n=0
  ·subst hn;intro x hx;simp [bS] at hx
  ·rw [eX hb hn]
   intro x hx
   rcases aV7.1 hx with rfl|hx
   ·exact Nat.mod_lt _ (by omega)
   ·exact ih _ (qX hb hn) x hx

theorem xL {b n:Nat} (hb:2≤b):dg b n=[]↔n=0:=by
 constructor
 ·intro h;have:=bO hb n;rw [h] at this;exact this.symm
 ·rintro rfl;rfl

theorem dR (b:Nat):∀(l m:List Nat),evl b (l++m)=evl b l+b^l.length*evl b m
 | [],m=>by simp [evl]
 | x::l,m=>by
  simp only [List.cons_append,evl,dR b l m,aVs,Nat.pow_succ]
  rw [Nat.mul_add,← Nat.mul_assoc,aV1 b (b^l.length)]
  omega

theorem gD {b:Nat} (hb:2≤b):∀{l:List Nat},(∀x∈l,x<b)→evl b l<b^l.length
 | [],_=>by simp [evl]
 | x::l,h=>by
  have h0:=h x (by simp)
  have ih:=gD hb (l:=l) (fun y hy=>h y (by simp [hy]))
  simp only [evl,aVs,Nat.pow_succ]
  have:b*(evl b l+1)≤b*b^l.length:=Nat.mul_le_mul_left _ ih
  rw [aV1 (b^l.length) b]
  rw [Nat.mul_add,Nat.mul_one] at this
  omega

theorem xM {b:Nat} (hb:2≤b):∀{l:List Nat},(∀x∈l,x<b)→(∀h:l≠[],l.getLast h≠0)→dg b (evl b l)=l
 | [],_,_=>rfl
 | x::l,h,hl=>by
  have h0:=h x (by simp)
  have hne:evl b (x::l)≠0:=by
   intro he
   simp only [evl] at he
   have h1:x=0:=by omega
   have h2:evl b l=0:=by
    rcases Nat.eq_zero_or_pos (evl b l) with h|h
    ·exact h
    ·have:b*1≤b*evl b l:=Nat.mul_le_mul_left _ h;omega
   cases l with
   | nil=>exact hl (by simp) (by simpa using h1)
   | cons y l=>
    have ih:=xM hb (l:=y::l) (fun z hz=>h z (by simp [hz])) (fun hh=>by have:=hl (by simp);rwa [List.getLast_cons hh] at this)
    rw [h2] at ih
    simp [bS] at ih
  rw [eX hb hne]
  have e1:evl b (x::l)%b=x:=by
   simp only [evl,Nat.add_mul_mod_self_left];exact Nat.mod_eq_of_lt h0
  have e2:evl b (x::l) / b=evl b l:=by
   simp only [evl]
   rw [Nat.add_mul_div_left _ _ (by omega),Nat.div_eq_of_lt h0,aWc]
  rw [e1,e2]
  congr 1
  cases l with
  | nil=>rfl
  | cons y l=>exact xM hb (fun z hz=>h z (by simp [hz])) (fun hh=>by have:=hl (by simp);rwa [List.getLast_cons hh] at this)

theorem aMk {b:Nat} (hb:2≤b) (n:Nat):∀h:dg b n≠[],(dg b n).getLast h≠0:=by
 induction n using Nat.strongRecOn with
 | _ n ih=>
  intro h
  have hn:n≠0:=fun e=>h ((xL hb).2 e)
  have hlt:=qX hb hn
  have e:=eX hb hn
  by_cases hq:n / b=0
  ·have:dg b n=[n%b]:=by rw [e,hq];rfl
   simp only [this,List.getLast_singleton]
   have h2:=Nat.mod_add_div n b
   rw [hq] at h2
   omega
  ·have hne:dg b (n / b)≠[]:=fun e=>hq ((xL hb).1 e)
   have:=ih _ hlt hne
   simp only [e]
   rw [List.getLast_cons hne]
   exact this

def ln (b n:Nat):Nat:=(dg b n).length
theorem jX (b:Nat):ln b 0=0:=rfl
theorem aW {b n:Nat} (hb:2≤b):ln b n=0↔n=0:=by rw [ln,List.length_eq_zero_iff,xL hb]
theorem aCi {b n:Nat} (hb:2≤b) (hn:n≠0):ln b n=ln b (n / b)+1:=by unfold ln;rw [eX hb hn];simp
theorem bW {b:Nat} (hb:2≤b) (n:Nat):n<b^ln b n:=by
 have:=gD hb (iU hb n)
 rwa [bO hb] at this
theorem aT {b:Nat} (hb:2≤b):∀{k n:Nat},ln b n≤k↔n<b^k
 | 0,n=>by rw [Nat.le_zero,aW hb];simp
 | k+1,n=>by
  by_cases hn:n=0
  ·subst hn;simp [jX];exact Nat.pow_pos (by omega)
  ·rw [aCi hb hn,Nat.add_le_add_iff_right,aT hb,Nat.pow_succ,Nat.div_lt_iff_lt_mul (by omega)]
theorem fF {b n k:Nat} (hb:2≤b) (h:k<ln b n):b^k≤n:=by
 rcases Nat.lt_or_ge n (b^k) with h'|h'
 ·have:=(aT hb).2 h';omega
 ·exact h'
theorem cO {b m n:Nat} (hb:2≤b) (h:m≤n):ln b m≤ln b n:=(aT hb).2 (Nat.lt_of_le_of_lt h (bW hb n))
theorem tB {b:Nat} (hb:2≤b) (m n:Nat):ln b (m+n)≤max (ln b m) (ln b n)+1:=by
 rw [aT hb,Nat.pow_succ]
 have h1:=Nat.lt_of_lt_of_le (bW hb m) (Nat.pow_le_pow_right (by omega) (Nat.le_max_left (ln b m) (ln b n)))
 have h2:=Nat.lt_of_lt_of_le (bW hb n) (Nat.pow_le_pow_right (by omega) (Nat.le_max_right (ln b m) (ln b n)))
 have:b^max (ln b m) (ln b n)*2≤b^max (ln b m) (ln b n)*b:=Nat.mul_le_mul_left _ hb
 omega
theorem bV {b:Nat} (hb:2≤b) (m n:Nat):ln b (m*n)≤ln b m+ln b n:=by
 rw [aT hb,Nat.pow_add]
 by_cases hn:n=0
 ·subst hn;simp;exact Nat.mul_pos (Nat.pow_pos (by omega)) (Nat.pow_pos (by omega))
 ·exact Nat.mul_lt_mul_of_lt_of_le (bW hb m) (Nat.le_of_lt (bW hb n)) (Nat.pow_pos (by omega))

def trim (l:List Nat):List Nat:=(l.reverse.dropWhile (· == 0)).reverse
theorem eU (b:Nat):∀{l:List Nat},(∀x∈l,x=0)→evl b l=0
 | [],_=>rfl
 | x::l,h=>by simp only [evl];rw [h x (by simp),eU b (fun y hy=>h y (by simp [hy]))];simp
theorem xN {b:Nat} (hb:2≤b) {l:List Nat} {k:Nat} (hk:k≤l.length) (hl:∀x∈l,x<b) (hz:∀i,k≤i→i<l.length→l.getD i 0=0) (he:k=0∨l.getD (k-1) 0≠0):dg b (evl b l)=l.take k:=by
 have e:evl b l=evl b (l.take k):=by
  conv=>lhs;rw [← aV6 k l]
  rw [dR,eU b (l:=l.drop k)]
  ·simp
  ·intro x hx
   obtain ⟨i,hi,rfl⟩:=List.getElem_of_mem hx
   simp only [List.length_drop] at hi
   have:=hz (k+i) (by omega) (by omega)
   rw [List.getElem_drop]
   simpa [aVp,show k+i<l.length by omega] using this
 rw [e]
 refine xM hb (fun x hx=>hl x (List.mem_of_mem_take hx)) fun h=>?_
 rcases he with rfl|he
 ·simp at h
 ·have hk0:k≠0:=by rintro rfl;simp at h
  rw [List.getLast_eq_getElem]
  simp only [aV9,Nat.min_eq_left hk,List.getElem_take]
  simpa [aVp,show k-1<l.length by omega] using he

theorem kE {b:Nat} {l:List Nat} {k:Nat} (hk:k<l.length):evl b (l.take (k+1))=evl b (l.take k)+b^k*l.getD k 0:=by
 rw [List.take_succ_eq_append_getElem hk,dR]
 simp [evl,aV9,Nat.min_eq_left (Nat.le_of_lt hk),aVp,hk]

theorem dL {b:Nat} (hb:0<b) {l:List Nat} (h:∀x∈l,x<b) (i:Nat):l.getD i 0<b:=by
 rw [aVp]
 rcases Nat.lt_or_ge i l.length with hi|hi
 ·simp [hi];exact h _ (List.getElem_mem hi)
 ·simp [List.getElem?_eq_none hi,hb]


theorem nE {b:Nat}:∀{l:List Nat} {k:Nat} (x:Nat),k<l.length→evl b (l.set k x)+b^k*l.getD k 0=evl b l+b^k*x
 | [],k,x,h=>by simp at h
 | y::l,0,x,h=>by simp [evl];omega
 | y::l,k+1,x,h=>by
  have ih:=nE (b:=b) (l:=l) (k:=k) x (by simpa using h)
  simp only [List.set_cons_succ,evl,List.getD_cons_succ,Nat.pow_succ]
  have e:∀z,b^k*b*z=b*(b^k*z):=fun z=>by rw [aV1 (b^k) b,Nat.mul_assoc]
  rw [e,e]
  have:=congrArg (b*·) ih
  simp only [Nat.mul_add] at this
  omega
theorem gP {b:Nat} {l:List Nat} {k:Nat} (x:Nat) (hk:k<l.length):evl b ((l.set k x).take (k+1))=evl b (l.take k)+b^k*x:=by
 rw [kE (by simpa using hk)]
 simp [List.take_set_of_le,aVp,hk]
theorem aP {b:Nat} {l:List Nat} {k x:Nat} (h:∀y∈l,y<b) (hx:x<b):∀y∈l.set k x,y<b:=fun y hy=>by
 rcases List.mem_or_eq_of_mem_set hy with h'|rfl
 ·exact h y h'
 ·exact hx
theorem dS {l:List Nat} {k:Nat} (x:Nat) (hk:k<l.length):(l.set k x).getD k 0=x:=by simp [aVp,hk]
theorem cE {l:List Nat} {k j:Nat} (x:Nat) (h:k≠j):(l.set k x).getD j 0=l.getD j 0:=by simp [aVp,List.getElem?_set_ne h]
theorem aRk (l:List Nat):l.take l.length=l:=aV4
theorem eB {b:Nat} {l:List Nat} {k:Nat} (h:l.length≤k):evl b (l.take k)=evl b l:=by rw [List.take_of_length_le h]

theorem etn {b:Nat} (l:List Nat) (k:Nat):evl b (l.take (k+1))=evl b (l.take k)+b^k*l.getD k 0:=by
 rcases Nat.lt_or_ge k l.length with h|h
 ·exact kE h
 ·rw [List.take_of_length_le (by omega),List.take_of_length_le h,aVp,List.getElem?_eq_none h];simp
theorem eN {l:List Nat} {k:Nat} (h:l.length≤k):l.getD k 0=0:=by rw [aVp,List.getElem?_eq_none h];rfl

theorem tC {b:Nat} (hb:2≤b):∀{l m:List Nat} {k:Nat},l.length=m.length→(∀x∈l,x<b)→k<l.length→(∀j,k<j→l.getD j 0=m.getD j 0)→l.getD k 0<m.getD k 0→evl b l<evl b m
 | [],_,_,_,_,h,_,_=>by simp at h
 | x::l,[],_,h,_,_,_,_=>by simp at h
 | x::l,y::m,0,hl,hx,_,he,hlt=>by
  simp only [List.getD_cons_zero] at hlt
  have:l=m:=by
   apply List.ext_getElem (by simpa using hl)
   intro i h1 h2
   have:=he (i+1) (by omega)
   simpa [aVp,h1,h2] using this
  subst this
  simp only [evl];omega
 | x::l,y::m,k+1,hl,hx,hk,he,hlt=>by
  have ih:=tC hb (l:=l) (m:=m) (k:=k) (by simpa using hl) (fun z hz=>hx z (by simp [hz])) (by simpa using hk) (fun j hj=>by simpa using he (j+1) (by omega)) (by simpa using hlt)
  have h0:=hx x (by simp)
  simp only [evl]
  have:b*(evl b l+1)≤b*evl b m:=Nat.mul_le_mul_left _ ih
  rw [Nat.mul_add,Nat.mul_one] at this
  omega
theorem tD {l m:List Nat} (hl:l.length=m.length) (he:∀j,l.getD j 0=m.getD j 0):l=m:=by
 apply List.ext_getElem hl
 intro i h1 h2
 have:=he i
 simpa [aVp,h1,h2] using this
theorem aH2 {b m n:Nat} (hb:2≤b) (h:dg b m=dg b n):m=n:=by
 have:=bO hb m;rw [h,bO hb] at this;exact this.symm
theorem mN {b m n:Nat} (hb:2≤b) (h:ln b m<ln b n):m<n:=Nat.lt_of_lt_of_le (bW hb m) (fF hb h)
theorem dgl {b:Nat} (hb:2≤b) (n k:Nat):(dg b n).getD k 0<b:=dL (by omega) (iU hb n) k
theorem dP {b n k:Nat} (hb:2≤b) (h:ln b n≤k):evl b ((dg b n).take k)=n:=by rw [eB h,bO hb]

def gE (m n:Nat):Int:=if m<n then -1 else if m=n then 0 else 1

/-! ### steps of the loops -/
theorem iI {b:Nat} {da db o:List Nat} {k c s:Nat} (hk:k<o.length) (hs:s=da.getD k 0+c+db.getD k 0) (h:evl b (o.take k)+c*b^k=evl b (da.take k)+evl b (db.take k)):
  evl b ((o.set k (s%b)).take (k+1))+s / b*b^(k+1)=evl b (da.take (k+1))+evl b (db.take (k+1)):=by
 rw [gP _ hk,etn da,etn db]
 have h2:=Nat.mod_add_div s b
 have h3:b^k*(s%b)+s / b*b^(k+1)=b^k*s:=by
  conv=>rhs;rw [← h2]
  rw [Nat.mul_add,Nat.pow_succ,aV1 (s / b),Nat.mul_assoc]
 have h4:b^k*s=b^k*da.getD k 0+c*b^k+b^k*db.getD k 0:=by rw [hs,Nat.mul_add,Nat.mul_add,aV1 c]
 omega
theorem aAi {b:Nat} {da db o:List Nat} {k c c' r:Nat} (hk:k<o.length) (hr:r+db.getD k 0+c=da.getD k 0+c'*b) (h:evl b (o.take k)+evl b (db.take k)=evl b (da.take k)+c*b^k):
  evl b ((o.set k r).take (k+1))+evl b (db.take (k+1))=evl b (da.take (k+1))+c'*b^(k+1):=by
 rw [gP _ hk,etn da,etn db]
 have h4:=congrArg (b^k*·) hr
 simp only [Nat.mul_add] at h4
 have h5:b^k*(c'*b)=c'*b^(k+1):=by rw [Nat.pow_succ,← Nat.mul_assoc,aV1 (b^k) c',Nat.mul_assoc]
 have h6:b^k*c=c*b^k:=aV1 _ _
 omega
theorem aAj {b p:Nat} {o:List Nat} {x y c s X A:Nat} (hp:p<o.length) (hs:s=x*y+o.getD p 0+c) (h:evl b o+c*b^p=X+A):
  evl b (o.set p (s%b))+s / b*b^(p+1)=X+(A+b^p*(x*y)):=by
 have h1:=nE (b:=b) (s%b) hp
 have h2:=Nat.mod_add_div s b
 have h3:b^p*(s%b)+s / b*b^(p+1)=b^p*s:=by
  conv=>rhs;rw [← h2]
  rw [Nat.mul_add,Nat.pow_succ,aV1 (s / b),Nat.mul_assoc]
 have h4:b^p*s=b^p*(x*y)+b^p*o.getD p 0+c*b^p:=by rw [hs,Nat.mul_add,Nat.mul_add,aV1 c]
 omega
theorem lP (m j:Nat):(List.replicate m 0).getD j 0=0:=by
 rw [aVp,List.getElem?_replicate];split <;> rfl
theorem bF (b:Nat):evl b []=0:=rfl
theorem dG (b x:Nat) (l:List Nat):evl b (x::l)=x+b*evl b l:=rfl
theorem jH (b:Nat) (hb:2≤b):ln b 1=1:=by rw [aCi hb (by omega),Nat.div_eq_of_lt (by omega),jX]
attribute [irreducible] dg dgF evl
end Go.Dig
/- Binary digits and shifts of natural numbers: plain mathematics, no program. -/
namespace Go.Dig

def bl (n:Nat):Nat:=if n=0 then 0 else Nat.log2 n+1
theorem aDy:bl 0=0:=rfl
theorem xO {n:Nat} (h:n≠0):bl n=Nat.log2 n+1:=by simp [bl,h]
theorem eV {n k:Nat}:bl n≤k↔n<2^k:=by
 by_cases h:n=0
 ·subst h;simp [aDy,Nat.two_pow_pos]
 ·rw [xO h,Nat.succ_le_iff,Nat.log2_lt h]
theorem aFw {n k:Nat} (h1:2^k≤n) (h2:n<2^(k+1)):bl n=k+1:=by
 have a:=eV.2 h2
 have b:¬bl n≤k:=fun h=>by have:=eV.1 h;omega
 omega
theorem aDz (n:Nat):n<2^bl n:=eV.1 (aWf _)
theorem aH3 {n:Nat} (h:n≠0):2^(bl n-1)≤n:=by
 rcases Nat.lt_or_ge n (2^(bl n-1)) with h'|h'
 ·have:=eV.2 h'
  rw [xO h] at this
  omega
 ·exact h'
theorem xP {n k:Nat} (h:2^k≤n):bl n=k+bl (n / 2^k):=by
 have hn:n≠0:=by have:=Nat.two_pow_pos k;omega
 have hd:n / 2^k≠0:=by
  have:=Nat.div_pos h (Nat.two_pow_pos k);omega
 have h1:=aDz (n / 2^k)
 have h2:=aH3 hd
 have hb:bl (n / 2^k)=(bl (n / 2^k)-1)+1:=by rw [xO hd];omega
 have e1:n<2^(k+bl (n / 2^k)):=by
  rw [Nat.pow_add,aV1];exact (Nat.div_lt_iff_lt_mul (Nat.two_pow_pos k)).1 h1
 have e2:2^(k+(bl (n / 2^k)-1))≤n:=by
  rw [Nat.pow_add,aV1];exact (Nat.le_div_iff_mul_le (Nat.two_pow_pos k)).1 h2
 have:=aFw (k:=k+(bl (n / 2^k)-1)) e2 (by rw [show k+(bl (n / 2^k)-1)+1=k+bl (n / 2^k) by omega];exact e1)
 omega
theorem aO6 {p n:Nat} (hp:1≤p) (hn:n≠0):bl n=p*(ln (2^p) n-1)+bl ((dg (2^p) n).getD (ln (2^p) n-1) 0):=by
 have hb:2≤2^p:=by have:2^1≤2^p:=Nat.pow_le_pow_right (by omega) hp;omega
 induction n using Nat.strongRecOn with
 | _ n ih=>
  by_cases hq:n / 2^p=0
  ·have e:dg (2^p) n=[n%2^p]:=by rw [eX hb hn,hq,bS]
   have hl:ln (2^p) n=1:=by unfold ln;rw [e];rfl
   have hlt:n<2^p:=by
    rcases Nat.lt_or_ge n (2^p) with h|h
    ·exact h
    ·have:=Nat.div_pos h (by omega);omega
   rw [hl,e];simp [Nat.mod_eq_of_lt hlt]
  ·have h1:=ih _ (qX hb hn) hq
   have h2:=aCi hb hn
   have h3:ln (2^p) (n / 2^p)≠0:=fun h=>hq ((aW hb).1 h)
   have hge:2^p≤n:=by
    rcases Nat.lt_or_ge n (2^p) with h|h
    ·exact (hq (Nat.div_eq_of_lt h)).elim
    ·exact h
   rw [xP hge,h1,h2]
   have e:(dg (2^p) n).getD (ln (2^p) (n / 2^p)+1-1) 0=(dg (2^p) (n / 2^p)).getD (ln (2^p) (n / 2^p)-1) 0:=by
    rw [eX hb hn,show ln (2^p) (n / 2^p)+1-1=(ln (2^p) (n / 2^p)-1)+1 by omega,List.getD_cons_succ]
   rw [e]
   have:p*(ln (2^p) (n / 2^p)+1-1)=p*(ln (2^p) (n / 2^p)-1)+p:=by
    rw [show ln (2^p) (n / 2^p)+1-1=(ln (2^p) (n / 2^p)-1)+1 by omega,Nat.mul_add,Nat.mul_one]
   omega

theorem eD {b:Nat} (hb:2≤b):∀(k n:Nat),(dg b n).getD k 0=n / b^k%b
 | 0,n=>by
  by_cases hn:n=0
  ·subst hn;simp [bS]
  ·rw [eX hb hn];simp
 | k+1,n=>by
  by_cases hn:n=0
  ·subst hn;simp [bS]
  ·rw [eX hb hn,List.getD_cons_succ,eD hb k,Nat.div_div_eq_div_mul,Nat.pow_succ,aV1 b]
theorem oC {b:Nat} (hb:2≤b) {N:Nat}:∀{l:List Nat} {s:Nat},(∀i,i<l.length→l.getD i 0=N / b^(s+i)%b)→evl b l=N / b^s%b^l.length
 | [],s,_=>by rw [bF];simp [Nat.mod_one]
 | x::l,s,h=>by
  have h0:=h 0 (by simp)
  have ih:=oC hb (N:=N) (l:=l) (s:=s+1) (fun i hi=>by have:=h (i+1) (by simpa using hi);rw [List.getD_cons_succ] at this;rw [this];congr 3;omega)
  simp only [List.getD_cons_zero,Nat.add_zero] at h0
  have e:b^(l.length+1)=b*b^l.length:=by rw [Nat.pow_succ,aV1]
  rw [dG,ih,h0,aVs,e,Nat.mod_mul,Nat.pow_succ,Nat.div_div_eq_div_mul]

def twF:Nat→Nat→Nat
 | 0,_=>0
 | f+1,n=>if n%2=1 then 0 else twF f (n / 2)+1
def tw (n:Nat):Nat:=if n=0 then 0 else twF n n
theorem aAk:∀(f n:Nat),n≤f→n≠0→∃m,n=2^twF f n*(2*m+1)
 | 0,n,h,h0=>by omega
 | f+1,n,h,h0=>by
  simp only [twF]
  split
  ·rename_i ho
   exact ⟨n / 2,by omega⟩
  ·rename_i ho
   obtain ⟨m,hm⟩:=aAk f (n / 2) (by omega) (by omega)
   refine ⟨m,?_⟩
   rw [Nat.pow_succ,aV1 _ 2,Nat.mul_assoc,← hm]
   omega
theorem jY {n:Nat} (h:n≠0):∃m,n=2^tw n*(2*m+1):=by
 unfold tw;rw [if_neg h];exact aAk n n (aWf _) h
theorem tE:∀{a b m m':Nat},2^a*(2*m+1)=2^b*(2*m'+1)→a=b∧m=m'
 | 0,0,m,m',h=>by simp at h;exact ⟨rfl,by omega⟩
 | 0,b+1,m,m',h=>by
  rw [Nat.pow_succ,aV1 _ 2,Nat.mul_assoc] at h
  simp at h
  omega
 | a+1,0,m,m',h=>by
  rw [Nat.pow_succ,aV1 _ 2,Nat.mul_assoc] at h
  simp at h
  omega
 | a+1,b+1,m,m',h=>by
  rw [Nat.pow_succ,Nat.pow_succ,aV1 _ 2,aV1 _ 2,Nat.mul_assoc,Nat.mul_assoc] at h
  have:=tE (a:=a) (b:=b) (m:=m) (m':=m') (by omega)
  exact ⟨by omega,this.2⟩
theorem vU {n k m:Nat} (h:n=2^k*(2*m+1)):tw n=k:=by
 have hn:n≠0:=by rw [h];exact Nat.mul_ne_zero (by have:=Nat.two_pow_pos k;omega) (by omega)
 obtain ⟨m',h'⟩:=jY hn
 exact (tE (h'.symm.trans h)).1
theorem aD0 {n k:Nat} (h:n≠0):k≤tw n↔2^k ∣ n:=by
 obtain ⟨m,hm⟩:=jY h
 constructor
 ·intro hk
  rw [hm,show tw n=k+(tw n-k) by omega,Nat.pow_add,Nat.mul_assoc]
  exact Nat.dvd_mul_right _ _
 ·rintro ⟨q,hq⟩
  rcases Nat.lt_or_ge (tw n) k with hlt|hge
  ·exfalso
   have hq0:q≠0:=fun e=>by subst e;simp at hq;exact h hq
   obtain ⟨m',hm'⟩:=jY hq0
   have:n=2^(k+tw q)*(2*m'+1):=by rw [Nat.pow_add,Nat.mul_assoc,← hm',← hq]
   have:=vU this
   omega
  ·exact hge

theorem aMl {n k w r:Nat} (h:n=2^(32*k)*(w+2^32*r)) (hw:w<2^32) (h0:w≠0):tw n=32*k+tw w:=by
 obtain ⟨m,hm⟩:=jY h0
 have hk:tw w<32:=by
  rcases Nat.lt_or_ge (tw w) 32 with hh|hh
  ·exact hh
  ·have:=Nat.pow_le_pow_right (n:=2) (by omega) hh
   have:2^tw w*1≤2^tw w*(2*m+1):=Nat.mul_le_mul_left _ (by omega)
   omega
 refine vU (m:=m+2^(31-tw w)*r) ?_
 have e:(2:Nat)^32=2^tw w*(2*2^(31-tw w)):=by
  rw [← Nat.pow_succ',← Nat.pow_add];congr 1;omega
 rw [h,Nat.pow_add,Nat.mul_assoc]
 congr 1
 conv=>lhs;rw [e];lhs;rw [hm]
 rw [Nat.mul_assoc,← Nat.mul_add]
 congr 1
 rw [Nat.mul_assoc]
 omega
theorem tF {b n:Nat} (hb:2≤b):∀{k:Nat},(∀j,j<k→(dg b n).getD j 0=0)→n=b^k*(n / b^k)
 | 0,_=>by simp
 | k+1,h=>by
  have ih:=tF hb (k:=k) (fun j hj=>h j (by omega))
  have h1:=h k (by omega)
  rw [eD hb] at h1
  have h2:=Nat.mod_add_div (n / b^k) b
  rw [h1,aWc,Nat.div_div_eq_div_mul,← Nat.pow_succ] at h2
  conv=>lhs;rw [ih,← h2]
  rw [Nat.pow_succ,Nat.mul_assoc]

theorem aMm {x k m:Nat} (hx:x=2^k*(2*m+1)) (hlt:x<2^32):x &&& (2^32-x)=2^k:=by
 have hk:k<32:=by
  rcases Nat.lt_or_ge k 32 with h|h
  ·exact h
  ·have:=Nat.pow_le_pow_right (n:=2) (by omega) h
   have:2^k*1≤2^k*(2*m+1):=Nat.mul_le_mul_left _ (by omega)
   omega
 have hm:m<2^(31-k):=by
  have e:(2:Nat)^32=2^k*(2*2^(31-k)):=by
   rw [← Nat.pow_succ',← Nat.pow_add];congr 1;omega
  rw [hx,e] at hlt
  have:=Nat.lt_of_mul_lt_mul_left hlt
  omega
 have e2:2^32-x=2^k*(2*(2^(31-k)-(m+1))+1):=by
  have e:(2:Nat)^32=2^k*(2*2^(31-k)):=by
   rw [← Nat.pow_succ',← Nat.pow_add];congr 1;omega
  rw [hx,e,← Nat.mul_sub]
  congr 1
  omega
 rw [e2,hx]
 apply Nat.eq_of_testBit_eq
 intro i
 rw [Nat.testBit_and,Nat.testBit_two_pow_mul,Nat.testBit_two_pow_mul,Nat.testBit_two_pow]
 rcases Nat.lt_or_ge i k with h|h
 ·simp [Nat.not_le.2 h,show k≠i by omega]
 ·obtain ⟨j,rfl⟩:=Nat.exists_eq_add_of_le h
  simp only [Nat.le_add_right,decide_true,Bool.true_and,Nat.add_sub_cancel_left]
  cases j with
  | zero=>simp
  | succ j=>
   rw [Nat.testBit_succ,Nat.testBit_succ]
   rw [show (2*m+1) / 2=m by omega,show (2*(2^(31-k)-(m+1))+1) / 2=2^(31-k)-(m+1) by omega,Nat.testBit_two_pow_sub_succ hm]
   have:k≠k+(j+1):=by omega
   simp only [this,decide_false]
   cases m.testBit j <;> simp

theorem xQ {x y r:Nat} (hx:x<2^r) (hy:y%2^r=0):x ||| y=x+y:=by
 have:y=2^r*(y / 2^r):=by have:=Nat.mod_add_div y (2^r);omega
 rw [this,Nat.or_comm,← Nat.two_pow_add_eq_or_of_lt hx,Nat.add_comm]
end Go.Dig