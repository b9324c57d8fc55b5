/- Rational numbers by sign, numerator and denominator; lowest terms; the grid. Plain mathematics, no program. -/
import Derived.Test.YtiohcpiloenmoaaGreatDoorW6
set_option linter.all false
namespace Go.Dig
def mkQ(neg:Bool)(m n:Nat):Rat:=mkRat (if neg then -(m:Int) else (m:Int)) n
def sg(q:Rat):Bool:=decide (q.num<0)
def nu(q:Rat):Nat:=q.num.natAbs
theorem nV(q:Rat):q.num=if sg q then -(nu q:Int) else (nu q:Int):=by
 unfold sg nu;by_cases h:q.num<0
 .rw[if_pos (by simpa using h)];omega
 .rw[if_neg (by simpa using h)];omega
theorem aDj(q:Rat):mkQ (sg q) (nu q) q.den=q:=by
 unfold mkQ;rw[<-nV,Rat.mkRat_self]
theorem aDk(neg:Bool)(m:Nat):(if neg then -(m:Int) else (m:Int)).natAbs=m:=by cases neg<;>simp
theorem aHr(neg:Bool){m n:Nat}(hn:n≠0):(mkQ neg m n).num=if neg then -((m / Nat.gcd m n:Nat):Int) else ((m / Nat.gcd m n:Nat):Int):=by
 unfold mkQ;rw[Rat.num_mkRat,if_neg hn,aDk,Nat.gcd_comm];cases neg
 .simp
 .simp only[if_true];rw[Int.neg_ediv_of_dvd (Int.natCast_dvd_natCast.2 (Nat.gcd_dvd_left m n))];simp
theorem wR(neg:Bool){m n:Nat}(hn:n≠0):nu (mkQ neg m n)=m / Nat.gcd m n:=by
 unfold nu;rw[aHr _ hn];cases neg<;>simp only[if_true,if_false,bB1,Int.natAbs_neg,Int.natAbs_natCast]
theorem rV(neg:Bool){m n:Nat}(hn:n≠0):(mkQ neg m n).den=n / Nat.gcd m n:=by
 unfold mkQ;rw[Rat.den_mkRat,if_neg hn,aDk,Nat.gcd_comm]
theorem aRc{m n:Nat}(hn:n≠0):0<Nat.gcd m n:=bC5 _ Aa
theorem aBk(neg:Bool){m n:Nat}(hn:n≠0):sg (mkQ neg m n)=(neg && decide (m≠0)):=by
 unfold sg;rw[aHr _ hn];have hm:m≠0->0<m / Nat.gcd m n:=fun h=>Nat.div_pos (Nat.le_of_dvd Aa (Nat.gcd_dvd_left m n)) (aRc hn)
 cases neg
 .simp only[Bool.false_and,if_false,bB1,decide_eq_false_iff_not];exact Int.not_lt.2 (Int.natCast_nonneg _)
 .by_cases h:m=0
  .subst h;simp
  .have:=hm h;simp[h];omega
theorem wS(neg:Bool)(n:Nat):mkQ neg 0 n=0:=by unfold mkQ;cases neg<;>simp
theorem rW:nu 0=0:=rfl
theorem qE:sg 0=false:=rfl
theorem aBl(q:Rat):0<q.den:=bBi q.den_nz
theorem cop(q:Rat):Nat.gcd (nu q) q.den=1:=q.reduced
theorem dS{q:Rat}:nu q=0↔q=0:=by unfold nu;rw[Int.natAbs_eq_zero,Rat.num_eq_zero]
theorem aUg(q r:Rat):q+r=mkRat (q.num*r.den+r.num*q.den) (q.den*r.den):=Rat.add_def' q r
theorem wT{q r:Rat}(h:sg q=sg r):q+r=mkQ (sg q) (nu q*r.den+nu r*q.den) (q.den*r.den):=by
 rw[aUg,nV q,nV r,h];unfold mkQ;congr 1;cases sg r<;>simp[Int.neg_mul,Int.neg_add]
theorem aBm{q r:Rat}(h:sg q≠sg r)(hl:nu r*q.den<=nu q*r.den):q+r=mkQ (sg q) (nu q*r.den-nu r*q.den) (q.den*r.den):=by
 rw[aUg,nV q,nV r];unfold mkQ;congr 1;have e:((nu q*r.den-nu r*q.den:Nat):Int)=(nu q:Int)*r.den-(nu r:Int)*q.den:=by rw[Int.ofNat_sub hl];simp
 cases hq:sg q<;>cases hr:sg r<;>simp[hq,hr] at h<;>simp only[if_true,if_false,bB1,e,Int.neg_mul]<;>omega
theorem aF0{q r:Rat}(h:sg q≠sg r)(hl:nu q*r.den<=nu r*q.den):q+r=mkQ (sg r) (nu r*q.den-nu q*r.den) (q.den*r.den):=by
 rw[Rat.add_comm,aZf q.den];exact aBm (Ne.symm h) hl
theorem aUh(q r:Rat):q*r=mkQ (sg q != sg r) (nu q*nu r) (q.den*r.den):=by
 rw[Rat.mul_def',nV q,nV r];unfold mkQ;congr 1;cases sg q<;>cases sg r<;>simp[Int.neg_mul,Int.mul_neg]
theorem tS(q:Rat):nu (-q)=nu q:=by unfold nu;simp
theorem aMq(q:Rat):sg (-q)=(!sg q && decide (nu q≠0)):=by
 unfold sg nu;rw[Rat.neg_num];rcases bB5 q.num 0 with h|h|h
 .simp[h,show ¬(0<q.num) by omega]
 .simp[h]
 .simp only[Int.neg_neg_iff_pos,h,decide_true,show ¬(q.num<0) by omega,decide_false,Bool.not_false,Bool.true_and];symm;exact decide_eq_true Aa
theorem rG(q:Rat)(h:nu q≠0):nu q⁻¹=q.den:=by
 have h':q.num≠0:=by unfold nu at h;omega
 unfold nu;rw[Rat.num_inv,Int.natAbs_mul];rcases Int.lt_or_gt_of_ne h' with h1|h1<;>simp[bA7,bBg,h1]
theorem den_inv(q:Rat)(h:nu q≠0):q⁻¹.den=nu q:=by
 unfold nu at h ⊢;rw[Rat.den_inv,if_neg Aa]
theorem aU0(q:Rat):sg q⁻¹=sg q:=by
 unfold sg;rw[Rat.num_inv];have hd:=aBl q;rcases bB5 q.num 0 with h1|h1|h1
 .simp[bA7,h1,hd]
 .simp[h1]
 .simp[bBg,h1,Int.not_lt.2 (Int.le_of_lt h1)]
theorem aMr(q:Rat)(n:Nat):nu (q^n)=nu q^n:=by unfold nu;rw[Rat.num_pow,Int.natAbs_pow]
theorem aU1(q:Rat)(n:Nat):sg (q^n)=(sg q && decide (n%2=1)):=by
 have key:∀n:Nat,((q.num^(2*n)≥0)/\(q.num<0->q.num^(2*n+1)<0)/\(0<=q.num->0<=q.num^(2*n+1))/\(q.num<0->0<q.num^(2*n))):=by
  intro n;have e:q.num^(2*n)=(q.num*q.num)^n:=by rw[Int.pow_mul,Int.pow_succ,Int.pow_succ,Int.pow_zero,Int.one_mul]
  have h0:0<=q.num*q.num:=by
   rcases Int.le_total 0 q.num with h|h
   .exact Int.mul_nonneg h h
   .exact Int.mul_nonneg_of_nonpos_of_nonpos h h
  have h1:0<=q.num^(2*n):=by rw[e];exact Int.pow_nonneg h0
  have h2:q.num<0->0<q.num^(2*n):=fun h=>by rw[e];exact Int.pow_pos (Int.mul_pos_of_neg_of_neg h h)
  refine⟨h1,fun h=>?_,fun h=>Int.pow_nonneg h,h2⟩
  rw[Int.pow_succ];exact Int.mul_neg_of_pos_of_neg (h2 h) h
 unfold sg;rw[Rat.num_pow];obtain⟨k1,k2,k3,k4⟩:=key (n / 2);rcases Nat.mod_two_eq_zero_or_one n with h|h
 .rw[show n=2*(n / 2) by omega]
  rw[Bool.eq_iff_iff];simp;omega
 .rw[show n=2*(n / 2)+1 by omega]
  rw[Bool.eq_iff_iff];simp;omega
theorem aHs{m n k:Nat}(hm:m≠0)(hn:n≠0)(hk:k<=tw m)(hk':k<=tw n):
  m=2^k*(m / 2^k)/\n=2^k*(n / 2^k)/\m / 2^k≠0/\n / 2^k≠0/\m / Nat.gcd m n=m / 2^k / Nat.gcd (m / 2^k) (n / 2^k)/\n / Nat.gcd m n=n / 2^k / Nat.gcd (m / 2^k) (n / 2^k):=by
 have e1:m=2^k*(m / 2^k):=(Nat.mul_div_cancel' ((aHk hm).1 hk)).symm;have e2:n=2^k*(n / 2^k):=(Nat.mul_div_cancel' ((aHk hn).1 hk')).symm;refine⟨e1,e2,fun h=>by rw[h] at e1;simp at e1;exact hm e1,fun h=>by rw[h] at e2;simp at e2;exact hn e2,?_,?_⟩
 .conv=>lhs;rw[e1,e2,Nat.gcd_mul_left,Nat.mul_div_mul_left _ _ (bAp k)]
 .conv=>lhs;rw[e1,e2,Nat.gcd_mul_left,Nat.mul_div_mul_left _ _ (bAp k)]
theorem aDl{n:Nat}(hn:n≠0)(h:(tw n:Int)=bl n-1):n=2^tw n:=by
 obtain⟨u,hu⟩:=lX hn;have hlt:=aHj n;have e:bl n=tw n+1:=Aa;rw[e,bAl] at hlt;have hu0:u=0:=by
  rcases bAx u with h0|h0
  .exact h0
  .have:2^tw n*3<=2^tw n*(2*u+1):=aZy _ Aa;have:=bAp (tw n);omega
 conv=>lhs;rw[hu,hu0]
 simp
theorem aRd{m n k:Nat}(hm:m≠0)(hn:n≠0)(hk:k=min (tw m) (tw n))(h:(tw (n / 2^k):Int)=bl (n / 2^k)-1):Nat.gcd (m / 2^k) (n / 2^k)=1:=by
 obtain⟨e1,e2,h1,h2,-,-⟩:=aHs (k:=k) hm hn Aa Aa;have hp:=aDl h2 h;by_cases ht:tw (n / 2^k)=0
 .rw[ht] at hp;rw[hp];simp
 .have hmk:tw m=k:=by
   rcases bAn k (tw n) with hlt|hge
   .omega
   .exfalso
    have:2^(k+tw (n / 2^k)) ∣ n:=by
     rw[bAq,<-hp,<-e2];exact Nat.dvd_refl _
    have:=(aHk hn).2 this;omega
  obtain⟨r,hr⟩:=lX hm;rw[hmk] at hr;have hodd:m / 2^k=2*r+1:=by
   conv=>lhs;rw[hr]
   exact Nat.mul_div_cancel_left _ (bAp k)
  rw[hodd,hp];refine Nat.Coprime.pow_right _ ?_;show Nat.gcd (2*r+1) 2=1;rw[Nat.gcd_comm,Nat.gcd_rec];simp
def aW4(q:Rat)(p:Nat)(up:Bool):Rat:=mkRat (if up then (q*2^p).ceil else (q*2^p).floor) (2^p)
theorem wU(n:Nat):bl n<=32*ln 4294967296 n:=by
 rw[fH,bBw];exact cZ (b:=4294967296) Ag n
theorem wV(n:Nat):tw n<=32*ln 4294967296 n:=by
 by_cases h:n=0
 .subst h;simp[tw]
 .obtain⟨m,hm⟩:=lX h;refine aZr ?_ (wU n);rcases bAn (bl n) (tw n) with h'|h'
  .have:=aHj n;have h2:=aZ4 (n:=2) Aa (bBy h');have h3:2^tw n*1<=2^tw n*(2*m+1):=aZy _ Aa;omega
  .exact h'
theorem bN{m n:Nat}(h:m<=n):ln 4294967296 m<=ln 4294967296 n:=dG Ag h
theorem wW(m n:Nat):ln 4294967296 (m / n)<=ln 4294967296 m:=bN (bB8 _ _)
theorem aU2(m n:Nat)(h:n≠0):ln 4294967296 (Nat.gcd m n)<=ln 4294967296 n:=bN (Nat.gcd_le_right _ Aa)
theorem pF(neg:Bool){m n:Nat}(hn:n≠0):nu (mkQ neg m n)<=m/\(mkQ neg m n).den<=n:=by
 rw[wR neg hn,rV neg hn];exact⟨bB8 _ _,bB8 _ _⟩
def bY(q:Rat):Int:=if nu q=0 then 0 else if sg q then -1 else 1
theorem rX(q:Rat):bY q=q.num.sign:=by
 unfold bY nu sg;rcases bB5 q.num 0 with h|h|h
 .rw[if_neg Aa,if_pos (by simpa using h),bA7 h]
 .rw[if_pos Aa,h];rfl
 .rw[if_neg Aa,if_neg (by rw[decide_eq_true_iff];omega),bBg h]
def gK(q r:Rat):Int:=(q.num*r.den-r.num*q.den).sign
theorem nW{a:Int}{d:Nat}(h:0<d):(a*d).sign=a.sign:=by rw[Int.sign_mul,Int.sign_natCast_of_ne_zero Aa,Int.mul_one]
theorem aMs(q r:Rat):bY (q-r)=gK q r:=by
 rw[rX,Rat.sub_def',gK];have hd:q.den*r.den≠0:=bCt q.den_nz r.den_nz;obtain⟨g,h0,h1,-⟩:=Rat.mkRat_num_den (n:=q.num*r.den-r.num*q.den) (d:=q.den*r.den) (n':=(mkRat (q.num*r.den-r.num*q.den) (q.den*r.den)).num) (d':=(mkRat (q.num*r.den-r.num*q.den) (q.den*r.den)).den) (z':=Rat.den_nz _) (c:=Rat.reduced _) hd rfl
 generalize (mkRat (q.num*r.den-r.num*q.den) (q.den*r.den)).num=x at *
 rw[h1,nW Aa]
theorem aRe{q r:Rat}:gK q r=-1↔q<r:=by
 rw[Rat.lt_iff,gK,Int.sign_eq_neg_one_iff_neg];omega
theorem aBn{q r:Rat}:gK q r=0↔q=r:=by
 rw[Rat.eq_iff_mul_eq_mul,gK,Int.sign_eq_zero_iff_zero];omega
theorem aRf{q r:Rat}:gK q r=1↔r<q:=by
 rw[Rat.lt_iff,gK,Int.sign_eq_one_iff_pos];omega
theorem aF1{q r:Rat}(h:bY q≠bY r):gK q r=if bY q<bY r then -1 else 1:=by
 rw[rX,rX] at *;have h1:(q.num*r.den).sign=q.num.sign:=nW (aBl r);have h2:(r.num*q.den).sign=r.num.sign:=nW (aBl q);unfold gK
 generalize q.num*r.den=x at *
 generalize r.num*q.den=y at *
 rw[<-h1,<-h2] at h ⊢;rcases bB5 x 0 with a|a|a<;>rcases bB5 y 0 with b|b|b <;>
  simp only[bA7,bBg,Int.sign_zero,a,b,ne_eq,not_true_eq_false] at h ⊢
 all_goals first|(rw[if_pos Ag];exact bA7 Aa)|(rw[if_neg Ag];exact bBg Aa)
theorem aJo(x y:Nat):((x:Int)-y).sign=(if x<y then -1 else if x=y then 0 else 1):=by
 rcases Nat.lt_trichotomy x y with a|a|a
 .rw[if_pos a,bA7 Aa]
 .rw[if_neg Aa,if_pos a,a];simp
 .rw[if_neg Aa,if_neg Aa,bBg Aa]
theorem aJp{q r:Rat}(h:bY q=bY r):gK q r=if sg q then -(gS (nu q*r.den) (nu r*q.den)) else gS (nu q*r.den) (nu r*q.den):=by
 unfold gS;rw[<-aJo];have hs:nu q≠0->sg q=sg r/\nu r≠0:=fun hq=>by
  unfold bY at h;rw[if_neg hq] at h;by_cases hr:nu r=0
  .rw[if_pos hr] at h;split at h<;>simp at h
  .rw[if_neg hr] at h;refine⟨?_,hr⟩
   revert h;cases sg q<;>cases sg r<;>simp
 unfold gK;rw[nV q,nV r];by_cases hq:nu q=0
 .have hr:nu r=0:=by
   unfold bY at h;rw[if_pos hq] at h;by_cases hr:nu r=0
   .exact hr
   .rw[if_neg hr] at h;split at h<;>simp at h
  rw[hq,hr];simp
 .rw[<-(hs hq).1];cases sg q
  .simp
  .simp only[if_true];rw[<-Int.sign_neg];congr 1;simp only[Int.neg_mul,Int.natCast_mul];omega
theorem aF2(p:Nat):ln 4294967296 (2^p)<=p+1:=by
 rw[aQ Ag];refine aZ5 (Nat.pow_lt_pow_right Ag (Nat.lt_succ_self p)) (bBx Ag _)
theorem aMt(n:Int):nu (n:Rat)=n.natAbs:=by unfold nu;rw[Rat.num_intCast]
theorem aU3(n:Int):sg (n:Rat)=decide (n<0):=by unfold sg;rw[Rat.num_intCast]
theorem aHt(n:Int):(n:Rat).den=1:=Rat.den_intCast n
theorem aMu(q r:Rat):nu (q+r)<=nu q*r.den+nu r*q.den/\(q+r).den<=q.den*r.den:=by
 have hd:q.den*r.den≠0:=bCt q.den_nz r.den_nz;by_cases h:sg q=sg r
 .rw[wT h];exact pF _ hd
 .rcases Nat.le_total (nu r*q.den) (nu q*r.den) with hl|hl
  .rw[aBm h hl];have:=pF (sg q) (m:=nu q*r.den-nu r*q.den) hd;exact⟨Aa,this.2⟩
  .rw[aF0 h hl];have:=pF (sg r) (m:=nu r*q.den-nu q*r.den) hd;exact⟨Aa,this.2⟩
theorem aMv(q r:Rat):nu (q*r)<=nu q*nu r/\(q*r).den<=q.den*r.den:=by
 rw[aUh];exact pF _ (bCt q.den_nz r.den_nz)
attribute [irreducible] sg nu mkQ aW4 bY gK
end Go.Dig
/- Rational numbers: scaling by powers of 2, the grid in other words. -/
namespace Go.Dig
def lN(q:Rat)(n:Int):Rat:=if n<0 then q⁻¹^(-n).toNat else q^n.toNat
end Go.Dig
/- Rational numbers: order, comparison, the steps of the grid. -/
namespace Go.Dig
theorem aRg(q r:Rat):(gK q r=-1/\q<r)\/(gK q r=0/\q=r)\/(gK q r=1/\r<q):=by
 have h:gK q r=-1\/gK q r=0\/gK q r=1:=by
  unfold gK
  generalize q.num*r.den-r.num*q.den=d
  rcases bB5 d 0 with h|h|h
  .exact .inl (bA7 h)
  .exact .inr (.inl (by rw[h];rfl))
  .exact .inr (.inr (bBg h))
 rcases h with h|h|h
 .exact .inl ⟨h,aRe.1 h⟩
 .exact .inr (.inl ⟨h,aBn.1 h⟩)
 .exact .inr (.inr ⟨h,aRf.1 h⟩)
/-! ### steps of the grid -/
end Go.Dig
/- Roots of natural numbers: the greatest number whose power is at most another; Newton's step. Plain mathematics. -/
namespace Go.Dig
def pG(a n:Nat):Nat->Nat
 | 0=>0
 | x+1=>if (x+1)^n<=a then x+1 else pG a n x
def rt(a n:Nat):Nat:=pG a n a
theorem zQ{a n:Nat}(hn:1<=n):∀x,(pG a n x)^n<=a
 | 0=>by
  rw[pG,Nat.zero_pow Aa];exact aZs _
 | x+1=>by
  rw[pG]
  split
  .assumption
  .exact zQ hn x
theorem zR{a n s:Nat}(h:s^n<=a):∀x,s<=x->s<=pG a n x
 | 0,h0=>by rw[pG];exact h0
 | x+1,hx=>by
  rw[pG]
  split
  .exact hx
  .rename_i hh;refine zR h x ?_;rcases bAn s (x+1) with h1|h1
   .omega
   .have:s=x+1:=Aa;subst this;exact absurd h hh
theorem uL{s n:Nat}(hn:1<=n):s<=s^n:=by
 rcases bAx s with h|h
 .subst h;exact aZs _
 .calc s=s^1:=(Nat.pow_one s).symm
   _<=s^n:=aZ4 h hn
theorem aMw{a n:Nat}(hn:1<=n):rt a n^n<=a:=zQ hn a
theorem aUi{a n s:Nat}(hn:1<=n)(h:s^n<=a):s<=rt a n:=zR h a (aZr (uL hn) h)
theorem aW5{a n x:Nat}(hn:1<=n)(h1:x^n<=a)(h2:rt a n<=x):x=rt a n:=Nat.le_antisymm (aUi hn h1) h2
theorem aHu{n:Nat}:rt 0 n=0:=rfl
theorem aUj{r x A C:Nat}(h1:r<=x)(h2:C<=A):C*x+r*A<=x*A+r*C:=by
 obtain⟨d,rfl⟩:=Nat.le.dest h1;obtain⟨e,rfl⟩:=Nat.le.dest h2;simp only[aZ7,aZ8,aZf C];have:=aZs (d*e);omega
theorem aW6(x r:Nat):∀m,(m+1)*r*x^m<=m*x^(m+1)+r^(m+1)
 | 0=>by simp
 | m+1=>by
  have ih:=aW6 x r m;have key:r^(m+1)*x+r*x^(m+1)<=x*x^(m+1)+r*r^(m+1):=by
   rcases Nat.le_total r x with h|h
   .exact aUj h (bBx h _)
   .have:=aUj h (bBx h (m+1));rw[aZf (x^(m+1)) r,aZf x (r^(m+1))] at this;omega
  have ih2:=aZm x ih;have l1:(m+1)*r*x^m*x=(m+1)*r*x^(m+1):=by rw[aZ6,<-bAl]
  have l2:(m*x^(m+1)+r^(m+1))*x=m*(x*x^(m+1))+r^(m+1)*x:=by rw[aZ8,aZ6,aZf (x^(m+1)) x]
  rw[l1,l2] at ih2;rw[bCk (n:=m+1) (m:=x),bCk (n:=m+1) (m:=r)];have e1:(m+1+1)*r*x^(m+1)=(m+1)*r*x^(m+1)+r*x^(m+1):=by
   rw[aZ8 (m+1) 1 r,bBs,aZ8]
  have e2:(m+1)*(x*x^(m+1))=m*(x*x^(m+1))+x*x^(m+1):=by
   rw[aZ8,bBs]
  rw[e1,e2];omega
def aMx(a n x:Nat):Nat:=(x*(n-1)+a / x^(n-1)) / n
theorem aRh{a n x:Nat}(hn:1<=n)(hx:0<x):rt a n<=aMx a n x:=by
 unfold aMx;obtain⟨m,rfl⟩:∃m,n=m+1:=⟨n-1,Aa⟩
 rw[Nat.add_sub_cancel];have hX:0<x^m:=bA9 hx;rw[bA8 Aa];have h1:=aW6 x (rt a (m+1)) m;have h2:=aMw (a:=a) hn;have h3:x*m+a / x^m=(x*m*x^m+a) / x^m:=by
  rw[aZf (x*m),Nat.mul_add_div hX]
 rw[h3,bA8 hX,aZf (rt a (m+1))];have h4:m*x^(m+1)=x*m*x^m:=by rw[bCk,<-aZ6,aZf m x]
 omega
theorem aJq{a n x:Nat}(hn:1<=n)(hx:0<x)(h:x<=aMx a n x)(hr:rt a n<=x):x=rt a n:=by
 refine aW5 hn ?_ hr;unfold aMx at h;obtain⟨m,rfl⟩:∃m,n=m+1:=⟨n-1,Aa⟩
 rw[Nat.add_sub_cancel] at h;have hX:0<x^m:=bA9 hx;rw[bA8 Aa,aZ7,bBk] at h;have h1:x<=a / x^m:=Aa;rw[bA8 hX] at h1;rw[bCk];exact h1
theorem aF3{a n:Nat}(hn:1<=n)(ha:a≠0):0<rt a n:=aUi hn (by rw[Nat.one_pow];omega)
theorem aMy{a n c k:Nat}(hn:1<=n)(ha:a<2^c)(hk:c<=n*k):rt a n<=2^k:=by
 rcases bAn (2^k) (rt a n) with h|h
 .exfalso
  have h1:(2^k)^n<=rt a n^n:=bBx (bBy h) n;rw[<-bBw,aZf] at h1;have h2:2^c<=2^(n*k):=aZ4 Ag hk;have:=aMw (a:=a) hn;omega
 .exact h
end Go.Dig
/- Own memory that is lent to a call; what a call has made and hands out; more rules. -/
namespace Go.Vc
open Go Go.Dig

theorem Fn.freeze{T:Tab}{f:FuncId}{args:List Value}{h:aA}{L:Own}{R R':Value->aA->Own->Prop}(hf:Vc.Fn T f args h L R)(hr:∀v h' L',h.le h'->R v h' L'->FzN (R' v) h' L'):Vc.Fn T f args h L R':=
 fun w s=>(hf w s).mono fun e w' he=>by
  cases e with
  | returned v=>
   obtain⟨h',L',i,r⟩:=he;obtain⟨h2,L2,p,i2⟩:=i.fz (hr _ _ _ i.hle r);exact⟨h2,L2,i2,p⟩
  | panicked c=>exact he
  | outgrown=>exact he
theorem CN.make{T:Tab}{f:FuncId}{args:List Value}{h:aA}{L:Own}{k:Value->aA->Own->Prop}{R:Value->aA->Own->Prop}(ok:T.fn f=true)(hf:Vc.Fn T f args h [] R)(hk:∀v h' La,h.le h'->R v h' La->k v h' (La++L)):CN T f args h L k:=
 .of ok (.done ⟨[],L,_,by simp,hf,fun v h' La hl r=>⟨La++L,.refl _,hk v h' La hl r⟩⟩)
theorem Fn.lend{T:Tab}{f:FuncId}{args:List Value}{h:aA}{b:Nat}{o:Obj}{R:Value->Prop}(hf:h.le (h.put b o)->Fn0 T f args (h.put b o) fun v _=>R v):Vc.Fn T f args h [(b,o)] fun v _ L'=>L'=[(b,o)]/\R v:=by
 intro w s;have hb:=s.sep _ (aZg.2 rfl);have hown:=s.own _ (aZg.2 rfl);have s':Sat (h.put b o) [] w:=by
  refine⟨fun x o' hx=>?_,fun x hx=>(by cases hx),fun x hx=>(by cases hx),Ar⟩
  unfold aA.put at hx
  split at hx
  .rename_i e;subst e;cases hx;exact hown
  .exact s.imm _ _ hx
 have hle:h.le (h.put b o):=fun x o' hx=>by
  unfold aA.put
  split
  .rename_i e;subst e;simp only at hb;rw[hb] at hx;cases hx
  .exact hx
 refine ((hf hle).out w s').mono fun e w' he=>?_
 cases e with
 | returned v=>
  obtain⟨h',L',i,rfl,r⟩:=he;have hbo:h' b=some o:=i.hle _ _ AB;refine⟨fun x=>if x=b then none else h' x,[(b,o)],⟨⟨fun x o' hx=>?_,fun x hx=>?_,fun x hx=>?_,Ar⟩,i.os,i.tape,i.output,i.size,fun x hl hn=>i.fr x hl Ar,fun x o' hx=>?_,fun x o' hx hl hn=>?_,fun x hx hl=>?_,fun hs=>hs,fun hs x o' hx ho=>?_⟩,rfl,r⟩
  .split at hx
   .cases hx
   .exact i.imm _ _ hx
  .obtain rfl:=aZg.1 hx;exact i.imm _ _ hbo
  .obtain rfl:=aZg.1 hx;simp
  .have hne:x≠b:=fun e=>by subst e;simp only at hb;rw[hb] at hx;cases hx
   simp only[if_neg hne];exact i.hle _ _ (by simp[aA.put,hne,hx])
  .split at hx
   .cases hx
   .rename_i hne;have:=i.hnew _ _ hx hl Ar
    simpa[aA.put,hne] using this
  .obtain rfl:=aZg.1 hx;simp
  .by_cases hxb:x=b
   .subst hxb;rw[i.imm _ _ hbo] at ho;cases ho;exact hs _ (aZg.2 rfl)
   .refine i.frz (fun y hy=>by cases hy) x o' (.inl ?_) ho
    rcases hx with hx|hx
    .exact hx
    .simp at hx;exact absurd hx hxb
 | panicked c=>exact he
 | outgrown=>exact he
theorem CN.lend{T:Tab}{f:FuncId}{args:List Value}{h:aA}{L:Own}{k:Value->aA->Own->Prop}{b:Nat}{o:Obj}{R:Value->Prop}(n:Nat)(hn:L[n]?=some (b,o))(ok:T.fn f=true)(hf:h.le (h.put b o)->Fn0 T f args (h.put b o) fun v _=>R v)
  (hk:∀v h',h.le h'->R v->k v h' L):CN T f args h L k:=by
 refine CN.own n hn ok (Fn.lend hf) fun v h' La hl ⟨e,r⟩=>⟨o,e,?_⟩
 obtain⟨hlt,hget⟩:=aY5.1 hn;rw[<-hget,bBz];exact hk v h' hl r
theorem aE.behind{e:TypeId}{size:Nat}{v:Value}{n:Nat}{xs:List Value}{La:Own}(g:aE e size v n xs La)(L:Own):aE e size v n xs (La++L):=
 ⟨g.1,match g.2 with
   | .inl x=>.inl x
   | .inr ⟨i,b,cap,zs,h1,h2,h3,h4⟩=>.inr ⟨i,b,cap,zs,h1,by
     obtain⟨hlt,hget⟩:=aY5.1 h2;rw[aZe hlt];exact h2,h3,h4⟩⟩
theorem aE.zero{e:TypeId}{kd:IntKind}{b q c:Nat}{L:Own}(i:Nat)(h:L[i]?=some (b,.cells (List.replicate c (Value.int kd 0)).toArray e (0,0)))(hq:q<=c):aE e 1 (.slice (some ⟨b,0,Option.none⟩) q c) q ((List.replicate q 0).map (vu kd)) L:=
 ⟨by simp,.inr ⟨i,b,c,List.replicate (c-q) (Value.int kd 0),rfl,by
   rw[h,List.map_replicate];show some (b,Obj.cells (List.replicate c (Value.int kd 0)).toArray e (0,0))=some (b,Obj.cells (List.replicate q (Value.int kd 0)++List.replicate (c-q) (Value.int kd 0)).toArray e (0,0));rw[List.replicate_append_replicate,show q+(c-q)=c by omega],hq,by simp;omega⟩⟩
theorem jM.drop{kd:IntKind}{h:aA}{s:Sl}{l:List Nat}{i e:Int}{k:Option Addr->Nat->Nat->Prop}(w:Ws kd h s l)(q:Nat)(hi:i=q)(he:e=s.l)(hq:q<l.length)(hk:∀s':Sl,Ws kd h s' (l.drop q)->k s'.a s'.l s'.c):jM s.a i e s.c 1 k:=by
 have hl:=w.len;have hc:=w.cap;obtain⟨b,off,c,T,fz,h1,h2,h3⟩:=w.mem (by rintro rfl;simp at hq);refine⟨q,s.l,some ⟨b,off+q,none⟩,s.l-q,s.c-q,hi,he,Aa,hc,by rw[if_neg Aa,h1];simp[aZ],rfl,rfl,?_⟩
 refine hk ⟨some ⟨b,off+q,none⟩,s.l-q,s.c-q⟩ ⟨by simp;omega,by simp;omega,fun _=>⟨b,off+q,c,T,fz,rfl,h2,fun j hj=>?_⟩⟩
 simp at hj;rw[bA6,h3 (q+j) Aa];simp[aY3,bBt]
theorem WN.u32v{n:Int}{k:Int->Prop}(x:Nat)(h:n%4294967296=x)(hk:k x):WN .u32 n k:=WN.u32m (by rw[h];exact hk)
theorem WN.u64w{n:Int}{k:Int->Prop}(x:Nat)(h:n%18446744073709551616=x)(hk:k x):WN .u64 n k:=WN.u64m (by rw[h];exact hk)
theorem jW.u32p{x r:Nat}{a b:Int}{k:Int->Prop}(ha:a=(x:Nat))(hb:b=(r:Nat))(hx:x<65536)(hr:r<=15)(hk:∀p:Nat,Hq (p=x*2^r)->p<2147483648->k p):jW .u32 a b k:=by
 subst ha hb;have h1:2^r<=2^15:=aZ4 Aa hr;have h2:x*2^r<=65535*32768:=bA1 Aa h1;refine jW.mk' r (by show r<=32;omega) ?_;have e:((x:Int)*2^r)=((x*2^r:Nat):Int):=by push_cast;rfl
 rw[e,kY rfl (by show _<2^32;omega)];exact hk _ ⟨rfl⟩ Aa
theorem jX.mask16{x:Int}{k:Int->Prop}(h1:-9223372036854775808<=x)(h2:x<=9223372036854775807)(hk:∀y:Nat,(y:Int)=x%65536->k y):jX .and .i64 x 65535 k:=by
 refine⟨?_⟩;have e:((Vc.bits .and .i64 x 65535:Nat):Int)=x%65536:=by
  show (((BitVec.ofInt 64 x &&& BitVec.ofInt 64 65535).toNat:Nat):Int)=x%65536
  have e2:(BitVec.ofInt 64 65535).toNat=2^16-1:=Ag;rw[BitVec.toNat_and,e2,Nat.and_two_pow_sub_one_eq_mod,BitVec.toNat_ofInt];omega
 have hlt:x%65536<65536:=Int.emod_lt_of_pos _ Ag;have hge:0<=x%65536:=Int.emod_nonneg _ Ag;rw[iT _ (by simp[IntKind.min,IntKind.signed,IntKind.bits]<;>omega) (by simp[IntKind.max,IntKind.signed,IntKind.bits]<;>omega)];exact hk _ e
theorem cG.i16{kd:IntKind}{x:Int}{k:Int->Prop}(hb:16<=kd.bits)(hk:∀y:Int,y=x / 65536->k y):cG kd x 16 k:=by
 refine⟨Ag,?_⟩;have e:min (16:Int).toNat kd.bits=16:=bAz hb;rw[e];exact hk _ (Int.fdiv_eq_ediv_of_nonneg _ Ag)
end Go.Vc
/- Appending to a new empty slice: what comes out is let go at once. -/
namespace Go.Vc
open Go Go.Dig

theorem App.weaken{T:Tab}{e:TypeId}{size bytes:Nat}{s x:Value}{h:aA}{L:Own}{k k1:Value->aA->Own->Prop}(a:App T e size bytes s x h L k1)(hk:∀v h' L',k1 v h' L'->FzN (k v) h' L'):App T e size bytes s x h L k:=
 ⟨fun ok o ρ K Q w0 h0 L0 w ty c h1 h2 h3 h4 h5 h6 h7 inv hout hK=>a.ex ok o ρ K Q w0 h0 L0 w ty c h1 h2 h3 h4 h5 h6 h7 inv hout fun v h' L' w' i r=>by
   obtain⟨h2,L2,p,i2⟩:=i.fz (hk v h' L' r);exact hK v h2 L2 w' i2 p⟩

theorem App.fresh0{T:Tab}{e:TypeId}{bytes:Nat}{h:aA}{L:Own}{k:Value->aA->Own->Prop}{z:Value}{bs:Nat}
  (hi:T.inf e=some ([z],bytes)) (hL:L[0]?=some (bs,.cells #[] e (0,0)))
  (ad:Addr) (m c:Nat) (news:List Value) (hl:news.length=m) (hm0:0<m) (hnews:∀j,j<news.length->Has h L (ad.add j) (news.getD j undef))
  (hm:m<=70368744177664) (hby:m*bytes<=140737488355328)
  (hk:∀b cap zs,m<=cap->k (.slice (some ⟨b,0,none⟩) m cap) h ((b,.cells (news++zs).toArray e (0,0))::L)):
  App T e 1 bytes (.slice (some ⟨bs,0,none⟩) 0 0) (.slice (some ad) m c) h L k:=by
 refine⟨fun ok o ρ K Q w0 h0 L0 w ty cc hop hty hca hargs ht hsz2 hd inv hout hK=>?_⟩
 obtain⟨d,hd1,hd2⟩:=hd;obtain⟨i,zv,h1,h2,h3,h4,h5⟩:=ok.inf _ _ _ hi;have hsi:i.size=1:=by rw[h4];rfl
 have cell:∀(w:World),(∀a v,Has h L a v->w.cell? a=some v)->∀j u,news[j]?=some u->w.cell? (ad.add j)=some u:=fun w hc j u hu=>by
  obtain⟨hj,hju⟩:=aY5.1 hu;have:=hc _ _ (hnews j hj);rw[this];simp[aY3,hu]
 have hc0:=cell w fun a v hh=>inv.toSat.cell hh
 have hexec:∀r,(Builtin.append_ #[cc.argTypes.getD 0 0,cc.argTypes.getD 0 0] o.type #[.slice (some ⟨bs,0,none⟩) 0 0,.slice (some ad) m c]).run T.prog w=r->(execOp ρ.eval o).run T.prog w=r.andThen fun v w=>.ok (.value v) w:=by
  intro r hr;have he:cc.argTypes=#[cc.argTypes.getD 0 0,cc.argTypes.getD 1 0]:=by
   apply Array.ext
   .simp[hsz2]
   .intro j hj1 hj2;rw[hsz2] at hj1
    match j,hj1 with
    | 0,_=>simp[Array.getD,hsz2]
    | 1,_=>simp[Array.getD,hsz2]
  rw[<-hr,<-fU ht hd1 hd2,<-he];simp only[execOp,hop,resolve,hca,invoke,builtin,bAc,bAh,bAb,hargs]
 refine .inl ?_;have hr:=run_append_grow (P:=T.prog) w _ o.type e i zv ht h1 h2 ⟨bs,0,none⟩ 0 0 [] Ar (fun j u hu=>by simp at hu) ad m c news (by rw[hl,hsi,bBk]) hc0 Aa Aa (growslice_fits Aa (by rw[h5];simpa using hby))
 have hge:=grownCap_ge w (0+m) 0 e;refine bA (hexec _ hr) (hK _ _ _ _ (inv.drew.alloc _ rfl) ?_);have:=hk w.heap.size (grownCap w (0+m) 0 e) (Builtin.zeroCells zv.cells (grownCap w (0+m) 0 e-(0+m))).toList Aa;have e0:([]:List Value)++news=news:=rfl;simp only[aZq] at this ⊢;have e1:(#[]++news.toArray++Builtin.zeroCells zv.cells (grownCap w m 0 e-m))=(news++(Builtin.zeroCells zv.cells (grownCap w m 0 e-m)).toList).toArray:=by simp
 first|exact this|(rw[e1];exact this)

theorem App.fresh{T:Tab}{e:TypeId}{bytes:Nat}{h:aA}{L:Own}{k:Value->aA->Own->Prop}{kd:IntKind}{z:Value}{t:Sl}{l:List Nat}{bs:Nat}(hi:T.inf e=some ([z],bytes))
  (w:Ws kd h t l) (hn:l.length<=35184372088832) (hby:bytes<=4)
  (hk:∀h' (s:Sl),h.le h'->Ws kd h' s l->k s.val h' L):App T e 1 bytes (.slice (some ⟨bs,0,none⟩) 0 0) t.val h ((bs,.cells [].toArray e (0,0))::L) k:=by
 have hln:=w.len;by_cases h0:l=[]
 .subst h0;obtain⟨a,ln,c⟩:=t;cases hln
  match a with
  | none=>
   exact App.weaken (App.nil hi (aE.new (z:=z) (kd:=.u32) (m:=0) 0 rfl) (k:=fun v h' L'=>v=.slice (some ⟨bs,0,none⟩) 0 0/\h'=h/\L'=(bs,.cells [].toArray e (0,0))::L) ⟨rfl,rfl,rfl⟩) fun v h' L' ⟨e1,e2,e3⟩=>by
    subst e1 e2 e3;exact FzN.drop 0 (.done (hk _ ⟨some ⟨bs,0,none⟩,0,0⟩ (aA.lr _) (Ws.nil rfl)))
  | some a=>
   have hx:App T e 1 bytes (.slice (some ⟨bs,0,none⟩) 0 0) (.slice (some a) 0 c) h ((bs,.cells [].toArray e (0,0))::L) fun v h' L'=>v=.slice (some ⟨bs,0,none⟩) 0 0/\h'=h/\L'=(bs,.cells [].toArray e (0,0))::L:=by
    refine⟨fun ok o ρ K Q w0 h0 L0 w ty cc hop hty hca hargs ht hsz2 hd inv hout hK=>?_⟩
    obtain⟨d,hd1,hd2⟩:=hd;obtain⟨i,zv,h1,h2,h3,h4,h5⟩:=ok.inf _ _ _ hi;have hexec:∀r,(Builtin.append_ #[cc.argTypes.getD 0 0,cc.argTypes.getD 0 0] o.type #[.slice (some ⟨bs,0,none⟩) 0 0,.slice (some a) 0 c]).run T.prog w=r->(execOp ρ.eval o).run T.prog w=r.andThen fun v w=>.ok (.value v) w:=by
     intro r hr;have he:cc.argTypes=#[cc.argTypes.getD 0 0,cc.argTypes.getD 1 0]:=by
      apply Array.ext
      .simp[hsz2]
      .intro j hj1 hj2;rw[hsz2] at hj1
       match j,hj1 with
       | 0,_=>simp[Array.getD,hsz2]
       | 1,_=>simp[Array.getD,hsz2]
     rw[<-hr,<-fU ht hd1 hd2,<-he];simp only[execOp,hop,resolve,hca,invoke,builtin,bAc,bAh,bAb,hargs]
    refine .inl (bA (hexec (.ok (.slice (some ⟨bs,0,none⟩) 0 0) w) ?_) (hK _ _ _ _ inv ⟨rfl,rfl,rfl⟩))
    generalize cc.argTypes.getD 0 0=t at ht ⊢
    simp[Builtin.append_,run_underlying ht,sizeOf,typeInfo,h1,Builtin.lenOf,Builtin.firstCells,loadCells,loadCellsFrom,storeCells]
   exact App.weaken hx fun v h' L' ⟨e1,e2,e3⟩=>by
    subst e1 e2 e3;exact FzN.drop 0 (.done (hk _ ⟨some ⟨bs,0,none⟩,0,0⟩ (aA.lr _) (Ws.nil rfl)))
 .obtain⟨b',off,c',T',fz,h1,h2,h3⟩:=w.mem h0;obtain⟨a,ln,c⟩:=t;cases h1;have hpos:0<l.length:=List.length_pos_iff.2 h0;have hln':ln=l.length:=hln;subst hln';refine App.weaken (App.fresh0 hi rfl ⟨b',off,none⟩ l.length c (l.map (vu kd)) Ar hpos (fun j hj=>?_) Aa (aZr (bA1 hn hby) Ag)
    (k:=fun v h' L'=>∃b cap zs,l.length<=cap/\v=.slice (some ⟨b,0,none⟩) l.length cap/\h'=h/\L'=(b,.cells (l.map (vu kd)++zs).toArray e (0,0))::(bs,.cells [].toArray e (0,0))::L) (fun b cap zs hc=>⟨b,cap,zs,hc,rfl,rfl,rfl⟩)) fun v h' L' ⟨b,cap,zs,hc,e1,e2,e3⟩=>?_
  .simp at hj;rw[aZ];refine Has.imm h2 ?_;rw[h3 j hj];simp[hj,vu,aY3]
  .subst e1 e2 e3;exact FzN.keep 0 rfl fun hle=>FzN.drop 0 (.done (hk _ ⟨some ⟨b,0,none⟩,l.length,cap⟩ hle (Ws.grown rfl hc)))
end Go.Vc
/- How pairs of words read as rational numbers; more rules. -/
namespace Go.Vc
open Go Go.Dig

structure bV (h:aA) (a b:Sl) (q:Rat):Prop where
 num:aJ h a (nu q)
 den:aJ h b q.den
theorem bV.mono{h h':aA}{a b:Sl}{q:Rat}(w:bV h a b q)(hl:h.le h'):bV h' a b q:=⟨w.num.mono hl,w.den.mono hl⟩
theorem Aw{p:Prop}(h:p:=by (iterate 30 try first|assumption|refine bV.mono ?_ (by assumption));first|done|assumption):p:=h
structure Sz (k:Nat) (q:Rat):Prop where
 num:ln 4294967296 (nu q)<=k
 den:ln 4294967296 q.den<=k
theorem Sz.mono{k l:Nat}{q:Rat}(s:Sz k q)(h:k<=l):Sz l q:=⟨aZr s.num h,aZr s.den h⟩
theorem aJ.nil{h:aA}{s:Sl}(h0:s.l=0):aJ h s 0:=by unfold aJ;rw[cH];exact Ws.nil h0
theorem aF4(a b:Nat):mm false (a:Int) (b:Int)=((min a b:Nat):Int):=by unfold mm;simp;split<;>omega
theorem jX.low1{x:Int}{k:Int->Prop}(n:Nat)(hx:x=n)(hn:n<9223372036854775808)(hk:k ((n%2:Nat):Int)):jX .and .i64 x 1 k:=by
 subst hx;refine⟨?_⟩;have e:Vc.bits .and .i64 (n:Int) 1=n%2:=by
  have e1:(BitVec.ofInt 64 (n:Int)).toNat=n:=mV rfl Aa;have e2:(BitVec.ofInt 64 1).toNat=1:=Ag;show (BitVec.ofInt 64 (n:Int) &&& BitVec.ofInt 64 1).toNat=n%2;rw[BitVec.toNat_and,e1,e2,Nat.and_one_is_mod]
 rw[e];have:IntKind.i64.wrap ((n%2:Nat):Int)=((n%2:Nat):Int):=iT _ (by simp[IntKind.min,IntKind.signed,IntKind.bits];omega) (by simp[IntKind.max,IntKind.signed,IntKind.bits];omega);rw[this];exact hk
end Go.Vc